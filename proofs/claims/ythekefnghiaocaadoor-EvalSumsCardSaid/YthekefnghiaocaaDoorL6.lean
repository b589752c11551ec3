import Derived.Test.YthekefnghiaocaaDoorL5
set_option linter.unusedVariables false
set_option linter.unusedSimpArgs false
set_option linter.unusedSectionVars false
set_option linter.unusedVariables false
set_option linter.unusedSimpArgs false
set_option maxRecDepth 100000
namespace Go.VS
open Go
def mostN (n:tNode.T) (dims:Nat):Int:=bif decide ((asks n).2.1 < 0) then (dims:Int) - 1 else (asks n).2.1
def opB (n:tNode.T):Bool:=bif (asks n).2.2.2 then decide (nO n ≥ 1) && decide (nO n ≤ 6) else nO n == 0
def tierB (n:tNode.T):Bool:=(asks n).2.2.1
def nodeE (dims:Nat) (n:tNode.T) (pile:Nat):Int :=
 bif !goodK n then 50 else bif decide (nN n < 0) then 50 else bif decide (nN n > mostN n dims) then 50 else bif !kidsK n then 50 else bif !opB n then 50
 else bif !tierB n && decide (((nT n).length:Int) > 0) then 50 else bif decide ((pile:Int) < (ar n:Int)) then 50 else bif tierB n && !risB (nT n) then 51 else 0
theorem node_j13 (F:Nat) (hF:64 < F) {R:Type} (k:Int→Option R) {n:tNode.T} (hg:goodK n = true) (pile:Nat) (most:Int) (kids op:Bool) (hk:kids = true→kidsK n = true) (a:tTree_asks.T) :
  tree_node.j13 F k k k (pile:Int) most kids op n a = k (bif decide (nN n < 0) then 50 else bif decide (nN n > most) then 50 else bif !kids then 50 else bif !op then 50
 else bif !a.2.2.1 && decide (((nT n).length:Int) > 0) then 50 else bif decide ((pile:Int) < (ar n:Int)) then 50 else bif a.2.2.1 && !risB (nT n) then 51 else 0):=by
 unfold tree_node.j13
 cases h1:decide (nN n < 0) with
 | true=>rfl
 | false =>
  cases h2:decide (nN n > most) with
  | true=>rfl
  | false =>
   cases kids with
   | false=>rfl
   | true =>
    cases op with
    | false=>rfl
    | true =>
     simp only [Bool.not_true,cond_false]
     rw [takes_eq F hg (hk rfl)]
     simp only [oB_some]
     rw [rising_eq F hF]
     simp only [oB_some]
     cases h3:a.2.2.1 with
     | false =>
      simp only [Bool.not_false,cond_true,Bool.true_and,cond_false,Bool.false_and]
      cases decide (((nT n).length:Int) > 0) with
      | true=>rfl
      | false=>cases decide ((pile:Int) < (ar n:Int)) <;> rfl
     | true =>
      simp only [Bool.not_true,cond_true,Bool.true_and,cond_false,Bool.false_and]
      cases decide ((pile:Int) < (ar n:Int)) with
      | true=>rfl
      | false=>cases risB (nT n) <;> rfl
theorem node_eq (F:Nat) (hF:64 < F) (n:tNode.T) {dims:Nat} (hd:dims < 4611686018427387904) (pile:Nat):tree_node.sh F n (dims:Int) (pile:Int) = some ((nodeE dims n pile,()),()):=by
 unfold tree_node.sh nodeE
 cases hg:goodK n with
 | false =>
  have:decide ((n.1:Int) < 1) = true ∨ decide ((n.1:Int) > 16) = true:=by
   rcases Int.lt_or_le (nK n) 1 with h | h
   ·exact .inl (decide_eq_true h)
   ·rcases Int.lt_or_le 16 (nK n) with h' | h'
    ·exact .inr (decide_eq_true h')
    ·rw [goodK_iff.2 ⟨h,h'⟩] at hg; cases hg
  rcases this with h | h
  ·rw [h]; rfl
  ·rw [h]; cases decide ((n.1:Int) < 1) <;> rfl
 | true =>
  have hg':=goodK_iff.1 hg
  have e1:decide ((nK n:Int) < 1) = false:=decide_eq_false (by omega)
  have e2:decide ((nK n:Int) > 16) = false:=decide_eq_false (by omega)
  have e3:idx (nK n) 17 = true:=idx_of (by omega) (by omega)
  rw [show decide (n.1 < 1) = false from e1,show decide (n.1 > 16) = false from e2,show idx n.1 17 = true from e3]
  simp only [cond_false,cond_true,Bool.not_true]
  have hw:IntKind.i64.wrap ((dims:Int) - 1) = (dims:Int) - 1:=wrap_i64 (by omega) (by omega)
  rw [hw]
  have key:∀ most:Int,tree_node.j7 F (fun r=>(some ((r,()),()):Option tree_node.sg.R)) (fun r=>some ((r,()),())) (fun r=>some ((r,()),())) (pile:Int) most n (asks n) =
   some ((bif decide (nN n < 0) then 50 else bif decide (nN n > most) then 50 else bif !kidsK n then 50 else bif !opB n then 50
    else bif !tierB n && decide (((nT n).length:Int) > 0) then 50 else bif decide ((pile:Int) < (ar n:Int)) then 50 else bif tierB n && !risB (nT n) then 51 else 0,()),()):=by
   intro most
   have k10:∀ kids:Bool,kids = kidsK n→tree_node.j10 F (fun r=>(some ((r,()),()):Option tree_node.sg.R)) (fun r=>some ((r,()),())) (fun r=>some ((r,()),())) (pile:Int) most kids n (asks n) =
    some ((bif decide (nN n < 0) then 50 else bif decide (nN n > most) then 50 else bif !kidsK n then 50 else bif !opB n then 50
     else bif !tierB n && decide (((nT n).length:Int) > 0) then 50 else bif decide ((pile:Int) < (ar n:Int)) then 50 else bif tierB n && !risB (nT n) then 51 else 0,()),()):=by
    intro kids hkk
    have k13:=fun op:Bool=>node_j13 F hF (fun r=>(some ((r,()),()):Option tree_node.sg.R)) hg pile most kids op (fun h=>by rw [← hkk,h]) (asks n)
    unfold tree_node.j10
    rw [show (fun r=>(some ((r,()),()):Option tree_node.sg.R)) = (fun r=>some ((r,()),())) from rfl] at k13
    rw [k13,k13,k13,hkk]
    unfold opB tierB
    cases (asks n).2.2.2 with
    | false=>rfl
    | true=>cases decide (nO n ≥ 1) <;> rfl
   unfold tree_node.j7
   cases ha:decide (aK n < 0) with
   | true =>
    cases hc:decide (nC n ≥ 2) with
    | true=>exact k10 _ (by unfold kidsK; rw [ha,hc]; rfl)
    | false=>exact k10 _ (by unfold kidsK; rw [ha,hc]; rfl)
   | false=>exact k10 _ (by unfold kidsK; rw [ha]; rfl)
  unfold mostN
  cases hm:decide ((asks n).2.1 < 0) with
  | true=>exact key _
  | false=>exact key _
def chkE (dims:Nat):List tNode.T→Nat→Nat→Option (Nat×Int)
 | [],_,_=>none
 | n :: r,pile,i=>bif nodeE dims n pile != 0 then some (i,nodeE dims n pile) else chkE dims r (pile - ar n + 1) (i + 1)
def chkP:List tNode.T→Nat→Nat
 | [],pile=>pile
 | n :: r,pile=>chkP r (pile - ar n + 1)
theorem nodeE_ok {dims:Nat} {n:tNode.T} {pile:Nat} (h:nodeE dims n pile = 0) :
  goodK n = true∧0 ≤ nN n∧nN n ≤ mostN n dims∧kidsK n = true∧opB n = true∧(tierB n = false→nT n = [])∧ar n ≤ pile∧(tierB n = true→risB (nT n) = true):=by
 unfold nodeE at h
 cases h1:goodK n with
 | false=>rw [h1] at h; exact absurd (show (50:Int) = 0 from h) (by decide)
 | true =>
 rw [h1] at h
 cases h2:decide (nN n < 0) with
 | true=>rw [h2] at h; exact absurd (show (50:Int) = 0 from h) (by decide)
 | false =>
 rw [h2] at h
 cases h3:decide (nN n > mostN n dims) with
 | true=>rw [h3] at h; exact absurd (show (50:Int) = 0 from h) (by decide)
 | false =>
 rw [h3] at h
 cases h4:kidsK n with
 | false=>rw [h4] at h; exact absurd (show (50:Int) = 0 from h) (by decide)
 | true =>
 rw [h4] at h
 cases h5:opB n with
 | false=>rw [h5] at h; exact absurd (show (50:Int) = 0 from h) (by decide)
 | true =>
 rw [h5] at h
 cases h6:(!tierB n && decide (((nT n).length:Int) > 0)) with
 | true=>rw [h6] at h; exact absurd (show (50:Int) = 0 from h) (by decide)
 | false =>
 rw [h6] at h
 cases h7:decide ((pile:Int) < (ar n:Int)) with
 | true=>rw [h7] at h; exact absurd (show (50:Int) = 0 from h) (by decide)
 | false =>
 rw [h7] at h
 cases h8:(tierB n && !risB (nT n)) with
 | true=>rw [h8] at h; exact absurd (show (51:Int) = 0 from h) (by decide)
 | false =>
 have h2:=of_decide_eq_false h2
 have h3:=of_decide_eq_false h3
 have h7:=of_decide_eq_false h7
 refine ⟨rfl,by omega,by omega,rfl,rfl,fun ht=>?_,by omega,fun ht=>?_⟩
 ·rw [ht] at h6
  simp only [Bool.not_false,Bool.true_and] at h6
  have h6:=of_decide_eq_false h6
  exact List.eq_nil_of_length_eq_zero (by omega)
 ·rw [ht] at h8
  simp only [Bool.true_and] at h8
  cases hr:risB (nT n) with
  | true=>rfl
  | false=>rw [hr] at h8; cases h8
theorem ar_le {n:tNode.T} (hg:goodK n = true) (hk:kidsK n = true):ar n ≤ 16:=by
 unfold ar
 unfold kidsK at hk
 cases h:decide (aK n < 0) with
 | true =>
  have h':=of_decide_eq_true h
  rw [h] at hk
  simp at hk
  rw [decide_eq_false (show ¬ aK n ≥ 0 by omega)]
  simp only [cond_false]
  omega
 | false =>
  have h':=of_decide_eq_false h
  rw [decide_eq_true (show aK n ≥ 0 by omega)]
  simp only [cond_true]
  have hg:=goodK_iff.1 hg
  have:∀ i:Nat,(get tTree_asks kindsL i).1 ≤ (16:Int):=by
   intro i
   rcases Nat.lt_or_ge i 17 with hi | hi
   ·have:∀ j:Fin 17,(get tTree_asks kindsL j.1).1 ≤ (16:Int):=by decide
    exact this ⟨i,hi⟩
   ·have:get tTree_asks kindsL i = Ty.dflt tTree_asks:=by
     unfold get
     rw [List.getD_eq_getElem?_getD,List.getElem?_eq_none (by exact hi)]
     rfl
    rw [this]; decide
  have:aK n ≤ (16:Int):=this _
  omega
theorem check_rg (F:Nat) (hF:64 < F) {R:Type} (k0:Int→Int→Option R) (k1:Int→tPlan.T→Option R) (L:List tNode.T) (N:Int) (p:tPlan.T) (hp:p.2.1.length ≤ 32):∀ (xs:List tNode.T) (i pile:Nat),pile + xs.length < 4611686018427387904 →
  tree_Check.l8.rg F k0 (fun pile _ _ _ _ p=>k1 pile p) L N xs (i:Int) (pile:Int) p = match chkE p.2.1.length xs pile i with | some (j,e)=>k0 (j:Int) e | none=>k1 (chkP xs pile:Int) p:=by
 intro xs
 induction xs with
 | nil=>intro i pile h; rfl
 | cons n xs ih =>
  intro i pile h
  simp only [List.length_cons] at h
  simp only [tree_Check.l8.rg]
  rw [node_eq F hF n (by omega)]
  simp only [oB_some,chkE,chkP]
  cases he:(nodeE p.2.1.length n pile != 0) with
  | true=>rfl
  | false =>
   simp only [cond_false]
   have he:nodeE p.2.1.length n pile = 0:=by simpa using he
   obtain ⟨h1,h2,h3,h4,h5,h6,h7,h8⟩:=nodeE_ok he
   have ha:=ar_le h1 h4
   rw [takes_eq F h1 h4]
   simp only [oB_some]
   rw [wrap_i64 (n:=1 - (ar n:Int)) (by omega) (by omega),wrap_i64 (by omega) (by omega)]
   rw [show (pile:Int) + (1 - (ar n:Int)) = ((pile - ar n + 1:Nat):Int) by omega]
   have:=ih (i + 1) (pile - ar n + 1) (by omega)
   rw [rg_cast] at this
   exact this
def checkS (p:tPlan.T):Int×Int :=
 bif headE p.1 p.2.1 p.2.2.1 != 0 then (-1,headE p.1 p.2.1 p.2.2.1) else bif decide ((p.2.2.2.length:Int) > 1024) then (1024,2) else
 match chkE p.2.1.length p.2.2.2 0 0 with
 | some (j,e)=>((j:Int),e)
 | none=>bif ((chkP p.2.2.2 0:Int) != 1) then ((p.2.2.2.length:Int),50) else (0,0)
theorem headE_dims {name:ByteArray} {dims:List tDim.T} {mode:Int} (h:headE name dims mode = 0):1 ≤ dims.length∧dims.length ≤ 4∧dE [] dims = 0∧nameB name.data.toList = true∧0 ≤ mode∧mode ≤ 4:=by
 unfold headE at h
 cases h0:nameB name.data.toList with
 | false=>rw [h0] at h; exact absurd (show (61:Int) = 0 from h) (by decide)
 | true =>
 rw [h0] at h
 cases h1:decide ((dims.length:Int) < 1) with
 | true=>rw [h1] at h; exact absurd (show (100:Int) = 0 from h) (by decide)
 | false =>
 rw [h1] at h
 cases h2:decide ((dims.length:Int) > 4) with
 | true=>rw [h2] at h; exact absurd (show (100:Int) = 0 from h) (by decide)
 | false =>
 rw [h2] at h
 cases h3:(dE [] dims != 0) with
 | true=>rw [h3] at h; simp only [Bool.not_true,cond_false,cond_true] at h; rw [h] at h3; exact absurd h3 (by decide)
 | false =>
 rw [h3] at h
 cases h4:decide (mode < 0) with
 | true=>rw [h4] at h; exact absurd (show (50:Int) = 0 from h) (by decide)
 | false =>
 rw [h4] at h
 cases h5:decide (mode > 4) with
 | true=>rw [h5] at h; exact absurd (show (50:Int) = 0 from h) (by decide)
 | false =>
 have h1:=of_decide_eq_false h1
 have h2:=of_decide_eq_false h2
 have h4:=of_decide_eq_false h4
 have h5:=of_decide_eq_false h5
 refine ⟨by omega,by omega,by simpa using h3,rfl,by omega,by omega⟩
theorem check_eq (F:Nat) (hF:2048 < F) (p:tPlan.T):tree_Check.sh F p = some (((checkS p).1,(checkS p).2,()),()):=by
 unfold tree_Check.sh checkS
 rw [head_eq F (by omega)]
 simp only [oB_some]
 cases h:(headE p.1 p.2.1 p.2.2.1 != 0) with
 | true=>rfl
 | false =>
  have hh:=headE_dims (show headE p.1 p.2.1 p.2.2.1 = 0 by simpa using h)
  cases h1:decide ((p.2.2.2.length:Int) > 1024) with
  | true=>rfl
  | false =>
   have h1:=of_decide_eq_false h1
   simp only [cond_false]
   refine Eq.trans (tree_Check.l8.rg_eq F _ _ p.2.2.2 _ rfl (by omega) p.2.2.2 0 F _ _ (by simp) (by omega)) ?_
   refine (check_rg F (by omega) (fun r24 r34=>(some ((r24,r34,()),()):Option tree_Check.sg.R)) (fun pile5 p5=>bif (pile5 != 1) then some (((p5.2.2.2.length:Int),50,()),()) else some ((0,0,()),())) p.2.2.2 (p.2.2.2.length:Int) p (by omega) p.2.2.2 0 0 (by omega)).trans ?_
   cases chkE p.2.1.length p.2.2.2 0 0 with
   | some x=>rfl
   | none=>cases hc:((chkP p.2.2.2 0:Int) != 1) <;> simp only [cond_true,cond_false,hc]
inductive Tree:Type
 | nd:tNode.T→List Tree→Tree
mutual
def Tree.fold {α:Type} (f:tNode.T→List α→α):Tree→α
 | .nd n ks=>f n (Tree.foldL f ks)
def Tree.foldL {α:Type} (f:tNode.T→List α→α):List Tree→List α
 | []=>[]
 | t :: r=>Tree.fold f t :: Tree.foldL f r
end
theorem Tree.foldL_map {α:Type} (f:tNode.T→List α→α):∀ l:List Tree,Tree.foldL f l = l.map (Tree.fold f)
 | []=>rfl
 | t :: r=>by rw [Tree.foldL,Tree.foldL_map f r]; rfl
theorem Tree.fold_nd {α:Type} (f:tNode.T→List α→α) (n:tNode.T) (ks:List Tree):Tree.fold f (.nd n ks) = f n (ks.map (Tree.fold f)):=by
 rw [Tree.fold,Tree.foldL_map]
theorem Tree.ind {P:Tree→Prop} (h:∀ n ks,(∀ k ∈ ks,P k)→P (.nd n ks)) (t:Tree):P t :=
 Tree.rec (motive_1:=P) (motive_2:=fun l=>∀ k ∈ l,P k) (fun n ks ih=>h n ks ih) (by simp) (fun t r h1 h2 k hk=>by
  rcases List.mem_cons.1 hk with rfl | hk
  ·exact h1
  ·exact h2 k hk) t
def Tree.root:Tree→tNode.T | .nd n _=>n
def Tree.kids:Tree→List Tree | .nd _ ks=>ks
def Tree.flat:Tree→List tNode.T:=Tree.fold (fun n ks=>ks.flatten ++ [n])
def flats (l:List Tree):List tNode.T:=(l.map Tree.flat).flatten
theorem flat_nd (n:tNode.T) (ks:List Tree):Tree.flat (.nd n ks) = flats ks ++ [n]:=Tree.fold_nd _ n ks
def Tree.size (t:Tree):Nat:=t.flat.length
def subsT:Tree→Tree×List Tree:=Tree.fold (fun n ks=>(.nd n (ks.map (·.1)),(ks.map (·.2)).flatten ++ [.nd n (ks.map (·.1))]))
theorem subsT_fst (t:Tree):(subsT t).1 = t:=by
 refine Tree.ind (P:=fun t=>(subsT t).1 = t) (fun n ks ih=>?_) t
 unfold subsT at *
 rw [Tree.fold_nd]
 simp only [List.map_map]
 congr 1
 exact (List.map_congr_left ih).trans (List.map_id' ks)
def Tree.subs (t:Tree):List Tree:=(subsT t).2
def subss (l:List Tree):List Tree:=(l.map Tree.subs).flatten
theorem subs_nd (n:tNode.T) (ks:List Tree):Tree.subs (.nd n ks) = subss ks ++ [.nd n ks]:=by
 have:(ks.map (fun k=>(subsT k).1)) = ks:=(List.map_congr_left (fun k _=>subsT_fst k)).trans (List.map_id' ks)
 unfold Tree.subs subss
 rw [subsT,Tree.fold_nd,← subsT]
 simp only [List.map_map]
 rw [show ((fun x:Tree×List Tree=>x.1) ∘ subsT) = (fun k=>(subsT k).1) from rfl,this]
 rfl
theorem subs_len (t:Tree):t.subs.length = t.flat.length:=by
 refine Tree.ind (P:=fun t=>t.subs.length = t.flat.length) (fun n ks ih=>?_) t
 rw [subs_nd,flat_nd]
 simp only [List.length_append,List.length_cons,List.length_nil,subss,flats,List.length_flatten,List.map_map]
 congr 2
 exact List.map_congr_left (fun k hk=>ih k hk)
def topT (st:List Tree) (n:tNode.T):Tree:=.nd n (st.drop (st.length - ar n))
def stepT (st:List Tree) (n:tNode.T):List Tree:=st.take (st.length - ar n) ++ [topT st n]
def news:List Tree→List tNode.T→List Tree
 | _,[]=>[]
 | st,n :: r=>topT st n :: news (stepT st n) r
def endT:List Tree→List tNode.T→List Tree
 | st,[]=>st
 | st,n :: r=>endT (stepT st n) r
def okS (dims:Nat):List Tree→List tNode.T→Prop
 | _,[]=>True
 | st,n :: r=>nodeE dims n st.length = 0∧okS dims (stepT st n) r
theorem stepT_len {st:List Tree} {n:tNode.T} (h:ar n ≤ st.length):(stepT st n).length = st.length - ar n + 1:=by
 simp [stepT]
theorem chk_ok (dims:Nat):∀ (xs:List tNode.T) (st:List Tree) (i:Nat),chkE dims xs st.length i = none→okS dims st xs∧(endT st xs).length = chkP xs st.length
 | [],st,i,h=>⟨trivial,rfl⟩
 | n :: r,st,i,h=>by
  simp only [chkE] at h
  cases he:(nodeE dims n st.length != 0) with
  | true=>rw [he] at h; cases h
  | false =>
   rw [he] at h
   have he:nodeE dims n st.length = 0:=by simpa using he
   have hl:=stepT_len (nodeE_ok he).2.2.2.2.2.2.1
   simp only [cond_false] at h
   rw [← hl] at h
   have:=chk_ok dims r (stepT st n) (i + 1) h
   refine ⟨⟨he,this.1⟩,?_⟩
   rw [endT,this.2,hl]
   rfl
theorem ok_chk (dims:Nat):∀ (xs:List tNode.T) (st:List Tree) (i:Nat),okS dims st xs→chkE dims xs st.length i = none∧chkP xs st.length = (endT st xs).length
 | [],st,i,h=>⟨rfl,rfl⟩
 | n :: r,st,i,h=>by
  have hl:=stepT_len (nodeE_ok h.1).2.2.2.2.2.2.1
  have:=ok_chk dims r (stepT st n) (i + 1) h.2
  rw [hl] at this
  simp only [chkE,h.1,chkP,endT]
  exact this
theorem flats_app (a b:List Tree):flats (a ++ b) = flats a ++ flats b:=by simp [flats]
theorem flats_one (t:Tree):flats [t] = t.flat:=by simp [flats]
theorem flats_step (st:List Tree) (n:tNode.T):flats (stepT st n) = flats st ++ [n]:=by
 unfold stepT topT
 rw [flats_app,flats_one,flat_nd,← List.append_assoc,← flats_app,List.take_append_drop]
theorem flats_end:∀ (xs:List tNode.T) (st:List Tree),flats (endT st xs) = flats st ++ xs
 | [],st=>by simp [endT]
 | n :: r,st=>by rw [endT,flats_end r,flats_step]; simp
theorem subss_app (a b:List Tree):subss (a ++ b) = subss a ++ subss b:=by simp [subss]
theorem subss_one (t:Tree):subss [t] = t.subs:=by simp [subss]
theorem subss_step (st:List Tree) (n:tNode.T):subss (stepT st n) = subss st ++ [topT st n]:=by
 unfold stepT
 rw [subss_app,subss_one,topT,subs_nd,← List.append_assoc,← subss_app,List.take_append_drop]
theorem subss_end:∀ (xs:List tNode.T) (st:List Tree),subss (endT st xs) = subss st ++ news st xs
 | [],st=>by simp [endT,news]
 | n :: r,st=>by rw [endT,subss_end r,subss_step,news]; simp
theorem endT_app:∀ (xs ys:List tNode.T) (st:List Tree),endT st (xs ++ ys) = endT (endT st xs) ys
 | [],ys,st=>rfl
 | n :: r,ys,st=>by simp only [List.cons_append,endT,endT_app r ys]
theorem okS_app (dims:Nat):∀ (xs ys:List tNode.T) (st:List Tree),okS dims st (xs ++ ys) ↔ okS dims st xs∧okS dims (endT st xs) ys
 | [],ys,st=>by simp [okS,endT]
 | n :: r,ys,st=>by simp only [List.cons_append,okS,endT,okS_app dims r ys]; exact and_assoc.symm
theorem step_frame {b st:List Tree} {n:tNode.T} (h:ar n ≤ st.length):topT (b ++ st) n = topT st n∧stepT (b ++ st) n = b ++ stepT st n:=by
 have e:(b ++ st).length - ar n = b.length + (st.length - ar n):=by simp; omega
 have e1:topT (b ++ st) n = topT st n:=by
  unfold topT
  rw [e,List.drop_append]
  simp
 refine ⟨e1,?_⟩
 unfold stepT
 rw [e1,e,List.take_append,List.take_of_length_le (by omega)]
 simp
theorem nodeE_more {dims:Nat} {n:tNode.T} {p q:Nat} (h:nodeE dims n p = 0) (hq:p ≤ q):nodeE dims n q = 0:=by
 have hh:=nodeE_ok h
 have h7:decide ((p:Int) < (ar n:Int)) = false:=decide_eq_false (by have:=hh.2.2.2.2.2.2.1; omega)
 have h7':decide ((q:Int) < (ar n:Int)) = false:=decide_eq_false (by have:=hh.2.2.2.2.2.2.1; omega)
 unfold nodeE at *
 rw [h7] at h
 rw [h7']
 exact h
theorem frame (dims:Nat) (b:List Tree):∀ (xs:List tNode.T) (st:List Tree),okS dims st xs→okS dims (b ++ st) xs∧news (b ++ st) xs = news st xs∧endT (b ++ st) xs = b ++ endT st xs
 | [],st,h=>⟨trivial,rfl,rfl⟩
 | n :: r,st,h=>by
  have hf:=step_frame (b:=b) (nodeE_ok h.1).2.2.2.2.2.2.1
  have:=frame dims b r (stepT st n) h.2
  simp only [okS,news,endT,hf.1,hf.2]
  refine ⟨⟨nodeE_more h.1 (by simp),this.1⟩,?_,this.2.2⟩
  rw [this.2.1]
end Go.VS
