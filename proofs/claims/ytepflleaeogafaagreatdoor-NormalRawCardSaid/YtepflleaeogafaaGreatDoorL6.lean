import Derived.Test.YtepflleaeogafaaGreatDoorL5
set_option linter.unusedVariables false
set_option linter.unusedSimpArgs false
set_option linter.unusedSectionVars false
set_option linter.unusedVariables false
set_option linter.unusedSimpArgs false
set_option maxRecDepth 100000
namespace Go.VS
open Go
def mostN (n:tNode.T) (dims:Nat):Int:=bif decide ((asks n).2.1 < 0) then (dims:Int) - 1 else (asks n).2.1
def opB (n:tNode.T):Bool:=bif (asks n).2.2.2 then decide (nO n ≥ 1) && decide (nO n ≤ 6) else nO n == 0
def tierB (n:tNode.T):Bool:=(asks n).2.2.1
def nodeE (dims:Nat) (n:tNode.T) (pile:Nat):Int :=
 bif !goodK n then 50 else bif decide (nN n < 0) then 50 else bif decide (nN n > mostN n dims) then 50 else bif !kidsK n then 50 else bif !opB n then 50
 else bif !tierB n && decide (((nT n).length:Int) > 0) then 50 else bif decide ((pile:Int) < (ar n:Int)) then 50 else bif tierB n && !risB (nT n) then 51 else 0
theorem nodeE_ok {dims:Nat} {n:tNode.T} {pile:Nat} (h:nodeE dims n pile = 0) :
  goodK n = true∧0 ≤ nN n∧nN n ≤ mostN n dims∧kidsK n = true∧opB n = true∧(tierB n = false→nT n = [])∧ar n ≤ pile∧(tierB n = true→risB (nT n) = true):=by
 unfold nodeE at h
 cases h1:goodK n with
 | false=>rw [h1] at h; exact absurd (show (50:Int) = 0 from h) (by decide)
 | true =>
 rw [h1] at h
 cases h2:decide (nN n < 0) with
 | true=>rw [h2] at h; exact absurd (show (50:Int) = 0 from h) (by decide)
 | false =>
 rw [h2] at h
 cases h3:decide (nN n > mostN n dims) with
 | true=>rw [h3] at h; exact absurd (show (50:Int) = 0 from h) (by decide)
 | false =>
 rw [h3] at h
 cases h4:kidsK n with
 | false=>rw [h4] at h; exact absurd (show (50:Int) = 0 from h) (by decide)
 | true =>
 rw [h4] at h
 cases h5:opB n with
 | false=>rw [h5] at h; exact absurd (show (50:Int) = 0 from h) (by decide)
 | true =>
 rw [h5] at h
 cases h6:(!tierB n && decide (((nT n).length:Int) > 0)) with
 | true=>rw [h6] at h; exact absurd (show (50:Int) = 0 from h) (by decide)
 | false =>
 rw [h6] at h
 cases h7:decide ((pile:Int) < (ar n:Int)) with
 | true=>rw [h7] at h; exact absurd (show (50:Int) = 0 from h) (by decide)
 | false =>
 rw [h7] at h
 cases h8:(tierB n && !risB (nT n)) with
 | true=>rw [h8] at h; exact absurd (show (51:Int) = 0 from h) (by decide)
 | false =>
 have h2:=of_decide_eq_false h2
 have h3:=of_decide_eq_false h3
 have h7:=of_decide_eq_false h7
 refine ⟨rfl,by omega,by omega,rfl,rfl,fun ht=>?_,by omega,fun ht=>?_⟩
 ·rw [ht] at h6
  simp only [Bool.not_false,Bool.true_and] at h6
  have h6:=of_decide_eq_false h6
  exact List.eq_nil_of_length_eq_zero (by omega)
 ·rw [ht] at h8
  simp only [Bool.true_and] at h8
  cases hr:risB (nT n) with
  | true=>rfl
  | false=>rw [hr] at h8; cases h8
inductive Tree:Type
 | nd:tNode.T→List Tree→Tree
mutual
def Tree.fold {α:Type} (f:tNode.T→List α→α):Tree→α
 | .nd n ks=>f n (Tree.foldL f ks)
def Tree.foldL {α:Type} (f:tNode.T→List α→α):List Tree→List α
 | []=>[]
 | t :: r=>Tree.fold f t :: Tree.foldL f r
end
theorem Tree.foldL_map {α:Type} (f:tNode.T→List α→α):∀ l:List Tree,Tree.foldL f l = l.map (Tree.fold f)
 | []=>rfl
 | t :: r=>by rw [Tree.foldL,Tree.foldL_map f r]; rfl
theorem Tree.fold_nd {α:Type} (f:tNode.T→List α→α) (n:tNode.T) (ks:List Tree):Tree.fold f (.nd n ks) = f n (ks.map (Tree.fold f)):=by
 rw [Tree.fold,Tree.foldL_map]
theorem Tree.ind {P:Tree→Prop} (h:∀ n ks,(∀ k ∈ ks,P k)→P (.nd n ks)) (t:Tree):P t :=
 Tree.rec (motive_1:=P) (motive_2:=fun l=>∀ k ∈ l,P k) (fun n ks ih=>h n ks ih) (by simp) (fun t r h1 h2 k hk=>by
  rcases List.mem_cons.1 hk with rfl | hk
  ·exact h1
  ·exact h2 k hk) t
def Tree.root:Tree→tNode.T | .nd n _=>n
def Tree.kids:Tree→List Tree | .nd _ ks=>ks
def Tree.flat:Tree→List tNode.T:=Tree.fold (fun n ks=>ks.flatten ++ [n])
def flats (l:List Tree):List tNode.T:=(l.map Tree.flat).flatten
theorem flat_nd (n:tNode.T) (ks:List Tree):Tree.flat (.nd n ks) = flats ks ++ [n]:=Tree.fold_nd _ n ks
def Tree.size (t:Tree):Nat:=t.flat.length
def subsT:Tree→Tree×List Tree:=Tree.fold (fun n ks=>(.nd n (ks.map (·.1)),(ks.map (·.2)).flatten ++ [.nd n (ks.map (·.1))]))
theorem subsT_fst (t:Tree):(subsT t).1 = t:=by
 refine Tree.ind (P:=fun t=>(subsT t).1 = t) (fun n ks ih=>?_) t
 unfold subsT at *
 rw [Tree.fold_nd]
 simp only [List.map_map]
 congr 1
 exact (List.map_congr_left ih).trans (List.map_id' ks)
def Tree.subs (t:Tree):List Tree:=(subsT t).2
def subss (l:List Tree):List Tree:=(l.map Tree.subs).flatten
theorem subs_nd (n:tNode.T) (ks:List Tree):Tree.subs (.nd n ks) = subss ks ++ [.nd n ks]:=by
 have:(ks.map (fun k=>(subsT k).1)) = ks:=(List.map_congr_left (fun k _=>subsT_fst k)).trans (List.map_id' ks)
 unfold Tree.subs subss
 rw [subsT,Tree.fold_nd,← subsT]
 simp only [List.map_map]
 rw [show ((fun x:Tree×List Tree=>x.1) ∘ subsT) = (fun k=>(subsT k).1) from rfl,this]
 rfl
def topT (st:List Tree) (n:tNode.T):Tree:=.nd n (st.drop (st.length - ar n))
def stepT (st:List Tree) (n:tNode.T):List Tree:=st.take (st.length - ar n) ++ [topT st n]
def news:List Tree→List tNode.T→List Tree
 | _,[]=>[]
 | st,n :: r=>topT st n :: news (stepT st n) r
def endT:List Tree→List tNode.T→List Tree
 | st,[]=>st
 | st,n :: r=>endT (stepT st n) r
def okS (dims:Nat):List Tree→List tNode.T→Prop
 | _,[]=>True
 | st,n :: r=>nodeE dims n st.length = 0∧okS dims (stepT st n) r
theorem flats_app (a b:List Tree):flats (a ++ b) = flats a ++ flats b:=by simp [flats]
theorem flats_one (t:Tree):flats [t] = t.flat:=by simp [flats]
theorem flats_step (st:List Tree) (n:tNode.T):flats (stepT st n) = flats st ++ [n]:=by
 unfold stepT topT
 rw [flats_app,flats_one,flat_nd,← List.append_assoc,← flats_app,List.take_append_drop]
theorem flats_end:∀ (xs:List tNode.T) (st:List Tree),flats (endT st xs) = flats st ++ xs
 | [],st=>by simp [endT]
 | n :: r,st=>by rw [endT,flats_end r,flats_step]; simp
theorem subss_app (a b:List Tree):subss (a ++ b) = subss a ++ subss b:=by simp [subss]
theorem subss_one (t:Tree):subss [t] = t.subs:=by simp [subss]
theorem subss_step (st:List Tree) (n:tNode.T):subss (stepT st n) = subss st ++ [topT st n]:=by
 unfold stepT
 rw [subss_app,subss_one,topT,subs_nd,← List.append_assoc,← subss_app,List.take_append_drop]
theorem subss_end:∀ (xs:List tNode.T) (st:List Tree),subss (endT st xs) = subss st ++ news st xs
 | [],st=>by simp [endT,news]
 | n :: r,st=>by rw [endT,subss_end r,subss_step,news]; simp
theorem step_frame {b st:List Tree} {n:tNode.T} (h:ar n ≤ st.length):topT (b ++ st) n = topT st n∧stepT (b ++ st) n = b ++ stepT st n:=by
 have e:(b ++ st).length - ar n = b.length + (st.length - ar n):=by simp; omega
 have e1:topT (b ++ st) n = topT st n:=by
  unfold topT
  rw [e,List.drop_append]
  simp
 refine ⟨e1,?_⟩
 unfold stepT
 rw [e1,e,List.take_append,List.take_of_length_le (by omega)]
 simp
theorem nodeE_more {dims:Nat} {n:tNode.T} {p q:Nat} (h:nodeE dims n p = 0) (hq:p ≤ q):nodeE dims n q = 0:=by
 have hh:=nodeE_ok h
 have h7:decide ((p:Int) < (ar n:Int)) = false:=decide_eq_false (by have:=hh.2.2.2.2.2.2.1; omega)
 have h7':decide ((q:Int) < (ar n:Int)) = false:=decide_eq_false (by have:=hh.2.2.2.2.2.2.1; omega)
 unfold nodeE at *
 rw [h7] at h
 rw [h7']
 exact h
theorem frame (dims:Nat) (b:List Tree):∀ (xs:List tNode.T) (st:List Tree),okS dims st xs→okS dims (b ++ st) xs∧news (b ++ st) xs = news st xs∧endT (b ++ st) xs = b ++ endT st xs
 | [],st,h=>⟨trivial,rfl,rfl⟩
 | n :: r,st,h=>by
  have hf:=step_frame (b:=b) (nodeE_ok h.1).2.2.2.2.2.2.1
  have:=frame dims b r (stepT st n) h.2
  simp only [okS,news,endT,hf.1,hf.2]
  refine ⟨⟨nodeE_more h.1 (by simp),this.1⟩,?_,this.2.2⟩
  rw [this.2.1]
end Go.VS
