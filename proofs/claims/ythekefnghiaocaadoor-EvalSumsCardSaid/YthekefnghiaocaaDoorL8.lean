import Derived.Test.YthekefnghiaocaaDoorL7
set_option linter.unusedVariables false
set_option linter.unusedSimpArgs false
set_option linter.unusedSectionVars false
set_option linter.unusedVariables false
set_option linter.unusedSimpArgs false
set_option maxRecDepth 100000
namespace Go.VS
open Go
def cntB (t:Int):Bool:=decide (t ≥ 2)
def oneL:List Int→Int
 | []=>-1
 | a :: r=>bif r.all (fun x=>x == a) then a else -1
def prodT (a b:Int):Int :=
 bif a == 0 then b else bif b == 0 then a else bif cntB a && b == 1 then 1 else bif cntB b && a == 1 then 1 else -1
def tyN (n:tNode.T) (ks:List Int):Int :=
 bif nK n == 1 then 0 else bif nK n == 2 then 1 else bif nK n == 3 then 2 + 2 * nN n else bif nK n == 4 then 3 + 2 * nN n
 else bif nK n == 8 then prodT (ks.getD 0 0) (ks.getD 1 0)
 else bif nK n == 11 || nK n == 12 then (bif cntB (ks.getD 0 0) then ks.getD 0 0 else -1)
 else bif nK n == 13 || nK n == 14 then (bif cntB (ks.getD 0 0) then 1 else -1)
 else bif nK n == 15 then (bif ks.getD 0 0 == 1 then 1 else -1)
 else bif nK n == 16 then (bif cntB (ks.getD 0 0) then oneL (ks.drop 1) else -1)
 else oneL ks
def ty:Tree→Int:=Tree.fold tyN
theorem ty_nd (n:tNode.T) (ks:List Tree):ty (.nd n ks) = tyN n (ks.map ty):=Tree.fold_nd _ n ks
def linE (n:tNode.T) (fs:List Bool):Bool:=nK n == 8 && (!fs.getD 0 false && !fs.getD 1 false)
def tyE (t:Tree):Int:=bif ty t == -1 then 80 else bif linE t.root (t.kids.map noQ) then 81 else 0
def firstE (E:Tree→Int):List Tree→Nat→Option (Nat×Int)
 | [],_=>none
 | t :: r,i=>bif E t != 0 then some (i,E t) else firstE E r (i + 1)
theorem oneL_all {a:Int}:∀ (r:List Int),(a :: r).all (fun x=>x == a) = r.all (fun x=>x == a):=by intro r; simp
theorem one_rg (F:Nat) {R:Type} (k:Int→Option R) (k1:Int→tUnits_node.T→Option R) (L:List Int) (N:Int) (n:tUnits_node.T) (fr:Nat) (a:Int) (hfr:fr < n.2.1.length) (ha:get (.int .i64) n.2.1 fr = a):∀ (xs:List Int) (i:Int),
  units_node_one.l2.rg F k (fun fr _ _ _ _ n=>k1 fr n) L N xs i (fr:Int) n = bif xs.all (fun x=>x == a) then k1 fr n else k (-1)
 | [],i=>rfl
 | x :: r,i=>by
  rw [units_node_one.l2.rg,one_rg F k k1 L N n fr a hfr ha r,rg_idx hfr,Int.toNat_natCast,ha]
  simp only [cond_true,List.all_cons]
  cases hx:(x == a) with
  | true=>simp only [bne,hx,Bool.not_true,cond_false,Bool.true_and]
  | false=>simp only [bne,hx,Bool.not_false,cond_true,Bool.false_and,cond_false]
theorem one_eq (F:Nat) (hF:64 < F) (n:tNode.T) (ks:List Int) (fx:List Bool) {fr:Nat} (h:fr < ks.length) (hl:ks.length ≤ 32):units_node_one.sh F (n,ks,fx) (fr:Int) = some ((oneL (ks.drop fr),()),()):=by
 unfold units_node_one.sh
 simp only []
 rw [bounds_lo (by omega)]
 simp only [cond_true]
 rw [List.take_length]
 refine Eq.trans (units_node_one.l2.rg_eq F _ _ (ks.drop fr) _ rfl (by simp; omega) (ks.drop fr) 0 F _ _ (by simp) (by simp; omega)) ?_
 refine (one_rg F (fun r41=>(some ((r41,()),()):Option units_node_one.sg.R)) (fun fr n2=>bif idx fr n2.2.1.length then some ((get (.int .i64) n2.2.1 fr.toNat,()),()) else none) (ks.drop fr) _ (n,ks,fx) fr (get (.int .i64) ks fr) h rfl (ks.drop fr) _).trans ?_
 simp only []
 rw [rg_idx h,Int.toNat_natCast]
 have hd:ks.drop fr = get (.int .i64) ks fr :: ks.drop (fr + 1):=by
  rw [List.drop_eq_getElem_cons h]
  congr 1
  unfold get
  rw [List.getD_eq_getElem?_getD,List.getElem?_eq_getElem h]
  rfl
 rw [hd,oneL_all]
 simp only [oneL]
 cases (ks.drop (fr + 1)).all (fun x=>x == get (.int .i64) ks fr) <;> rfl
theorem idx0 {n:Nat} (h:1 ≤ n):idx 0 n = true:=rg_idx (i:=0) (by omega)
theorem idx1 {n:Nat} (h:2 ≤ n):idx 1 n = true:=rg_idx (i:=1) (by omega)
theorem alike_eq (F:Nat) (hF:64 < F) (n:tNode.T) (ks:List Int) (fx:List Bool) (h:1 ≤ ks.length) (hl:ks.length ≤ 32):units_node_alike.sh F (n,ks,fx) = some ((oneL ks,()),()):=by
 unfold units_node_alike.sh
 rw [show (0:Int) = ((0:Nat):Int) from rfl,one_eq F hF n ks fx (by omega) hl]
 rfl
theorem product_eq (F:Nat) (n:tNode.T) (ks:List Int) (fx:List Bool) (h:2 ≤ ks.length):units_node_product.sh F (n,ks,fx) = some ((prodT (ks.getD 0 0) (ks.getD 1 0),()),()):=by
 unfold units_node_product.sh units_count.sh prodT cntB
 simp only [oB_some]
 rw [idx0 (by omega),idx1 (by omega)]
 simp only [cond_true]
 rw [show get (.int .i64) ks 0 = ks.getD 0 0 from rfl,show get (.int .i64) ks 1 = ks.getD 1 0 from rfl]
 cases (ks.getD 0 0 == 0) with
 | true=>rfl
 | false =>
  cases (ks.getD 1 0 == 0) with
  | true=>rfl
  | false=>cases decide (ks.getD 0 0 ≥ 2) <;> cases decide (ks.getD 1 0 ≥ 2) <;> cases (ks.getD 0 0 == 1) <;> cases (ks.getD 1 0 == 1) <;> rfl
theorem counted_eq (F:Nat) (n:tNode.T) (ks:List Int) (fx:List Bool) (h:1 ≤ ks.length):units_node_counted.sh F (n,ks,fx) = some ((bif cntB (ks.getD 0 0) then ks.getD 0 0 else -1,()),()):=by
 unfold units_node_counted.sh units_count.sh cntB
 simp only [oB_some]
 rw [idx0 (by omega)]
 simp only [cond_true]
 rw [show get (.int .i64) ks 0 = ks.getD 0 0 from rfl]
 cases decide (ks.getD 0 0 ≥ 2) <;> rfl
theorem priced_eq (F:Nat) (n:tNode.T) (ks:List Int) (fx:List Bool) (h:1 ≤ ks.length):units_node_priced.sh F (n,ks,fx) = some ((bif cntB (ks.getD 0 0) then 1 else -1,()),()):=by
 unfold units_node_priced.sh units_count.sh cntB
 simp only [oB_some]
 rw [idx0 (by omega)]
 simp only [cond_true]
 rw [show get (.int .i64) ks 0 = ks.getD 0 0 from rfl]
 cases decide (ks.getD 0 0 ≥ 2) <;> rfl
theorem off_eq (F:Nat) (n:tNode.T) (ks:List Int) (fx:List Bool) (h:1 ≤ ks.length):units_node_off.sh F (n,ks,fx) = some ((bif ks.getD 0 0 == 1 then 1 else -1,()),()):=by
 unfold units_node_off.sh
 rw [idx0 (by omega)]
 simp only [cond_true]
 rw [show get (.int .i64) ks 0 = ks.getD 0 0 from rfl]
 cases (ks.getD 0 0 == 1) <;> rfl
theorem test_eq (F:Nat) (hF:64 < F) (n:tNode.T) (ks:List Int) (fx:List Bool) (h:2 ≤ ks.length) (hl:ks.length ≤ 32):units_node_test.sh F (n,ks,fx) = some ((bif cntB (ks.getD 0 0) then oneL (ks.drop 1) else -1,()),()):=by
 unfold units_node_test.sh units_count.sh cntB
 simp only [oB_some]
 rw [idx0 (by omega)]
 simp only [cond_true]
 rw [show get (.int .i64) ks 0 = ks.getD 0 0 from rfl]
 have:=one_eq F hF n ks fx (fr:=1) (by omega) hl
 rw [show (((1:Nat):Int)) = 1 from rfl] at this
 rw [this]
 cases decide (ks.getD 0 0 ≥ 2) <;> rfl
theorem kinds16 {n:tNode.T} (h:goodK n = true):nK n = 1 ∨ nK n = 2 ∨ nK n = 3 ∨ nK n = 4 ∨ nK n = 5 ∨ nK n = 6 ∨ nK n = 7 ∨ nK n = 8 ∨ nK n = 9 ∨ nK n = 10 ∨ nK n = 11 ∨ nK n = 12 ∨ nK n = 13 ∨ nK n = 14 ∨ nK n = 15 ∨ nK n = 16:=by
 have:=goodK_iff.1 h
 omega
theorem ar_of {n:tNode.T} {k:Int} (h:nK n = k):ar n = bif decide ((get tTree_asks kindsL k.toNat).1 ≥ 0) then (get tTree_asks kindsL k.toNat).1.toNat else (nC n).toNat:=by
 unfold ar aK asks
 rw [h]
theorem kids_of {n:tNode.T} {k:Int} (h:nK n = k):kidsK n = bif decide ((get tTree_asks kindsL k.toNat).1 < 0) then decide (nC n ≥ 2) && decide (nC n ≤ 16) else nC n == 0:=by
 unfold kidsK aK asks
 rw [h]
theorem most_of {n:tNode.T} {k:Int} (h:nK n = k) (dims:Nat):mostN n dims = bif decide ((get tTree_asks kindsL k.toNat).2.1 < 0) then (dims:Int) - 1 else (get tTree_asks kindsL k.toNat).2.1:=by
 unfold mostN asks
 rw [h]
theorem rule_eq (F:Nat) (hF:64 < F) {dims:Nat} (hd:dims ≤ 4) {n:tNode.T} {pile:Nat} (h:nodeE dims n pile = 0) :
  ∃ r c,units_rules.sh F (nK n) = some ((r,c,()),())∧(bif decide (c < 0) then nC n else c) = (ar n:Int) ∧
   ∀ (ks:List Int) (fx:List Bool),ks.length = ar n→units_Types.d63 F r ((n,ks,fx),()) = some ((tyN n ks,()),()):=by
 obtain ⟨g1,g2,g3,g4,g5,g6,g7,g8⟩:=nodeE_ok h
 have ha:=ar_le g1 g4
 rcases kinds16 g1 with h | h | h | h | h | h | h | h | h | h | h | h | h | h | h | h
 ·exact ⟨fn_units_node_number,0,by rw [h]; rfl,by rw [ar_of h]; rfl,fun ks fx hk=>by unfold tyN; rw [h]; rfl⟩
 ·exact ⟨fn_units_node_money,0,by rw [h]; rfl,by rw [ar_of h]; rfl,fun ks fx hk=>by unfold tyN; rw [h]; rfl⟩
 ·rw [most_of h] at g3
  have g3:nN n ≤ (dims:Int) - 1:=g3
  refine ⟨fn_units_node_quantity,0,by rw [h]; rfl,by rw [ar_of h]; rfl,fun ks fx hk=>?_⟩
  refine Eq.trans (show units_Types.d63 F fn_units_node_quantity ((n,ks,fx),()) = units_node_quantity.sh F (n,ks,fx) from rfl) ?_
  unfold units_node_quantity.sh tyN
  rw [h,wrap_i64 (n:=2 * nN n) (by omega) (by omega),wrap_i64 (n:=2 + 2 * nN n) (by omega) (by omega)]
  rfl
 ·rw [most_of h] at g3
  have g3:nN n ≤ (dims:Int) - 1:=g3
  refine ⟨fn_units_node_blocks,0,by rw [h]; rfl,by rw [ar_of h]; rfl,fun ks fx hk=>?_⟩
  refine Eq.trans (show units_Types.d63 F fn_units_node_blocks ((n,ks,fx),()) = units_node_blocks.sh F (n,ks,fx) from rfl) ?_
  unfold units_node_blocks.sh tyN
  rw [h,wrap_i64 (n:=2 * nN n) (by omega) (by omega),wrap_i64 (n:=3 + 2 * nN n) (by omega) (by omega)]
  rfl
 ·have e:ar n = 1:=by rw [ar_of h]; rfl
  refine ⟨fn_units_node_alike,1,by rw [h]; rfl,by rw [e]; rfl,fun ks fx hk=>?_⟩
  refine Eq.trans (show units_Types.d63 F fn_units_node_alike ((n,ks,fx),()) = units_node_alike.sh F (n,ks,fx) from rfl) ?_
  rw [alike_eq F hF n ks fx (by omega) (by omega)]
  unfold tyN; rw [h]; rfl
 ·have e:ar n = 2:=by rw [ar_of h]; rfl
  refine ⟨fn_units_node_alike,2,by rw [h]; rfl,by rw [e]; rfl,fun ks fx hk=>?_⟩
  refine Eq.trans (show units_Types.d63 F fn_units_node_alike ((n,ks,fx),()) = units_node_alike.sh F (n,ks,fx) from rfl) ?_
  rw [alike_eq F hF n ks fx (by omega) (by omega)]
  unfold tyN; rw [h]; rfl
 ·have e:ar n = 2:=by rw [ar_of h]; rfl
  refine ⟨fn_units_node_alike,2,by rw [h]; rfl,by rw [e]; rfl,fun ks fx hk=>?_⟩
  refine Eq.trans (show units_Types.d63 F fn_units_node_alike ((n,ks,fx),()) = units_node_alike.sh F (n,ks,fx) from rfl) ?_
  rw [alike_eq F hF n ks fx (by omega) (by omega)]
  unfold tyN; rw [h]; rfl
 ·have e:ar n = 2:=by rw [ar_of h]; rfl
  refine ⟨fn_units_node_product,2,by rw [h]; rfl,by rw [e]; rfl,fun ks fx hk=>?_⟩
  refine Eq.trans (show units_Types.d63 F fn_units_node_product ((n,ks,fx),()) = units_node_product.sh F (n,ks,fx) from rfl) ?_
  rw [product_eq F n ks fx (by omega)]
  unfold tyN; rw [h]; rfl
 ·rw [kids_of h] at g4
  have g4:(decide (nC n ≥ 2) && decide (nC n ≤ 16)) = true:=g4
  simp at g4
  have e:ar n = (nC n).toNat:=by rw [ar_of h]; rfl
  refine ⟨fn_units_node_alike,-1,by rw [h]; rfl,?_,fun ks fx hk=>?_⟩
  ·rw [e]; rw [decide_eq_true (show (-1:Int) < 0 by omega)]; simp only [cond_true]; omega
  refine Eq.trans (show units_Types.d63 F fn_units_node_alike ((n,ks,fx),()) = units_node_alike.sh F (n,ks,fx) from rfl) ?_
  rw [alike_eq F hF n ks fx (by omega) (by omega)]
  unfold tyN; rw [h]; rfl
 ·rw [kids_of h] at g4
  have g4:(decide (nC n ≥ 2) && decide (nC n ≤ 16)) = true:=g4
  simp at g4
  have e:ar n = (nC n).toNat:=by rw [ar_of h]; rfl
  refine ⟨fn_units_node_alike,-1,by rw [h]; rfl,?_,fun ks fx hk=>?_⟩
  ·rw [e]; rw [decide_eq_true (show (-1:Int) < 0 by omega)]; simp only [cond_true]; omega
  refine Eq.trans (show units_Types.d63 F fn_units_node_alike ((n,ks,fx),()) = units_node_alike.sh F (n,ks,fx) from rfl) ?_
  rw [alike_eq F hF n ks fx (by omega) (by omega)]
  unfold tyN; rw [h]; rfl
 ·have e:ar n = 1:=by rw [ar_of h]; rfl
  refine ⟨fn_units_node_counted,1,by rw [h]; rfl,by rw [e]; rfl,fun ks fx hk=>?_⟩
  refine Eq.trans (show units_Types.d63 F fn_units_node_counted ((n,ks,fx),()) = units_node_counted.sh F (n,ks,fx) from rfl) ?_
  rw [counted_eq F n ks fx (by omega)]
  unfold tyN; rw [h]; rfl
 ·have e:ar n = 1:=by rw [ar_of h]; rfl
  refine ⟨fn_units_node_counted,1,by rw [h]; rfl,by rw [e]; rfl,fun ks fx hk=>?_⟩
  refine Eq.trans (show units_Types.d63 F fn_units_node_counted ((n,ks,fx),()) = units_node_counted.sh F (n,ks,fx) from rfl) ?_
  rw [counted_eq F n ks fx (by omega)]
  unfold tyN; rw [h]; rfl
 ·have e:ar n = 1:=by rw [ar_of h]; rfl
  refine ⟨fn_units_node_priced,1,by rw [h]; rfl,by rw [e]; rfl,fun ks fx hk=>?_⟩
  refine Eq.trans (show units_Types.d63 F fn_units_node_priced ((n,ks,fx),()) = units_node_priced.sh F (n,ks,fx) from rfl) ?_
  rw [priced_eq F n ks fx (by omega)]
  unfold tyN; rw [h]; rfl
 ·have e:ar n = 1:=by rw [ar_of h]; rfl
  refine ⟨fn_units_node_priced,1,by rw [h]; rfl,by rw [e]; rfl,fun ks fx hk=>?_⟩
  refine Eq.trans (show units_Types.d63 F fn_units_node_priced ((n,ks,fx),()) = units_node_priced.sh F (n,ks,fx) from rfl) ?_
  rw [priced_eq F n ks fx (by omega)]
  unfold tyN; rw [h]; rfl
 ·have e:ar n = 1:=by rw [ar_of h]; rfl
  refine ⟨fn_units_node_off,1,by rw [h]; rfl,by rw [e]; rfl,fun ks fx hk=>?_⟩
  refine Eq.trans (show units_Types.d63 F fn_units_node_off ((n,ks,fx),()) = units_node_off.sh F (n,ks,fx) from rfl) ?_
  rw [off_eq F n ks fx (by omega)]
  unfold tyN; rw [h]; rfl
 ·have e:ar n = 3:=by rw [ar_of h]; rfl
  refine ⟨fn_units_node_test,3,by rw [h]; rfl,by rw [e]; rfl,fun ks fx hk=>?_⟩
  refine Eq.trans (show units_Types.d63 F fn_units_node_test ((n,ks,fx),()) = units_node_test.sh F (n,ks,fx) from rfl) ?_
  rw [test_eq F hF n ks fx (by omega) (by omega)]
  unfold tyN; rw [h]; rfl
theorem map_get {α β:Type} {f:α→β} {d:β} {l:List α} {m j:Nat}:(l.map f).getD (m + j) d = ((l.drop m).map f).getD j d:=by
 rw [List.map_drop,List.getD_eq_getElem?_getD,List.getD_eq_getElem?_getD,List.getElem?_drop]
theorem types_rg (F:Nat) (hF:64 < F) {R:Type} {dims:Nat} (hd:dims ≤ 4) (kE:List Int→Int→Int→Option R) (kO:List Int→List Int→Option R) (L:List tNode.T) (N:Int) (fixed:List Bool):∀ (xs:List tNode.T) (st:List Tree) (pre:List Bool) (types:List Int),
  okS dims st xs→(flats st).length + xs.length ≤ 2048→fixed = pre ++ (news st xs).map noQ→pre.length = (flats st).length→types.length = (flats st).length →
  units_Types.l8.rg F kE kE (fun _ _ _ _ _ types pile _=>kO types pile) L N xs ((flats st).length:Int) fixed types (st.map ty) (st.map noQ) =
   match firstE tyE (news st xs) (flats st).length with
   | some (j,e)=>kE [] (j:Int) e
   | none=>kO (types ++ (news st xs).map ty) ((endT st xs).map ty):=by
 intro xs
 induction xs with
 | nil=>intro st pre types h h2 h3 h4 h5; simp [units_Types.l8.rg,news,firstE,endT]
 | cons n xs ih =>
  intro st pre types h h2 h3 h4 h5
  obtain ⟨g1,g2,g3,g4,g5,g6,g7,g8⟩:=nodeE_ok h.1
  have hst:=len_flats st
  have hfs:=congrArg List.length (flats_step st n)
  simp only [List.length_cons,List.length_append,List.length_nil] at h2 hfs
  simp only [news,List.map_cons] at h3
  have IH:=ih (stepT st n) (pre ++ [noQ (topT st n)]) (types ++ [ty (topT st n)]) h.2 (by omega) (by rw [h3]; simp) (by simp; omega) (by simp; omega)
  have hst1:(stepT st n).map ty = (st.map ty).take (st.length - ar n) ++ [ty (topT st n)]:=by unfold stepT; simp [List.map_take]
  have hst2:(stepT st n).map noQ = (st.map noQ).take (st.length - ar n) ++ [noQ (topT st n)]:=by unfold stepT; simp [List.map_take]
  rw [hst1,hst2,hfs] at IH
  obtain ⟨r,c,q1,q2,q3⟩:=rule_eq F hF hd h.1
  have hl1:(st.map ty).length = st.length:=by simp
  have hl2:(st.map noQ).length = st.length:=by simp
  have hgf:get .bool fixed (Int.toNat ((flats st).length:Int)) = noQ (topT st n):=by
   rw [Int.toNat_natCast,get,h3,List.getD_eq_getElem?_getD,List.getElem?_append_right (by omega),h4,Nat.sub_self]
   rfl
  have hif:idx ((flats st).length:Int) fixed.length = true:=rg_idx (by rw [h3]; simp; omega)
  have ht:=q3 ((st.map ty).drop (st.length - ar n)) ((st.map noQ).drop (st.length - ar n)) (by simp; omega)
  have hty:tyN n ((st.map ty).drop (st.length - ar n)) = ty (topT st n):=by unfold topT; rw [ty_nd,List.map_drop]
  rw [hty] at ht
  have hE:tyE (topT st n) = bif ty (topT st n) == -1 then 80 else bif linE n ((st.map noQ).drop (st.length - ar n)) then 81 else 0:=by
   rw [← List.map_drop]; rfl
  have hm:st.length - ar n ≤ st.length:=by omega
  have hb1:=bounds_lo hm
  have hb2:=bounds_hi hm
  have ew:=wrap_sub g7 (by omega)
  have htk1:(st.map ty).take st.length = st.map ty:=List.take_of_length_le (by omega)
  have htk2:(st.map noQ).take st.length = st.map noQ:=List.take_of_length_le (by omega)
  have hbl1:∀ y,Nat.ble (types.length + ([y]:List Int).length) maxN = true:=fun y=>ble_of (by simp; omega)
  have hbl2:∀ y,Nat.ble (st.length - ar n + ([y]:List Int).length) maxN = true:=fun y=>ble_of (by simp; omega)
  have hbl3:∀ y,Nat.ble (st.length - ar n + ([y]:List Bool).length) maxN = true:=fun y=>ble_of (by simp; omega)
  simp only [List.append_assoc,List.singleton_append] at IH
  rw [rg_cast] at IH
  have h8a:(nK n == 8) = true→ar n = 2:=fun h=>by rw [ar_of (by simpa using h)]; rfl
  simp only [units_Types.l8.rg]
  rw [q1]
  simp only [oB_some]
  simp only [news,firstE,hE]
  generalize ar n = a at *
  cases hc:decide (c < 0) with
  | true =>
   rw [hc] at q2
   have q2:n.2.2.2.1 = (a:Int):=q2
   simp only [cond_true,q2,hl1,hl2,ew,hb1,hb2,htk1,htk2]
   rw [ht]
   simp only [oB_some]
   cases hn:(ty (topT st n) == -1) with
   | true=>rfl
   | false =>
    simp only [cond_false,hbl1,hbl2,hbl3,hif,hgf,cond_true,linE]
    cases h8:(nK n == 8) with
    | true =>
     have h8:=h8a h8
     have hi1:idx ((st.length - a:Nat):Int) st.length = true:=rg_idx (by omega)
     have hi2:idx ((st.length - a + 1:Nat):Int) st.length = true:=rg_idx (by omega)
     have ew2:IntKind.i64.wrap (((st.length - a:Nat):Int) + 1) = ((st.length - a + 1:Nat):Int):=by rw [wrap_i64 (by omega) (by omega)]; omega
     have hg0:get .bool (st.map noQ) (st.length - a) = ((st.map noQ).drop (st.length - a)).getD 0 false:=by rw [← List.map_drop]; exact map_get (j:=0)
     have hg1:get .bool (st.map noQ) (st.length - a + 1) = ((st.map noQ).drop (st.length - a)).getD 1 false:=by rw [← List.map_drop]; exact map_get (j:=1)
     simp only [hi1,hi2,ew2,cond_true,Int.toNat_natCast,hg0,hg1,Bool.true_and]
     cases ((st.map noQ).drop (st.length - a)).getD 0 false with
     | true=>exact IH
     | false =>
      cases ((st.map noQ).drop (st.length - a)).getD 1 false with
      | true=>exact IH
      | false=>rfl
    | false=>exact IH
  | false =>
   rw [hc] at q2
   have q2:c = (a:Int):=q2
   simp only [cond_false,cond_true,q2,hl1,hl2,ew,hb1,hb2,htk1,htk2]
   rw [ht]
   simp only [oB_some]
   cases hn:(ty (topT st n) == -1) with
   | true=>rfl
   | false =>
    simp only [cond_false,hbl1,hbl2,hbl3,hif,hgf,cond_true,linE]
    cases h8:(nK n == 8) with
    | true =>
     have h8:=h8a h8
     have hi1:idx ((st.length - a:Nat):Int) st.length = true:=rg_idx (by omega)
     have hi2:idx ((st.length - a + 1:Nat):Int) st.length = true:=rg_idx (by omega)
     have ew2:IntKind.i64.wrap (((st.length - a:Nat):Int) + 1) = ((st.length - a + 1:Nat):Int):=by rw [wrap_i64 (by omega) (by omega)]; omega
     have hg0:get .bool (st.map noQ) (st.length - a) = ((st.map noQ).drop (st.length - a)).getD 0 false:=by rw [← List.map_drop]; exact map_get (j:=0)
     have hg1:get .bool (st.map noQ) (st.length - a + 1) = ((st.map noQ).drop (st.length - a)).getD 1 false:=by rw [← List.map_drop]; exact map_get (j:=1)
     simp only [hi1,hi2,ew2,cond_true,Int.toNat_natCast,hg0,hg1,Bool.true_and]
     cases ((st.map noQ).drop (st.length - a)).getD 0 false with
     | true=>exact IH
     | false =>
      cases ((st.map noQ).drop (st.length - a)).getD 1 false with
      | true=>exact IH
      | false=>rfl
    | false=>exact IH
def typesR (t:Tree):List Int×Int×Int :=
 match firstE tyE t.subs 0 with
 | some (j,e)=>([],(j:Int),e)
 | none=>bif ty t != 1 then ([],(t.size:Int) - 1,80) else (t.subs.map ty,0,0)
theorem Types_eq (F:Nat) (hF:4096 < F) {p:tPlan.T} {t:Tree} (h:Good p t):units_Types.sh F p = some (((typesR t).1,(typesR t).2.1,(typesR t).2.2,()),()):=by
 unfold units_Types.sh
 rw [check_eq F (by omega),h.check,Constant_eq F hF h]
 simp only [oB_some,bne_self_eq_false,cond_false]
 have hl:=h.len
 have hn:t.subs.length = p.2.2.2.length:=by rw [subs_len,h.flat]
 have hs:t.size = p.2.2.2.length:=by rw [Tree.size,h.flat]
 have hp:=size_pos t
 refine Eq.trans (units_Types.l8.rg_eq F _ _ _ p.2.2.2 _ rfl (by omega) p.2.2.2 0 F _ [] [] [] (by simp) (by omega)) ?_
 refine (types_rg F (by omega) (headE_dims h.head).2.1 (fun r26 r36 r46=>(some ((r26,r36,r46,()),()):Option units_Types.sg.R)) (fun types8 pile8=>units_Types.j23 F (fun r29 r39 r49=>some ((r29,r39,r49,()),())) (fun r210 r310 r410=>some ((r210,r310,r410,()),())) types8 pile8) p.2.2.2 _ (t.subs.map noQ) p.2.2.2 [] [] [] h.ok (by simp [flats]; omega) (by rw [h.subs]; rfl) rfl rfl).trans ?_
 rw [h.subs,h.eq]
 unfold typesR
 rw [show (flats []).length = 0 from rfl]
 cases firstE tyE t.subs 0 with
 | some x=>rfl
 | none =>
  simp only [List.nil_append,List.map_cons,List.map_nil]
  unfold units_Types.j23
  rw [show idx 0 [ty t].length = true from rfl,show get (.int .i64) [ty t] 0 = ty t from rfl,List.length_map,hn,hs,wrap_i64 (by omega) (by omega)]
  cases (ty t != 1) <;> rfl
theorem Types_bad (F:Nat) (hF:4096 < F) {p:tPlan.T} (h:(checkS p).2 ≠ 0):units_Types.sh F p = some (([],(checkS p).1,(checkS p).2,()),()):=by
 unfold units_Types.sh
 rw [check_eq F (by omega)]
 simp only [oB_some]
 rw [show ((checkS p).2 != 0) = true by simpa using h]
 rfl
end Go.VS
