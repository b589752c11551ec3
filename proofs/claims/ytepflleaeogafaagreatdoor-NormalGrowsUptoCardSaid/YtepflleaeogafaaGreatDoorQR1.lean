import Derived.Test.YtepflleaeogafaaGreatDoorQP2
set_option linter.unusedVariables false
set_option linter.unusedSimpArgs false
set_option linter.unusedSectionVars false
set_option linter.unusedVariables false
set_option maxRecDepth 100000
namespace Go.VS
open Go
def slices_IndexFunc_Dim.l2.rg {R:Type} (F:Nat) (k0:Int→Option R) (k1:(List tDim.T)→(Nat×tDim.T)→Int→Int→Bool→Option R) (s:List tDim.T) (t7:Int):List tDim.T→Int→(Nat×tDim.T)→Option R
 | [],t8,f=>k1 s (f.1,f.2) t7 t8 (decide (t8 < t7))
 | x_ :: xs,t8,f =>
  oB (slices_IndexFunc_Dim.d16 F (f.1 + 1) (x_,f.2,())) fun c_1 =>
   bif c_1.1.1 then k0 t8
   else slices_IndexFunc_Dim.l2.rg F k0 k1 s t7 xs (t8 + 1) (f.1,f.2)
theorem slices_IndexFunc_Dim.l2.rg_eq {R:Type} (F:Nat) (k0:Int→Option R) (k1:(List tDim.T)→(Nat×tDim.T)→Int→Int→Bool→Option R) (s:List tDim.T) (t7:Int) (hN:t7 = (s.length:Int)) (hL:s.length < 9223372036854775807):∀ (xs:List tDim.T) (i fu:Nat) (f:Nat×tDim.T),s.drop i = xs→xs.length < fu →
  slices_IndexFunc_Dim.l2 F k0 k1 fu s f t7 (i:Int) = slices_IndexFunc_Dim.l2.rg F k0 k1 s t7 xs (i:Int) f:=by
 intro xs
 induction xs with
 | nil =>
  intro i fu f hZ hfZ
  obtain ⟨fu,rfl⟩:∃ k,fu = k + 1:=⟨fu - 1,by simp at hfZ; omega⟩
  have e1:=rg_ge hN (rg_end hZ)
  simp only [slices_IndexFunc_Dim.l2,slices_IndexFunc_Dim.l2.body,slices_IndexFunc_Dim.l2.rg,e1,cond_false]
 | cons x_ xs ih =>
  intro i fu f hZ hfZ
  obtain ⟨fu,rfl⟩:∃ k,fu = k + 1:=⟨fu - 1,by simp at hfZ; omega⟩
  have e0:=rg_len hZ
  have e1:=rg_lt hN e0
  have e2:=rg_idx e0
  have e3:=rg_get (t:=tDim) hZ
  have e4:=rg_wrap e0 hL
  have e5:∀ (f:Nat×tDim.T),slices_IndexFunc_Dim.l2 F k0 k1 fu s f t7 ((i:Int) + 1) = slices_IndexFunc_Dim.l2.rg F k0 k1 s t7 xs ((i:Int) + 1) f:=fun f=>by
   have:=ih (i + 1) fu f (rg_next hZ) (by simp at hfZ; omega)
   rwa [rg_cast] at this
  simp only [slices_IndexFunc_Dim.l2,slices_IndexFunc_Dim.l2.body,slices_IndexFunc_Dim.l2.rg,e1,e2,e3,e4,e5,cond_true]
def tree_head.l6.rg {R:Type} (F:Nat) (k0:Int→Option R) (k1:Int→Option R) (k2:(List tDim.T)→Int→Int→Bool→tPlan.T→Option R) (t21:List tDim.T) (t22:Int):List tDim.T→Int→tPlan.T→Option R
 | [],t23,p=>k2 t21 t22 t23 (decide (t23 < t22)) p
 | x_ :: xs,t23,p =>
  oB (scan_Name.sh F x_.1) fun c_2 =>
   bif !c_2.1.1 then k0 61
   else bif (bounds p.2.1.length none (some t23)).1 then oB (slices_ContainsFunc_Dim.sh F ((p.2.1.take (bounds p.2.1.length none (some t23)).2.2).drop (bounds p.2.1.length none (some t23)).2.1) (cl_tree_head_c1,x_)) fun c_3 =>
    bif c_3.1.1 then k0 61
    else bif decide (x_.2 < 1) then k1 50
    else bif decide (x_.2 > 1000000000000) then k1 50
    else tree_head.l6.rg F k0 k1 k2 t21 t22 xs (t23 + 1) p
   else none
theorem tree_head.l6.rg_eq {R:Type} (F:Nat) (k0:Int→Option R) (k1:Int→Option R) (k2:(List tDim.T)→Int→Int→Bool→tPlan.T→Option R) (t21:List tDim.T) (t22:Int) (hN:t22 = (t21.length:Int)) (hL:t21.length < 9223372036854775807):∀ (xs:List tDim.T) (i fu:Nat) (p:tPlan.T),t21.drop i = xs→xs.length < fu →
  tree_head.l6 F k0 k1 k2 fu t21 t22 (i:Int) p = tree_head.l6.rg F k0 k1 k2 t21 t22 xs (i:Int) p:=by
 intro xs
 induction xs with
 | nil =>
  intro i fu p hZ hfZ
  obtain ⟨fu,rfl⟩:∃ k,fu = k + 1:=⟨fu - 1,by simp at hfZ; omega⟩
  have e1:=rg_ge hN (rg_end hZ)
  simp only [tree_head.l6,tree_head.l6.body,tree_head.l6.rg,e1,cond_false]
 | cons x_ xs ih =>
  intro i fu p hZ hfZ
  obtain ⟨fu,rfl⟩:∃ k,fu = k + 1:=⟨fu - 1,by simp at hfZ; omega⟩
  have e0:=rg_len hZ
  have e1:=rg_lt hN e0
  have e2:=rg_idx e0
  have e3:=rg_get (t:=tDim) hZ
  have e4:=rg_wrap e0 hL
  have e5:∀ (p:tPlan.T),tree_head.l6 F k0 k1 k2 fu t21 t22 ((i:Int) + 1) p = tree_head.l6.rg F k0 k1 k2 t21 t22 xs ((i:Int) + 1) p:=fun p=>by
   have:=ih (i + 1) fu p (rg_next hZ) (by simp at hfZ; omega)
   rwa [rg_cast] at this
  simp only [tree_head.l6,tree_head.l6.body,tree_head.l6.rg,e1,e2,e3,e4,e5,cond_true]
def tree_rising.l4.rg {R:Type} (F:Nat) (k0:Bool→Option R) (k1:(List tTier.T)→(List tTier.T)→Int→Int→Bool→Option R) (t20:List tTier.T) (t21:Int):List tTier.T→Int→(List tTier.T)→Option R
 | [],t22,tiers=>k1 tiers t20 t21 t22 (decide (t22 < t21))
 | x_ :: xs,t22,tiers =>
  bif decide (t22 > 0) then bif idx (IntKind.i64.wrap (t22 - 1)) tiers.length then bif decide (x_.1 ≤ (get tTier tiers ((IntKind.i64.wrap (t22 - 1)).toNat)).1) then k0 false
     else bif decide (x_.1 > 1000000000000) then k0 false
     else bif decide (x_.2 < (-1000000000000)) then k0 false
     else bif decide (x_.2 > 1000000000000) then k0 false
     else tree_rising.l4.rg F k0 k1 t20 t21 xs (t22 + 1) tiers
    else none
   else bif decide (x_.1 > 1000000000000) then k0 false
   else bif decide (x_.2 < (-1000000000000)) then k0 false
   else bif decide (x_.2 > 1000000000000) then k0 false
   else tree_rising.l4.rg F k0 k1 t20 t21 xs (t22 + 1) tiers
theorem tree_rising.l4.rg_eq {R:Type} (F:Nat) (k0:Bool→Option R) (k1:(List tTier.T)→(List tTier.T)→Int→Int→Bool→Option R) (t20:List tTier.T) (t21:Int) (hN:t21 = (t20.length:Int)) (hL:t20.length < 9223372036854775807):∀ (xs:List tTier.T) (i fu:Nat) (tiers:List tTier.T),t20.drop i = xs→xs.length < fu →
  tree_rising.l4 F k0 k1 fu tiers t20 t21 (i:Int) = tree_rising.l4.rg F k0 k1 t20 t21 xs (i:Int) tiers:=by
 intro xs
 induction xs with
 | nil =>
  intro i fu tiers hZ hfZ
  obtain ⟨fu,rfl⟩:∃ k,fu = k + 1:=⟨fu - 1,by simp at hfZ; omega⟩
  have e1:=rg_ge hN (rg_end hZ)
  simp only [tree_rising.l4,tree_rising.l4.body,tree_rising.l4.rg,e1,cond_false]
 | cons x_ xs ih =>
  intro i fu tiers hZ hfZ
  obtain ⟨fu,rfl⟩:∃ k,fu = k + 1:=⟨fu - 1,by simp at hfZ; omega⟩
  have e0:=rg_len hZ
  have e1:=rg_lt hN e0
  have e2:=rg_idx e0
  have e3:=rg_get (t:=tTier) hZ
  have e4:=rg_wrap e0 hL
  have e5:∀ (tiers:List tTier.T),tree_rising.l4 F k0 k1 fu tiers t20 t21 ((i:Int) + 1) = tree_rising.l4.rg F k0 k1 t20 t21 xs ((i:Int) + 1) tiers:=fun tiers=>by
   have:=ih (i + 1) fu tiers (rg_next hZ) (by simp at hfZ; omega)
   rwa [rg_cast] at this
  simp only [tree_rising.l4,tree_rising.l4.body,tree_rising.l4.rg,e1,e2,e3,e4,e5,cond_true]
def tree_Check.l8.rg {R:Type} (F:Nat) (k0:Int→Int→Option R) (k1:Int→(List tNode.T)→Int→Int→Bool→tPlan.T→Option R) (t19:List tNode.T) (t20:Int):List tNode.T→Int→Int→tPlan.T→Option R
 | [],t21,pile,p=>k1 pile t19 t20 t21 (decide (t21 < t20)) p
 | x_ :: xs,t21,pile,p =>
  oB (tree_node.sh F x_ (p.2.1.length:Int) pile) fun c_2 =>
   bif (c_2.1.1 != 0) then k0 t21 c_2.1.1
   else oB (tree_takes.sh F x_) fun c_3 =>
   tree_Check.l8.rg F k0 k1 t19 t20 xs (t21 + 1) (IntKind.i64.wrap (pile + (IntKind.i64.wrap (1 - c_3.1.1)))) p
theorem tree_Check.l8.rg_eq {R:Type} (F:Nat) (k0:Int→Int→Option R) (k1:Int→(List tNode.T)→Int→Int→Bool→tPlan.T→Option R) (t19:List tNode.T) (t20:Int) (hN:t20 = (t19.length:Int)) (hL:t19.length < 9223372036854775807):∀ (xs:List tNode.T) (i fu:Nat) (pile:Int) (p:tPlan.T),t19.drop i = xs→xs.length < fu →
  tree_Check.l8 F k0 k1 fu pile t19 t20 (i:Int) p = tree_Check.l8.rg F k0 k1 t19 t20 xs (i:Int) pile p:=by
 intro xs
 induction xs with
 | nil =>
  intro i fu pile p hZ hfZ
  obtain ⟨fu,rfl⟩:∃ k,fu = k + 1:=⟨fu - 1,by simp at hfZ; omega⟩
  have e1:=rg_ge hN (rg_end hZ)
  simp only [tree_Check.l8,tree_Check.l8.body,tree_Check.l8.rg,e1,cond_false]
 | cons x_ xs ih =>
  intro i fu pile p hZ hfZ
  obtain ⟨fu,rfl⟩:∃ k,fu = k + 1:=⟨fu - 1,by simp at hfZ; omega⟩
  have e0:=rg_len hZ
  have e1:=rg_lt hN e0
  have e2:=rg_idx e0
  have e3:=rg_get (t:=tNode) hZ
  have e4:=rg_wrap e0 hL
  have e5:∀ (pile:Int) (p:tPlan.T),tree_Check.l8 F k0 k1 fu pile t19 t20 ((i:Int) + 1) p = tree_Check.l8.rg F k0 k1 t19 t20 xs ((i:Int) + 1) pile p:=fun pile p=>by
   have:=ih (i + 1) fu pile p (rg_next hZ) (by simp at hfZ; omega)
   rwa [rg_cast] at this
  simp only [tree_Check.l8,tree_Check.l8.body,tree_Check.l8.rg,e1,e2,e3,e4,e5,cond_true]
def tree_firsts.l3.rg {R:Type} (F:Nat) (k0:(List tNode.T)→Int→Int→Bool→(List Int)→(List Int)→Option R) (t10:List tNode.T) (t11:Int):List tNode.T→Int→(List Int)→(List Int)→Option R
 | [],t12,list,pile=>k0 t10 t11 t12 (decide (t12 < t11)) list pile
 | x_ :: xs,t12,list,pile =>
  oB (tree_takes.sh F x_) fun c_1 =>
   bif decide (c_1.1.1 > 0) then bif idx (IntKind.i64.wrap ((pile.length:Int) - c_1.1.1)) pile.length then bif (bounds pile.length none (some (IntKind.i64.wrap ((pile.length:Int) - c_1.1.1)))).1 then bif Nat.ble ((pile.take (bounds pile.length none (some (IntKind.i64.wrap ((pile.length:Int) - c_1.1.1)))).2.2).length + ([get (.int .i64) pile ((IntKind.i64.wrap ((pile.length:Int) - c_1.1.1)).toNat)]:List Int).length) maxN then bif Nat.ble (list.length + ([get (.int .i64) pile ((IntKind.i64.wrap ((pile.length:Int) - c_1.1.1)).toNat)]:List Int).length) maxN then tree_firsts.l3.rg F k0 t10 t11 xs (t12 + 1) (list ++ ([get (.int .i64) pile ((IntKind.i64.wrap ((pile.length:Int) - c_1.1.1)).toNat)]:List Int)) ((pile.take (bounds pile.length none (some (IntKind.i64.wrap ((pile.length:Int) - c_1.1.1)))).2.2) ++ ([get (.int .i64) pile ((IntKind.i64.wrap ((pile.length:Int) - c_1.1.1)).toNat)]:List Int))
       else none
      else none
     else none
    else none
   else bif Nat.ble (pile.length + ([t12]:List Int).length) maxN then bif Nat.ble (list.length + ([t12]:List Int).length) maxN then tree_firsts.l3.rg F k0 t10 t11 xs (t12 + 1) (list ++ ([t12]:List Int)) (pile ++ ([t12]:List Int))
    else none
   else none
theorem tree_firsts.l3.rg_eq {R:Type} (F:Nat) (k0:(List tNode.T)→Int→Int→Bool→(List Int)→(List Int)→Option R) (t10:List tNode.T) (t11:Int) (hN:t11 = (t10.length:Int)) (hL:t10.length < 9223372036854775807):∀ (xs:List tNode.T) (i fu:Nat) (list:List Int) (pile:List Int),t10.drop i = xs→xs.length < fu →
  tree_firsts.l3 F k0 fu t10 t11 (i:Int) list pile = tree_firsts.l3.rg F k0 t10 t11 xs (i:Int) list pile:=by
 intro xs
 induction xs with
 | nil =>
  intro i fu list pile hZ hfZ
  obtain ⟨fu,rfl⟩:∃ k,fu = k + 1:=⟨fu - 1,by simp at hfZ; omega⟩
  have e1:=rg_ge hN (rg_end hZ)
  simp only [tree_firsts.l3,tree_firsts.l3.body,tree_firsts.l3.rg,e1,cond_false]
 | cons x_ xs ih =>
  intro i fu list pile hZ hfZ
  obtain ⟨fu,rfl⟩:∃ k,fu = k + 1:=⟨fu - 1,by simp at hfZ; omega⟩
  have e0:=rg_len hZ
  have e1:=rg_lt hN e0
  have e2:=rg_idx e0
  have e3:=rg_get (t:=tNode) hZ
  have e4:=rg_wrap e0 hL
  have e5:∀ (list:List Int) (pile:List Int),tree_firsts.l3 F k0 fu t10 t11 ((i:Int) + 1) list pile = tree_firsts.l3.rg F k0 t10 t11 xs ((i:Int) + 1) list pile:=fun list pile=>by
   have:=ih (i + 1) fu list pile (rg_next hZ) (by simp at hfZ; omega)
   rwa [rg_cast] at this
  simp only [tree_firsts.l3,tree_firsts.l3.body,tree_firsts.l3.rg,e1,e2,e3,e4,e5,cond_true]
def tree_Constant.l7.rg {R:Type} (F:Nat) (k0:(List Int)→Int→(List tNode.T)→Int→Int→Bool→(List Bool)→Option R) (t22:List tNode.T) (t23:Int):List tNode.T→Int→(List Int)→Int→(List Bool)→Option R
 | [],t24,list,last,out=>k0 list last t22 t23 t24 (decide (t24 < t23)) out
 | x_ :: xs,t24,list,last,out =>
  bif (x_.1 == 3) then bif idx t24 list.length then bif idx t24 out.length then tree_Constant.l7.rg F k0 t22 t23 xs (t24 + 1) list t24 (out.set t24.toNat (decide (t24 < (get (.int .i64) list t24.toNat))))
     else none
    else none
   else bif (x_.1 == 4) then bif idx t24 list.length then bif idx t24 out.length then tree_Constant.l7.rg F k0 t22 t23 xs (t24 + 1) list t24 (out.set t24.toNat (decide (t24 < (get (.int .i64) list t24.toNat))))
     else none
    else none
   else bif idx t24 list.length then bif idx t24 out.length then tree_Constant.l7.rg F k0 t22 t23 xs (t24 + 1) list last (out.set t24.toNat (decide (last < (get (.int .i64) list t24.toNat))))
    else none
   else none
theorem tree_Constant.l7.rg_eq {R:Type} (F:Nat) (k0:(List Int)→Int→(List tNode.T)→Int→Int→Bool→(List Bool)→Option R) (t22:List tNode.T) (t23:Int) (hN:t23 = (t22.length:Int)) (hL:t22.length < 9223372036854775807):∀ (xs:List tNode.T) (i fu:Nat) (list:List Int) (last:Int) (out:List Bool),t22.drop i = xs→xs.length < fu →
  tree_Constant.l7 F k0 fu list last t22 t23 (i:Int) out = tree_Constant.l7.rg F k0 t22 t23 xs (i:Int) list last out:=by
 intro xs
 induction xs with
 | nil =>
  intro i fu list last out hZ hfZ
  obtain ⟨fu,rfl⟩:∃ k,fu = k + 1:=⟨fu - 1,by simp at hfZ; omega⟩
  have e1:=rg_ge hN (rg_end hZ)
  simp only [tree_Constant.l7,tree_Constant.l7.body,tree_Constant.l7.rg,e1,cond_false]
 | cons x_ xs ih =>
  intro i fu list last out hZ hfZ
  obtain ⟨fu,rfl⟩:∃ k,fu = k + 1:=⟨fu - 1,by simp at hfZ; omega⟩
  have e0:=rg_len hZ
  have e1:=rg_lt hN e0
  have e2:=rg_idx e0
  have e3:=rg_get (t:=tNode) hZ
  have e4:=rg_wrap e0 hL
  have e5:∀ (list:List Int) (last:Int) (out:List Bool),tree_Constant.l7 F k0 fu list last t22 t23 ((i:Int) + 1) out = tree_Constant.l7.rg F k0 t22 t23 xs ((i:Int) + 1) list last out:=fun list last out=>by
   have:=ih (i + 1) fu list last out (rg_next hZ) (by simp at hfZ; omega)
   rwa [rg_cast] at this
  simp only [tree_Constant.l7,tree_Constant.l7.body,tree_Constant.l7.rg,e1,e2,e3,e4,e5,cond_true]
def units_node_one.l2.rg {R:Type} (F:Nat) (k0:Int→Option R) (k1:Int→(List Int)→Int→Int→Bool→tUnits_node.T→Option R) (t10:List Int) (t11:Int):List Int→Int→Int→tUnits_node.T→Option R
 | [],t12,from_,n=>k1 from_ t10 t11 t12 (decide (t12 < t11)) n
 | x_ :: xs,t12,from_,n =>
  bif idx from_ n.2.1.length then bif (x_ != (get (.int .i64) n.2.1 from_.toNat)) then k0 (-1)
    else units_node_one.l2.rg F k0 k1 t10 t11 xs (t12 + 1) from_ n
   else none
theorem units_node_one.l2.rg_eq {R:Type} (F:Nat) (k0:Int→Option R) (k1:Int→(List Int)→Int→Int→Bool→tUnits_node.T→Option R) (t10:List Int) (t11:Int) (hN:t11 = (t10.length:Int)) (hL:t10.length < 9223372036854775807):∀ (xs:List Int) (i fu:Nat) (from_:Int) (n:tUnits_node.T),t10.drop i = xs→xs.length < fu →
  units_node_one.l2 F k0 k1 fu from_ t10 t11 (i:Int) n = units_node_one.l2.rg F k0 k1 t10 t11 xs (i:Int) from_ n:=by
 intro xs
 induction xs with
 | nil =>
  intro i fu from_ n hZ hfZ
  obtain ⟨fu,rfl⟩:∃ k,fu = k + 1:=⟨fu - 1,by simp at hfZ; omega⟩
  have e1:=rg_ge hN (rg_end hZ)
  simp only [units_node_one.l2,units_node_one.l2.body,units_node_one.l2.rg,e1,cond_false]
 | cons x_ xs ih =>
  intro i fu from_ n hZ hfZ
  obtain ⟨fu,rfl⟩:∃ k,fu = k + 1:=⟨fu - 1,by simp at hfZ; omega⟩
  have e0:=rg_len hZ
  have e1:=rg_lt hN e0
  have e2:=rg_idx e0
  have e3:=rg_get (t:=(.int .i64)) hZ
  have e4:=rg_wrap e0 hL
  have e5:∀ (from_:Int) (n:tUnits_node.T),units_node_one.l2 F k0 k1 fu from_ t10 t11 ((i:Int) + 1) n = units_node_one.l2.rg F k0 k1 t10 t11 xs ((i:Int) + 1) from_ n:=fun from_ n=>by
   have:=ih (i + 1) fu from_ n (rg_next hZ) (by simp at hfZ; omega)
   rwa [rg_cast] at this
  simp only [units_node_one.l2,units_node_one.l2.body,units_node_one.l2.rg,e1,e2,e3,e4,e5,cond_true]
def units_Types.l8.rg {R:Type} (F:Nat) (k0:(List Int)→Int→Int→Option R) (k1:(List Int)→Int→Int→Option R) (k2:(List Bool)→(List tNode.T)→Int→Int→Bool→(List Int)→(List Int)→(List Bool)→Option R) (t33:List tNode.T) (t34:Int):List tNode.T→Int→(List Bool)→(List Int)→(List Int)→(List Bool)→Option R
 | [],t35,fixed,types,pile,fix=>k2 fixed t33 t34 t35 (decide (t35 < t34)) types pile fix
 | x_ :: xs,t35,fixed,types,pile,fix =>
  oB (units_rules.sh F x_.1) fun c_3 =>
   bif decide (c_3.1.2.1 < 0) then bif (bounds pile.length (some (IntKind.i64.wrap ((pile.length:Int) - x_.2.2.2.1))) none).1 then bif (bounds fix.length (some (IntKind.i64.wrap ((pile.length:Int) - x_.2.2.2.1))) none).1 then oB (units_Types.d63 F c_3.1.1 ((x_,(pile.take (bounds pile.length (some (IntKind.i64.wrap ((pile.length:Int) - x_.2.2.2.1))) none).2.2).drop (bounds pile.length (some (IntKind.i64.wrap ((pile.length:Int) - x_.2.2.2.1))) none).2.1,(fix.take (bounds fix.length (some (IntKind.i64.wrap ((pile.length:Int) - x_.2.2.2.1))) none).2.2).drop (bounds fix.length (some (IntKind.i64.wrap ((pile.length:Int) - x_.2.2.2.1))) none).2.1),())) fun c_4 =>
      bif (c_4.1.1 == (-1)) then k0 ([]) t35 80
      else bif (x_.1 == 8) then bif idx (IntKind.i64.wrap ((pile.length:Int) - x_.2.2.2.1)) fix.length then bif !(get .bool fix ((IntKind.i64.wrap ((pile.length:Int) - x_.2.2.2.1)).toNat)) then bif idx (IntKind.i64.wrap ((IntKind.i64.wrap ((pile.length:Int) - x_.2.2.2.1)) + 1)) fix.length then bif !(get .bool fix ((IntKind.i64.wrap ((IntKind.i64.wrap ((pile.length:Int) - x_.2.2.2.1)) + 1)).toNat)) then k1 ([]) t35 81
          else bif Nat.ble (types.length + ([c_4.1.1]:List Int).length) maxN then bif (bounds pile.length none (some (IntKind.i64.wrap ((pile.length:Int) - x_.2.2.2.1)))).1 then bif Nat.ble ((bounds pile.length none (some (IntKind.i64.wrap ((pile.length:Int) - x_.2.2.2.1)))).2.2 + ([c_4.1.1]:List Int).length) maxN then bif (bounds fix.length none (some (IntKind.i64.wrap ((pile.length:Int) - x_.2.2.2.1)))).1 then bif idx t35 fixed.length then bif Nat.ble ((bounds fix.length none (some (IntKind.i64.wrap ((pile.length:Int) - x_.2.2.2.1)))).2.2 + ([get .bool fixed t35.toNat]:List Bool).length) maxN then units_Types.l8.rg F k0 k1 k2 t33 t34 xs (t35 + 1) fixed (types ++ ([c_4.1.1]:List Int)) (pile.take (bounds pile.length none (some (IntKind.i64.wrap ((pile.length:Int) - x_.2.2.2.1)))).2.2 ++ ([c_4.1.1]:List Int)) (fix.take (bounds fix.length none (some (IntKind.i64.wrap ((pile.length:Int) - x_.2.2.2.1)))).2.2 ++ ([get .bool fixed t35.toNat]:List Bool))
               else none
              else none
             else none
            else none
           else none
          else none
         else none
        else bif Nat.ble (types.length + ([c_4.1.1]:List Int).length) maxN then bif (bounds pile.length none (some (IntKind.i64.wrap ((pile.length:Int) - x_.2.2.2.1)))).1 then bif Nat.ble ((bounds pile.length none (some (IntKind.i64.wrap ((pile.length:Int) - x_.2.2.2.1)))).2.2 + ([c_4.1.1]:List Int).length) maxN then bif (bounds fix.length none (some (IntKind.i64.wrap ((pile.length:Int) - x_.2.2.2.1)))).1 then bif idx t35 fixed.length then bif Nat.ble ((bounds fix.length none (some (IntKind.i64.wrap ((pile.length:Int) - x_.2.2.2.1)))).2.2 + ([get .bool fixed t35.toNat]:List Bool).length) maxN then units_Types.l8.rg F k0 k1 k2 t33 t34 xs (t35 + 1) fixed (types ++ ([c_4.1.1]:List Int)) (pile.take (bounds pile.length none (some (IntKind.i64.wrap ((pile.length:Int) - x_.2.2.2.1)))).2.2 ++ ([c_4.1.1]:List Int)) (fix.take (bounds fix.length none (some (IntKind.i64.wrap ((pile.length:Int) - x_.2.2.2.1)))).2.2 ++ ([get .bool fixed t35.toNat]:List Bool))
             else none
            else none
           else none
          else none
         else none
        else none
       else none
      else bif Nat.ble (types.length + ([c_4.1.1]:List Int).length) maxN then bif (bounds pile.length none (some (IntKind.i64.wrap ((pile.length:Int) - x_.2.2.2.1)))).1 then bif Nat.ble ((bounds pile.length none (some (IntKind.i64.wrap ((pile.length:Int) - x_.2.2.2.1)))).2.2 + ([c_4.1.1]:List Int).length) maxN then bif (bounds fix.length none (some (IntKind.i64.wrap ((pile.length:Int) - x_.2.2.2.1)))).1 then bif idx t35 fixed.length then bif Nat.ble ((bounds fix.length none (some (IntKind.i64.wrap ((pile.length:Int) - x_.2.2.2.1)))).2.2 + ([get .bool fixed t35.toNat]:List Bool).length) maxN then units_Types.l8.rg F k0 k1 k2 t33 t34 xs (t35 + 1) fixed (types ++ ([c_4.1.1]:List Int)) (pile.take (bounds pile.length none (some (IntKind.i64.wrap ((pile.length:Int) - x_.2.2.2.1)))).2.2 ++ ([c_4.1.1]:List Int)) (fix.take (bounds fix.length none (some (IntKind.i64.wrap ((pile.length:Int) - x_.2.2.2.1)))).2.2 ++ ([get .bool fixed t35.toNat]:List Bool))
           else none
          else none
         else none
        else none
       else none
      else none
     else none
    else none
   else bif (bounds pile.length (some (IntKind.i64.wrap ((pile.length:Int) - c_3.1.2.1))) none).1 then bif (bounds fix.length (some (IntKind.i64.wrap ((pile.length:Int) - c_3.1.2.1))) none).1 then oB (units_Types.d63 F c_3.1.1 ((x_,(pile.take (bounds pile.length (some (IntKind.i64.wrap ((pile.length:Int) - c_3.1.2.1))) none).2.2).drop (bounds pile.length (some (IntKind.i64.wrap ((pile.length:Int) - c_3.1.2.1))) none).2.1,(fix.take (bounds fix.length (some (IntKind.i64.wrap ((pile.length:Int) - c_3.1.2.1))) none).2.2).drop (bounds fix.length (some (IntKind.i64.wrap ((pile.length:Int) - c_3.1.2.1))) none).2.1),())) fun c_5 =>
     bif (c_5.1.1 == (-1)) then k0 ([]) t35 80
     else bif (x_.1 == 8) then bif idx (IntKind.i64.wrap ((pile.length:Int) - c_3.1.2.1)) fix.length then bif !(get .bool fix ((IntKind.i64.wrap ((pile.length:Int) - c_3.1.2.1)).toNat)) then bif idx (IntKind.i64.wrap ((IntKind.i64.wrap ((pile.length:Int) - c_3.1.2.1)) + 1)) fix.length then bif !(get .bool fix ((IntKind.i64.wrap ((IntKind.i64.wrap ((pile.length:Int) - c_3.1.2.1)) + 1)).toNat)) then k1 ([]) t35 81
         else bif Nat.ble (types.length + ([c_5.1.1]:List Int).length) maxN then bif (bounds pile.length none (some (IntKind.i64.wrap ((pile.length:Int) - c_3.1.2.1)))).1 then bif Nat.ble ((bounds pile.length none (some (IntKind.i64.wrap ((pile.length:Int) - c_3.1.2.1)))).2.2 + ([c_5.1.1]:List Int).length) maxN then bif (bounds fix.length none (some (IntKind.i64.wrap ((pile.length:Int) - c_3.1.2.1)))).1 then bif idx t35 fixed.length then bif Nat.ble ((bounds fix.length none (some (IntKind.i64.wrap ((pile.length:Int) - c_3.1.2.1)))).2.2 + ([get .bool fixed t35.toNat]:List Bool).length) maxN then units_Types.l8.rg F k0 k1 k2 t33 t34 xs (t35 + 1) fixed (types ++ ([c_5.1.1]:List Int)) (pile.take (bounds pile.length none (some (IntKind.i64.wrap ((pile.length:Int) - c_3.1.2.1)))).2.2 ++ ([c_5.1.1]:List Int)) (fix.take (bounds fix.length none (some (IntKind.i64.wrap ((pile.length:Int) - c_3.1.2.1)))).2.2 ++ ([get .bool fixed t35.toNat]:List Bool))
              else none
             else none
            else none
           else none
          else none
         else none
        else none
       else bif Nat.ble (types.length + ([c_5.1.1]:List Int).length) maxN then bif (bounds pile.length none (some (IntKind.i64.wrap ((pile.length:Int) - c_3.1.2.1)))).1 then bif Nat.ble ((bounds pile.length none (some (IntKind.i64.wrap ((pile.length:Int) - c_3.1.2.1)))).2.2 + ([c_5.1.1]:List Int).length) maxN then bif (bounds fix.length none (some (IntKind.i64.wrap ((pile.length:Int) - c_3.1.2.1)))).1 then bif idx t35 fixed.length then bif Nat.ble ((bounds fix.length none (some (IntKind.i64.wrap ((pile.length:Int) - c_3.1.2.1)))).2.2 + ([get .bool fixed t35.toNat]:List Bool).length) maxN then units_Types.l8.rg F k0 k1 k2 t33 t34 xs (t35 + 1) fixed (types ++ ([c_5.1.1]:List Int)) (pile.take (bounds pile.length none (some (IntKind.i64.wrap ((pile.length:Int) - c_3.1.2.1)))).2.2 ++ ([c_5.1.1]:List Int)) (fix.take (bounds fix.length none (some (IntKind.i64.wrap ((pile.length:Int) - c_3.1.2.1)))).2.2 ++ ([get .bool fixed t35.toNat]:List Bool))
            else none
           else none
          else none
         else none
        else none
       else none
      else none
     else bif Nat.ble (types.length + ([c_5.1.1]:List Int).length) maxN then bif (bounds pile.length none (some (IntKind.i64.wrap ((pile.length:Int) - c_3.1.2.1)))).1 then bif Nat.ble ((bounds pile.length none (some (IntKind.i64.wrap ((pile.length:Int) - c_3.1.2.1)))).2.2 + ([c_5.1.1]:List Int).length) maxN then bif (bounds fix.length none (some (IntKind.i64.wrap ((pile.length:Int) - c_3.1.2.1)))).1 then bif idx t35 fixed.length then bif Nat.ble ((bounds fix.length none (some (IntKind.i64.wrap ((pile.length:Int) - c_3.1.2.1)))).2.2 + ([get .bool fixed t35.toNat]:List Bool).length) maxN then units_Types.l8.rg F k0 k1 k2 t33 t34 xs (t35 + 1) fixed (types ++ ([c_5.1.1]:List Int)) (pile.take (bounds pile.length none (some (IntKind.i64.wrap ((pile.length:Int) - c_3.1.2.1)))).2.2 ++ ([c_5.1.1]:List Int)) (fix.take (bounds fix.length none (some (IntKind.i64.wrap ((pile.length:Int) - c_3.1.2.1)))).2.2 ++ ([get .bool fixed t35.toNat]:List Bool))
          else none
         else none
        else none
       else none
      else none
     else none
    else none
   else none
theorem units_Types.l8.rg_eq {R:Type} (F:Nat) (k0:(List Int)→Int→Int→Option R) (k1:(List Int)→Int→Int→Option R) (k2:(List Bool)→(List tNode.T)→Int→Int→Bool→(List Int)→(List Int)→(List Bool)→Option R) (t33:List tNode.T) (t34:Int) (hN:t34 = (t33.length:Int)) (hL:t33.length < 9223372036854775807):∀ (xs:List tNode.T) (i fu:Nat) (fixed:List Bool) (types:List Int) (pile:List Int) (fix:List Bool),t33.drop i = xs→xs.length < fu →
  units_Types.l8 F k0 k1 k2 fu fixed t33 t34 (i:Int) types pile fix = units_Types.l8.rg F k0 k1 k2 t33 t34 xs (i:Int) fixed types pile fix:=by
 intro xs
 induction xs with
 | nil =>
  intro i fu fixed types pile fix hZ hfZ
  obtain ⟨fu,rfl⟩:∃ k,fu = k + 1:=⟨fu - 1,by simp at hfZ; omega⟩
  have e1:=rg_ge hN (rg_end hZ)
  simp only [units_Types.l8,units_Types.l8.body,units_Types.l8.rg,e1,cond_false]
 | cons x_ xs ih =>
  intro i fu fixed types pile fix hZ hfZ
  obtain ⟨fu,rfl⟩:∃ k,fu = k + 1:=⟨fu - 1,by simp at hfZ; omega⟩
  have e0:=rg_len hZ
  have e1:=rg_lt hN e0
  have e2:=rg_idx e0
  have e3:=rg_get (t:=tNode) hZ
  have e4:=rg_wrap e0 hL
  have e5:∀ (fixed:List Bool) (types:List Int) (pile:List Int) (fix:List Bool),units_Types.l8 F k0 k1 k2 fu fixed t33 t34 ((i:Int) + 1) types pile fix = units_Types.l8.rg F k0 k1 k2 t33 t34 xs ((i:Int) + 1) fixed types pile fix:=fun fixed types pile fix=>by
   have:=ih (i + 1) fu fixed types pile fix (rg_next hZ) (by simp at hfZ; omega)
   rwa [rg_cast] at this
  simp only [units_Types.l8,units_Types.l8.body,units_Types.l8.rg,e1,e2,e3,e4,e5,cond_true]
def slices_Max_int.l5.rg {R:Type} (F:Nat) (k0:(List Int)→Int→Int→Bool→Option R) (x:List Int):List Int→Int→Int→Option R
 | [],i,m=>k0 x m i (decide (i < (x.length:Int)))
 | x_ :: xs,i,m =>
  slices_Max_int.l5.rg F k0 x xs (i + 1) (if x_ > m then x_ else m)
theorem slices_Max_int.l5.rg_eq {R:Type} (F:Nat) (k0:(List Int)→Int→Int→Bool→Option R) (x:List Int) (hL:x.length < 9223372036854775807):∀ (xs:List Int) (i fu:Nat) (m:Int),x.drop i = xs→xs.length < fu →
  slices_Max_int.l5 F k0 fu x m (i:Int) = slices_Max_int.l5.rg F k0 x xs (i:Int) m:=by
 intro xs
 induction xs with
 | nil =>
  intro i fu m hZ hfZ
  obtain ⟨fu,rfl⟩:∃ k,fu = k + 1:=⟨fu - 1,by simp at hfZ; omega⟩
  have e1:=rg_ge rfl (rg_end hZ)
  simp only [slices_Max_int.l5,slices_Max_int.l5.body,slices_Max_int.l5.rg,e1,cond_false]
 | cons x_ xs ih =>
  intro i fu m hZ hfZ
  obtain ⟨fu,rfl⟩:∃ k,fu = k + 1:=⟨fu - 1,by simp at hfZ; omega⟩
  have e0:=rg_len hZ
  have e1:=rg_lt rfl e0
  have e2:=rg_idx e0
  have e3:=rg_get (t:=(.int .i64)) hZ
  have e4:=rg_wrap e0 hL
  have e5:∀ (m:Int),slices_Max_int.l5 F k0 fu x m ((i:Int) + 1) = slices_Max_int.l5.rg F k0 x xs ((i:Int) + 1) m:=fun m=>by
   have:=ih (i + 1) fu m (rg_next hZ) (by simp at hfZ; omega)
   rwa [rg_cast] at this
  simp only [slices_Max_int.l5,slices_Max_int.l5.body,slices_Max_int.l5.rg,e1,e2,e3,e4,e5,cond_true]
def tree_Scale.l6.rg {R:Type} (F:Nat) (k0:(List tNode.T)→Int→Int→Bool→(List Int)→Option R) (t20:List tNode.T) (t21:Int):List tNode.T→Int→(List Int)→Option R
 | [],t22,pile=>k0 t20 t21 t22 (decide (t22 < t21)) pile
 | x_ :: xs,t22,pile =>
  oB (tree_takes.sh F x_) fun c_2 =>
   bif decide (c_2.1.1 > 0) then bif (bounds pile.length (some (IntKind.i64.wrap ((pile.length:Int) - c_2.1.1))) none).1 then oB (slices_Max_int.sh F ((List.take (bounds pile.length (some (IntKind.i64.wrap ((pile.length:Int) - c_2.1.1))) none).2.2 pile).drop (bounds pile.length (some (IntKind.i64.wrap ((pile.length:Int) - c_2.1.1))) none).2.1)) fun c_3 =>
     bif (bounds pile.length none (some (IntKind.i64.wrap ((pile.length:Int) - c_2.1.1)))).1 then bif (x_.1 == 15) then bif Nat.ble ((pile.take (bounds pile.length none (some (IntKind.i64.wrap ((pile.length:Int) - c_2.1.1)))).2.2).length + ([IntKind.i64.wrap (c_3.1.1 + 1)]:List Int).length) maxN then tree_Scale.l6.rg F k0 t20 t21 xs (t22 + 1) ((pile.take (bounds pile.length none (some (IntKind.i64.wrap ((pile.length:Int) - c_2.1.1)))).2.2) ++ ([IntKind.i64.wrap (c_3.1.1 + 1)]:List Int))
       else none
      else bif Nat.ble ((pile.take (bounds pile.length none (some (IntKind.i64.wrap ((pile.length:Int) - c_2.1.1)))).2.2).length + ([c_3.1.1]:List Int).length) maxN then tree_Scale.l6.rg F k0 t20 t21 xs (t22 + 1) ((pile.take (bounds pile.length none (some (IntKind.i64.wrap ((pile.length:Int) - c_2.1.1)))).2.2) ++ ([c_3.1.1]:List Int))
      else none
     else none
    else none
   else bif (x_.1 == 15) then bif Nat.ble (pile.length + ([IntKind.i64.wrap (0 + 1)]:List Int).length) maxN then tree_Scale.l6.rg F k0 t20 t21 xs (t22 + 1) (pile ++ ([IntKind.i64.wrap (0 + 1)]:List Int))
    else none
   else bif Nat.ble (pile.length + ([0]:List Int).length) maxN then tree_Scale.l6.rg F k0 t20 t21 xs (t22 + 1) (pile ++ ([0]:List Int))
   else none
theorem tree_Scale.l6.rg_eq {R:Type} (F:Nat) (k0:(List tNode.T)→Int→Int→Bool→(List Int)→Option R) (t20:List tNode.T) (t21:Int) (hN:t21 = (t20.length:Int)) (hL:t20.length < 9223372036854775807):∀ (xs:List tNode.T) (i fu:Nat) (pile:List Int),t20.drop i = xs→xs.length < fu →
  tree_Scale.l6 F k0 fu t20 t21 (i:Int) pile = tree_Scale.l6.rg F k0 t20 t21 xs (i:Int) pile:=by
 intro xs
 induction xs with
 | nil =>
  intro i fu pile hZ hfZ
  obtain ⟨fu,rfl⟩:∃ k,fu = k + 1:=⟨fu - 1,by simp at hfZ; omega⟩
  have e1:=rg_ge hN (rg_end hZ)
  simp only [tree_Scale.l6,tree_Scale.l6.body,tree_Scale.l6.rg,e1,cond_false]
 | cons x_ xs ih =>
  intro i fu pile hZ hfZ
  obtain ⟨fu,rfl⟩:∃ k,fu = k + 1:=⟨fu - 1,by simp at hfZ; omega⟩
  have e0:=rg_len hZ
  have e1:=rg_lt hN e0
  have e2:=rg_idx e0
  have e3:=rg_get (t:=tNode) hZ
  have e4:=rg_wrap e0 hL
  have e5:∀ (pile:List Int),tree_Scale.l6 F k0 fu t20 t21 ((i:Int) + 1) pile = tree_Scale.l6.rg F k0 t20 t21 xs ((i:Int) + 1) pile:=fun pile=>by
   have:=ih (i + 1) fu pile (rg_next hZ) (by simp at hfZ; omega)
   rwa [rg_cast] at this
  simp only [tree_Scale.l6,tree_Scale.l6.body,tree_Scale.l6.rg,e1,e2,e3,e4,e5,cond_true]
def bound_meter_scale.l3.rg {R:Type} (F:Nat) (k0:(List tTier.T)→Int→(List tTier.T)→Int→Int→Bool→tBound_meter.T→tWide.T→tWide.T→tWide.T→Option R) (t13:List tTier.T) (t14:Int):List tTier.T→Int→(List tTier.T)→Int→tBound_meter.T→tWide.T→tWide.T→tWide.T→Option R
 | [],t15,tiers,rate,m,x,r6,ways=>k0 tiers rate t13 t14 t15 (decide (t15 < t14)) m x r6 ways
 | x_ :: xs,t15,tiers,rate,m,x,r6,ways =>
  oB (bound_far.sh F x_.2) fun c_1 =>
   bif decide ((IntKind.i64.wrap (t15 + 1)) < (tiers.length:Int)) then oB (bound_far.sh F x_.2) fun c_2 =>
    oB (wide_Of.sh F c_2.1.1) fun c_3 =>
    bif idx (IntKind.i64.wrap (t15 + 1)) tiers.length then oB (wide_Of.sh F (IntKind.i64.wrap ((get tTier tiers ((IntKind.i64.wrap (t15 + 1)).toNat)).1 - x_.1))) fun c_4 =>
     oB (bound_meter_mul.sh F m c_3.1.1 c_4.1.1) fun c_5 =>
     bif (((m.1.1 == c_5.2.1.1.1) && ((m.1.2 == c_5.2.1.1.2) && true)) && true) then oB (bound_meter_add.sh F c_5.2.1 ways c_5.1.1) fun c_6 =>
      bif (((c_5.2.1.1.1 == c_6.2.1.1.1) && ((c_5.2.1.1.2 == c_6.2.1.1.2) && true)) && true) then bound_meter_scale.l3.rg F k0 t13 t14 xs (t15 + 1) tiers (if c_1.1.1 > rate then c_1.1.1 else rate) c_6.2.1 x r6 c_6.1.1
      else none
     else none
    else none
   else bound_meter_scale.l3.rg F k0 t13 t14 xs (t15 + 1) tiers (if c_1.1.1 > rate then c_1.1.1 else rate) m x r6 ways
theorem bound_meter_scale.l3.rg_eq {R:Type} (F:Nat) (k0:(List tTier.T)→Int→(List tTier.T)→Int→Int→Bool→tBound_meter.T→tWide.T→tWide.T→tWide.T→Option R) (t13:List tTier.T) (t14:Int) (hN:t14 = (t13.length:Int)) (hL:t13.length < 9223372036854775807):∀ (xs:List tTier.T) (i fu:Nat) (tiers:List tTier.T) (rate:Int) (m:tBound_meter.T) (x:tWide.T) (r6:tWide.T) (ways:tWide.T),t13.drop i = xs→xs.length < fu →
  bound_meter_scale.l3 F k0 fu tiers rate t13 t14 (i:Int) m x r6 ways = bound_meter_scale.l3.rg F k0 t13 t14 xs (i:Int) tiers rate m x r6 ways:=by
 intro xs
 induction xs with
 | nil =>
  intro i fu tiers rate m x r6 ways hZ hfZ
  obtain ⟨fu,rfl⟩:∃ k,fu = k + 1:=⟨fu - 1,by simp at hfZ; omega⟩
  have e1:=rg_ge hN (rg_end hZ)
  simp only [bound_meter_scale.l3,bound_meter_scale.l3.body,bound_meter_scale.l3.rg,e1,cond_false]
 | cons x_ xs ih =>
  intro i fu tiers rate m x r6 ways hZ hfZ
  obtain ⟨fu,rfl⟩:∃ k,fu = k + 1:=⟨fu - 1,by simp at hfZ; omega⟩
  have e0:=rg_len hZ
  have e1:=rg_lt hN e0
  have e2:=rg_idx e0
  have e3:=rg_get (t:=tTier) hZ
  have e4:=rg_wrap e0 hL
  have e5:∀ (tiers:List tTier.T) (rate:Int) (m:tBound_meter.T) (x:tWide.T) (r6:tWide.T) (ways:tWide.T),bound_meter_scale.l3 F k0 fu tiers rate t13 t14 ((i:Int) + 1) m x r6 ways = bound_meter_scale.l3.rg F k0 t13 t14 xs ((i:Int) + 1) tiers rate m x r6 ways:=fun tiers rate m x r6 ways=>by
   have:=ih (i + 1) fu tiers rate m x r6 ways (rg_next hZ) (by simp at hfZ; omega)
   rwa [rg_cast] at this
  simp only [bound_meter_scale.l3,bound_meter_scale.l3.body,bound_meter_scale.l3.rg,e1,e2,e3,e4,e5,cond_true]
def wide_Sum.l4.rg {R:Type} (F:Nat) (k0:Int→Int→Int→(List tWide.T)→Int→Int→Bool→tWide.T→Option R) (t11:List tWide.T) (t12:Int):List tWide.T→Int→Int→Int→Int→tWide.T→Option R
 | [],t13,lo,hi,top,r2=>k0 lo hi top t11 t12 t13 (decide (t13 < t12)) r2
 | x_ :: xs,t13,lo,hi,top,r2 =>
  oB (math_bits_Add64.sh F lo x_.2 0) fun c_1 =>
   oB (math_bits_Add64.sh F hi (IntKind.u64.wrap x_.1) c_1.1.2.1) fun c_2 =>
   wide_Sum.l4.rg F k0 t11 t12 xs (t13 + 1) c_1.1.1 c_2.1.1 (IntKind.i64.wrap (top + (IntKind.i64.wrap ((x_.1.fdiv (2 ^ (min (63:Int).toNat IntKind.i64.bits))) + (IntKind.i64.wrap c_2.1.2.1))))) r2
theorem wide_Sum.l4.rg_eq {R:Type} (F:Nat) (k0:Int→Int→Int→(List tWide.T)→Int→Int→Bool→tWide.T→Option R) (t11:List tWide.T) (t12:Int) (hN:t12 = (t11.length:Int)) (hL:t11.length < 9223372036854775807):∀ (xs:List tWide.T) (i fu:Nat) (lo:Int) (hi:Int) (top:Int) (r2:tWide.T),t11.drop i = xs→xs.length < fu →
  wide_Sum.l4 F k0 fu lo hi top t11 t12 (i:Int) r2 = wide_Sum.l4.rg F k0 t11 t12 xs (i:Int) lo hi top r2:=by
 intro xs
 induction xs with
 | nil =>
  intro i fu lo hi top r2 hZ hfZ
  obtain ⟨fu,rfl⟩:∃ k,fu = k + 1:=⟨fu - 1,by simp at hfZ; omega⟩
  have e1:=rg_ge hN (rg_end hZ)
  simp only [wide_Sum.l4,wide_Sum.l4.body,wide_Sum.l4.rg,e1,cond_false]
 | cons x_ xs ih =>
  intro i fu lo hi top r2 hZ hfZ
  obtain ⟨fu,rfl⟩:∃ k,fu = k + 1:=⟨fu - 1,by simp at hfZ; omega⟩
  have e0:=rg_len hZ
  have e1:=rg_lt hN e0
  have e2:=rg_idx e0
  have e3:=rg_get (t:=tWide) hZ
  have e4:=rg_wrap e0 hL
  have e5:∀ (lo:Int) (hi:Int) (top:Int) (r2:tWide.T),wide_Sum.l4 F k0 fu lo hi top t11 t12 ((i:Int) + 1) r2 = wide_Sum.l4.rg F k0 t11 t12 xs ((i:Int) + 1) lo hi top r2:=fun lo hi top r2=>by
   have:=ih (i + 1) fu lo hi top r2 (rg_next hZ) (by simp at hfZ; omega)
   rwa [rg_cast] at this
  simp only [wide_Sum.l4,wide_Sum.l4.body,wide_Sum.l4.rg,e1,e2,e3,e4,e5,cond_true]
def bound_measured.l4.rg {R:Type} (F:Nat) (k0:(List tWide.T)→Int→Option R) (k1:(List tNode.T)→Int→Int→Bool→tPlan.T→tBound_meter.T→(List tWide.T)→(List tWide.T)→Option R) (t17:List tNode.T) (t18:Int):List tNode.T→Int→tPlan.T→tBound_meter.T→(List tWide.T)→(List tWide.T)→Option R
 | [],t19,p,m,mags,pile=>k1 t17 t18 t19 (decide (t19 < t18)) p m mags pile
 | x_ :: xs,t19,p,m,mags,pile =>
  oB (bound_takes.sh F x_) fun c_1 =>
   bif (bounds pile.length (some (IntKind.i64.wrap ((pile.length:Int) - c_1.1.1))) none).1 then oB (bound_meter_node.sh F m p x_ ((List.take (bounds pile.length (some (IntKind.i64.wrap ((pile.length:Int) - c_1.1.1))) none).2.2 pile).drop (bounds pile.length (some (IntKind.i64.wrap ((pile.length:Int) - c_1.1.1))) none).2.1)) fun c_2 =>
    bif c_2.2.1.2 then k0 ([]) t19
    else oB (bound_above.sh F x_ c_2.1.1) fun c_3 =>
    bif c_3.1.1 then k0 ([]) t19
    else bif Nat.ble (mags.length + ([c_2.1.1]:List tWide.T).length) maxN then bif (bounds pile.length none (some (IntKind.i64.wrap ((pile.length:Int) - c_1.1.1)))).1 then bif Nat.ble ((bounds pile.length none (some (IntKind.i64.wrap ((pile.length:Int) - c_1.1.1)))).2.2 + ([c_2.1.1]:List tWide.T).length) maxN then bound_measured.l4.rg F k0 k1 t17 t18 xs (t19 + 1) p c_2.2.1 (mags ++ ([c_2.1.1]:List tWide.T)) (pile.take (bounds pile.length none (some (IntKind.i64.wrap ((pile.length:Int) - c_1.1.1)))).2.2 ++ ([c_2.1.1]:List tWide.T))
      else none
     else none
    else none
   else none
theorem bound_measured.l4.rg_eq {R:Type} (F:Nat) (k0:(List tWide.T)→Int→Option R) (k1:(List tNode.T)→Int→Int→Bool→tPlan.T→tBound_meter.T→(List tWide.T)→(List tWide.T)→Option R) (t17:List tNode.T) (t18:Int) (hN:t18 = (t17.length:Int)) (hL:t17.length < 9223372036854775807):∀ (xs:List tNode.T) (i fu:Nat) (p:tPlan.T) (m:tBound_meter.T) (mags:List tWide.T) (pile:List tWide.T),t17.drop i = xs→xs.length < fu →
  bound_measured.l4 F k0 k1 fu t17 t18 (i:Int) p m mags pile = bound_measured.l4.rg F k0 k1 t17 t18 xs (i:Int) p m mags pile:=by
 intro xs
 induction xs with
 | nil =>
  intro i fu p m mags pile hZ hfZ
  obtain ⟨fu,rfl⟩:∃ k,fu = k + 1:=⟨fu - 1,by simp at hfZ; omega⟩
  have e1:=rg_ge hN (rg_end hZ)
  simp only [bound_measured.l4,bound_measured.l4.body,bound_measured.l4.rg,e1,cond_false]
 | cons x_ xs ih =>
  intro i fu p m mags pile hZ hfZ
  obtain ⟨fu,rfl⟩:∃ k,fu = k + 1:=⟨fu - 1,by simp at hfZ; omega⟩
  have e0:=rg_len hZ
  have e1:=rg_lt hN e0
  have e2:=rg_idx e0
  have e3:=rg_get (t:=tNode) hZ
  have e4:=rg_wrap e0 hL
  have e5:∀ (p:tPlan.T) (m:tBound_meter.T) (mags:List tWide.T) (pile:List tWide.T),bound_measured.l4 F k0 k1 fu t17 t18 ((i:Int) + 1) p m mags pile = bound_measured.l4.rg F k0 k1 t17 t18 xs ((i:Int) + 1) p m mags pile:=fun p m mags pile=>by
   have:=ih (i + 1) fu p m mags pile (rg_next hZ) (by simp at hfZ; omega)
   rwa [rg_cast] at this
  simp only [bound_measured.l4,bound_measured.l4.body,bound_measured.l4.rg,e1,e2,e3,e4,e5,cond_true]
def normal_maker_made.l19.rg {R:Type} (F:Nat) (k0:(Nat×tNormal_maker.T)→(List (List tPiece.T))→Int→Int→Int→(List tLine.T)→Int→Int→Bool→tNormal_maker.T→tLine.T→(List tPiece.T)→(List Int)→(List tLine.T)→Option R) (t102:List tLine.T) (t103:Int):List tLine.T→Int→(Nat×tNormal_maker.T)→(List (List tPiece.T))→Int→Int→Int→tNormal_maker.T→tLine.T→(List tPiece.T)→(List Int)→(List tLine.T)→Option R
 | [],t104,of,kids,runs,q,next,m,l,out,at_,lines=>k0 of kids runs q next t102 t103 t104 (decide (t104 < t103)) m l out at_ lines
 | x_ :: xs,t104,of,kids,runs,q,next,m,l,out,at_,lines =>
  oB (line_Flip.sh F x_ m.2.2 q) fun c_4 =>
   normal_maker_made.l19.rg F k0 t102 t103 xs (t104 + 1) of kids runs q (if c_4.1.1 < next then c_4.1.1 else next) m l out at_ lines
theorem normal_maker_made.l19.rg_eq {R:Type} (F:Nat) (k0:(Nat×tNormal_maker.T)→(List (List tPiece.T))→Int→Int→Int→(List tLine.T)→Int→Int→Bool→tNormal_maker.T→tLine.T→(List tPiece.T)→(List Int)→(List tLine.T)→Option R) (t102:List tLine.T) (t103:Int) (hN:t103 = (t102.length:Int)) (hL:t102.length < 9223372036854775807):∀ (xs:List tLine.T) (i fu:Nat) (of:Nat×tNormal_maker.T) (kids:List (List tPiece.T)) (runs:Int) (q:Int) (next:Int) (m:tNormal_maker.T) (l:tLine.T) (out:List tPiece.T) (at_:List Int) (lines:List tLine.T),t102.drop i = xs→xs.length < fu →
  normal_maker_made.l19 F k0 fu of kids runs q next t102 t103 (i:Int) m l out at_ lines = normal_maker_made.l19.rg F k0 t102 t103 xs (i:Int) of kids runs q next m l out at_ lines:=by
 intro xs
 induction xs with
 | nil =>
  intro i fu of kids runs q next m l out at_ lines hZ hfZ
  obtain ⟨fu,rfl⟩:∃ k,fu = k + 1:=⟨fu - 1,by simp at hfZ; omega⟩
  have e1:=rg_ge hN (rg_end hZ)
  simp only [normal_maker_made.l19,normal_maker_made.l19.body,normal_maker_made.l19.rg,e1,cond_false]
 | cons x_ xs ih =>
  intro i fu of kids runs q next m l out at_ lines hZ hfZ
  obtain ⟨fu,rfl⟩:∃ k,fu = k + 1:=⟨fu - 1,by simp at hfZ; omega⟩
  have e0:=rg_len hZ
  have e1:=rg_lt hN e0
  have e2:=rg_idx e0
  have e3:=rg_get (t:=tLine) hZ
  have e4:=rg_wrap e0 hL
  have e5:∀ (of:Nat×tNormal_maker.T) (kids:List (List tPiece.T)) (runs:Int) (q:Int) (next:Int) (m:tNormal_maker.T) (l:tLine.T) (out:List tPiece.T) (at_:List Int) (lines:List tLine.T),normal_maker_made.l19 F k0 fu of kids runs q next t102 t103 ((i:Int) + 1) m l out at_ lines = normal_maker_made.l19.rg F k0 t102 t103 xs ((i:Int) + 1) of kids runs q next m l out at_ lines:=fun of kids runs q next m l out at_ lines=>by
   have:=ih (i + 1) fu of kids runs q next m l out at_ lines (rg_next hZ) (by simp at hfZ; omega)
   rwa [rg_cast] at this
  simp only [normal_maker_made.l19,normal_maker_made.l19.body,normal_maker_made.l19.rg,e1,e2,e3,e4,e5,cond_true]
def normal_maker_all.l5.rg {R:Type} (F:Nat) (k0:(List tPiece.T)→Bool→Option R) (k1:(Nat×tNormal_maker.T)→(List tPiece.T)→(List (List tPiece.T))→Int→Int→Bool→tNormal_maker.T→Option R) (t32:List (List tPiece.T)) (t33:Int):List (List tPiece.T)→Int→(Nat×tNormal_maker.T)→(List tPiece.T)→tNormal_maker.T→Option R
 | [],t34,of,made,m=>k1 of made t32 t33 t34 (decide (t34 < t33)) m
 | x_ :: xs,t34,of,made,m =>
  oB (normal_maker_made.sh F m of ([made,x_]:List (List tPiece.T))) fun c_2 =>
   bif !c_2.1.2.1 then k0 ([]) false
   else normal_maker_all.l5.rg F k0 k1 t32 t33 xs (t34 + 1) of c_2.1.1 m
theorem normal_maker_all.l5.rg_eq {R:Type} (F:Nat) (k0:(List tPiece.T)→Bool→Option R) (k1:(Nat×tNormal_maker.T)→(List tPiece.T)→(List (List tPiece.T))→Int→Int→Bool→tNormal_maker.T→Option R) (t32:List (List tPiece.T)) (t33:Int) (hN:t33 = (t32.length:Int)) (hL:t32.length < 9223372036854775807):∀ (xs:List (List tPiece.T)) (i fu:Nat) (of:Nat×tNormal_maker.T) (made:List tPiece.T) (m:tNormal_maker.T),t32.drop i = xs→xs.length < fu →
  normal_maker_all.l5 F k0 k1 fu of made t32 t33 (i:Int) m = normal_maker_all.l5.rg F k0 k1 t32 t33 xs (i:Int) of made m:=by
 intro xs
 induction xs with
 | nil =>
  intro i fu of made m hZ hfZ
  obtain ⟨fu,rfl⟩:∃ k,fu = k + 1:=⟨fu - 1,by simp at hfZ; omega⟩
  have e1:=rg_ge hN (rg_end hZ)
  simp only [normal_maker_all.l5,normal_maker_all.l5.body,normal_maker_all.l5.rg,e1,cond_false]
 | cons x_ xs ih =>
  intro i fu of made m hZ hfZ
  obtain ⟨fu,rfl⟩:∃ k,fu = k + 1:=⟨fu - 1,by simp at hfZ; omega⟩
  have e0:=rg_len hZ
  have e1:=rg_lt hN e0
  have e2:=rg_idx e0
  have e3:=rg_get (t:=(.sl tPiece)) hZ
  have e4:=rg_wrap e0 hL
  have e5:∀ (of:Nat×tNormal_maker.T) (made:List tPiece.T) (m:tNormal_maker.T),normal_maker_all.l5 F k0 k1 fu of made t32 t33 ((i:Int) + 1) m = normal_maker_all.l5.rg F k0 k1 t32 t33 xs ((i:Int) + 1) of made m:=fun of made m=>by
   have:=ih (i + 1) fu of made m (rg_next hZ) (by simp at hfZ; omega)
   rwa [rg_cast] at this
  simp only [normal_maker_all.l5,normal_maker_all.l5.body,normal_maker_all.l5.rg,e1,e2,e3,e4,e5,cond_true]
def normal_Table.l9.rg {R:Type} (F:Nat) (k0:Int→Int→tTable.T→Option R) (k1:Int→(List tNode.T)→Int→Int→Bool→tPlan.T→tTable.T→tWide.T→(List (List tPiece.T))→Option R) (t41:List tNode.T) (t42:Int):List tNode.T→Int→Int→tPlan.T→tTable.T→tWide.T→(List (List tPiece.T))→Option R
 | [],t43,scale,p,r2,unit,pile=>k1 scale t41 t42 t43 (decide (t43 < t42)) p r2 unit pile
 | x_ :: xs,t43,scale,p,r2,unit,pile =>
  bif idx 0 p.2.1.length then bif decide (x_.1 ≤ 4) then oB (normal_maker_leaf.sh F (x_,unit,(get tDim p.2.1 0).2)) fun c_3 =>
     bif Nat.ble (pile.length + ([c_3.1.1]:List (List tPiece.T)).length) maxN then normal_Table.l9.rg F k0 k1 t41 t42 xs (t43 + 1) scale p r2 unit (pile ++ ([c_3.1.1]:List (List tPiece.T)))
     else none
    else oB (normal_maker_choices.sh F (x_,unit,(get tDim p.2.1 0).2)) fun c_4 =>
    bif (bounds pile.length (some (IntKind.i64.wrap ((pile.length:Int) - c_4.1.2.1))) none).1 then oB (normal_maker_all.sh F (x_,unit,(get tDim p.2.1 0).2) c_4.1.1 ((List.take (bounds pile.length (some (IntKind.i64.wrap ((pile.length:Int) - c_4.1.2.1))) none).2.2 pile).drop (bounds pile.length (some (IntKind.i64.wrap ((pile.length:Int) - c_4.1.2.1))) none).2.1)) fun c_5 =>
     bif !c_5.1.2.1 then k0 t43 120 (0,0,[])
     else bif (bounds pile.length none (some (IntKind.i64.wrap ((pile.length:Int) - c_4.1.2.1)))).1 then bif Nat.ble ((bounds pile.length none (some (IntKind.i64.wrap ((pile.length:Int) - c_4.1.2.1)))).2.2 + ([c_5.1.1]:List (List tPiece.T)).length) maxN then normal_Table.l9.rg F k0 k1 t41 t42 xs (t43 + 1) scale p r2 unit (pile.take (bounds pile.length none (some (IntKind.i64.wrap ((pile.length:Int) - c_4.1.2.1)))).2.2 ++ ([c_5.1.1]:List (List tPiece.T)))
      else none
     else none
    else none
   else none
theorem normal_Table.l9.rg_eq {R:Type} (F:Nat) (k0:Int→Int→tTable.T→Option R) (k1:Int→(List tNode.T)→Int→Int→Bool→tPlan.T→tTable.T→tWide.T→(List (List tPiece.T))→Option R) (t41:List tNode.T) (t42:Int) (hN:t42 = (t41.length:Int)) (hL:t41.length < 9223372036854775807):∀ (xs:List tNode.T) (i fu:Nat) (scale:Int) (p:tPlan.T) (r2:tTable.T) (unit:tWide.T) (pile:List (List tPiece.T)),t41.drop i = xs→xs.length < fu →
  normal_Table.l9 F k0 k1 fu scale t41 t42 (i:Int) p r2 unit pile = normal_Table.l9.rg F k0 k1 t41 t42 xs (i:Int) scale p r2 unit pile:=by
 intro xs
 induction xs with
 | nil =>
  intro i fu scale p r2 unit pile hZ hfZ
  obtain ⟨fu,rfl⟩:∃ k,fu = k + 1:=⟨fu - 1,by simp at hfZ; omega⟩
  have e1:=rg_ge hN (rg_end hZ)
  simp only [normal_Table.l9,normal_Table.l9.body,normal_Table.l9.rg,e1,cond_false]
 | cons x_ xs ih =>
  intro i fu scale p r2 unit pile hZ hfZ
  obtain ⟨fu,rfl⟩:∃ k,fu = k + 1:=⟨fu - 1,by simp at hfZ; omega⟩
  have e0:=rg_len hZ
  have e1:=rg_lt hN e0
  have e2:=rg_idx e0
  have e3:=rg_get (t:=tNode) hZ
  have e4:=rg_wrap e0 hL
  have e5:∀ (scale:Int) (p:tPlan.T) (r2:tTable.T) (unit:tWide.T) (pile:List (List tPiece.T)),normal_Table.l9 F k0 k1 fu scale t41 t42 ((i:Int) + 1) p r2 unit pile = normal_Table.l9.rg F k0 k1 t41 t42 xs ((i:Int) + 1) scale p r2 unit pile:=fun scale p r2 unit pile=>by
   have:=ih (i + 1) fu scale p r2 unit pile (rg_next hZ) (by simp at hfZ; omega)
   rwa [rg_cast] at this
  simp only [normal_Table.l9,normal_Table.l9.body,normal_Table.l9.rg,e1,e2,e3,e4,e5,cond_true]
end Go.VS
