import Derived.Test.YthekefnghiaocaaDoorL23
set_option linter.unusedVariables false
set_option linter.unusedSimpArgs false
set_option linter.unusedSectionVars false
set_option linter.unusedVariables false
set_option linter.unusedSimpArgs false
set_option maxRecDepth 100000
namespace Go.VS
open Go
def joinK (k c:Int):Prop:=(k = 6∧c = 0) ∨ (k = 7∧c = 0) ∨ (k = 9∧c = 2) ∨ (k = 10∧c = 2)
abbrev jN (k c:Int):tNode.T:=(k,0,0,c,[],0)
theorem jN_ar {k c:Int} (h:joinK k c):ar (jN k c) = 2:=by
 rcases h with ⟨rfl,rfl⟩ | ⟨rfl,rfl⟩ | ⟨rfl,rfl⟩ | ⟨rfl,rfl⟩ <;> rfl
theorem jN_node {k c:Int} (h:joinK k c) (dims:Nat):nodeE dims (jN k c) 2 = 0:=by
 rcases h with ⟨rfl,rfl⟩ | ⟨rfl,rfl⟩ | ⟨rfl,rfl⟩ | ⟨rfl,rfl⟩ <;> rfl
theorem join_good {name:ByteArray} {D:List tDim.T} {m:Int} {np nq:List tNode.T} {tp tq:Tree} (gp:Good (name,D,m,np) tp) (gq:Good (name,D,m,nq) tq) (hlen:np.length + nq.length < 1024) {k c:Int} (hk:joinK k c) :
  Good (name,D,m,(np ++ nq) ++ [jN k c]) (.nd (jN k c) [tp,tq]):=by
 have hq:=frame D.length [tp] nq [] gq.ok
 have he2:endT [] (np ++ nq) = [tp,tq]:=by
  rw [endT_app,show endT [] np = [tp] from gp.eq]
  have:=hq.2.2
  rw [List.append_nil] at this
  rw [this,show endT [] nq = [tq] from gq.eq]
  rfl
 refine ⟨gp.head,by show ((np ++ nq) ++ [jN k c]).length ≤ 1024; simp; omega,?_,?_⟩
 ·show okS D.length [] ((np ++ nq) ++ [jN k c])
  rw [okS_app,okS_app,he2]
  refine ⟨⟨gp.ok,?_⟩,?_,trivial⟩
  ·rw [show endT [] np = [tp] from gp.eq]; have:=hq.1; rwa [List.append_nil] at this
  ·exact jN_node hk D.length
 ·show endT [] ((np ++ nq) ++ [jN k c]) = _
  rw [endT_app,he2]
  show stepT [tp,tq] (jN k c) = _
  unfold stepT topT
  rw [jN_ar hk]
  rfl
theorem jN_ty {k c:Int} (h:joinK k c) (a b:Int):tyN (jN k c) [a,b] = oneL [a,b]:=by
 rcases h with ⟨rfl,rfl⟩ | ⟨rfl,rfl⟩ | ⟨rfl,rfl⟩ | ⟨rfl,rfl⟩ <;> rfl
def jV (k x y:Int):Int:=bif k == 6 then x + y else bif k == 7 then x - y else bif k == 9 then minL [x,y] else maxL [x,y]
theorem jN_ev {k c:Int} (h:joinK k c) (u:Int) (D:List tDim.T) (q:List Int) (x y:Int):evN u D q (jN k c) [x,y] = jV k x y:=by
 rcases h with ⟨rfl,rfl⟩ | ⟨rfl,rfl⟩ | ⟨rfl,rfl⟩ | ⟨rfl,rfl⟩ <;> rfl
theorem join_unit {D:List tDim.T} {tp tq:Tree} (hp:(unitR D tp).2.2 = 0) (hq:(unitR D tq).2.2 = 0) (hu:unitV tp = unitV tq) {k c:Int} (hk:joinK k c) :
  unitV (.nd (jN k c) [tp,tq]) = unitV tp∧((unitR D (.nd (jN k c) [tp,tq])).2.2 = 90 ∨ (unitR D (.nd (jN k c) [tp,tq])).2.2 = 0):=by
 obtain ⟨a1,a2,a3,a4⟩:=unitR_ok hp
 obtain ⟨b1,b2,b3,b4⟩:=unitR_ok hq
 have tp1:=typesR_ok a1
 have tq1:=typesR_ok b1
 have hdp:=(deep_bd tp).1
 have hdq:=(deep_bd tq).1
 have hdd:deep tp = deep tq:=by
  have:=pow_inj hu
  omega
 have hsubs:Tree.subs (.nd (jN k c) [tp,tq]) = (tp.subs ++ tq.subs) ++ [.nd (jN k c) [tp,tq]]:=by
  rw [subs_nd]; simp [subss]
 have hty:ty (.nd (jN k c) [tp,tq]) = 1:=by
  rw [ty_nd]; simp only [List.map_cons,List.map_nil,tp1.2,tq1.2]; rw [jN_ty hk]; rfl
 have htyE:firstE tyE (Tree.subs (.nd (jN k c) [tp,tq])) 0 = none:=by
  rw [hsubs,firstE_app,firstE_app,tp1.1]
  simp only
  rw [firstE_none _ tq1.1]
  simp only [firstE]
  have hl:∀ fs,linE (jN k c) fs = false:=by
   intro fs
   rcases hk with ⟨rfl,rfl⟩ | ⟨rfl,rfl⟩ | ⟨rfl,rfl⟩ | ⟨rfl,rfl⟩ <;> rfl
  have:tyE (.nd (jN k c) [tp,tq]) = 0:=by
   unfold tyE
   rw [hty,show (Tree.nd (jN k c) [tp,tq]).root = jN k c from rfl,hl]
   rfl
  rw [this]; rfl
 have hdeep:deep (.nd (jN k c) [tp,tq]) = deep tp:=by
  rw [deep_nd]; simp only [List.map_cons,List.map_nil,← hdd]
  have h15:(nK (jN k c) == 15) = false:=by rcases hk with ⟨rfl,rfl⟩ | ⟨rfl,rfl⟩ | ⟨rfl,rfl⟩ | ⟨rfl,rfl⟩ <;> rfl
  rw [h15]
  show (maxF (deep tp) [deep tp]) + 0 = deep tp
  simp [maxF]
 refine ⟨by unfold unitV; rw [hdeep],?_⟩
 rw [unitR_of htyE hty (by omega)]
 cases decide ((measR (unitV (.nd (jN k c) [tp,tq])) D (.nd (jN k c) [tp,tq])).2 ≥ 0) with
 | true=>exact .inl rfl
 | false=>exact .inr rfl
theorem join_exact {name:ByteArray} {D:List tDim.T} {m:Int} {np nq:List tNode.T} {tp tq:Tree} (gp:Good (name,D,m,np) tp) (gq:Good (name,D,m,nq) tq) (hlen:np.length + nq.length < 1024) {q:List Int}
  (hp:(exactR D tp q).2 = 0) (hq:(exactR D tq q).2 = 0) (hu:unitV tp = unitV tq) {k c:Int} (hk:joinK k c) :
  ∃ w e,eval_Exact.sh FU (name,D,m,(np ++ nq) ++ [jN k c]) q = some ((w,e,()),())∧(e = 90 ∨ (e = 0∧w = mk (jV k (ev (unitV tp) D q tp) (ev (unitV tp) D q tq)))):=by
 have g:=join_good gp gq hlen hk
 obtain ⟨x1,x2⟩:=exact_ok hp
 obtain ⟨y1,y2⟩:=exact_ok hq
 obtain ⟨v1,v2,v3,v4⟩:=vals_ok x1
 obtain ⟨w1,w2,w3,w4⟩:=vals_ok y1
 obtain ⟨j1,j2⟩:=join_unit v1 w1 hu hk
 refine ⟨_,_,Exact_eq g q,?_⟩
 show (exactR D (.nd (jN k c) [tp,tq]) q).2 = 90 ∨ _
 rcases j2 with j2 | j2
 ·have hv:(valsR D (.nd (jN k c) [tp,tq]) q).2 = 90:=by unfold valsR; rw [j2]; rfl
  left
  unfold exactR
  rw [hv]
  rfl
 ·have hv:(valsR D (.nd (jN k c) [tp,tq]) q).2 = 0:=by
   unfold valsR
   rw [j2,v2,v3]
   simp
  have hx:exactR D (.nd (jN k c) [tp,tq]) q = (mk (ev (unitV tp) D q (.nd (jN k c) [tp,tq])),0):=by
   unfold exactR
   rw [hv,j1]
   rfl
  right
  rw [show (exactR (name,D,m,(np ++ nq) ++ [jN k c]).2.1 (.nd (jN k c) [tp,tq]) q) = exactR D (.nd (jN k c) [tp,tq]) q from rfl,hx,ev_nd]
  exact ⟨rfl,by rw [show [tp,tq].map (ev (unitV tp) D q) = [ev (unitV tp) D q tp,ev (unitV tp) D q tq] from rfl,jN_ev hk]⟩
abbrev sumsN:List tNode.T:=[(6,0,0,0,[],0),(7,0,0,0,[],0),(9,0,0,2,[],0),(10,0,0,2,[],0)]
theorem eq_self (w:Int×Int):(!((w.1 == w.1) && ((w.2 == w.2) && true))) = false:=by simp
theorem sums_l20 (F:Nat) {R:Type} (k0:Bool→Option R) (kk:Option R) (q:List Int) (p p':tPlan.T) (want:tWide.T×tWide.T×tWide.T×tWide.T) (hlen:p.2.2.2.length + p'.2.2.2.length < 1024)
  (H:∀ (k c:Int) (v:tWide.T),joinK k c→v = (bif k == 6 then want.1 else bif k == 7 then want.2.1 else bif k == 9 then want.2.2.1 else want.2.2.2) →
   ∃ w e,eval_Exact.sh F (p.1,p.2.1,p.2.2.1,(p.2.2.2 ++ p'.2.2.2) ++ [jN k c]) q = some ((w,e,()),())∧(e = 90 ∨ (e = 0∧w = v))) :
  ∀ (n i fu:Nat),i + n = 4→n < fu→octroilaw10_EvalSums.l20 F k0 (fun _ _ _ _ _ _ _=>kk) fu q sumsN (i:Int) p p' want = kk
 | n,i,0,h,hf=>by omega
 | 0,i,fu + 1,h,hf=>by
  simp only [octroilaw10_EvalSums.l20,octroilaw10_EvalSums.l20.body]
  rw [decide_eq_false (show ¬ (i:Int) < 4 by omega)]
  rfl
 | n + 1,i,fu + 1,h,hf=>by
  have IH:=sums_l20 F k0 kk q p p' want hlen H n (i + 1) fu (by omega) (by omega)
  have hi:i = 0 ∨ i = 1 ∨ i = 2 ∨ i = 3:=by omega
  simp only [octroilaw10_EvalSums.l20,octroilaw10_EvalSums.l20.body]
  rw [decide_eq_true (show (i:Int) < 4 by omega),cond_true,ble_of (show 0 + p.2.2.2.length ≤ 4194304 by omega),cond_true,ble_of (show p.2.2.2.length + p'.2.2.2.length ≤ 4194304 by omega),cond_true,show idx (i:Int) sumsN.length = true from rg_idx (show i < 4 by omega),cond_true,
   ble_of (show (p.2.2.2 ++ p'.2.2.2).length + ([get tNode sumsN ((i:Int)).toNat]:List tNode.T).length ≤ 4194304 by simp; omega),cond_true,show idx (i:Int) 4 = true from rg_idx (show i < 4 by omega),wrap_i64 (n:=(i:Int) + 1) (by omega) (by omega)]
  rw [show (i:Int) + 1 = ((i + 1:Nat):Int) by omega,IH]
  rcases hi with rfl | rfl | rfl | rfl
  ·obtain ⟨w,e,h1,h2⟩:=H 6 0 want.1 (.inl ⟨rfl,rfl⟩) rfl
   rw [show get tNode sumsN (((0:Nat):Int)).toNat = jN 6 0 from rfl,h1,oB_some]
   rcases h2 with rfl | ⟨rfl,rfl⟩
   ·rfl
   ·show (bif !((want.1.1 == want.1.1) && ((want.1.2 == want.1.2) && true)) then k0 false else kk) = kk
    rw [eq_self]; rfl
  ·obtain ⟨w,e,h1,h2⟩:=H 7 0 want.2.1 (.inr (.inl ⟨rfl,rfl⟩)) rfl
   rw [show get tNode sumsN (((1:Nat):Int)).toNat = jN 7 0 from rfl,h1,oB_some]
   rcases h2 with rfl | ⟨rfl,rfl⟩
   ·rfl
   ·show (bif !((want.2.1.1 == want.2.1.1) && ((want.2.1.2 == want.2.1.2) && true)) then k0 false else kk) = kk
    rw [eq_self]; rfl
  ·obtain ⟨w,e,h1,h2⟩:=H 9 2 want.2.2.1 (.inr (.inr (.inl ⟨rfl,rfl⟩))) rfl
   rw [show get tNode sumsN (((2:Nat):Int)).toNat = jN 9 2 from rfl,h1,oB_some]
   rcases h2 with rfl | ⟨rfl,rfl⟩
   ·rfl
   ·show (bif !((want.2.2.1.1 == want.2.2.1.1) && ((want.2.2.1.2 == want.2.2.1.2) && true)) then k0 false else kk) = kk
    rw [eq_self]; rfl
  ·obtain ⟨w,e,h1,h2⟩:=H 10 2 want.2.2.2 (.inr (.inr (.inr ⟨rfl,rfl⟩))) rfl
   rw [show get tNode sumsN (((3:Nat):Int)).toNat = jN 10 2 from rfl,h1,oB_some]
   rcases h2 with rfl | ⟨rfl,rfl⟩
   ·rfl
   ·show (bif !((want.2.2.2.1 == want.2.2.2.1) && ((want.2.2.2.2 == want.2.2.2.2) && true)) then k0 false else kk) = kk
    rw [eq_self]; rfl
theorem exact_unit (p:tPlan.T) (q:List Int):∃ w e u b f,eval_Exact.sh FU p q = some ((w,e,()),())∧bound_Unit.sh FU p = some ((u,b,f,()),()) ∧
  (e = 0→∃ t,Good p t∧(exactR p.2.1 t q).2 = 0∧w = mk (ev (unitV t) p.2.1 q t)∧u = mk (unitV t)∧-BND ≤ ev (unitV t) p.2.1 q t∧ev (unitV t) p.2.1 q t ≤ BND):=by
 by_cases h:(checkS p).2 = 0
 ·obtain ⟨t,ht⟩:=check_ok h
  refine ⟨_,_,_,_,_,Exact_eq ht q,Unit_eq ht,fun he=>⟨t,ht,he,?_⟩⟩
  obtain ⟨x1,x2⟩:=exact_ok he
  obtain ⟨v1,v2,v3,v4⟩:=vals_ok x1
  obtain ⟨u1,u2,u3,u4,u5⟩:=unit_ok ht v1
  have hI:=plan_inv ht x1 t (subs_self t)
  have i1:=hI.lo
  have i2:=hI.hi
  have i3:=hI.bd
  exact ⟨by rw [x2],by rw [u5],by omega,by omega⟩
 ·exact ⟨_,_,_,_,_,Exact_bad h q,Unit_bad h,fun he=>absurd he h⟩
theorem sums_law (p q:tPlan.T) (a:List Int):octroilaw10_EvalSums.sh FU p q a = some ((true,()),()):=by
 unfold octroilaw10_EvalSums.sh
 rw [awake_eq,oB_some,show (!(((true,()),()):(Bool×Unit)×Unit).1.1) = false from rfl,cond_false]
 obtain ⟨x,e,u,b,f,p1,p2,p3⟩:=exact_unit p a
 obtain ⟨y,e',u',b',f',q1,q2,q3⟩:=exact_unit (p.1,p.2.1,p.2.2.1,q.2.2.2) a
 rw [p1,oB_some,q1,oB_some,p2,oB_some,q2,oB_some]
 show (bif (e != 0) then _ else bif (e' != 0) then _ else bif (f != 0) then _ else bif (f' != 0) then _ else bif !((u.1 == u'.1) && ((u.2 == u'.2) && true)) then _ else bif decide (IntKind.i64.wrap ((p.2.2.2.length:Int) + (q.2.2.2.length:Int)) ≥ 1024) then _ else _) = _
 by_cases he:e = 0
 case neg=>rw [show (e != 0) = true by simpa using he,cond_true]
 by_cases he':e' = 0
 case neg=>rw [show (e' != 0) = true by simpa using he',cond_true]; cases (e != 0) <;> rfl
 obtain ⟨tp,gp,xp,hx,hu,bp1,bp2⟩:=p3 he
 obtain ⟨tq,gq,xq,hy,hu',bq1,bq2⟩:=q3 he'
 rw [he,he',show ((0:Int) != 0) = false from rfl,cond_false,cond_false]
 cases (f != 0) with
 | true=>rw [cond_true]
 | false =>
 cases (f' != 0) with
 | true=>rw [cond_false,cond_true]
 | false =>
 rw [cond_false,cond_false]
 cases hne:(!((u.1 == u'.1) && ((u.2 == u'.2) && true))) with
 | true=>rw [cond_true]
 | false =>
 have hlp:=gp.len
 have hlq:q.2.2.2.length ≤ 1024:=gq.len
 rw [cond_false,wrap_i64 (n:=(p.2.2.2.length:Int) + (q.2.2.2.length:Int)) (by omega) (by omega)]
 cases hlen:decide ((p.2.2.2.length:Int) + (q.2.2.2.length:Int) ≥ 1024) with
 | true=>rw [cond_true]
 | false =>
 have hlen:=of_decide_eq_false hlen
 rw [cond_false]
 have huv:unitV tp = unitV tq:=by
  simp only [Bool.and_true,Bool.not_eq_false',Bool.and_eq_true,beq_iff_eq] at hne
  rw [hu,hu'] at hne
  exact mk_inj (by ext; exact hne.1; exact hne.2)
 have hBND:BND = 1329227995784915872903807060280344576:=rfl
 have J:∀ {k c:Int},joinK k c→∃ w e,eval_Exact.sh FU (p.1,p.2.1,p.2.2.1,(p.2.2.2 ++ q.2.2.2) ++ [jN k c]) a = some ((w,e,()),())∧(e = 90 ∨ (e = 0∧w = mk (jV k (ev (unitV tp) p.2.1 a tp) (ev (unitV tq) p.2.1 a tq)))):=fun hk=>by
  have:=join_exact (name:=p.1) (D:=p.2.1) (m:=p.2.2.1) (np:=p.2.2.2) (nq:=q.2.2.2) gp gq (by omega) xp xq huv hk
  rw [← huv]
  exact this
 have hy:y = mk (ev (unitV tq) p.2.1 a tq):=hy
 rw [hx,hy]
 have bq1:-BND ≤ ev (unitV tq) p.2.1 a tq:=bq1
 have bq2:ev (unitV tq) p.2.1 a tq ≤ BND:=bq2
 generalize ev (unitV tp) p.2.1 a tp = X at *
 generalize ev (unitV tq) p.2.1 a tq = Y at *
 have iX:inR X = true:=by rw [inR_iff]; omega
 have iY:inR Y = true:=by rw [inR_iff]; omega
 have iS:inR (X + Y) = true:=by rw [inR_iff]; omega
 have iD:inR (X - Y) = true:=by rw [inR_iff]; omega
 rw [add_eq FU (wf_mk iX) (wf_mk iY),oB_some,sub_eq FU (wf_mk iX) (wf_mk iY),oB_some,cmp_eq FU (wf_mk iY) (wf_mk iX),oB_some]
 simp only [val_mk,(res_in iS).1,(res_in iD).1,cmpZ_neg]
 have go:∀ lo hi:Int,lo = minL [X,Y]→hi = maxL [X,Y]→octroilaw10_EvalSums.j19 FU (fun r612=>some ((r612,()),())) (fun r613=>(some ((r613,()),()):Option octroilaw10_EvalSums.sg.R)) a sumsN p (p.1,p.2.1,p.2.2.1,q.2.2.2) (mk (X + Y),mk (X - Y),mk lo,mk hi) = some ((true,()),()):=by
  rintro lo hi rfl rfl
  unfold octroilaw10_EvalSums.j19
  refine sums_l20 FU (fun r610=>some ((r610,()),())) (some ((true,()),())) a p (p.1,p.2.1,p.2.2.1,q.2.2.2) _ (by show p.2.2.2.length + q.2.2.2.length < 1024; omega) ?_ 4 0 FU (by omega) (by decide)
  intro k c v hk hv
  obtain ⟨w,e,h1,h2⟩:=J hk
  refine ⟨w,e,h1,?_⟩
  rcases h2 with h2 | ⟨h2,h3⟩
  ·exact .inl h2
  ·refine .inr ⟨h2,?_⟩
   rw [h3,hv]
   rcases hk with ⟨rfl,rfl⟩ | ⟨rfl,rfl⟩ | ⟨rfl,rfl⟩ | ⟨rfl,rfl⟩ <;> rfl
 have hmin:minL [X,Y] = if Y < X then Y else X:=rfl
 have hmax:maxL [X,Y] = if Y > X then Y else X:=rfl
 by_cases hlt:Y < X
 ·rw [decide_eq_true hlt,cond_true]
  exact go Y X (by rw [hmin,if_pos hlt]) (by rw [hmax,if_neg (by omega)])
 ·rw [decide_eq_false hlt,cond_false]
  exact go X Y (by rw [hmin,if_neg hlt]) (by rw [hmax]; split <;> omega)
end Go.VS
