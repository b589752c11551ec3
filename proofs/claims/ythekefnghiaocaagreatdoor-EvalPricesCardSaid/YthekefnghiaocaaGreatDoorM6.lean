import Derived.Test.YthekefnghiaocaaGreatDoorM5
set_option linter.unusedVariables false
set_option linter.unusedSimpArgs false
set_option linter.unusedSectionVars false
set_option linter.unusedVariables false
set_option linter.unusedSimpArgs false
set_option maxRecDepth 100000
namespace Go.VS
open Go
def TG (t:Tree):Prop:=∀ s ∈ t.subs,goodK s.root = true∧kidsK s.root = true∧ar s.root = s.kids.length
theorem TG.kids {n:tNode.T} {ks:List Tree} (h:TG (.nd n ks)):∀ k ∈ ks,TG k:=fun k hk s hs=>h s (by
 rw [subs_nd]
 refine List.mem_append.2 (.inl ?_)
 unfold subss
 exact List.mem_flatten.2 ⟨k.subs,List.mem_map.2 ⟨k,hk,rfl⟩,hs⟩)
theorem TG.top {n:tNode.T} {ks:List Tree} (h:TG (.nd n ks)):goodK n = true∧kidsK n = true∧ar n = ks.length:=h (.nd n ks) (by rw [subs_nd]; simp)
theorem TG_top {dims:Nat} {st:List Tree} {n:tNode.T} (hst:∀ t ∈ st,TG t) (h:nodeE dims n st.length = 0):TG (topT st n):=by
 obtain ⟨g1,g2,g3,g4,g5,g6,g7,g8⟩:=nodeE_ok h
 intro s hs
 unfold topT at hs
 rw [subs_nd] at hs
 rcases List.mem_append.1 hs with hs | hs
 ·unfold subss at hs
  obtain ⟨l,hl,hs⟩:=List.mem_flatten.1 hs
  obtain ⟨k,hk,rfl⟩:=List.mem_map.1 hl
  exact hst k (List.mem_of_mem_drop hk) s hs
 ·rw [List.mem_singleton.1 hs]
  exact ⟨g1,g4,by show ar n = (st.drop (st.length - ar n)).length; simp; omega⟩
theorem TG_step {dims:Nat} {st:List Tree} {n:tNode.T} (hst:∀ t ∈ st,TG t) (h:nodeE dims n st.length = 0):∀ t ∈ stepT st n,TG t:=fun t ht=>by
 rcases List.mem_append.1 ht with ht | ht
 ·exact hst t (List.mem_of_mem_take ht)
 ·rw [List.mem_singleton.1 ht]; exact TG_top hst h
theorem at_mid {p:tPlan.T} {a post:List tNode.T} {n:tNode.T} {i:Nat} (h:p.2.2.2 = a ++ n :: post) (hi:i = a.length):idx (i:Int) p.2.2.2.length = true∧get tNode p.2.2.2 i = n:=by
 subst hi
 refine ⟨rg_idx (by rw [h]; simp),?_⟩
 unfold get
 rw [h,List.getD_eq_getElem?_getD]
 simp
theorem first_step (F:Nat) {R:Type} (k:Int→Option R) {p:tPlan.T} {a post:List tNode.T} {n:tNode.T} (h:p.2.2.2 = a ++ n :: post) (hg:goodK n = true) (hk:kidsK n = true) {w:Nat} (hw:1 ≤ w) (hw2:w ≤ 100000) (hl:a.length ≤ 100000) (fu:Nat) :
  octroiref05_First.l3 F k (fu + 1) (w:Int) (a.length:Int) p = bif ((w - 1 + ar n:Nat) == 0) then k (a.length:Int) else octroiref05_First.l3 F k fu ((w - 1 + ar n:Nat):Int) ((a.length:Int) - 1) p:=by
 have ha:=ar_le hg hk
 obtain ⟨e1,e2⟩:=at_mid h rfl
 simp only [octroiref05_First.l3,octroiref05_First.l3.body,e1,cond_true,Int.toNat_natCast,e2]
 rw [rtakes_ok F hg hk]
 simp only [oB_some]
 rw [wrap_i64 (n:=(w:Int) - 1) (by omega) (by omega),wrap_i64 (n:=(w:Int) - 1 + (ar n:Int)) (by omega) (by omega),wrap_i64 (n:=(a.length:Int) - 1) (by omega) (by omega),show (w:Int) - 1 + (ar n:Int) = ((w - 1 + ar n:Nat):Int) by omega]
 have:(((w - 1 + ar n:Nat):Int) == 0) = ((w - 1 + ar n:Nat) == 0):=by
  by_cases h:(w - 1 + ar n:Nat) = 0
  ·rw [h]; rfl
  ·rw [beq_eq_false_iff_ne.2 h,beq_eq_false_iff_ne]; omega
 rw [this]
theorem first_forest (F:Nat) {R:Type} (k:Int→Option R) (p:tPlan.T):∀ (m:Nat) (ks:List Tree),ks.length = m →
  (∀ t ∈ ks,∀ (a post:List tNode.T) (w fu:Nat),p.2.2.2 = a ++ t.flat ++ post→1 ≤ w→w + t.size ≤ 50000→a.length + t.size ≤ 50000→octroiref05_First.l3 F k (fu + t.size) ((w + 1:Nat):Int) ((a.length:Int) + (t.size:Int) - 1) p = octroiref05_First.l3 F k fu (w:Int) ((a.length:Int) - 1) p) →
  ∀ (a post:List tNode.T) (w fu:Nat),p.2.2.2 = a ++ flats ks ++ post→1 ≤ w→w + (flats ks).length ≤ 50000→a.length + (flats ks).length ≤ 50000 →
  octroiref05_First.l3 F k (fu + (flats ks).length) ((w + ks.length:Nat):Int) ((a.length:Int) + ((flats ks).length:Int) - 1) p = octroiref05_First.l3 F k fu (w:Int) ((a.length:Int) - 1) p:=by
 intro m
 induction m with
 | zero =>
  intro ks hm hA a post w fu h hw hw2 hl
  obtain rfl:=List.eq_nil_of_length_eq_zero hm
  simp [flats]
 | succ m ih =>
  intro ks hm hA a post w fu h hw hw2 hl
  rcases List.eq_nil_or_concat ks with rfl | ⟨init,last,hks⟩
  ·simp at hm
  ·rw [List.concat_eq_append] at hks
   subst hks
   have hil:=len_flats init
   have hfl:flats (init ++ [last]) = flats init ++ last.flat:=by rw [flats_app,flats_one]
   simp only [List.length_append,List.length_cons,List.length_nil] at hm
   rw [hfl] at h hl hw2 ⊢
   simp only [List.length_append] at hl hw2
   have h1:=hA last (by simp) (a ++ flats init) post (w + init.length) (fu + (flats init).length) (by rw [h]; simp) (by omega) (by unfold Tree.size; omega) (by simp only [List.length_append,Tree.size]; omega)
   have h2:=ih init (by omega) (fun t ht=>hA t (by simp [ht])) a (last.flat ++ post) w fu (by rw [h]; simp) hw (by omega) (by omega)
   simp only [List.length_append,Tree.size] at h1
   rw [← h2]
   have e1:fu + (flats init ++ last.flat).length = fu + (flats init).length + last.flat.length:=by simp; omega
   have e2:((w + (init ++ [last]).length:Nat):Int) = ((w + init.length + 1:Nat):Int):=by simp; omega
   have e3:(a.length:Int) + ((flats init ++ last.flat).length:Int) - 1 = (((a.length + (flats init).length:Nat)):Int) + (last.flat.length:Int) - 1:=by simp; omega
   rw [e1,e2,e3,h1]
   congr 1
theorem first_A (F:Nat) {R:Type} (k:Int→Option R) (p:tPlan.T) (t:Tree):TG t→∀ (a post:List tNode.T) (w fu:Nat),p.2.2.2 = a ++ t.flat ++ post→1 ≤ w→w + t.size ≤ 50000→a.length + t.size ≤ 50000 →
  octroiref05_First.l3 F k (fu + t.size) ((w + 1:Nat):Int) ((a.length:Int) + (t.size:Int) - 1) p = octroiref05_First.l3 F k fu (w:Int) ((a.length:Int) - 1) p:=by
 refine Tree.ind (P:=fun t=>TG t→∀ (a post:List tNode.T) (w fu:Nat),p.2.2.2 = a ++ t.flat ++ post→1 ≤ w→w + t.size ≤ 50000→a.length + t.size ≤ 50000 →
  octroiref05_First.l3 F k (fu + t.size) ((w + 1:Nat):Int) ((a.length:Int) + (t.size:Int) - 1) p = octroiref05_First.l3 F k fu (w:Int) ((a.length:Int) - 1) p) (fun n ks ih hT a post w fu h hw hw2 hl=>?_) t
 obtain ⟨g1,g2,g3⟩:=hT.top
 have ha:=ar_le g1 g2
 rw [size_nd] at hl hw2 ⊢
 rw [flat_nd] at h
 have hs:=first_step F k (p:=p) (a:=a ++ flats ks) (n:=n) (post:=post) (by rw [h]; simp) g1 g2 (w:=w + 1) (by omega) (by omega) (by simp only [List.length_append]; omega) (fu + (flats ks).length)
 have e1:(w + 1 - 1 + ar n:Nat) = w + ks.length:=by omega
 rw [e1] at hs
 rw [show fu + ((flats ks).length + 1) = fu + (flats ks).length + 1 by omega,show (a.length:Int) + (((flats ks).length + 1:Nat):Int) - 1 = (((a ++ flats ks).length:Nat):Int) by simp; omega,hs]
 rw [show (w + ks.length == 0) = false by rw [beq_eq_false_iff_ne]; omega]
 simp only [cond_false]
 have hf:=first_forest F k p ks.length ks rfl (fun t ht=>ih t ht (hT.kids t ht)) a (n :: post) w fu (by rw [h]; simp) hw (by omega) (by omega)
 rw [← hf]
 congr 1
 simp
theorem first_B (F:Nat) {R:Type} (k:Int→Option R) (p:tPlan.T) (t:Tree):TG t→∀ (a post:List tNode.T) (fu:Nat),p.2.2.2 = a ++ t.flat ++ post→a.length + t.size ≤ 50000 →
  octroiref05_First.l3 F k (fu + t.size) 1 ((a.length:Int) + (t.size:Int) - 1) p = k (a.length:Int):=by
 refine Tree.ind (P:=fun t=>TG t→∀ (a post:List tNode.T) (fu:Nat),p.2.2.2 = a ++ t.flat ++ post→a.length + t.size ≤ 50000 →
  octroiref05_First.l3 F k (fu + t.size) 1 ((a.length:Int) + (t.size:Int) - 1) p = k (a.length:Int)) (fun n ks ih hT a post fu h hl=>?_) t
 obtain ⟨g1,g2,g3⟩:=hT.top
 have ha:=ar_le g1 g2
 rw [size_nd] at hl ⊢
 rw [flat_nd] at h
 have hs:=first_step F k (p:=p) (a:=a ++ flats ks) (n:=n) (post:=post) (by rw [h]; simp) g1 g2 (w:=1) (by omega) (by omega) (by simp only [List.length_append]; omega) (fu + (flats ks).length)
 have e1:(1 - 1 + ar n:Nat) = ks.length:=by omega
 rw [e1] at hs
 rw [show fu + ((flats ks).length + 1) = fu + (flats ks).length + 1 by omega,show (a.length:Int) + (((flats ks).length + 1:Nat):Int) - 1 = (((a ++ flats ks).length:Nat):Int) by simp; omega,show (1:Int) = ((1:Nat):Int) from rfl,hs]
 cases ks with
 | nil=>simp [flats]
 | cons k0 rest =>
  rw [show ((k0 :: rest).length == 0) = false from rfl]
  simp only [cond_false]
  rw [flats_cons] at h hl ⊢
  simp only [List.length_append] at hl
  have hlen:(k0 :: rest).length = 1 + rest.length:=by simp; omega
  have hlr:rest.length ≤ 16:=by simp only [List.length_cons] at g3; omega
  have hf:=first_forest F k p rest.length rest rfl (fun t ht=>first_A F k p t (hT.kids t (by simp [ht]))) (a ++ k0.flat) (n :: post) 1 (fu + k0.size) (by rw [h]; simp) (by omega) (by omega) (by simp only [List.length_append]; omega)
  have hb:=ih k0 (by simp) (hT.kids k0 (by simp)) a (flats rest ++ n :: post) fu (by rw [h]; simp) (by unfold Tree.size; omega)
  have e2:(((a ++ (k0.flat ++ flats rest)).length:Nat):Int) - 1 = (((a ++ k0.flat).length:Nat):Int) + ((flats rest).length:Int) - 1:=by simp; omega
  have e3:fu + (k0.flat ++ flats rest).length = fu + k0.size + (flats rest).length:=by simp [Tree.size]; omega
  rw [e2,e3,hlen,hf]
  rw [← hb]
  congr 1
  simp [Tree.size]
theorem First_eq (F:Nat) (hF:4096 < F) {p:tPlan.T} {t:Tree} (hT:TG t) {a post:List tNode.T} (h:p.2.2.2 = a ++ t.flat ++ post) (hl:a.length + t.size ≤ 2048):octroiref05_First.sh F p ((a.length:Int) + (t.size:Int) - 1) = some (((a.length:Int),()),()):=by
 unfold octroiref05_First.sh
 have:=first_B F (fun r42=>(some ((r42,()),()):Option octroiref05_First.sg.R)) p t hT a post (F - t.size) h (by omega)
 rw [show F - t.size + t.size = F by omega] at this
 exact this
theorem First_top (F:Nat) (hF:4096 < F) {p:tPlan.T} {st:List Tree} {n:tNode.T} {xs:List tNode.T} (hT:TG (topT st n)) (h:p.2.2.2 = flats st ++ n :: xs) (hl:(flats st).length < 2048) :
  octroiref05_First.sh F p ((flats st).length:Int) = some ((((flats (st.take (st.length - ar n))).length:Int),()),()):=by
 have hts:=top_size (st:=st) (n:=n)
 have:=First_eq F hF hT (a:=flats (st.take (st.length - ar n))) (post:=xs) (by
  have e:flats st ++ [n] = flats (st.take (st.length - ar n)) ++ (topT st n).flat:=by
   rw [← flats_step]; unfold stepT; rw [flats_app,flats_one]
  rw [← e,h]; simp) (by omega)
 rw [← this]
 congr 1
 omega
theorem rconst_l10 (F:Nat) {R:Type} (k0:Int→Bool→tPlan.T→List Bool→Option R) (p:tPlan.T) (out:List Bool) (i:Int):∀ (seg a post:List tNode.T) (b:Bool) (fu:Nat),p.2.2.2 = a ++ seg ++ post→i = (a.length:Int) + (seg.length:Int) - 1→a.length + seg.length ≤ 50000→seg.length < fu →
  octroiref05_Constant.l10 F (fun i is _ _ p out=>k0 i is p out) fu i b (a.length:Int) p out = k0 i (b && seg.all fun n=>!isQ n) p out:=by
 intro seg
 induction seg with
 | nil =>
  intro a post b fu h hi hl hf
  obtain ⟨fu,rfl⟩:∃ j,fu = j + 1:=⟨fu - 1,by simp at hf; omega⟩
  simp only [List.length_nil] at hi
  simp only [octroiref05_Constant.l10,octroiref05_Constant.l10.body,decide_eq_false (show ¬ ((a.length:Int) ≤ i) by omega),cond_false,List.all_nil,Bool.and_true]
 | cons n seg ih =>
  intro a post b fu h hi hl hf
  obtain ⟨fu,rfl⟩:∃ j,fu = j + 1:=⟨fu - 1,by simp at hf; omega⟩
  simp only [List.length_cons] at hi hl hf
  obtain ⟨e1,e2⟩:=at_mid (p:=p) (a:=a) (n:=n) (post:=seg ++ post) (by rw [h]; simp) rfl
  have IH:=fun b'=>ih (a ++ [n]) post b' fu (by rw [h]; simp) (by simp; omega) (by simp; omega) (by omega)
  simp only [List.length_append,List.length_cons,List.length_nil,Nat.zero_add] at IH
  simp only [octroiref05_Constant.l10,octroiref05_Constant.l10.body,decide_eq_true (show ((a.length:Int) ≤ i) by omega),cond_true,e1,Int.toNat_natCast,e2,wrap_i64 (n:=(a.length:Int) + 1) (by omega) (by omega)]
  rw [← rg_cast,IH,IH]
  simp only [List.all_cons]
  unfold isQ
  cases b with
  | false=>rfl
  | true =>
   rw [show (n.1 != 3) = !(nK n == 3) from rfl,show (n.1 != 4) = !(nK n == 4) from rfl]
   cases (nK n == 3) <;> cases (nK n == 4) <;> rfl
theorem rconst_l6 (F:Nat) (hF:4096 < F) {R:Type} (dims:Nat) (k:List Bool→Option R) (p:tPlan.T) (hL:p.2.2.2.length ≤ 1024):∀ (xs:List tNode.T) (st:List Tree) (out:List Bool) (fu:Nat),p.2.2.2 = flats st ++ xs→okS dims st xs→(∀ t ∈ st,TG t)→out.length ≤ (flats st).length→xs.length < fu →
  octroiref05_Constant.l6 F (fun _ _ _ out=>k out) fu ((flats st).length:Int) p out = k (out ++ (news st xs).map noQ):=by
 intro xs
 induction xs with
 | nil =>
  intro st out fu h ho hT hout hf
  obtain ⟨fu,rfl⟩:∃ j,fu = j + 1:=⟨fu - 1,by simp at hf; omega⟩
  have:p.2.2.2.length = (flats st).length:=by rw [h]; simp
  simp only [octroiref05_Constant.l6,octroiref05_Constant.l6.body,decide_eq_false (show ¬ (((flats st).length:Int) < (p.2.2.2.length:Int)) by omega),cond_false,news,List.map_nil,List.append_nil]
 | cons n xs ih =>
  intro st out fu h ho hT hout hf
  obtain ⟨fu,rfl⟩:∃ j,fu = j + 1:=⟨fu - 1,by simp at hf; omega⟩
  have hlen:p.2.2.2.length = (flats st).length + (xs.length + 1):=by rw [h]; simp
  have hTt:=TG_top hT ho.1
  have hfi:=First_top F hF hTt h (by omega)
  have hfs:=flats_step st n
  have hfl:=congrArg List.length hfs
  simp only [List.length_append,List.length_cons,List.length_nil] at hfl
  have hts:=top_size (st:=st) (n:=n)
  have hflat:p.2.2.2 = flats (st.take (st.length - ar n)) ++ (topT st n).flat ++ xs:=by
   have e:flats st ++ [n] = flats (st.take (st.length - ar n)) ++ (topT st n).flat:=by
    rw [← flats_step]; unfold stepT; rw [flats_app,flats_one]
   rw [← e,h]; simp
  have IH:=ih (stepT st n) (out ++ [noQ (topT st n)]) fu (by rw [hfs,h]; simp) ho.2 (TG_step hT ho.1) (by simp; omega) (by simp at hf; omega)
  rw [hfl,show (((flats st).length + (0 + 1):Nat):Int) = ((flats st).length:Int) + 1 by omega] at IH
  have e10:=rconst_l10 F (fun i3 is3 p3 out3=>bif Nat.ble (out3.length + ([is3]:List Bool).length) maxN then octroiref05_Constant.l6 F (fun _ _ _ out=>k out) fu (IntKind.i64.wrap (i3 + 1)) p3 (out3 ++ ([is3]:List Bool)) else none) p out ((flats st).length:Int)
   (topT st n).flat (flats (st.take (st.length - ar n))) xs true F hflat (by unfold Tree.size at hts; omega) (by unfold Tree.size at hts; omega) (by unfold Tree.size at hts; omega)
  simp only [octroiref05_Constant.l6,octroiref05_Constant.l6.body,decide_eq_true (show (((flats st).length:Int) < (p.2.2.2.length:Int)) by omega),cond_true]
  rw [hfi]
  simp only [oB_some]
  rw [e10,ble_of (by simp; omega),wrap_i64 (by omega) (by omega)]
  simp only [cond_true,Bool.true_and]
  refine IH.trans ?_
  simp [news]
theorem rConstant_eq (F:Nat) (hF:4096 < F) {p:tPlan.T} {t:Tree} (h:Good p t):octroiref05_Constant.sh F p = some ((t.subs.map noQ,0,()),()):=by
 unfold octroiref05_Constant.sh
 rw [rcheck_eq F (by omega),h.check]
 simp only [oB_some,bne_self_eq_false,cond_false]
 have hl:=h.len
 have e:=rconst_l6 F hF p.2.1.length (fun out4=>octroiref05_Constant.j14 F (fun r25 r35=>(some ((r25,r35,()),()):Option octroiref05_Constant.sg.R)) out4) p hl p.2.2.2 [] [] F (by simp [flats]) h.ok (by simp) (by simp) (by omega)
 rw [show ((flats []).length:Int) = 0 from rfl,h.subs] at e
 exact e
end Go.VS
