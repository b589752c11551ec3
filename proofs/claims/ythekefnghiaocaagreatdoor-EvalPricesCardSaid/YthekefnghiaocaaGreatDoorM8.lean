import Derived.Test.YthekefnghiaocaaGreatDoorM7
set_option linter.unusedVariables false
set_option linter.unusedSimpArgs false
set_option linter.unusedSectionVars false
set_option linter.unusedVariables false
set_option linter.unusedSimpArgs false
set_option maxRecDepth 100000
namespace Go.VS
open Go
theorem rsame_rg (F:Nat) {R:Type} (k:Int→Option R) (k1:List Int→Option R) (L:List Int) (a:Int) (hL:1 ≤ L.length) (ha:get (.int .i64) L 0 = a):∀ (xs:List Int) (i:Int),
  octroiref08_same.l2.rg F k (fun l _ _=>k1 l) L xs i = bif xs.all (fun x=>x == a) then k1 L else k (-1)
 | [],i=>rfl
 | x :: r,i=>by
  rw [octroiref08_same.l2.rg,rsame_rg F k k1 L a hL ha r,idx0 hL,ha]
  simp only [cond_true,List.all_cons]
  cases hx:(x == a) with
  | true=>simp only [bne,hx,Bool.not_true,cond_false,Bool.true_and]
  | false=>simp only [bne,hx,Bool.not_false,cond_true,Bool.false_and,cond_false]
theorem rsame_eq (F:Nat) (hF:64 < F) {l:List Int} (h:1 ≤ l.length) (hl:l.length ≤ 32):octroiref08_same.sh F l = some ((oneL l,()),()):=by
 unfold octroiref08_same.sh
 have e1:=fun k0 k1=>octroiref08_same.l2.rg_eq (R:=octroiref08_same.sg.R) F k0 k1 l (by omega) (l.drop 1) 1 F rfl (by simp; omega)
 rw [show ((1:Nat):Int) = 1 from rfl] at e1
 rw [e1,rsame_rg F (fun r21=>(some ((r21,()),()):Option octroiref08_same.sg.R)) (fun l2=>bif idx 0 l2.length then some ((get (.int .i64) l2 0,()),()) else none) l (get (.int .i64) l 0) h rfl]
 rw [idx0 h]
 cases l with
 | nil=>simp at h
 | cons a r =>
  show (bif r.all (fun x=>x == a) then _ else _) = some ((bif r.all (fun x=>x == a) then a else -1,()),())
  cases r.all (fun x=>x == a) <;> rfl
theorem rproduct_eq (F:Nat) (a b:Int):octroiref08_product.sh F a b = some ((prodT a b,()),()):=by
 unfold octroiref08_product.sh octroiref08_Count.sh prodT cntB
 simp only [oB_some]
 cases (a == 0) with
 | true=>rfl
 | false =>
  cases (b == 0) with
  | true=>rfl
  | false=>cases decide (a ≥ 2) <;> cases decide (b ≥ 2) <;> cases (a == 1) <;> cases (b == 1) <;> rfl
theorem rtyped_eq (F:Nat) (hF:64 < F) {dims:Nat} (hd:dims ≤ 4) {n:tNode.T} {pile:Nat} (h:nodeE dims n pile = 0) {l:List Int} (hl:l.length = ar n):octroiref08_typed.sh F n l = some ((tyN n l,()),()):=by
 obtain ⟨g1,g2,g3,g4,g5,g6,g7,g8⟩:=nodeE_ok h
 have ha:=ar_le g1 g4
 have same:∀ k:Int,nK n = k→1 ≤ l.length→(oB (octroiref08_same.sh F l) fun c_1=>(some ((c_1.1.1,()),()):Option octroiref08_typed.sg.R)) = some ((oneL l,()),()):=fun k _ h1=>by
  rw [rsame_eq F hF h1 (by omega)]; rfl
 have cnt:∀ x:Int,octroiref08_Count.sh F x = some ((cntB x,()),()):=fun x=>rfl
 have i0:1 ≤ l.length→idx 0 l.length = true:=fun h=>idx0 h
 have kids:∀ k:Int,nK n = k→(k = 9 ∨ k = 10)→2 ≤ ar n:=fun k h hk=>by
  have g4:=g4
  rw [kids_of h] at g4
  have g4:(decide (nC n ≥ 2) && decide (nC n ≤ 16)) = true:=by rcases hk with rfl | rfl <;> exact g4
  simp at g4
  have:ar n = (nC n).toNat:=by rw [ar_of h]; rcases hk with rfl | rfl <;> rfl
  omega
 have hsame:∀ k:Int,nK n = k→(k = 5 ∨ k = 6 ∨ k = 7 ∨ k = 9 ∨ k = 10)→octroiref08_typed.sh F n l = some ((tyN n l,()),()):=fun k h hk=>by
  have h1:1 ≤ l.length:=by
   rcases hk with rfl | rfl | rfl | rfl | rfl
   ·rw [hl,ar_of h]; first | exact (show (1:Nat) ≤ 1 by decide) | exact (show (1:Nat) ≤ 2 by decide) | exact (show (1:Nat) ≤ 3 by decide)
   ·rw [hl,ar_of h]; first | exact (show (1:Nat) ≤ 1 by decide) | exact (show (1:Nat) ≤ 2 by decide) | exact (show (1:Nat) ≤ 3 by decide)
   ·rw [hl,ar_of h]; first | exact (show (1:Nat) ≤ 1 by decide) | exact (show (1:Nat) ≤ 2 by decide) | exact (show (1:Nat) ≤ 3 by decide)
   ·have:=kids 9 h (.inl rfl); omega
   ·have:=kids 10 h (.inr rfl); omega
  refine Eq.trans ?_ ((same k h h1).trans ?_)
  ·unfold octroiref08_typed.sh
   rw [show n.1 = k from h]
   rcases hk with rfl | rfl | rfl | rfl | rfl <;> rfl
  ·unfold tyN
   rw [h]
   rcases hk with rfl | rfl | rfl | rfl | rfl <;> rfl
 rcases kinds16 g1 with h | h | h | h | h | h | h | h | h | h | h | h | h | h | h | h
 ·unfold octroiref08_typed.sh tyN; rw [h,show n.1 = _ from h]; rfl
 ·unfold octroiref08_typed.sh tyN; rw [h,show n.1 = _ from h]; rfl
 ·rw [most_of h] at g3
  have g3:nN n ≤ (dims:Int) - 1:=g3
  unfold octroiref08_typed.sh tyN
  rw [h,show n.1 = _ from h,wrap_i64 (n:=2 * nN n) (by omega) (by omega),wrap_i64 (n:=2 + 2 * nN n) (by omega) (by omega)]
  rfl
 ·rw [most_of h] at g3
  have g3:nN n ≤ (dims:Int) - 1:=g3
  unfold octroiref08_typed.sh tyN
  rw [h,show n.1 = _ from h,wrap_i64 (n:=2 * nN n) (by omega) (by omega),wrap_i64 (n:=3 + 2 * nN n) (by omega) (by omega)]
  rfl
 ·exact hsame 5 h (by decide)
 ·exact hsame 6 h (by decide)
 ·exact hsame 7 h (by decide)
 ·have e:ar n = 2:=by rw [ar_of h]; rfl
  refine Eq.trans (b:=bif idx 0 l.length then bif idx 1 l.length then oB (octroiref08_product.sh F (get (.int .i64) l 0) (get (.int .i64) l 1)) fun c_2=>(some ((c_2.1.1,()),()):Option octroiref08_typed.sg.R) else none else none) ?_ ?_
  ·unfold octroiref08_typed.sh; rw [show n.1 = _ from h]; rfl
  ·rw [idx0 (by omega),idx1 (by omega),rproduct_eq]
   unfold tyN; rw [h]; rfl
 ·exact hsame 9 h (by decide)
 ·exact hsame 10 h (by decide)
 all_goals
  have e1:1 ≤ l.length:=by rw [hl,ar_of h]; first | exact (show (1:Nat) ≤ 1 by decide) | exact (show (1:Nat) ≤ 2 by decide) | exact (show (1:Nat) ≤ 3 by decide)
  have e2:=idx0 e1
 ·refine Eq.trans (b:=bif idx 0 l.length then oB (octroiref08_Count.sh F (get (.int .i64) l 0)) fun c_3=>bif c_3.1.1 then bif idx 0 l.length then (some ((get (.int .i64) l 0,()),()):Option octroiref08_typed.sg.R) else none else some (((-1),()),()) else none) ?_ ?_
  ·unfold octroiref08_typed.sh; rw [show n.1 = _ from h]; rfl
  ·rw [e2,cnt]
   unfold tyN; rw [h]
   show (bif cntB (l.getD 0 0) then some ((l.getD 0 0,()),()) else some (((-1),()),())) = some ((bif cntB (l.getD 0 0) then l.getD 0 0 else -1,()),())
   cases cntB (l.getD 0 0) <;> rfl
 ·refine Eq.trans (b:=bif idx 0 l.length then oB (octroiref08_Count.sh F (get (.int .i64) l 0)) fun c_3=>bif c_3.1.1 then bif idx 0 l.length then (some ((get (.int .i64) l 0,()),()):Option octroiref08_typed.sg.R) else none else some (((-1),()),()) else none) ?_ ?_
  ·unfold octroiref08_typed.sh; rw [show n.1 = _ from h]; rfl
  ·rw [e2,cnt]
   unfold tyN; rw [h]
   show (bif cntB (l.getD 0 0) then some ((l.getD 0 0,()),()) else some (((-1),()),())) = some ((bif cntB (l.getD 0 0) then l.getD 0 0 else -1,()),())
   cases cntB (l.getD 0 0) <;> rfl
 ·refine Eq.trans (b:=bif idx 0 l.length then oB (octroiref08_Count.sh F (get (.int .i64) l 0)) fun c_3=>bif c_3.1.1 then (some ((1,()),()):Option octroiref08_typed.sg.R) else some (((-1),()),()) else none) ?_ ?_
  ·unfold octroiref08_typed.sh; rw [show n.1 = _ from h]; rfl
  ·rw [e2,cnt]
   unfold tyN; rw [h]
   show (bif cntB (l.getD 0 0) then some ((1,()),()) else some (((-1),()),())) = some ((bif cntB (l.getD 0 0) then 1 else -1,()),())
   cases cntB (l.getD 0 0) <;> rfl
 ·refine Eq.trans (b:=bif idx 0 l.length then oB (octroiref08_Count.sh F (get (.int .i64) l 0)) fun c_3=>bif c_3.1.1 then (some ((1,()),()):Option octroiref08_typed.sg.R) else some (((-1),()),()) else none) ?_ ?_
  ·unfold octroiref08_typed.sh; rw [show n.1 = _ from h]; rfl
  ·rw [e2,cnt]
   unfold tyN; rw [h]
   show (bif cntB (l.getD 0 0) then some ((1,()),()) else some (((-1),()),())) = some ((bif cntB (l.getD 0 0) then 1 else -1,()),())
   cases cntB (l.getD 0 0) <;> rfl
 ·refine Eq.trans (b:=bif idx 0 l.length then bif ((get (.int .i64) l 0) == 1) then bif idx 0 l.length then (some ((get (.int .i64) l 0,()),()):Option octroiref08_typed.sg.R) else none else some (((-1),()),()) else none) ?_ ?_
  ·unfold octroiref08_typed.sh; rw [show n.1 = _ from h]; rfl
  ·rw [e2]
   unfold tyN; rw [h]
   show (bif (l.getD 0 0 == 1) then some ((l.getD 0 0,()),()) else some (((-1),()),())) = some ((bif l.getD 0 0 == 1 then 1 else -1,()),())
   cases hh:(l.getD 0 0 == 1) with
   | true=>rw [beq_iff_eq] at hh; rw [hh]; rfl
   | false=>rfl
 ·have e3:ar n = 3:=by rw [ar_of h]; rfl
  refine Eq.trans (b:=bif idx 0 l.length then oB (octroiref08_Count.sh F (get (.int .i64) l 0)) fun c_3=>bif c_3.1.1 then bif (bounds l.length (some 1) none).1 then oB (octroiref08_same.sh F ((l.take (bounds l.length (some 1) none).2.2).drop (bounds l.length (some 1) none).2.1)) fun c_6=>(some ((c_6.1.1,()),()):Option octroiref08_typed.sg.R) else none else some (((-1),()),()) else none) ?_ ?_
  ·unfold octroiref08_typed.sh; rw [show n.1 = _ from h]; rfl
  ·have hb:=bounds_lo (n:=l.length) (i:=1) (by omega)
   rw [show ((1:Nat):Int) = 1 from rfl] at hb
   rw [e2,cnt,hb]
   simp only [List.take_length]
   rw [rsame_eq F hF (l:=l.drop 1) (by simp; omega) (by simp; omega)]
   unfold tyN; rw [h]
   show (bif cntB (l.getD 0 0) then some ((oneL (l.drop 1),()),()) else some (((-1),()),())) = some ((bif cntB (l.getD 0 0) then oneL (l.drop 1) else -1,()),())
   cases cntB (l.getD 0 0) <;> rfl
def lasts:Nat→List Tree→List Int
 | _,[]=>[]
 | b,t :: r=>((b + t.size - 1:Nat):Int) :: lasts (b + t.size) r
theorem lasts_app:∀ (a c:List Tree) (b:Nat),lasts b (a ++ c) = lasts b a ++ lasts (b + (flats a).length) c
 | [],c,b=>by simp [lasts,flats]
 | t :: r,c,b=>by
  simp only [List.cons_append,lasts,lasts_app r c,flats_cons,List.length_append]
  rw [show b + t.size + (flats r).length = b + (t.flat.length + (flats r).length) by unfold Tree.size; omega]
theorem subss_len (l:List Tree):(subss l).length = (flats l).length:=by
 simp only [subss,flats,List.length_flatten,List.map_map]
 congr 1
 exact List.map_congr_left (fun k _=>subs_len k)
theorem get_subs {t:Ty} (f:Tree→t.T) (B C:List Tree) (x:Tree) (rest:List t.T):get t ((subss (B ++ x :: C)).map f ++ rest) ((flats B).length + x.size - 1) = f x:=by
 obtain ⟨l,hl⟩:=subs_last x
 have h1:=subss_len B
 have h2:=subs_len x
 rw [hl] at h2
 have e:subss (B ++ x :: C) = subss B ++ l ++ x :: subss C:=by
  rw [subss_app,show x :: C = [x] ++ C from rfl,subss_app,subss_one,hl]; simp
 unfold get
 rw [e,List.getD_eq_getElem?_getD,List.map_append,List.map_cons,List.append_assoc]
 rw [List.getElem?_append_right (by simp only [List.length_map,List.length_append]; unfold Tree.size; simp at h2; omega)]
 have:(flats B).length + x.size - 1 - ((subss B ++ l).map f).length = 0:=by
  simp only [List.length_map,List.length_append]; unfold Tree.size; simp at h2; omega
 rw [this]; rfl
theorem rtypes_l13 (F:Nat) (hF:4096 < F) {R:Type} (K:List Bool→Int→List Int→tPlan.T→List Int→List Int→Option R) (p:tPlan.T) (fix:List Bool) (i:Int) (B:List Tree) (out:List Int):∀ (m:Nat) (ks done:List Tree) (post:List tNode.T) (wh:List Int) (fu:Nat),ks.length = m→(∀ t ∈ ks,TG t)→p.2.2.2 = flats (B ++ ks ++ done) ++ post →
  out = (subss (B ++ ks ++ done)).map ty→(flats (B ++ ks ++ done)).length ≤ 2048→done.length ≤ 2048→wh.length ≤ 2048→ks.length < fu→ks.length + wh.length ≤ 2048→ks.length + done.length ≤ 2048 →
  octroiref08_Types.l13 F (fun fix i kids _ _ _ p out wh=>K fix i kids p out wh) fu fix i (done.map ty) (((flats (B ++ ks)).length:Int) - 1) (ks.length:Int) p out wh = K fix i (ks.map ty ++ done.map ty) p out (wh ++ (lasts (flats B).length ks).reverse):=by
 intro m
 induction m with
 | zero =>
  intro ks done post wh fu hm hT h ho hl hdl hwl hf _ _
  obtain rfl:=List.eq_nil_of_length_eq_zero hm
  obtain ⟨fu,rfl⟩:∃ j,fu = j + 1:=⟨fu - 1,by simp at hf; omega⟩
  simp [octroiref08_Types.l13,octroiref08_Types.l13.body,lasts]
 | succ m ih =>
  intro ks done post wh fu hm hT h ho hl hdl hwl hf hkw hkd
  obtain ⟨fu,rfl⟩:∃ j,fu = j + 1:=⟨fu - 1,by omega⟩
  rcases List.eq_nil_or_concat ks with rfl | ⟨init,last,hks⟩
  ·simp at hm
  ·rw [List.concat_eq_append] at hks
   subst hks
   simp only [List.length_append,List.length_cons,List.length_nil] at hm hf hkw hkd
   have hfl:flats (B ++ (init ++ [last])) = flats (B ++ init) ++ last.flat:=by rw [← List.append_assoc,flats_app,flats_one]
   have hsz:(flats (B ++ (init ++ [last]))).length = (flats (B ++ init)).length + last.size:=by rw [hfl,List.length_append]; rfl
   have hpos:=size_pos last
   have hre:B ++ (init ++ [last]) ++ done = (B ++ init) ++ last :: done:=by simp
   have hre2:B ++ (init ++ [last]) ++ done = B ++ init ++ ([last] ++ done):=by simp
   rw [hre] at ho
   have hfd:(flats (B ++ (init ++ [last]) ++ done)).length = (flats (B ++ init)).length + last.size + (flats done).length:=by
    rw [flats_app,List.length_append,hsz]
   have hol:out.length = (flats (B ++ (init ++ [last]) ++ done)).length:=by rw [ho,List.length_map,subss_len,hre]
   have epl:((flats (B ++ (init ++ [last]))).length:Int) - 1 = (((flats (B ++ init)).length + last.size - 1:Nat):Int):=by omega
   have e1:idx (((flats (B ++ init)).length + last.size - 1:Nat):Int) out.length = true:=rg_idx (by omega)
   have e2:get (.int .i64) out ((flats (B ++ init)).length + last.size - 1) = ty last:=by
    have:=get_subs (t:=.int .i64) ty (B ++ init) done last []
    rw [List.append_nil] at this
    rw [ho]; exact this
   have efirst:=First_eq F hF (hT last (by simp)) (p:=p) (a:=flats (B ++ init)) (post:=flats done ++ post) (by
    rw [h,hre,show last :: done = [last] ++ done from rfl]; simp only [flats_app,flats_one]; simp) (by omega)
   rw [show ((flats (B ++ init)).length:Int) + (last.size:Int) - 1 = (((flats (B ++ init)).length + last.size - 1:Nat):Int) by omega] at efirst
   have IH:=ih init ([last] ++ done) post (wh ++ [(((flats (B ++ init)).length + last.size - 1:Nat):Int)]) fu (by omega) (fun t ht=>hT t (by simp [ht])) (by rw [h,hre2]) (by rw [ho,← hre,hre2]) (by rw [← hre2]; exact hl) (by simp; omega) (by simp; omega) (by omega) (by simp; omega) (by simp; omega)
   simp only [octroiref08_Types.l13,octroiref08_Types.l13.body,List.length_append,List.length_cons,List.length_nil,decide_eq_true (show (((init.length + (0 + 1):Nat)):Int) > 0 by omega),cond_true,epl,e1,Int.toNat_natCast,e2]
   rw [ble_of (show 0 + 1 + (done.map ty).length ≤ 4194304 by simp; omega),ble_of (show wh.length + (0 + 1) ≤ 4194304 by omega),efirst]
   simp only [cond_true,oB_some]
   rw [wrap_i64 (n:=((flats (B ++ init)).length:Int) - 1) (by omega) (by omega),wrap_i64 (n:=(((init.length + (0 + 1):Nat)):Int) - 1) (by omega) (by omega),show (((init.length + (0 + 1):Nat)):Int) - 1 = (init.length:Int) by omega]
   rw [show ([ty last]:List Int) ++ done.map ty = ([last] ++ done).map ty from rfl]
   refine IH.trans ?_
   rw [lasts_app]
   simp only [lasts,List.reverse_append,List.reverse_cons,List.reverse_nil,List.nil_append,List.map_append,List.map_cons,List.map_nil,List.append_assoc,List.singleton_append]
   rw [flats_app,List.length_append]
theorem rtypes_l7 (F:Nat) (hF:4096 < F) {R:Type} {dims:Nat} (hd:dims ≤ 4) (kE:List Int→Int→Int→Option R) (kO:List Int→Option R) (p:tPlan.T) (hL:p.2.2.2.length ≤ 1024) (fix:List Bool):∀ (xs:List tNode.T) (st:List Tree) (rest:List Bool) (fu:Nat),p.2.2.2 = flats st ++ xs→okS dims st xs→(∀ t ∈ st,TG t)→fix = (subss st).map noQ ++ rest→rest.length = xs.length→rest = (news st xs).map noQ→xs.length < fu →
  octroiref08_Types.l7 F kE kE (fun _ _ _ _ out=>kO out) fu fix ((flats st).length:Int) p ((subss st).map ty) =
   match firstE tyE (news st xs) (flats st).length with
   | some (j,e)=>kE [] (j:Int) e
   | none=>kO ((subss (endT st xs)).map ty):=by
 intro xs
 induction xs with
 | nil =>
  intro st rest fu h ho hT hfix hrl hre hf
  obtain ⟨fu,rfl⟩:∃ j,fu = j + 1:=⟨fu - 1,by simp at hf; omega⟩
  have:p.2.2.2.length = (flats st).length:=by rw [h]; simp
  simp only [octroiref08_Types.l7,octroiref08_Types.l7.body,decide_eq_false (show ¬ (((flats st).length:Int) < (p.2.2.2.length:Int)) by omega),cond_false,news,firstE,endT]
 | cons n xs ih =>
  intro st rest fu h ho hT hfix hrl hre hf
  obtain ⟨fu,rfl⟩:∃ j,fu = j + 1:=⟨fu - 1,by simp at hf; omega⟩
  have hlen:p.2.2.2.length = (flats st).length + (xs.length + 1):=by rw [h]; simp
  obtain ⟨g1,g2,g3,g4,g5,g6,g7,g8⟩:=nodeE_ok ho.1
  have ha:=ar_le g1 g4
  have hst:=len_flats st
  have hfs:=flats_step st n
  have hfl:=congrArg List.length hfs
  simp only [List.length_append,List.length_cons,List.length_nil] at hfl
  have hsub:=subss_step st n
  have hnews:news st (n :: xs) = topT st n :: news (stepT st n) xs:=rfl
  rw [hnews] at hre
  cases rest with
  | nil=>simp at hrl
  | cons r0 rest =>
  simp only [List.map_cons,List.cons.injEq] at hre
  obtain ⟨hr0,hre⟩:=hre
  subst hr0
  have IH:=ih (stepT st n) rest fu (by rw [hfs,h]; simp) ho.2 (TG_step hT ho.1) (by rw [hfix,hsub]; simp) (by simp at hrl; omega) hre (by simp at hf; omega)
  rw [hfl,show (((flats st).length + (0 + 1):Nat):Int) = ((flats st).length:Int) + 1 by omega,hsub] at IH
  obtain ⟨e1,e2⟩:=at_mid h rfl
  have htd:st.take (st.length - ar n) ++ st.drop (st.length - ar n) = st:=List.take_append_drop _ _
  have hkl:(st.drop (st.length - ar n)).length = ar n:=by simp; omega
  have e13:=rtypes_l13 F hF (fun fix5 i5 kids5 p5 out5 where_5=>bif idx i5 p5.2.2.2.length then oB (octroiref08_typed.sh F (get tNode p5.2.2.2 i5.toNat) kids5) fun c_6 =>
    bif (c_6.1.1 == (-1)) then kE ([]) i5 80
    else bif idx i5 p5.2.2.2.length then bif ((get tNode p5.2.2.2 i5.toNat).1 == 8) then bif idx 0 where_5.length then bif idx (get (.int .i64) where_5 0) fix5.length then bif !(get .bool fix5 ((get (.int .i64) where_5 0).toNat)) then bif idx 1 where_5.length then bif idx (get (.int .i64) where_5 1) fix5.length then bif !(get .bool fix5 ((get (.int .i64) where_5 1).toNat)) then kE ([]) i5 81
           else bif Nat.ble (out5.length + ([c_6.1.1]:List Int).length) maxN then octroiref08_Types.l7 F kE kE (fun _ _ _ _ out=>kO out) fu fix5 (IntKind.i64.wrap (i5 + 1)) p5 (out5 ++ ([c_6.1.1]:List Int))
           else none
          else none
         else none
        else bif Nat.ble (out5.length + ([c_6.1.1]:List Int).length) maxN then octroiref08_Types.l7 F kE kE (fun _ _ _ _ out=>kO out) fu fix5 (IntKind.i64.wrap (i5 + 1)) p5 (out5 ++ ([c_6.1.1]:List Int))
        else none
       else none
      else none
     else bif Nat.ble (out5.length + ([c_6.1.1]:List Int).length) maxN then octroiref08_Types.l7 F kE kE (fun _ _ _ _ out=>kO out) fu fix5 (IntKind.i64.wrap (i5 + 1)) p5 (out5 ++ ([c_6.1.1]:List Int))
     else none
    else none
   else none) p fix ((flats st).length:Int) (st.take (st.length - ar n)) ((subss st).map ty) (ar n) (st.drop (st.length - ar n)) [] (n :: xs) [] F hkl (fun t ht=>hT t (List.mem_of_mem_drop ht)) (by rw [List.append_nil,htd]; exact h) (by rw [List.append_nil,htd]) (by rw [List.append_nil,htd]; omega) (by simp) (by simp) (by omega) (by simp; omega) (by simp; omega)
  rw [hkl,htd] at e13
  have ht:=rtyped_eq F (by omega) hd ho.1 (l:=(st.drop (st.length - ar n)).map ty) (by simp; omega)
  have hty:tyN n ((st.drop (st.length - ar n)).map ty) = ty (topT st n):=by unfold topT; rw [ty_nd]
  rw [hty] at ht
  have hE:tyE (topT st n) = bif ty (topT st n) == -1 then 80 else bif linE n ((st.drop (st.length - ar n)).map noQ) then 81 else 0:=rfl
  have hol:((subss st).map ty).length = (flats st).length:=by rw [List.length_map,subss_len]
  have hble:∀ y,Nat.ble (((subss st).map ty).length + ([y]:List Int).length) maxN = true:=fun y=>ble_of (by rw [hol]; simp; omega)
  simp only [octroiref08_Types.l7,octroiref08_Types.l7.body,decide_eq_true (show (((flats st).length:Int) < (p.2.2.2.length:Int)) by omega),cond_true,e1,Int.toNat_natCast,e2]
  rw [rtakes_ok F g1 g4,wrap_i64 (n:=((flats st).length:Int) - 1) (by omega) (by omega)]
  simp only [oB_some]
  refine e13.trans ?_
  simp only [List.nil_append,List.map_nil,List.append_nil,e1,e2,cond_true,Int.toNat_natCast]
  rw [ht]
  simp only [oB_some,hble,cond_true,wrap_i64 (n:=((flats st).length:Int) + 1) (show -9223372036854775808 ≤ ((flats st).length:Int) + 1 by omega) (by omega),hnews,firstE,hE]
  have hgo:octroiref08_Types.l7 F kE kE (fun _ _ _ _ out=>kO out) fu fix (((flats st).length:Int) + 1) p ((subss st).map ty ++ [ty (topT st n)]) = match firstE tyE (news (stepT st n) xs) ((flats st).length + 1) with
   | some (j,e)=>kE [] (j:Int) e
   | none=>kO ((subss (endT st (n :: xs))).map ty):=by
   have:=IH
   rw [List.map_append] at this
   exact this
  cases hn:(ty (topT st n) == -1) with
  | true=>rfl
  | false =>
   simp only [cond_false]
   rw [show (n.1 == 8) = (nK n == 8) from rfl]
   unfold linE
   cases h8:(nK n == 8) with
   | false=>exact hgo
   | true =>
    have ha2:ar n = 2:=by rw [ar_of (by simpa using h8)]; rfl
    rw [ha2] at hkl htd ⊢
    cases hks:st.drop (st.length - 2) with
    | nil=>rw [hks] at hkl; simp at hkl
    | cons k0 l1 =>
    cases l1 with
    | nil=>rw [hks] at hkl; simp at hkl
    | cons k1 l2 =>
    cases l2 with
    | cons k2 l3=>rw [hks] at hkl; simp at hkl
    | nil =>
     rw [hks] at htd
     generalize st.take (st.length - 2) = B at *
     have hp0:=size_pos k0
     have hp1:=size_pos k1
     have hfB:(flats st).length = (flats B).length + k0.size + k1.size:=by
      rw [← htd,flats_app,flats_cons,flats_one]; simp [Tree.size]; omega
     have hfxl:fix.length = (flats st).length + (xs.length + 1):=by
      rw [hfix]; simp only [List.length_append,List.length_map,subss_len,List.length_cons]; simp at hrl; omega
     have w0:get (.int .i64) ((lasts (flats B).length [k0,k1]).reverse) 0 = (((flats B).length + k0.size + k1.size - 1:Nat):Int):=rfl
     have w1:get (.int .i64) ((lasts (flats B).length [k0,k1]).reverse) 1 = (((flats B).length + k0.size - 1:Nat):Int):=rfl
     have f0:get .bool fix ((flats B).length + k0.size + k1.size - 1) = noQ k1:=by
      have:=get_subs (t:=.bool) noQ (B ++ [k0]) [] k1 (noQ (topT st n) :: rest)
      rw [show B ++ [k0] ++ [k1] = st by rw [← htd]; simp] at this
      rw [show (flats (B ++ [k0])).length = (flats B).length + k0.size by rw [flats_app,flats_one]; simp [Tree.size]] at this
      rw [hfix]; exact this
     have f1:get .bool fix ((flats B).length + k0.size - 1) = noQ k0:=by
      have:=get_subs (t:=.bool) noQ B [k1] k0 (noQ (topT st n) :: rest)
      rw [htd] at this
      rw [hfix]; exact this
     have i0:idx 0 (lasts (flats B).length [k0,k1]).reverse.length = true:=rfl
     have i1:idx 1 (lasts (flats B).length [k0,k1]).reverse.length = true:=rfl
     have i2:idx (((flats B).length + k0.size + k1.size - 1:Nat):Int) fix.length = true:=rg_idx (by omega)
     have i3:idx (((flats B).length + k0.size - 1:Nat):Int) fix.length = true:=rg_idx (by omega)
     simp only [i0,i1,w0,w1,i2,i3,Int.toNat_natCast,f0,f1,cond_true,List.map_cons,List.map_nil,Bool.true_and]
     rw [show ([noQ k0,noQ k1]:List Bool).getD 0 false = noQ k0 from rfl,show ([noQ k0,noQ k1]:List Bool).getD 1 false = noQ k1 from rfl]
     cases noQ k1 with
     | true=>cases noQ k0 <;> exact hgo
     | false =>
      cases noQ k0 with
      | true=>exact hgo
      | false=>rfl
theorem rTypes_eq (F:Nat) (hF:4096 < F) {p:tPlan.T} {t:Tree} (h:Good p t):octroiref08_Types.sh F p = some (((typesR t).1,(typesR t).2.1,(typesR t).2.2,()),()):=by
 unfold octroiref08_Types.sh
 rw [rcheck_eq F (by omega),h.check,rConstant_eq F hF h]
 simp only [oB_some,bne_self_eq_false,cond_false]
 have hl:=h.len
 have hn:t.subs.length = p.2.2.2.length:=by rw [subs_len,h.flat]
 have hs:t.size = p.2.2.2.length:=by rw [Tree.size,h.flat]
 have hp:=size_pos t
 have e:=rtypes_l7 F hF (headE_dims h.head).2.1 (fun r27 r37 r47=>(some ((r27,r37,r47,()),()):Option octroiref08_Types.sg.R)) (fun out9=>octroiref08_Types.j24 F (fun r210 r310 r410=>some ((r210,r310,r410,()),())) (fun r211 r311 r411=>some ((r211,r311,r411,()),())) out9) p hl (t.subs.map noQ) p.2.2.2 [] (t.subs.map noQ) F (by simp [flats]) h.ok (by simp) (by simp [subss]) (by simpa using hn) (by rw [h.subs]) (by omega)
 rw [h.subs,h.eq,show (flats []).length = 0 from rfl,show ((0:Nat):Int) = 0 from rfl] at e
 refine Eq.trans e ?_
 unfold typesR
 cases firstE tyE t.subs 0 with
 | some x=>rfl
 | none =>
  simp only []
  unfold octroiref08_Types.j24
  obtain ⟨l,hsl⟩:=subs_last t
  have hll:(t.subs.map ty).length = t.size:=by rw [List.length_map,hn,hs]
  rw [subss_one,hll,wrap_i64 (n:=(t.size:Int) - 1) (by omega) (by omega),show (t.size:Int) - 1 = ((t.size - 1:Nat):Int) by omega,rg_idx (by omega),Int.toNat_natCast]
  have hg:get (.int .i64) (t.subs.map ty) (t.size - 1) = ty t:=by
   have:=get_subs (t:=.int .i64) ty [] [] t []
   rw [List.append_nil,List.nil_append,subss_one,show (flats []).length = 0 from rfl,Nat.zero_add] at this
   exact this
  rw [hg]
  cases (ty t != 1) <;> rfl
theorem rTypes_bad (F:Nat) (hF:4096 < F) {p:tPlan.T} (h:(checkS p).2 ≠ 0):octroiref08_Types.sh F p = some (([],(checkS p).1,(checkS p).2,()),()):=by
 unfold octroiref08_Types.sh
 rw [rcheck_eq F (by omega)]
 simp only [oB_some]
 rw [show ((checkS p).2 != 0) = true by simpa using h]
 rfl
end Go.VS
