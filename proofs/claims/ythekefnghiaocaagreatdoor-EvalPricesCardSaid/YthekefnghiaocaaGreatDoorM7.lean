import Derived.Test.YthekefnghiaocaaGreatDoorM6
set_option linter.unusedVariables false
set_option linter.unusedSimpArgs false
set_option linter.unusedSectionVars false
set_option linter.unusedVariables false
set_option linter.unusedSimpArgs false
set_option maxRecDepth 100000
namespace Go.VS
open Go
def offI (n:tNode.T):Int:=bif nK n == 15 then 1 else 0
def cnts:Tree→List Int:=Tree.fold (fun n ks=>(ks.flatten ++ [0]).map (fun x=>x + offI n))
def cntss (st:List Tree):List Int:=(st.map cnts).flatten
theorem cnts_nd (n:tNode.T) (ks:List Tree):cnts (.nd n ks) = (cntss ks ++ [0]).map (fun x=>x + offI n):=Tree.fold_nd _ n ks
theorem cntss_app (a b:List Tree):cntss (a ++ b) = cntss a ++ cntss b:=by simp [cntss]
theorem cntss_one (t:Tree):cntss [t] = cnts t:=by simp [cntss]
theorem cnts_len (t:Tree):(cnts t).length = t.size:=by
 refine Tree.ind (P:=fun t=>(cnts t).length = t.size) (fun n ks ih=>?_) t
 rw [cnts_nd,size_nd]
 simp only [List.length_map,List.length_append,List.length_cons,List.length_nil]
 have:(cntss ks).length = (flats ks).length:=by
  simp only [cntss,flats,List.length_flatten,List.map_map]
  congr 1
  exact List.map_congr_left (fun k hk=>ih k hk)
 omega
theorem cntss_len (st:List Tree):(cntss st).length = (flats st).length:=by
 simp only [cntss,flats,List.length_flatten,List.map_map]
 congr 1
 exact List.map_congr_left (fun k _=>cnts_len k)
theorem cnts_bd (t:Tree):∀ x ∈ cnts t,0 ≤ x∧x ≤ t.size:=by
 refine Tree.ind (P:=fun t=>∀ x ∈ cnts t,0 ≤ x∧x ≤ t.size) (fun n ks ih=>?_) t
 intro x hx
 rw [cnts_nd] at hx
 obtain ⟨y,hy,rfl⟩:=List.mem_map.1 hx
 rw [size_nd]
 have ho:0 ≤ offI n∧offI n ≤ 1:=by unfold offI; cases (nK n == 15) <;> simp
 rcases List.mem_append.1 hy with hy | hy
 ·obtain ⟨l,hl,hy⟩:=List.mem_flatten.1 hy
  obtain ⟨k,hk,rfl⟩:=List.mem_map.1 hl
  have h1:=ih k hk y hy
  have h2:=flat_mem hk
  omega
 ·rw [List.mem_singleton.1 hy]; omega
theorem cntss_bd {st:List Tree}:∀ x ∈ cntss st,0 ≤ x∧x ≤ (flats st).length:=by
 intro x hx
 obtain ⟨l,hl,hy⟩:=List.mem_flatten.1 hx
 obtain ⟨k,hk,rfl⟩:=List.mem_map.1 hl
 have h1:=cnts_bd k x hy
 have h2:=flat_mem hk
 omega
theorem maxF_iff {b m:Int} {l:List Int}:maxF m l ≤ b ↔ m ≤ b∧∀ x ∈ l,x ≤ b:=by
 have h:=maxF_ge l m
 constructor
 ·intro hb
  exact ⟨by omega,fun x hx=>by have:=h.2 x hx; omega⟩
 ·rintro ⟨h1,h2⟩
  exact maxF_le l m h1 h2
theorem le_ext {x y:Int} (h:∀ b,x ≤ b ↔ y ≤ b):x = y:=by
 have h1:=(h y).2 (Int.le_refl _)
 have h2:=(h x).1 (Int.le_refl _)
 omega
theorem maxF_app (m:Int) (a b:List Int):maxF m (a ++ b) = maxF (maxF m a) b:=by unfold maxF; rw [List.foldl_append]
theorem deep_cnts (t:Tree):maxF 0 (cnts t) = deep t:=by
 refine Tree.ind (P:=fun t=>maxF 0 (cnts t) = deep t) (fun n ks ih=>?_) t
 have ho:0 ≤ offI n∧offI n ≤ 1:=by unfold offI; cases (nK n == 15) <;> simp
 have hd:=deep_nd n ks
 rw [show (bif nK n == 15 then (1:Int) else 0) = offI n from rfl] at hd
 have hk0:∀ x ∈ ks.map deep,0 ≤ x:=by
  intro x hx
  obtain ⟨k,_,rfl⟩:=List.mem_map.1 hx
  exact (deep_bd k).1
 have hm0:=(maxL_ge hk0).1
 refine le_ext fun b=>?_
 rw [cnts_nd,hd,maxF_iff]
 constructor
 ·rintro ⟨h1,h2⟩
  have hz:=h2 (0 + offI n) (List.mem_map.2 ⟨0,by simp,rfl⟩)
  have:maxL (ks.map deep) ≤ b - offI n:=maxL_le (by omega) (by
   intro x hx
   obtain ⟨k,hk,rfl⟩:=List.mem_map.1 hx
   rw [← ih k hk,maxF_iff]
   refine ⟨by omega,fun y hy=>?_⟩
   have:=h2 (y + offI n) (List.mem_map.2 ⟨y,List.mem_append.2 (.inl (List.mem_flatten.2 ⟨cnts k,List.mem_map.2 ⟨k,hk,rfl⟩,hy⟩)),rfl⟩)
   omega)
  omega
 ·intro h
  refine ⟨by omega,fun x hx=>?_⟩
  obtain ⟨y,hy,rfl⟩:=List.mem_map.1 hx
  rcases List.mem_append.1 hy with hy | hy
  ·obtain ⟨l,hl,hy⟩:=List.mem_flatten.1 hy
   obtain ⟨k,hk,rfl⟩:=List.mem_map.1 hl
   have h1:=(maxF_ge (cnts k) 0).2 y hy
   rw [ih k hk] at h1
   have h2:=(maxL_ge hk0).2 (deep k) (List.mem_map.2 ⟨k,hk,rfl⟩)
   omega
  ·rw [List.mem_singleton.1 hy]; omega
theorem set_at {A Z:List Int} {x y:Int}:(A ++ x :: Z).set A.length y = A ++ y :: Z:=by simp
theorem getI_mid {A Z:List Int} {x:Int}:get (.int .i64) (A ++ x :: Z) A.length = x:=by
 unfold get
 rw [List.getD_eq_getElem?_getD]; simp
theorem rscale_l15 (F:Nat) {R:Type} (k0:Int→Int→tPlan.T→List Int→Option R) (p:tPlan.T) (i:Int):∀ (seg A Z:List Int) (most:Int) (fu:Nat),i = (A.length:Int) + (seg.length:Int) - 1→A.length + seg.length ≤ 50000→(∀ x ∈ seg,0 ≤ x∧x ≤ 50000)→seg.length < fu →
  octroiref05_Scale.l15 F (fun most i _ _ p deep=>k0 most i p deep) fu most i (A.length:Int) p (A ++ seg ++ Z) = k0 (maxF most (seg.map (fun x=>x + 1))) i p (A ++ seg.map (fun x=>x + 1) ++ Z):=by
 intro seg
 induction seg with
 | nil =>
  intro A Z most fu hi hl hb hf
  obtain ⟨fu,rfl⟩:∃ j,fu = j + 1:=⟨fu - 1,by simp at hf; omega⟩
  simp only [List.length_nil] at hi
  simp only [octroiref05_Scale.l15,octroiref05_Scale.l15.body,decide_eq_false (show ¬ ((A.length:Int) ≤ i) by omega),cond_false,List.map_nil]
  rfl
 | cons x seg ih =>
  intro A Z most fu hi hl hb hf
  obtain ⟨fu,rfl⟩:∃ j,fu = j + 1:=⟨fu - 1,by simp at hf; omega⟩
  simp only [List.length_cons] at hi hl hf
  have hx:=hb x (by simp)
  have hL:A ++ x :: seg ++ Z = A ++ x :: (seg ++ Z):=by simp
  rw [hL]
  have e1:idx (A.length:Int) (A ++ x :: (seg ++ Z)).length = true:=rg_idx (by simp)
  have e2:idx (A.length:Int) (A ++ (x + 1) :: (seg ++ Z)).length = true:=rg_idx (by simp)
  have IH:=fun m=>ih (A ++ [x + 1]) Z m fu (by simp; omega) (by simp; omega) (fun y hy=>hb y (by simp [hy])) (by omega)
  simp only [List.length_append,List.length_cons,List.length_nil,Nat.zero_add] at IH
  have hA:A ++ [x + 1] ++ seg ++ Z = A ++ (x + 1) :: (seg ++ Z):=by simp
  have hA2:A ++ [x + 1] ++ seg.map (fun x=>x + 1) ++ Z = A ++ (x :: seg).map (fun x=>x + 1) ++ Z:=by simp
  simp only [hA,hA2] at IH
  simp only [octroiref05_Scale.l15,octroiref05_Scale.l15.body,decide_eq_true (show ((A.length:Int) ≤ i) by omega),cond_true,e1,Int.toNat_natCast,getI_mid,wrap_i64 (n:=x + 1) (by omega) (by omega),set_at,e2,wrap_i64 (n:=(A.length:Int) + 1) (by omega) (by omega)]
  rw [← rg_cast,IH,IH]
  have hm:maxF most ((x :: seg).map (fun x=>x + 1)) = maxF (if x + 1 > most then x + 1 else most) (seg.map (fun x=>x + 1)):=rfl
  rw [hm]
  by_cases hgt:x + 1 > most
  ·rw [decide_eq_true hgt,if_pos hgt]; rfl
  ·rw [decide_eq_false hgt,if_neg hgt]; rfl
theorem rscale_l6 (F:Nat) {R:Type} (k:tPlan.T→List Int→Option R) (p:tPlan.T) (hL:p.2.2.2.length ≤ 2048):∀ (m i fu:Nat),i + m = p.2.2.2.length→m < fu →
  octroiref05_Scale.l6 F (fun _ _ p deep=>k p deep) fu (i:Int) p (List.replicate i 0) = k p (List.replicate p.2.2.2.length 0):=by
 intro m
 induction m with
 | zero =>
  intro i fu hi hf
  obtain ⟨fu,rfl⟩:∃ j,fu = j + 1:=⟨fu - 1,by omega⟩
  simp only [octroiref05_Scale.l6,octroiref05_Scale.l6.body,decide_eq_false (show ¬ ((i:Int) < (p.2.2.2.length:Int)) by omega),cond_false]
  rw [show i = p.2.2.2.length by omega]
 | succ m ih =>
  intro i fu hi hf
  obtain ⟨fu,rfl⟩:∃ j,fu = j + 1:=⟨fu - 1,by omega⟩
  simp only [octroiref05_Scale.l6,octroiref05_Scale.l6.body,decide_eq_true (show ((i:Int) < (p.2.2.2.length:Int)) by omega),cond_true]
  rw [ble_of (by simp; omega),wrap_i64 (by omega) (by omega),← rg_cast]
  simp only [cond_true]
  rw [← List.replicate_succ']
  exact ih (i + 1) fu (by omega) (by omega)
theorem rscale_l11 (F:Nat) (hF:4096 < F) {R:Type} (dims:Nat) (k:Int→Option R) (p:tPlan.T) (hL:p.2.2.2.length ≤ 1024):∀ (xs:List tNode.T) (st:List Tree) (fu:Nat),p.2.2.2 = flats st ++ xs→okS dims st xs→(∀ t ∈ st,TG t)→xs.length < fu →
  octroiref05_Scale.l11 F (fun most _ _ _ _=>k most) fu (maxF 0 (cntss st)) ((flats st).length:Int) p (cntss st ++ List.replicate xs.length 0) = k (maxF 0 (cntss (endT st xs))):=by
 intro xs
 induction xs with
 | nil =>
  intro st fu h ho hT hf
  obtain ⟨fu,rfl⟩:∃ j,fu = j + 1:=⟨fu - 1,by simp at hf; omega⟩
  have:p.2.2.2.length = (flats st).length:=by rw [h]; simp
  simp only [octroiref05_Scale.l11,octroiref05_Scale.l11.body,decide_eq_false (show ¬ (((flats st).length:Int) < (p.2.2.2.length:Int)) by omega),cond_false,endT]
 | cons n xs ih =>
  intro st fu h ho hT hf
  obtain ⟨fu,rfl⟩:∃ j,fu = j + 1:=⟨fu - 1,by simp at hf; omega⟩
  have hlen:p.2.2.2.length = (flats st).length + (xs.length + 1):=by rw [h]; simp
  have hTt:=TG_top hT ho.1
  have hfi:=First_top F hF hTt h (by omega)
  have hfs:=flats_step st n
  have hfl:=congrArg List.length hfs
  simp only [List.length_append,List.length_cons,List.length_nil] at hfl
  have hts:=top_size (st:=st) (n:=n)
  have IH:=ih (stepT st n) fu (by rw [hfs,h]; simp) ho.2 (TG_step hT ho.1) (by simp at hf; omega)
  rw [hfl,show (((flats st).length + (0 + 1):Nat):Int) = ((flats st).length:Int) + 1 by omega] at IH
  obtain ⟨e1,e2⟩:=at_mid h rfl
  have hst:cntss st = cntss (st.take (st.length - ar n)) ++ cntss (st.drop (st.length - ar n)):=by rw [← cntss_app,List.take_append_drop]
  have hstep:cntss (stepT st n) = cntss (st.take (st.length - ar n)) ++ (cntss (st.drop (st.length - ar n)) ++ [0]).map (fun x=>x + offI n):=by
   unfold stepT topT
   rw [cntss_app,cntss_one,cnts_nd]
  simp only [octroiref05_Scale.l11,octroiref05_Scale.l11.body,decide_eq_true (show (((flats st).length:Int) < (p.2.2.2.length:Int)) by omega),cond_true,e1,Int.toNat_natCast,e2]
  rw [show (n.1 != 15) = !(nK n == 15) from rfl,wrap_i64 (n:=((flats st).length:Int) + 1) (by omega) (by omega)]
  have hend:endT st (n :: xs) = endT (stepT st n) xs:=rfl
  rw [hend]
  have hb0:∀ x ∈ cntss (st.drop (st.length - ar n)) ++ [0],0 ≤ x∧x ≤ 50000:=by
   intro x hx
   rcases List.mem_append.1 hx with hx | hx
   ·have h1:=cntss_bd x hx
    have:(flats (st.drop (st.length - ar n))).length ≤ (flats st).length:=by
     have e:=congrArg List.length (flats_app (st.take (st.length - ar n)) (st.drop (st.length - ar n)))
     rw [List.take_append_drop,List.length_append] at e
     omega
    omega
   ·rw [List.mem_singleton.1 hx]; omega
  cases h15:(nK n == 15) with
  | false =>
   have ho0:offI n = 0:=by unfold offI; rw [h15]; rfl
   rw [ho0] at hstep
   have hmap:(cntss (st.drop (st.length - ar n)) ++ [0]).map (fun x:Int=>x + 0) = cntss (st.drop (st.length - ar n)) ++ [0]:=by simp
   rw [hmap,← List.append_assoc,← hst] at hstep
   have hm:maxF 0 (cntss st ++ [0]) = maxF 0 (cntss st):=by
    rw [maxF_app]
    have:=(maxF_ge (cntss st) 0).1
    show (if (0:Int) > maxF 0 (cntss st) then 0 else maxF 0 (cntss st)) = _
    rw [if_neg (by omega)]
   rw [hstep,hm,List.append_assoc] at IH
   simp only [Bool.not_false,cond_true]
   exact IH
  | true =>
   have ho1:offI n = 1:=by unfold offI; rw [h15]; rfl
   rw [ho1] at hstep
   simp only [Bool.not_true,cond_false]
   rw [hfi]
   simp only [oB_some]
   have hcl:=cntss_len (st.take (st.length - ar n))
   have hcl2:=cntss_len (st.drop (st.length - ar n))
   have hfd:(flats (st.take (st.length - ar n))).length + (flats (st.drop (st.length - ar n))).length = (flats st).length:=by
    have e:=congrArg List.length (flats_app (st.take (st.length - ar n)) (st.drop (st.length - ar n)))
    rw [List.take_append_drop,List.length_append] at e
    omega
   have e15:=rscale_l15 F (fun most4 i4 p4 deep4=>octroiref05_Scale.l11 F (fun most _ _ _ _=>k most) fu most4 (IntKind.i64.wrap (i4 + 1)) p4 deep4) p ((flats st).length:Int) (cntss (st.drop (st.length - ar n)) ++ [0]) (cntss (st.take (st.length - ar n))) (List.replicate xs.length 0) (maxF 0 (cntss st)) F
    (by simp; omega) (by simp; omega) hb0 (by simp; omega)
   rw [hcl] at e15
   have hdeep:cntss st ++ List.replicate (n :: xs).length 0 = cntss (st.take (st.length - ar n)) ++ (cntss (st.drop (st.length - ar n)) ++ [0]) ++ List.replicate xs.length 0:=by
    rw [hst,List.length_cons,List.replicate_succ]; simp
   rw [hdeep]
   refine e15.trans ?_
   rw [wrap_i64 (n:=((flats st).length:Int) + 1) (by omega) (by omega)]
   rw [hstep] at IH
   have hmm:maxF (maxF 0 (cntss st)) ((cntss (st.drop (st.length - ar n)) ++ [0]).map (fun x=>x + 1)) = maxF 0 (cntss (st.take (st.length - ar n)) ++ (cntss (st.drop (st.length - ar n)) ++ [0]).map (fun x=>x + 1)):=by
    refine le_ext fun b=>?_
    rw [maxF_iff,maxF_iff,maxF_iff,hst]
    constructor
    ·rintro ⟨⟨h1,h2⟩,h3⟩
     refine ⟨h1,fun x hx=>?_⟩
     rcases List.mem_append.1 hx with hx | hx
     ·exact h2 x (List.mem_append.2 (.inl hx))
     ·exact h3 x hx
    ·rintro ⟨h1,h2⟩
     refine ⟨⟨h1,fun x hx=>?_⟩,fun x hx=>h2 x (List.mem_append.2 (.inr hx))⟩
     rcases List.mem_append.1 hx with hx | hx
     ·exact h2 x (List.mem_append.2 (.inl hx))
     ·have:=h2 (x + 1) (List.mem_append.2 (.inr (List.mem_map.2 ⟨x,List.mem_append.2 (.inl hx),rfl⟩)))
      omega
   rw [hmm]
   exact IH
theorem rScale_eq (F:Nat) (hF:4096 < F) {p:tPlan.T} {t:Tree} (h:Good p t):octroiref05_Scale.sh F p = some ((deep t,0,()),()):=by
 unfold octroiref05_Scale.sh
 rw [rcheck_eq F (by omega),h.check]
 simp only [oB_some,bne_self_eq_false,cond_false]
 have hl:=h.len
 have e6:=rscale_l6 F (fun p2 deep2=>octroiref05_Scale.l11 F (fun most5 i5 t335 p5 deep5=>(some ((most5,0,()),()):Option octroiref05_Scale.sg.R)) F 0 0 p2 deep2) p (by omega) p.2.2.2.length 0 F (by omega) (by omega)
 rw [show ((0:Nat):Int) = 0 from rfl,List.replicate_zero] at e6
 rw [e6]
 have e:=rscale_l11 F hF p.2.1.length (fun most5=>(some ((most5,0,()),()):Option octroiref05_Scale.sg.R)) p hl p.2.2.2 [] F (by simp [flats]) h.ok (by simp) (by omega)
 rw [h.eq,cntss_one,deep_cnts] at e
 exact e
end Go.VS
