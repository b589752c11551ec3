import Derived.Test.YthekefnghiaocaaDoorL6
set_option linter.unusedVariables false
set_option linter.unusedSimpArgs false
set_option linter.unusedSectionVars false
set_option linter.unusedVariables false
set_option linter.unusedSimpArgs false
set_option maxRecDepth 100000
namespace Go.VS
open Go
theorem size_nd (n:tNode.T) (ks:List Tree):Tree.size (.nd n ks) = (flats ks).length + 1:=by simp [Tree.size,flat_nd]
theorem size_pos (t:Tree):1 ≤ t.size:=by
 cases t with
 | nd n ks=>rw [size_nd]; omega
theorem flats_cons (t:Tree) (l:List Tree):flats (t :: l) = t.flat ++ flats l:=by simp [flats]
theorem len_flats:∀ st:List Tree,st.length ≤ (flats st).length
 | []=>by simp
 | t :: r=>by
  have:=len_flats r
  have:=size_pos t
  rw [flats_cons]
  simp only [List.length_append,List.length_cons]
  unfold Tree.size at this
  omega
theorem ble_of {a:Nat} (h:a ≤ 4194304):Nat.ble a maxN = true:=by rw [Nat.ble_eq]; exact Nat.le_trans h (by decide)
theorem wrap_sub {a b:Nat} (h:b ≤ a) (ha:a < 4611686018427387904):IntKind.i64.wrap ((a:Int) - (b:Int)) = ((a - b:Nat):Int):=by
 rw [wrap_i64 (by omega) (by omega)]; omega
theorem top_size {st:List Tree} {n:tNode.T}:(topT st n).size + (flats (st.take (st.length - ar n))).length = (flats st).length + 1:=by
 unfold topT
 rw [size_nd]
 have:flats st = flats (st.take (st.length - ar n)) ++ flats (st.drop (st.length - ar n)):=by rw [← flats_app,List.take_append_drop]
 have:=congrArg List.length this
 simp only [List.length_append] at this
 omega
def starts:Nat→List Tree→List Int
 | _,[]=>[]
 | b,t :: r=>(b:Int) :: starts (b + t.size) r
def fsts:Nat→List Tree→List Int
 | _,[]=>[]
 | i,t :: r=>((i + 1 - t.size:Nat):Int) :: fsts (i + 1) r
theorem starts_len:∀ (l:List Tree) (b:Nat),(starts b l).length = l.length
 | [],b=>rfl
 | t :: r,b=>by simp [starts,starts_len r]
theorem fsts_len:∀ (l:List Tree) (b:Nat),(fsts b l).length = l.length
 | [],b=>rfl
 | t :: r,b=>by simp [fsts,fsts_len r]
theorem starts_app:∀ (a c:List Tree) (b:Nat),starts b (a ++ c) = starts b a ++ starts (b + (flats a).length) c
 | [],c,b=>by simp [starts,flats]
 | t :: r,c,b=>by
  simp only [List.cons_append,starts,starts_app r c,flats_cons,List.length_append]
  rw [show b + t.size + (flats r).length = b + (t.flat.length + (flats r).length) by unfold Tree.size; omega]
theorem starts_take (a:List Tree) (b m:Nat):(starts b a).take m = starts b (a.take m):=by
 have:starts b a = starts b (a.take m ++ a.drop m):=by rw [List.take_append_drop]
 rw [this,starts_app,List.take_append]
 simp only [starts_len,List.length_take]
 rcases Nat.le_total m a.length with h | h
 ·rw [Nat.min_eq_left h,Nat.sub_self,List.take_zero,List.append_nil,List.take_of_length_le (by rw [starts_len,List.length_take]; omega)]
 ·rw [List.drop_of_length_le h]
  simp only [starts,List.take_nil,List.append_nil]
  rw [List.take_of_length_le (by rw [starts_len,List.length_take]; omega)]
theorem starts_step (st:List Tree) (n:tNode.T):starts 0 (stepT st n) = (starts 0 st).take (st.length - ar n) ++ [(((flats (st.take (st.length - ar n))).length:Nat):Int)]:=by
 unfold stepT
 rw [starts_app,starts_take]
 simp only [starts,Nat.zero_add]
theorem starts_get {st:List Tree} {m:Nat} (h:m < st.length):(starts 0 st).getD m 0 = (((flats (st.take m)).length:Nat):Int):=by
 have e:st = st.take m ++ st.drop m:=by rw [List.take_append_drop]
 have:starts 0 st = starts 0 (st.take m) ++ starts (0 + (flats (st.take m)).length) (st.drop m):=by rw [← starts_app,List.take_append_drop]
 have hl:(starts 0 (st.take m)).length = m:=by rw [starts_len,List.length_take]; omega
 rw [List.getD_eq_getElem?_getD,this,List.getElem?_append_right (by omega),hl,Nat.sub_self]
 cases hd:st.drop m with
 | nil =>
  have:=congrArg List.length hd
  simp at this
  omega
 | cons t r=>simp [starts]
theorem firsts_rg (F:Nat) {R:Type} (dims:Nat) (k:List Int→Option R) (L:List tNode.T) (N:Int):∀ (xs:List tNode.T) (st:List Tree) (list:List Int),okS dims st xs→(flats st).length + xs.length ≤ 2048→list.length ≤ (flats st).length →
  tree_firsts.l3.rg F (fun _ _ _ _ list _=>k list) L N xs ((flats st).length:Int) list (starts 0 st) = k (list ++ fsts (flats st).length (news st xs)):=by
 intro xs
 induction xs with
 | nil=>intro st list h h2 h3; simp [tree_firsts.l3.rg,news,fsts]
 | cons n xs ih =>
  intro st list h h2 h3
  obtain ⟨g1,g2,g3,g4,g5,g6,g7,g8⟩:=nodeE_ok h.1
  have hst:=len_flats st
  have hfs:=congrArg List.length (flats_step st n)
  have hts:=top_size (st:=st) (n:=n)
  have htp:=size_pos (topT st n)
  simp only [List.length_cons,List.length_append,List.length_nil] at h2 hfs
  have IH:=ih (stepT st n) (list ++ [(((flats st).length + 1 - (topT st n).size:Nat):Int)]) h.2 (by omega) (by simp; omega)
  have e1:(flats st).length + 1 - (topT st n).size = (flats (st.take (st.length - ar n))).length:=by omega
  rw [hfs,starts_step,← e1] at IH
  simp only [tree_firsts.l3.rg]
  rw [takes_eq F g1 g4]
  simp only [oB_some,starts_len]
  rw [wrap_sub g7 (by omega)]
  rw [bounds_hi (by omega)]
  simp only [news,fsts,Int.toNat_natCast]
  simp only [Nat.zero_add,List.append_assoc,List.singleton_append] at IH
  rw [rg_cast] at IH
  cases hk:decide ((ar n:Int) > 0) with
  | true =>
   have hk:=of_decide_eq_true hk
   have hm:st.length - ar n < st.length:=by omega
   have e2:get (.int .i64) (starts 0 st) (st.length - ar n) = (((flats st).length + 1 - (topT st n).size:Nat):Int):=by rw [e1]; exact starts_get hm
   rw [rg_idx hm,e2]
   simp only [cond_true]
   rw [ble_of (by simp [starts_len]; omega),ble_of (by simp; omega)]
   simp only [cond_true]
   exact IH
  | false =>
   have hk:=of_decide_eq_false hk
   have hk0:ar n = 0:=by omega
   have e2:(flats st).length + 1 - (topT st n).size = (flats st).length:=by
    rw [e1,hk0,Nat.sub_zero,List.take_length]
   simp only [cond_false]
   rw [ble_of (by simp; omega),ble_of (by simp; omega)]
   simp only [cond_true]
   rw [hk0,Nat.sub_zero,List.take_of_length_le (by rw [starts_len]; omega),e2] at IH
   rw [e2]
   exact IH
def isQ (n:tNode.T):Bool:=nK n == 3 || nK n == 4
def noQ (t:Tree):Bool:=t.flat.all fun n=>!isQ n
def lastQ:List tNode.T→Int×Int→Int×Int
 | [],s=>s
 | n :: r,s=>lastQ r (s.1 + 1,bif isQ n then s.1 else s.2)
theorem lastQ_app:∀ (a b:List tNode.T) (s:Int×Int),lastQ (a ++ b) s = lastQ b (lastQ a s)
 | [],b,s=>rfl
 | n :: r,b,s=>lastQ_app r b _
theorem lastQ_fst:∀ (a:List tNode.T) (s:Int×Int),(lastQ a s).1 = s.1 + a.length
 | [],s=>by simp [lastQ]
 | n :: r,s=>by rw [lastQ,lastQ_fst r]; simp; omega
theorem lastQ_lt:∀ (c:List tNode.T) (s:Int×Int) (b:Int),b ≤ s.1→(decide ((lastQ c s).2 < b) = ((c.all fun n=>!isQ n) && decide (s.2 < b)))
 | [],s,b,h=>by rw [List.all_nil,Bool.true_and]; rfl
 | n :: r,s,b,h=>by
  rw [lastQ,lastQ_lt r _ b (by simp; omega)]
  simp only [List.all_cons]
  cases hq:isQ n with
  | true =>
   have:decide (s.1 < b) = false:=decide_eq_false (by omega)
   simp [this]
  | false=>simp
theorem lastQ_lo:∀ (a:List tNode.T) (s:Int×Int),s.2 < s.1→(lastQ a s).2 < (lastQ a s).1
 | [],s,h=>h
 | n :: r,s,h=>by
  rw [lastQ]
  refine lastQ_lo r _ ?_
  cases isQ n with
  | true=>simp only [cond_true]; omega
  | false=>simp only [cond_false]; omega
theorem noQ_top (st:List Tree) (n:tNode.T):decide ((lastQ (flats st ++ [n]) (0,-1)).2 < (((flats st).length + 1 - (topT st n).size:Nat):Int)) = noQ (topT st n):=by
 have hts:=top_size (st:=st) (n:=n)
 have e1:(flats st).length + 1 - (topT st n).size = (flats (st.take (st.length - ar n))).length:=by omega
 have e2:flats st ++ [n] = flats (st.take (st.length - ar n)) ++ (topT st n).flat:=by
  rw [← flats_step]; unfold stepT; rw [flats_app,flats_one]
 rw [e1,e2,lastQ_app]
 have h1:=lastQ_fst (flats (st.take (st.length - ar n))) (0,-1)
 rw [lastQ_lt _ _ _ (by rw [h1]; simp)]
 have h2:=lastQ_lo (flats (st.take (st.length - ar n))) (0,-1) (by decide)
 rw [h1] at h2
 simp only [Int.zero_add] at h2
 rw [decide_eq_true h2,Bool.and_true]
 rfl
theorem constant_rg (F:Nat) {R:Type} (dims:Nat) (k:List Bool→Option R) (L:List tNode.T) (N:Int) (list:List Int):∀ (xs:List tNode.T) (st:List Tree) (pre:List Int) (out:List Bool),okS dims st xs→(flats st).length + xs.length ≤ 2048 →
  list = pre ++ fsts (flats st).length (news st xs)→pre.length = (flats st).length→out.length = (flats st).length →
  tree_Constant.l7.rg F (fun _ _ _ _ _ _ out=>k out) L N xs ((flats st).length:Int) list (lastQ (flats st) (0,-1)).2 (out ++ List.replicate xs.length false) = k (out ++ (news st xs).map noQ):=by
 intro xs
 induction xs with
 | nil=>intro st pre out h h2 h3 h4 h5; simp [tree_Constant.l7.rg,news]
 | cons n xs ih =>
  intro st pre out h h2 h3 h4 h5
  have hfs:=congrArg List.length (flats_step st n)
  simp only [List.length_cons,List.length_append,List.length_nil] at h2 hfs
  simp only [news,fsts] at h3
  have IH:=ih (stepT st n) (pre ++ [(((flats st).length + 1 - (topT st n).size:Nat):Int)]) (out ++ [noQ (topT st n)]) h.2 (by omega) (by rw [h3,hfs]; simp) (by simp; omega) (by simp; omega)
  have hq:=noQ_top st n
  rw [lastQ_app] at hq
  have hl:=lastQ_fst (flats st) (0,-1)
  simp only [Int.zero_add] at hl
  rw [hfs,rg_cast,flats_step,lastQ_app] at IH
  simp only [lastQ,hl] at IH hq
  have hg:get (.int .i64) list (Int.toNat ((flats st).length:Int)) = (((flats st).length + 1 - (topT st n).size:Nat):Int):=by
   rw [Int.toNat_natCast,get,h3,List.getD_eq_getElem?_getD,List.getElem?_append_right (by omega),h4,Nat.sub_self]
   rfl
  have hi1:idx ((flats st).length:Int) list.length = true:=rg_idx (by rw [h3]; simp; omega)
  have hi2:idx ((flats st).length:Int) (out ++ List.replicate (n :: xs).length false).length = true:=rg_idx (by simp; omega)
  have hset:∀ b:Bool,(out ++ List.replicate (n :: xs).length false).set (Int.toNat ((flats st).length:Int)) b = (out ++ [b]) ++ List.replicate xs.length false:=by
   intro b
   rw [Int.toNat_natCast,List.set_append_right _ _ (by omega),h5,Nat.sub_self]
   simp [List.replicate_succ]
  simp only [tree_Constant.l7.rg,hi1,hi2,hset,cond_true,hg]
  simp only [news,List.map_cons]
  simp only [List.append_assoc,List.singleton_append] at IH ⊢
  cases h3':(nK n == 3) with
  | true =>
   have hqq:isQ n = true:=by unfold isQ; rw [h3']; rfl
   rw [hqq] at IH hq
   simp only [cond_true] at IH hq
   rw [hq]
   exact IH
  | false =>
   cases h4':(nK n == 4) with
   | true =>
    have hqq:isQ n = true:=by unfold isQ; rw [h3',h4']; rfl
    rw [hqq] at IH hq
    simp only [cond_true] at IH hq
    rw [hq]
    exact IH
   | false =>
    have hqq:isQ n = false:=by unfold isQ; rw [h3',h4']; rfl
    rw [hqq] at IH hq
    simp only [cond_false] at IH hq
    rw [hq]
    exact IH
def maxF (m:Int) (l:List Int):Int:=l.foldl (fun m x=>if x > m then x else m) m
def maxL:List Int→Int
 | []=>0
 | a :: r=>maxF a r
def deep:Tree→Int:=Tree.fold (fun n ks=>maxL ks + bif nK n == 15 then 1 else 0)
theorem deep_nd (n:tNode.T) (ks:List Tree):deep (.nd n ks) = maxL (ks.map deep) + bif nK n == 15 then 1 else 0:=Tree.fold_nd _ n ks
theorem maxF_le {b:Int}:∀ (l:List Int) (m:Int),m ≤ b→(∀ x ∈ l,x ≤ b)→maxF m l ≤ b
 | [],m,h,_=>h
 | x :: r,m,h,hl=>by
  show maxF (if x > m then x else m) r ≤ b
  refine maxF_le r _ ?_ (fun y hy=>hl y (by simp [hy]))
  have:=hl x (by simp)
  split <;> omega
theorem maxF_ge:∀ (l:List Int) (m:Int),m ≤ maxF m l∧∀ x ∈ l,x ≤ maxF m l
 | [],m=>⟨by simp [maxF],by simp⟩
 | x :: r,m=>by
  have h:=maxF_ge r (if x > m then x else m)
  have e:maxF m (x :: r) = maxF (if x > m then x else m) r:=rfl
  rw [e]
  have h0:m ≤ (if x > m then x else m)∧x ≤ (if x > m then x else m):=by split <;> omega
  refine ⟨by omega,fun y hy=>?_⟩
  rcases List.mem_cons.1 hy with rfl | hy
  ·omega
  ·exact h.2 y hy
theorem maxL_le {b:Int} {l:List Int} (hb:0 ≤ b) (h:∀ x ∈ l,x ≤ b):maxL l ≤ b:=by
 cases l with
 | nil=>exact hb
 | cons a r=>exact maxF_le r a (h a (by simp)) (fun x hx=>h x (by simp [hx]))
theorem maxL_ge {l:List Int} (h0:∀ x ∈ l,0 ≤ x):0 ≤ maxL l∧∀ x ∈ l,x ≤ maxL l:=by
 cases l with
 | nil=>simp [maxL]
 | cons a r =>
  have:=maxF_ge r a
  refine ⟨by have:=h0 a (by simp); simp only [maxL]; omega,fun x hx=>?_⟩
  rcases List.mem_cons.1 hx with rfl | hx
  ·exact this.1
  ·exact this.2 x hx
theorem flat_mem {ks:List Tree} {k:Tree} (h:k ∈ ks):k.size ≤ (flats ks).length:=by
 obtain ⟨a,b,rfl⟩:=List.append_of_mem h
 rw [flats_app,flats_cons]
 simp only [List.length_append,Tree.size]
 omega
theorem deep_bd (t:Tree):0 ≤ deep t∧deep t ≤ t.size:=by
 refine Tree.ind (P:=fun t=>0 ≤ deep t∧deep t ≤ t.size) (fun n ks ih=>?_) t
 rw [deep_nd,size_nd]
 have h1:0 ≤ maxL (ks.map deep):=(maxL_ge (by simp only [List.mem_map]; rintro x ⟨k,hk,rfl⟩; exact (ih k hk).1)).1
 have h2:maxL (ks.map deep) ≤ (flats ks).length:=maxL_le (by omega) (by
  simp only [List.mem_map]
  rintro x ⟨k,hk,rfl⟩
  have:=(ih k hk).2
  have:=flat_mem hk
  omega)
 cases nK n == 15 <;> simp only [cond_true,cond_false] <;> omega
theorem max_rg (F:Nat) {R:Type} (k:Int→Option R) (X:List Int):∀ (xs:List Int) (i m:Int),slices_Max_int.l5.rg F (fun _ m _ _=>k m) X xs i m = k (maxF m xs)
 | [],i,m=>rfl
 | x :: r,i,m=>by
  rw [slices_Max_int.l5.rg,max_rg F k X r]
  rfl
theorem max_eq (F:Nat) {l:List Int} (h:1 ≤ l.length) (hF:l.length < F) (hL:l.length < 4611686018427387904):slices_Max_int.sh F l = some ((maxL l,()),()):=by
 unfold slices_Max_int.sh
 rw [decide_eq_false (show ¬ (l.length:Int) < 1 by omega),show idx 0 l.length = true from rg_idx (i:=0) (by omega)]
 simp only [cond_false,cond_true]
 cases l with
 | nil=>simp at h
 | cons a r =>
  refine Eq.trans (slices_Max_int.l5.rg_eq F _ (a :: r) (by omega) r 1 F _ (by simp) (by simp at hF; omega)) ?_
  exact max_rg F (fun m=>(some ((m,()),()):Option slices_Max_int.sg.R)) (a :: r) r _ _
theorem scale_rg (F:Nat) (hF:4096 < F) {R:Type} (dims:Nat) (k:List Int→Option R) (L:List tNode.T) (N:Int):∀ (xs:List tNode.T) (st:List Tree) (i:Int),okS dims st xs→(flats st).length + xs.length ≤ 2048 →
  tree_Scale.l6.rg F (fun _ _ _ _ pile=>k pile) L N xs i (st.map deep) = k ((endT st xs).map deep):=by
 intro xs
 induction xs with
 | nil=>intro st i h h2; rfl
 | cons n xs ih =>
  intro st i h h2
  obtain ⟨g1,g2,g3,g4,g5,g6,g7,g8⟩:=nodeE_ok h.1
  have hst:=len_flats st
  have hfs:=congrArg List.length (flats_step st n)
  simp only [List.length_cons,List.length_append,List.length_nil] at h2 hfs
  have IH:=ih (stepT st n) (i + 1) h.2 (by omega)
  have hbd:=deep_bd (topT st n)
  have hts:=top_size (st:=st) (n:=n)
  have hstep:(stepT st n).map deep = (st.map deep).take (st.length - ar n) ++ [deep (topT st n)]:=by
   unfold stepT; simp [List.map_take]
  have hd:deep (topT st n) = maxL ((st.map deep).drop (st.length - ar n)) + bif nK n == 15 then 1 else 0:=by
   unfold topT; rw [deep_nd,List.map_drop]
  rw [hstep] at IH
  simp only [tree_Scale.l6.rg]
  rw [takes_eq F g1 g4]
  simp only [oB_some]
  have hlen:(st.map deep).length = st.length:=by simp
  rw [hlen,wrap_sub g7 (by omega),bounds_hi (by omega),bounds_lo (by omega)]
  simp only [cond_true]
  rw [List.take_of_length_le (by rw [hlen]; omega:(st.map deep).length ≤ st.length)]
  cases hk:decide ((ar n:Int) > 0) with
  | true =>
   have hk:=of_decide_eq_true hk
   simp only [cond_true]
   rw [max_eq F (by rw [List.length_drop,hlen]; omega) (by rw [List.length_drop,hlen]; omega) (by rw [List.length_drop,hlen]; omega)]
   simp only [oB_some]
   cases h15:(nK n == 15) with
   | true =>
    rw [h15] at hd
    simp only [cond_true] at hd
    simp only [cond_true]
    rw [wrap_i64 (by omega) (by omega),← hd,ble_of (by simp; omega)]
    exact IH
   | false =>
    rw [h15] at hd
    simp only [cond_false,Int.add_zero] at hd
    simp only [cond_false]
    rw [← hd,ble_of (by simp; omega)]
    exact IH
  | false =>
   have hk:=of_decide_eq_false hk
   have hk0:ar n = 0:=by omega
   simp only [cond_false]
   rw [hk0,Nat.sub_zero,List.drop_of_length_le (by rw [hlen]; omega)] at hd
   rw [hk0,Nat.sub_zero,List.take_of_length_le (by rw [hlen]; omega)] at IH
   cases h15:(nK n == 15) with
   | true =>
    rw [h15] at hd
    simp only [cond_true]
    rw [ble_of (by simp; omega)]
    simp only [cond_true]
    rw [show IntKind.i64.wrap (0 + 1) = deep (topT st n) by rw [hd]; rfl]
    exact IH
   | false =>
    rw [h15] at hd
    simp only [cond_false]
    rw [ble_of (by simp; omega)]
    simp only [cond_true]
    rw [hd] at IH
    exact IH
structure Good (p:tPlan.T) (t:Tree):Prop where
 head:headE p.1 p.2.1 p.2.2.1 = 0
 len:p.2.2.2.length ≤ 1024
 ok:okS p.2.1.length [] p.2.2.2
 eq:endT [] p.2.2.2 = [t]
theorem Good.flat {p:tPlan.T} {t:Tree} (h:Good p t):t.flat = p.2.2.2:=by
 have:=flats_end p.2.2.2 []
 rw [h.eq,flats_one] at this
 simpa [flats] using this
theorem Good.subs {p:tPlan.T} {t:Tree} (h:Good p t):news [] p.2.2.2 = t.subs:=by
 have:=subss_end p.2.2.2 []
 rw [h.eq,subss_one] at this
 simpa [subss] using this.symm
theorem check_ok {p:tPlan.T} (h:(checkS p).2 = 0):∃ t,Good p t:=by
 unfold checkS at h
 cases h1:(headE p.1 p.2.1 p.2.2.1 != 0) with
 | true =>
  rw [h1] at h
  simp only [cond_true] at h
  rw [h] at h1
  cases h1
 | false =>
  rw [h1] at h
  have h1:headE p.1 p.2.1 p.2.2.1 = 0:=by simpa using h1
  cases h2:decide ((p.2.2.2.length:Int) > 1024) with
  | true=>rw [h2] at h; exact absurd (show (2:Int) = 0 from h) (by decide)
  | false =>
   rw [h2] at h
   have h2:=of_decide_eq_false h2
   simp only [cond_false] at h
   cases h3:chkE p.2.1.length p.2.2.2 0 0 with
   | some x =>
    rw [h3] at h
    have hne:∀ (xs:List tNode.T) (pile i:Nat),chkE p.2.1.length xs pile i = some x→x.2 ≠ 0:=by
     intro xs
     induction xs with
     | nil=>intro pile i h; cases h
     | cons n r ih =>
      intro pile i h
      simp only [chkE] at h
      cases he:(nodeE p.2.1.length n pile != 0) with
      | true =>
       rw [he] at h
       simp only [cond_true,Option.some.injEq] at h
       rw [← h]
       simpa using he
      | false=>rw [he] at h; exact ih _ _ h
    exact absurd h (hne _ _ _ h3)
   | none =>
    rw [h3] at h
    have:=chk_ok p.2.1.length p.2.2.2 [] 0 h3
    cases h4:((chkP p.2.2.2 0:Int) != 1) with
    | true=>rw [h4] at h; exact absurd (show (50:Int) = 0 from h) (by decide)
    | false =>
     have h4:(chkP p.2.2.2 0:Int) = 1:=by simpa using h4
     have hl:(endT [] p.2.2.2).length = 1:=by rw [this.2]; simp only [List.length_nil]; omega
     obtain ⟨t,ht⟩:=List.length_eq_one_iff.1 hl
     exact ⟨t,h1,by omega,this.1,ht⟩
theorem Good.check {p:tPlan.T} {t:Tree} (h:Good p t):checkS p = (0,0):=by
 unfold checkS
 have:=ok_chk p.2.1.length p.2.2.2 [] 0 h.ok
 rw [h.eq] at this
 simp only [List.length_nil,List.length_cons] at this
 rw [h.head,this.1,this.2,decide_eq_false (by have:=h.len; omega)]
 rfl
theorem Firsts_eq (F:Nat) (hF:4096 < F) {p:tPlan.T} {t:Tree} (h:Good p t):tree_Firsts.sh F p = some ((fsts 0 t.subs,0,()),()):=by
 unfold tree_Firsts.sh tree_firsts.sh
 rw [check_eq F (by omega),h.check]
 have hl:=h.len
 have e:=Eq.trans (tree_firsts.l3.rg_eq F (fun _ _ _ _ list2 _=>tree_firsts.j13 F (fun r23=>(some ((r23,()),()):Option tree_firsts.sg.R)) list2) p.2.2.2 _ rfl (by omega) p.2.2.2 0 F [] [] (by simp) (by omega))
  (firsts_rg F p.2.1.length (fun list=>some ((list,()),())) p.2.2.2 (p.2.2.2.length:Int) p.2.2.2 [] [] h.ok (by simp [flats]; omega) (by simp))
 rw [h.subs] at e
 have e:tree_firsts.l3 F (fun _ _ _ _ list2 _=>tree_firsts.j13 F (fun r23=>(some ((r23,()),()):Option tree_firsts.sg.R)) list2) F p.2.2.2 (p.2.2.2.length:Int) 0 [] [] = some ((fsts 0 t.subs,()),()):=e
 rw [e]
 rfl
theorem Constant_eq (F:Nat) (hF:4096 < F) {p:tPlan.T} {t:Tree} (h:Good p t):tree_Constant.sh F p = some ((t.subs.map noQ,0,()),()):=by
 unfold tree_Constant.sh
 rw [Firsts_eq F hF h]
 simp only [oB_some,bne_self_eq_false,cond_false]
 have hl:=h.len
 have hn:t.subs.length = p.2.2.2.length:=by rw [subs_len,h.flat]
 have hz:(decide (0 ≤ ((fsts 0 t.subs).length:Int)) && decide (((fsts 0 t.subs).length:Int) ≤ ((fsts 0 t.subs).length:Int)) && decide (((fsts 0 t.subs).length:Int) ≤ (maxN:Int))) = true:=by
  have:maxN = 1099511627776:=rfl
  rw [fsts_len,this]
  simp
  omega
 rw [hz]
 simp only [cond_true]
 have e:=Eq.trans (tree_Constant.l7.rg_eq F (fun _ _ _ _ _ _ out2=>tree_Constant.j13 F (fun r23 r33=>(some ((r23,r33,()),()):Option tree_Constant.sg.R)) out2) p.2.2.2 _ rfl (by omega) p.2.2.2 0 F (fsts 0 t.subs) (-1) (zeroL .bool p.2.2.2.length) (by simp) (by omega))
  (constant_rg F p.2.1.length (fun out=>some ((out,0,()),())) p.2.2.2 (p.2.2.2.length:Int) (fsts 0 t.subs) p.2.2.2 [] [] [] h.ok (by simp [flats]; omega) (by rw [h.subs]; rfl) rfl rfl)
 rw [h.subs] at e
 rw [show ((fsts 0 t.subs).length:Int).toNat = p.2.2.2.length by rw [fsts_len,hn]; rfl]
 exact e
theorem Scale_eq (F:Nat) (hF:4096 < F) {p:tPlan.T} {t:Tree} (h:Good p t):tree_Scale.sh F p = some ((deep t,0,()),()):=by
 unfold tree_Scale.sh
 rw [check_eq F (by omega),h.check]
 have hl:=h.len
 have e:=Eq.trans (tree_Scale.l6.rg_eq F (fun _ _ _ _ pile4=>tree_Scale.j17 F (fun r25 r35=>(some ((r25,r35,()),()):Option tree_Scale.sg.R)) pile4) p.2.2.2 _ rfl (by omega) p.2.2.2 0 F [] (by simp) (by omega))
  (scale_rg F hF p.2.1.length (fun pile=>tree_Scale.j17 F (fun r25 r35=>(some ((r25,r35,()),()):Option tree_Scale.sg.R)) pile) p.2.2.2 (p.2.2.2.length:Int) p.2.2.2 [] 0 h.ok (by simp [flats]; omega))
 rw [h.eq] at e
 exact e
end Go.VS
