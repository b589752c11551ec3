import Derived.Test.YthekefnghiaocaaGreatDoorM3
set_option linter.unusedVariables false
set_option linter.unusedSimpArgs false
set_option linter.unusedSectionVars false
set_option linter.unusedVariables false
set_option linter.unusedSimpArgs false
set_option maxRecDepth 100000
namespace Go.VS
open Go
theorem rletter_eq (F:Nat) (c:Int):octroiref04_Letter.sh F c = some ((letB c,()),()):=by
 unfold octroiref04_Letter.sh letB
 cases decide (c ≥ 97) <;> rfl
theorem rdigit_eq (F:Nat) (c:Int):octroiref04_Digit.sh F c = some ((digB c,()),()):=by
 unfold octroiref04_Digit.sh digB
 cases decide (c ≥ 48) <;> rfl
def wordsT:List (List UInt8):=[[112,108,97,110],[114,111,117,110,100],[98,121],[98,108,111,99,107,115],[109,105,110],[109,97,120],[111,118,101,114],[117,112,116,111],[103,114,97,100,117,97,116,101,100],[118,111,108,117,109,101],[111,102,102],[105,102],[102,108,111,111,114],[99,101,105,108],[122,101,114,111],[104,97,108,102],[101,118,101,110]]
def textW:List (List UInt8)→List UInt8
 | []=>[32]
 | w :: r=>32 :: (w ++ textW r)
theorem textW_head:∀ ws:List (List UInt8),∃ z,textW ws = 32 :: z
 | []=>⟨[],rfl⟩
 | w :: r=>⟨w ++ textW r,rfl⟩
theorem contains_cons (b:UInt8) (l sub:List UInt8):Lib.contains (b :: l) sub = (sub.isPrefixOf (b :: l) || Lib.contains l sub):=by
 have:=Lib.index_ge l sub
 unfold Lib.contains
 rw [Lib.index]
 cases h:sub.isPrefixOf (b :: l) with
 | true=>rfl
 | false =>
  simp only [Bool.false_eq_true,if_false,Bool.false_or]
  by_cases h1:Lib.index l sub = -1
  ·rw [h1]; rfl
  ·rw [if_neg (by simpa using h1),decide_eq_true (by omega),decide_eq_true (by omega)]
theorem pre_word:∀ (l w z:List UInt8),(∀ c ∈ l,c ≠ 32)→(∀ c ∈ w,c ≠ 32)→(l ++ [32]).isPrefixOf (w ++ 32 :: z) = (l == w)
 | [],[],z,_,_=>rfl
 | [],c :: w,z,_,h=>by
  have:=h c (by simp)
  simp [List.isPrefixOf,Ne.symm this]
 | a :: l,[],z,h,_=>by
  have:=h a (by simp)
  simp [List.isPrefixOf,this]
 | a :: l,c :: w,z,h1,h2=>by
  have ih:=pre_word l w z (fun x hx=>h1 x (by simp [hx])) (fun x hx=>h2 x (by simp [hx]))
  simp only [List.cons_append,List.isPrefixOf,ih]
  rfl
theorem skip_word (sub:List UInt8) (hs:∃ z,sub = 32 :: z) (t:List UInt8):∀ w:List UInt8,(∀ c ∈ w,c ≠ 32)→Lib.contains (w ++ t) sub = Lib.contains t sub
 | [],_=>rfl
 | c :: w,h=>by
  obtain ⟨z,rfl⟩:=hs
  have hc:=h c (by simp)
  rw [List.cons_append,contains_cons,skip_word (32 :: z) ⟨z,rfl⟩ t w (fun x hx=>h x (by simp [hx]))]
  have:List.isPrefixOf (32 :: z) (c :: (w ++ t)) = false:=by
   simp only [List.isPrefixOf]
   rw [show ((32:UInt8) == c) = false by simpa using (Ne.symm hc)]
   rfl
  rw [this,Bool.false_or]
theorem contains_text (l:List UInt8) (hl:l ≠ []) (h:∀ c ∈ l,c ≠ 32):∀ ws:List (List UInt8),(∀ w ∈ ws,∀ c ∈ w,c ≠ 32)→Lib.contains (textW ws) ([32] ++ l ++ [32]) = ws.any (fun w=>w == l)
 | [],_=>by
  cases l with
  | nil=>exact absurd rfl hl
  | cons a r =>
   rw [textW,contains_cons]
   have:Lib.contains [] ([32] ++ a :: r ++ [32]) = false:=by unfold Lib.contains; simp [Lib.index]
   rw [this]
   cases r <;> simp [List.isPrefixOf]
 | w :: r,hw=>by
  have hww:=hw w (by simp)
  have ih:=contains_text l hl h r (fun x hx=>hw x (by simp [hx]))
  rw [textW,contains_cons,skip_word _ ⟨l ++ [32],by simp⟩ _ w hww,ih]
  obtain ⟨z,hz⟩:=textW_head r
  have hp:=pre_word l w z h hww
  have:([32] ++ l ++ [32]).isPrefixOf (32 :: (w ++ textW r)) = (w == l):=by
   rw [hz]
   simp only [List.cons_append,List.nil_append,List.append_assoc,List.isPrefixOf]
   rw [hp]
   simp only [beq_self_eq_true,Bool.true_and]
   cases hlw:(l == w) with
   | true=>rw [beq_iff_eq] at hlw; rw [hlw]; simp
   | false =>
    rw [beq_eq_false_iff_ne] at hlw
    exact (beq_eq_false_iff_ne.2 (Ne.symm hlw)).symm
  rw [this]
  rfl
theorem words_text:wordsL = textW wordsT:=by decide
theorem words_ok:∀ w ∈ wordsT,(!w.isEmpty && w.all (fun c=>letB (cI c))) = true∧∀ c ∈ w,c ≠ 32:=by decide
theorem let_ne {c:UInt8} (h:letB (cI c) = true):c ≠ 32:=by
 rintro rfl
 exact absurd h (by decide)
theorem wordB_eq (l:List UInt8):wordB l = wordsT.any (fun w=>w == l):=by
 unfold wordB
 cases he:(!l.isEmpty && l.all (fun c=>letB (cI c))) with
 | true =>
  have he2:=he
  rw [Bool.and_eq_true] at he
  have hl:l ≠ []:=by intro h; rw [h] at he; exact absurd he.1 (by decide)
  have hc:∀ c ∈ l,c ≠ 32:=fun c hc=>let_ne (by have:=List.all_eq_true.1 he.2 c hc; exact this)
  rw [he.1,he.2,Bool.true_and,Bool.true_and,words_text]
  exact contains_text l hl hc wordsT (fun w hw=>(words_ok w hw).2)
 | false =>
  have h1:wordsT.any (fun w=>w == l) = false:=by
   rw [List.any_eq_false]
   intro w hw h
   rw [beq_iff_eq] at h
   subst h
   rw [(words_ok w hw).1] at he
   cases he
  rw [h1,← Bool.and_assoc,he,Bool.false_and]
def wordsB:List ByteArray:=[(⟨#[112,108,97,110]⟩:ByteArray),(⟨#[114,111,117,110,100]⟩:ByteArray),(⟨#[98,121]⟩:ByteArray),(⟨#[98,108,111,99,107,115]⟩:ByteArray),(⟨#[109,105,110]⟩:ByteArray),(⟨#[109,97,120]⟩:ByteArray),(⟨#[111,118,101,114]⟩:ByteArray),(⟨#[117,112,116,111]⟩:ByteArray),(⟨#[103,114,97,100,117,97,116,101,100]⟩:ByteArray),(⟨#[118,111,108,117,109,101]⟩:ByteArray),(⟨#[111,102,102]⟩:ByteArray),(⟨#[105,102]⟩:ByteArray),(⟨#[102,108,111,111,114]⟩:ByteArray),(⟨#[99,101,105,108]⟩:ByteArray),(⟨#[122,101,114,111]⟩:ByteArray),(⟨#[104,97,108,102]⟩:ByteArray),(⟨#[101,118,101,110]⟩:ByteArray)]
theorem rword_rg (F:Nat) {R:Type} (k0:Bool→Option R) (k1:Option R) (L:List ByteArray) (s:ByteArray):∀ (xs:List ByteArray) (i:Int),octroiref04_Word.l3.rg F k0 (fun _ _ _ _=>k1) L xs i s = bif xs.any (fun w=>w.toList == s.toList) then k0 true else k1
 | [],i=>rfl
 | x :: r,i=>by
  rw [octroiref04_Word.l3.rg,rword_rg F k0 k1 L s r]
  simp only [List.any_cons]
  cases (x.toList == s.toList) <;> rfl
theorem rword_eq (F:Nat) (hF:64 < F) (s:ByteArray):octroiref04_Word.sh F s = some ((wordB s.data.toList,()),()):=by
 unfold octroiref04_Word.sh
 rw [show octroiref04_words.sh F = some ((wordsB,()),()) from rfl]
 simp only [oB_some]
 have e1:=fun k0 k1=>octroiref04_Word.l3.rg_eq (R:=octroiref04_Word.sg.R) F k0 k1 wordsB (by decide) wordsB 0 F s (by simp) (by have:wordsB.length = 17:=rfl; omega)
 rw [show ((0:Nat):Int) = 0 from rfl] at e1
 rw [e1,rword_rg F (fun r22=>(some ((r22,()),()):Option octroiref04_Word.sg.R)) (some ((false,()),())) wordsB s wordsB 0,wordB_eq]
 have:wordsB.any (fun w=>w.toList == s.toList) = wordsT.any (fun w=>w == s.data.toList):=by
  have h1:wordsB.map (fun w=>w.toList) = wordsT:=by
   unfold wordsB wordsT
   simp only [List.map_cons,List.map_nil,Lib.toList_data]
  rw [Lib.toList_data s,← h1,List.any_map]
  rfl
 rw [this]
 cases wordsT.any (fun w=>w == s.data.toList) <;> rfl
theorem rname_l4 (F:Nat) {R:Type} (k0:Bool→Option R) (k1:Option R) (s:ByteArray) (hs:s.size ≤ 32):∀ (xs:List UInt8) (i fu:Nat),s.data.toList.drop i = xs→xs.length < fu →
  octroiref04_Name.l4 F k0 (fun _ _ _=>k1) fu s (i:Int) = bif xs.all (fun c=>innB (cI c)) then k1 else k0 false:=by
 intro xs
 induction xs with
 | nil =>
  intro i fu h hf
  obtain ⟨fu,rfl⟩:∃ j,fu = j + 1:=⟨fu - 1,by simp at hf; omega⟩
  have hn:s.size ≤ i:=by rw [size_list]; simpa using h
  simp only [octroiref04_Name.l4,octroiref04_Name.l4.body,decide_eq_false (show ¬ ((i:Int) < (s.size:Int)) by omega),cond_false,List.all_nil,cond_true]
 | cons c xs ih =>
  intro i fu h hf
  obtain ⟨fu,rfl⟩:∃ j,fu = j + 1:=⟨fu - 1,by simp at hf; omega⟩
  have hn:i < s.size:=by rw [size_list]; exact rg_len h
  have ih:=ih (i + 1) fu (rg_next h) (by simp at hf; omega)
  rw [rg_cast] at ih
  simp only [octroiref04_Name.l4,octroiref04_Name.l4.body,decide_eq_true (show ((i:Int) < (s.size:Int)) by omega),cond_true,rg_idx hn,bt_at h,wrap_i64 (n:=(i:Int) + 1) (by omega) (by omega),ih]
  rw [rletter_eq,rdigit_eq]
  simp only [oB_some,List.all_cons,innB]
  cases letB (cI c) with
  | true=>rfl
  | false =>
   cases digB (cI c) with
   | true=>rfl
   | false =>
    simp only [Bool.not_false,cond_true,Bool.false_or]
    cases hc:(cI c == 95) with
    | true=>rw [show (cI c != 95) = false by simp only [bne,hc,Bool.not_true]]; rfl
    | false=>rw [show (cI c != 95) = true by simp only [bne,hc,Bool.not_false]]; rfl
theorem rname_eq (F:Nat) (hF:64 < F) (s:ByteArray):octroiref04_Name.sh F s = some ((nameB s.data.toList,()),()):=by
 have hsz:=size_list s
 unfold octroiref04_Name.sh
 cases hd:s.data.toList with
 | nil =>
  rw [hd] at hsz
  simp only [List.length_nil] at hsz
  rw [hsz]
  rfl
 | cons c r =>
  rw [hd] at hsz
  simp only [List.length_cons] at hsz
  rw [decide_eq_false (show ¬ ((s.size:Int) < 1) by omega)]
  simp only [cond_false]
  unfold nameB
  by_cases h32:r.length + 1 ≤ 32
  ·rw [decide_eq_false (show ¬ ((s.size:Int) > 32) by omega),idx0 (n:=s.size) (by omega)]
   have hb:=bt_at (s:=s) (n:=0) (c:=c) (r:=r) (by rw [hd]; rfl)
   rw [show ((0:Nat):Int) = 0 from rfl] at hb
   rw [hb,rletter_eq,rword_eq F hF]
   simp only [oB_some,cond_true,cond_false]
   have e:=rname_l4 F (fun r25=>(some ((r25,()),()):Option octroiref04_Name.sg.R)) (some ((true,()),())) s (by omega) r 1 F (by rw [hd]; rfl) (by omega)
   rw [show ((1:Nat):Int) = 1 from rfl] at e
   rw [e,hd]
   simp only [List.isEmpty_cons,Bool.not_false,Bool.true_and,List.length_cons,decide_eq_true h32,List.headD_cons,List.all_cons]
   cases hl:letB (cI c) with
   | false=>rfl
   | true =>
    have:innB (cI c) = true:=by unfold innB; rw [hl]; rfl
    rw [this]
    simp only [Bool.not_true,cond_false,Bool.true_and]
    cases wordB (c :: r) with
    | true=>simp only [cond_true,Bool.not_true,Bool.and_false]
    | false =>
     simp only [cond_false,Bool.not_false,Bool.and_true]
     cases r.all (fun c=>innB (cI c)) <;> rfl
  ·rw [decide_eq_true (show ((s.size:Int) > 32) by omega)]
   simp only [cond_true,List.length_cons,decide_eq_false h32,Bool.false_and,Bool.and_false]
theorem rhead_l11 (F:Nat) {R:Type} (k0:Int→Option R) (k1:Int→tPlan.T→Option R) (p:tPlan.T) (i:Nat) (d:tDim.T) (hi:i < p.2.1.length) (hd:get tDim p.2.1 i = d) (hl:p.2.1.length ≤ 32):∀ (xs:List tDim.T) (j fu:Nat),(p.2.1.take i).drop j = xs→xs.length < fu →
  octroiref05_head.l11 F k0 (fun i _ _ p=>k1 i p) fu (i:Int) (j:Int) p = bif xs.any (fun e=>sameN e.1 d.1) then k0 61 else k1 (i:Int) p:=by
 intro xs
 induction xs with
 | nil =>
  intro j fu h hf
  obtain ⟨fu,rfl⟩:∃ j,fu = j + 1:=⟨fu - 1,by simp at hf; omega⟩
  have hn:i ≤ j:=by
   have:=congrArg List.length h
   simp at this; omega
  simp only [octroiref05_head.l11,octroiref05_head.l11.body,decide_eq_false (show ¬ ((j:Int) < (i:Int)) by omega),cond_false,List.any_nil]
 | cons e xs ih =>
  intro j fu h hf
  obtain ⟨fu,rfl⟩:∃ j,fu = j + 1:=⟨fu - 1,by simp at hf; omega⟩
  have hj:j < i:=by
   have:=rg_len h
   simp at this; omega
  have he:get tDim p.2.1 j = e:=by
   have h0:=congrArg (·[0]?) h
   simp [List.getElem?_take_of_lt hj] at h0
   unfold get
   rw [List.getD_eq_getElem?_getD,h0]; rfl
  have ih:=ih (j + 1) fu (rg_next h) (by simp at hf; omega)
  rw [rg_cast] at ih
  simp only [octroiref05_head.l11,octroiref05_head.l11.body,decide_eq_true (show ((j:Int) < (i:Int)) by omega),cond_true,rg_idx hi,rg_idx (show j < p.2.1.length by omega),Int.toNat_natCast,hd,he,wrap_i64 (n:=(j:Int) + 1) (by omega) (by omega),ih,List.any_cons]
  rw [show (e.1.toList == d.1.toList) = sameN e.1 d.1 from rfl]
  cases sameN e.1 d.1 <;> rfl
theorem rhead_l6 (F:Nat) (hF:64 < F) {R:Type} (k:Int→Option R) (k2:tPlan.T→Option R) (p:tPlan.T) (hL:p.2.1.length ≤ 32):∀ (xs:List tDim.T) (i fu:Nat),p.2.1.drop i = xs→xs.length < fu →
  octroiref05_head.l6 F k k k (fun _ _ p=>k2 p) fu (i:Int) p = bif dE (p.2.1.take i) xs != 0 then k (dE (p.2.1.take i) xs) else k2 p:=by
 intro xs
 induction xs with
 | nil =>
  intro i fu h hf
  obtain ⟨fu,rfl⟩:∃ j,fu = j + 1:=⟨fu - 1,by simp at hf; omega⟩
  have hn:p.2.1.length ≤ i:=by simpa using h
  simp only [octroiref05_head.l6,octroiref05_head.l6.body,decide_eq_false (show ¬ ((i:Int) < (p.2.1.length:Int)) by omega),cond_false,dE]
  rfl
 | cons d xs ih =>
  intro i fu h hf
  obtain ⟨fu,rfl⟩:∃ j,fu = j + 1:=⟨fu - 1,by simp at hf; omega⟩
  have hi:=rg_len h
  have hg:=rg_get (t:=tDim) h
  rw [Int.toNat_natCast] at hg
  have hdd:p.2.1[i]? = some d:=by have:=congrArg (·[0]?) h; simpa using this
  have htake:p.2.1.take (i + 1) = p.2.1.take i ++ [d]:=by rw [List.take_add_one,hdd]; rfl
  have ih:=ih (i + 1) fu (rg_next h) (by simp at hf; omega)
  rw [rg_cast,htake] at ih
  have e11:=rhead_l11 F k (fun i4 p4=>bif idx i4 p4.2.1.length then bif decide ((get tDim p4.2.1 i4.toNat).2 < 1) then k 50
    else bif idx i4 p4.2.1.length then bif decide ((get tDim p4.2.1 i4.toNat).2 > 1000000000000) then k 50
     else octroiref05_head.l6 F k k k (fun _ _ p=>k2 p) fu (IntKind.i64.wrap (i4 + 1)) p4
    else none
   else none) p i d hi hg hL (p.2.1.take i) 0 F (by simp) (by simp; omega)
  rw [show ((0:Nat):Int) = 0 from rfl] at e11
  simp only [octroiref05_head.l6,octroiref05_head.l6.body,decide_eq_true (show ((i:Int) < (p.2.1.length:Int)) by omega),cond_true,rg_idx hi,Int.toNat_natCast,hg]
  rw [rname_eq F hF]
  simp only [oB_some]
  rw [e11]
  simp only [rg_idx hi,Int.toNat_natCast,hg,cond_true,wrap_i64 (n:=(i:Int) + 1) (by omega) (by omega),ih,dE]
  cases nameB d.1.data.toList with
  | false=>rfl
  | true =>
   simp only [Bool.not_true,cond_false]
   cases (p.2.1.take i).any (fun e=>sameN e.1 d.1) with
   | true=>rfl
   | false =>
    simp only [cond_false]
    cases decide (dS d < 1) with
    | true=>rfl
    | false =>
     cases decide (dS d > 1000000000000) with
     | true=>rfl
     | false=>rfl
theorem rhead_eq (F:Nat) (hF:64 < F) (p:tPlan.T):octroiref05_head.sh F p = some ((headE p.1 p.2.1 p.2.2.1,()),()):=by
 unfold octroiref05_head.sh headE
 rw [rname_eq F hF]
 simp only [oB_some]
 cases hn:nameB p.1.data.toList with
 | false=>rfl
 | true =>
  simp only [Bool.not_true,cond_false]
  by_cases h1:p.2.1.length < 1
  ·rw [decide_eq_true (show ((p.2.1.length:Int) < 1) by omega),show ((p.2.1.length:Int) == 0) = true by rw [beq_iff_eq]; omega]; rfl
  ·rw [decide_eq_false (show ¬ ((p.2.1.length:Int) < 1) by omega),show ((p.2.1.length:Int) == 0) = false by rw [beq_eq_false_iff_ne]; omega]
   cases h2:decide ((p.2.1.length:Int) > 4) with
   | true=>rfl
   | false =>
    have h2:=of_decide_eq_false h2
    simp only [cond_false]
    have e:=rhead_l6 F hF (fun r=>(some ((r,()),()):Option octroiref05_head.sg.R)) (fun p=>bif decide (p.2.2.1 < 0) then some ((50,()),()) else bif decide (p.2.2.1 > 4) then some ((50,()),()) else some ((0,()),())) p (by omega) p.2.1 0 F (by simp) (by omega)
    rw [show ((0:Nat):Int) = 0 from rfl,List.take_zero] at e
    rw [e]
    cases (dE [] p.2.1 != 0) with
    | true=>rfl
    | false =>
     cases decide (p.2.2.1 < 0) with
     | true=>rfl
     | false=>cases decide (p.2.2.1 > 4) <;> rfl
end Go.VS
