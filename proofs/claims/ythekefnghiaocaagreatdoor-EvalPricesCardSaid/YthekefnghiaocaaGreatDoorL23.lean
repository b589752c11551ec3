import Derived.Test.YthekefnghiaocaaGreatDoorL22
set_option linter.unusedVariables false
set_option linter.unusedSimpArgs false
set_option linter.unusedSectionVars false
set_option linter.unusedVariables false
set_option linter.unusedSimpArgs false
set_option maxRecDepth 100000
namespace Go.VS
open Go
def Dv (S u:Int) (D:List tDim.T) (q:List Int) (t:Tree):Prop:=ty t = 1→∃ c,ev u D q t = c * 10000 ^ (S - deep t).toNat
theorem deep_kid {ks:List Tree} {k:Tree} (hk:k ∈ ks):0 ≤ deep k∧deep k ≤ maxL (ks.map deep):=by
 have h0:∀ x ∈ ks.map deep,0 ≤ x:=by simp only [List.mem_map]; rintro x ⟨k,hk,rfl⟩; exact (deep_bd k).1
 exact ⟨(deep_bd k).1,(maxL_ge h0).2 _ (List.mem_map_of_mem hk)⟩
theorem deep_top (n:tNode.T) (ks:List Tree):maxL (ks.map deep) ≤ deep (.nd n ks):=by
 rw [deep_nd]
 cases nK n == 15 <;> simp only [cond_true,cond_false] <;> omega
theorem Dv.mul {S u:Int} {D:List tDim.T} {q:List Int} {t:Tree} (h:Dv S u D q t) (ht:ty t = 1) {e:Int} (h1:deep t ≤ e) (h2:e ≤ S):∃ c,ev u D q t = c * 10000 ^ (S - e).toNat:=by
 obtain ⟨c,hc⟩:=h ht
 have h0:=(deep_bd t).1
 refine ⟨c * 10000 ^ (e - deep t).toNat,?_⟩
 rw [hc,Int.mul_assoc,← Int.pow_add,show (e - deep t).toNat + (S - e).toNat = (S - deep t).toNat by omega]
theorem oneL_one {l:List Int} (h:oneL l = 1):∀ x ∈ l,x = 1:=by
 cases l with
 | nil=>simp
 | cons a r =>
  simp only [oneL] at h
  cases hr:r.all (fun x=>x == a) with
  | false=>rw [hr] at h; exact absurd (show (-1:Int) = 1 from h) (by decide)
  | true =>
   rw [hr] at h
   have h:a = 1:=h
   intro x hx
   rcases List.mem_cons.1 hx with rfl | hx
   ·exact h
   ·have:=List.all_eq_true.1 hr x hx
    rw [← h]; simpa using this
theorem prodT_one {a b:Int} (h:prodT a b = 1):a = 1 ∨ b = 1:=by
 unfold prodT at h
 cases h1:(a == 0) with
 | true=>rw [h1] at h; exact .inr h
 | false =>
  rw [h1] at h
  cases h2:(b == 0) with
  | true=>rw [h2] at h; exact .inl h
  | false =>
   rw [h2] at h
   cases h3:(cntB a && b == 1) with
   | true=>simp at h3; exact .inr h3.2
   | false =>
    rw [h3] at h
    cases h4:(cntB b && a == 1) with
    | true=>simp at h4; exact .inl h4.2
    | false=>rw [h4] at h; exact absurd (show (-1:Int) = 1 from h) (by decide)
theorem step_dv {S u:Int} (hS0:0 ≤ S) (hu:u = 10000 ^ S.toNat) {D:List tDim.T} {q:List Int} {n:tNode.T} {ks:List Tree} {dims pile:Nat} (hn:nodeE dims n pile = 0) (hl:ks.length = ar n) (hd:deep (.nd n ks) ≤ S) (hk:∀ k ∈ ks,Dv S u D q k):Dv S u D q (.nd n ks):=by
 intro ht
 obtain ⟨g1,g2,g3,g4,g5,g6,g7,g8⟩:=nodeE_ok hn
 have hdt:=deep_top n ks
 have hd0:=(deep_bd (.nd n ks)).1
 have K1:∀ k ∈ ks,ty k = 1→∃ c,ev u D q k = c * 10000 ^ (S - deep (.nd n ks)).toNat:=fun k hkm h1=>(hk k hkm).mul h1 (by have:=(deep_kid hkm).2; omega) hd
 have hup:u = 10000 ^ (deep (.nd n ks)).toNat * 10000 ^ (S - deep (.nd n ks)).toNat:=by
  rw [hu,← Int.pow_add]; congr 1; omega
 have htn:tyN n (ks.map ty) = 1:=by rw [← ty_nd]; exact ht
 rw [ev_nd]
 have hdn:=deep_nd n ks
 generalize hP:(10000:Int) ^ (S - deep (.nd n ks)).toNat = P at *
 rcases kinds16 g1 with h | h | h | h | h | h | h | h | h | h | h | h | h | h | h | h
 ·have:tyN n (ks.map ty) = 0:=by unfold tyN; rw [h]; rfl
  omega
 ·have e:evN u D q n (ks.map (ev u D q)) = nN n * u:=by unfold evN; rw [h]; rfl
  rw [e,hup]
  exact ⟨nN n * 10000 ^ (deep (.nd n ks)).toNat,by rw [Int.mul_assoc]⟩
 ·have:tyN n (ks.map ty) = 2 + 2 * nN n:=by unfold tyN; rw [h]; rfl
  omega
 ·have:tyN n (ks.map ty) = 3 + 2 * nN n:=by unfold tyN; rw [h]; rfl
  omega
 ·have hl1:ks.length = 1:=by rw [hl,ar_of h]; rfl
  obtain ⟨a,rfl⟩:=List.length_eq_one_iff.1 hl1
  have e:evN u D q n ([a].map (ev u D q)) = 0 - ev u D q a:=by unfold evN; rw [h]; rfl
  have ho:oneL ([a].map ty) = 1:=by rw [← htn]; unfold tyN; rw [h]; rfl
  obtain ⟨c,hc⟩:=K1 a (by simp) (oneL_one ho (ty a) (by simp))
  exact ⟨-c,by rw [e,hc,Int.neg_mul]; omega⟩
 ·have hl1:ks.length = 2:=by rw [hl,ar_of h]; rfl
  obtain ⟨a,b,rfl⟩:=len2 hl1
  have e:evN u D q n ([a,b].map (ev u D q)) = ev u D q a + ev u D q b:=by unfold evN; rw [h]; rfl
  have ho:oneL ([a,b].map ty) = 1:=by rw [← htn]; unfold tyN; rw [h]; rfl
  obtain ⟨c,hc⟩:=K1 a (by simp) (oneL_one ho (ty a) (by simp))
  obtain ⟨c',hc'⟩:=K1 b (by simp) (oneL_one ho (ty b) (by simp))
  exact ⟨c + c',by rw [e,hc,hc',Int.add_mul]⟩
 ·have hl1:ks.length = 2:=by rw [hl,ar_of h]; rfl
  obtain ⟨a,b,rfl⟩:=len2 hl1
  have e:evN u D q n ([a,b].map (ev u D q)) = ev u D q a - ev u D q b:=by unfold evN; rw [h]; rfl
  have ho:oneL ([a,b].map ty) = 1:=by rw [← htn]; unfold tyN; rw [h]; rfl
  obtain ⟨c,hc⟩:=K1 a (by simp) (oneL_one ho (ty a) (by simp))
  obtain ⟨c',hc'⟩:=K1 b (by simp) (oneL_one ho (ty b) (by simp))
  exact ⟨c - c',by rw [e,hc,hc',Int.sub_mul]⟩
 ·have hl1:ks.length = 2:=by rw [hl,ar_of h]; rfl
  obtain ⟨a,b,rfl⟩:=len2 hl1
  have e:evN u D q n ([a,b].map (ev u D q)) = ev u D q a * ev u D q b:=by unfold evN; rw [h]; rfl
  have ho:prodT (ty a) (ty b) = 1:=by rw [← htn]; unfold tyN; rw [h]; rfl
  rcases prodT_one ho with h1 | h1
  ·obtain ⟨c,hc⟩:=K1 a (by simp) h1
   exact ⟨c * ev u D q b,by rw [e,hc,Int.mul_right_comm]⟩
  ·obtain ⟨c,hc⟩:=K1 b (by simp) h1
   exact ⟨ev u D q a * c,by rw [e,hc,Int.mul_assoc]⟩
 ·have e:evN u D q n (ks.map (ev u D q)) = minL (ks.map (ev u D q)):=by unfold evN; rw [h]; rfl
  have ho:oneL (ks.map ty) = 1:=by rw [← htn]; unfold tyN; rw [h]; rfl
  rw [kids_of h] at g4
  have g4:(decide (nC n ≥ 2) && decide (nC n ≤ 16)) = true:=g4
  simp at g4
  have hln:1 ≤ ks.length:=by rw [hl,ar_of h]; show 1 ≤ (nC n).toNat; omega
  obtain ⟨k,hkm,hkv⟩:=List.mem_map.1 (minL_mem (l:=ks.map (ev u D q)) (by simp; omega))
  rw [e,← hkv]
  exact K1 k hkm (oneL_one ho (ty k) (List.mem_map_of_mem hkm))
 ·have e:evN u D q n (ks.map (ev u D q)) = maxL (ks.map (ev u D q)):=by unfold evN; rw [h]; rfl
  have ho:oneL (ks.map ty) = 1:=by rw [← htn]; unfold tyN; rw [h]; rfl
  rw [kids_of h] at g4
  have g4:(decide (nC n ≥ 2) && decide (nC n ≤ 16)) = true:=g4
  simp at g4
  have hln:1 ≤ ks.length:=by rw [hl,ar_of h]; show 1 ≤ (nC n).toNat; omega
  obtain ⟨k,hkm,hkv⟩:=List.mem_map.1 (maxL_mem (l:=ks.map (ev u D q)) (by simp; omega))
  rw [e,← hkv]
  exact K1 k hkm (oneL_one ho (ty k) (List.mem_map_of_mem hkm))
 ·have:tyN n (ks.map ty) = bif cntB ((ks.map ty).getD 0 0) then (ks.map ty).getD 0 0 else -1:=by unfold tyN; rw [h]; rfl
  rw [this] at htn
  cases hc:cntB ((ks.map ty).getD 0 0) with
  | false=>rw [hc] at htn; exact absurd (show (-1:Int) = 1 from htn) (by decide)
  | true=>rw [hc] at htn; unfold cntB at hc; have:=of_decide_eq_true hc; simp only [cond_true] at htn; omega
 ·have:tyN n (ks.map ty) = bif cntB ((ks.map ty).getD 0 0) then (ks.map ty).getD 0 0 else -1:=by unfold tyN; rw [h]; rfl
  rw [this] at htn
  cases hc:cntB ((ks.map ty).getD 0 0) with
  | false=>rw [hc] at htn; exact absurd (show (-1:Int) = 1 from htn) (by decide)
  | true=>rw [hc] at htn; unfold cntB at hc; have:=of_decide_eq_true hc; simp only [cond_true] at htn; omega
 ·have e:evN u D q n (ks.map (ev u D q)) = u * grad ((ks.map (ev u D q)).getD 0 0) (nT n):=by unfold evN; rw [h]; rfl
  rw [e]
  generalize grad ((ks.map (ev u D q)).getD 0 0) (nT n) = z
  rw [hup]
  exact ⟨10000 ^ (deep (.nd n ks)).toNat * z,by rw [Int.mul_right_comm]⟩
 ·have e:evN u D q n (ks.map (ev u D q)) = u * vol ((ks.map (ev u D q)).getD 0 0) (nT n):=by unfold evN; rw [h]; rfl
  rw [e]
  generalize vol ((ks.map (ev u D q)).getD 0 0) (nT n) = z
  rw [hup]
  exact ⟨10000 ^ (deep (.nd n ks)).toNat * z,by rw [Int.mul_right_comm]⟩
 ·have hl1:ks.length = 1:=by rw [hl,ar_of h]; rfl
  obtain ⟨a,rfl⟩:=List.length_eq_one_iff.1 hl1
  have e:evN u D q n ([a].map (ev u D q)) = divM 2 (ev u D q a * (10000 - nN n)) 10000:=by unfold evN; rw [h]; rfl
  have hx0:tyN n ([a].map ty) = (bif ty a == 1 then (1:Int) else -1):=by unfold tyN; rw [h]; rfl
  have ho:(bif ty a == 1 then (1:Int) else -1) = 1:=by rw [← hx0]; exact htn
  have h1:ty a = 1:=by
   cases hta:(ty a == 1) with
   | true=>simpa using hta
   | false=>rw [hta] at ho; exact absurd (show (-1:Int) = 1 from ho) (by decide)
  rw [h] at hdn
  have hdn:deep (.nd n [a]) = deep a + 1:=by rw [hdn]; rfl
  obtain ⟨c,hc⟩:=(hk a (by simp)).mul h1 (e:=deep (.nd n [a]) - 1) (by omega) (by omega)
  have hpp:(10000:Int) ^ (S - (deep (.nd n [a]) - 1)).toNat = P * 10000:=by
   rw [← hP,show (S - (deep (.nd n [a]) - 1)).toNat = (S - deep (.nd n [a])).toNat + 1 by omega,Int.pow_succ]
  rw [hpp] at hc
  have hx:ev u D q a * (10000 - nN n) = (c * P * (10000 - nN n)) * 10000:=by rw [hc,← Int.mul_assoc,Int.mul_right_comm]
  rw [e,hx,divM_exact (by decide)]
  exact ⟨c * (10000 - nN n),by rw [Int.mul_right_comm]⟩
 ·have hl1:ks.length = 3:=by rw [hl,ar_of h]; rfl
  obtain ⟨a,b,c,rfl⟩:=len3 hl1
  have e:evN u D q n ([a,b,c].map (ev u D q)) = bif holdB (nO n) (ev u D q a) (nN n) then ev u D q b else ev u D q c:=by unfold evN; rw [h]; rfl
  have hx0:tyN n ([a,b,c].map ty) = (bif cntB (ty a) then oneL [ty b,ty c] else -1):=by unfold tyN; rw [h]; rfl
  have ho:(bif cntB (ty a) then oneL [ty b,ty c] else -1) = 1:=by rw [← hx0]; exact htn
  have ho1:oneL [ty b,ty c] = 1:=by
   cases hc:cntB (ty a) with
   | false=>rw [hc] at ho; exact absurd (show (-1:Int) = 1 from ho) (by decide)
   | true=>rw [hc] at ho; exact ho
  rw [e]
  cases holdB (nO n) (ev u D q a) (nN n) with
  | true=>exact K1 b (by simp) (oneL_one ho1 (ty b) (by simp))
  | false=>exact K1 c (by simp) (oneL_one ho1 (ty c) (by simp))
theorem deep_subs (t:Tree):∀ s ∈ t.subs,deep s ≤ deep t:=by
 refine Tree.ind (P:=fun t=>∀ s ∈ t.subs,deep s ≤ deep t) (fun n ks ih=>?_) t
 intro s hs
 rw [subs_nd] at hs
 rcases List.mem_append.1 hs with hs | hs
 ·unfold subss at hs
  obtain ⟨l,hl,hsl⟩:=List.mem_flatten.1 hs
  obtain ⟨k,hk,rfl⟩:=List.mem_map.1 hl
  have h1:=ih k hk s hsl
  have h2:=(deep_kid hk).2
  have h3:=deep_top n ks
  omega
 ·rw [List.mem_singleton.1 hs]; exact Int.le_refl _
end Go.VS
