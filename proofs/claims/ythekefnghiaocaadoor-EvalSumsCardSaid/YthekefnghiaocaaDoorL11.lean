import Derived.Test.YthekefnghiaocaaDoorL10
set_option linter.unusedVariables false
set_option linter.unusedSimpArgs false
set_option linter.unusedSectionVars false
set_option linter.unusedVariables false
set_option linter.unusedSimpArgs false
set_option maxRecDepth 100000
namespace Go.VS
open Go
theorem awake_eq:octroilaw10_awake.sh FU = some ((true,()),()):=by kernel_rfl
theorem firstE_app (E:Tree→Int):∀ (a b:List Tree) (i:Nat),firstE E (a ++ b) i = match firstE E a i with | some x=>some x | none=>firstE E b (i + a.length)
 | [],b,i=>by simp [firstE]
 | t :: r,b,i=>by
  simp only [List.cons_append,firstE,List.length_cons]
  cases (E t != 0) with
  | true=>rfl
  | false =>
   simp only [cond_false]
   rw [firstE_app E r b (i + 1),show i + 1 + r.length = i + (r.length + 1) by omega]
theorem firstE_none {E:Tree→Int}:∀ {l:List Tree} {i:Nat} (j:Nat),firstE E l i = none→firstE E l j = none
 | [],i,j,h=>rfl
 | t :: r,i,j,h=>by
  simp only [firstE] at *
  cases ht:(E t != 0) with
  | true=>rw [ht] at h; cases h
  | false =>
   rw [ht] at h
   exact firstE_none (i:=i + 1) (j + 1) h
theorem firstE_mem {E:Tree→Int}:∀ {l:List Tree} {i:Nat},firstE E l i = none→∀ t ∈ l,E t = 0
 | [],i,h,t,ht=>by simp at ht
 | x :: r,i,h,t,ht=>by
  simp only [firstE] at h
  cases hx:(E x != 0) with
  | true=>rw [hx] at h; cases h
  | false =>
   rw [hx] at h
   rcases List.mem_cons.1 ht with rfl | ht
   ·simpa using hx
   ·exact firstE_mem (i:=i + 1) h t ht
theorem measR_ok {u:Int} {D:List tDim.T} {t:Tree} (h:(measR u D t).2 < 0):firstE (magE u D) t.subs 0 = none∧measR u D t = (t.subs.map fun t=>mk (mag u D t),-1):=by
 unfold measR at *
 cases hf:firstE (magE u D) t.subs 0 with
 | some x=>rw [hf] at h; obtain ⟨j,e⟩:=x; exact absurd h (by simp only; omega)
 | none=>exact ⟨rfl,rfl⟩
theorem typesR_ok {t:Tree} (h:(typesR t).2.2 = 0):firstE tyE t.subs 0 = none∧ty t = 1:=by
 unfold typesR at h
 cases hf:firstE tyE t.subs 0 with
 | some x =>
  rw [hf] at h
  have hne:∀ (l:List Tree) (i:Nat),firstE tyE l i = some x→x.2 ≠ 0:=by
   intro l
   induction l with
   | nil=>intro i h; cases h
   | cons t r ih =>
    intro i h
    simp only [firstE] at h
    cases he:(tyE t != 0) with
    | true =>
     rw [he] at h
     simp only [cond_true,Option.some.injEq] at h
     rw [← h]
     simpa using he
    | false=>rw [he] at h; exact ih _ h
  exact absurd h (hne _ _ hf)
 | none =>
  rw [hf] at h
  refine ⟨rfl,?_⟩
  cases ht:(ty t != 1) with
  | true=>rw [ht] at h; exact absurd (show (80:Int) = 0 from h) (by decide)
  | false=>simpa using ht
theorem typesR_of {t:Tree} (h1:firstE tyE t.subs 0 = none) (h2:ty t = 1):typesR t = (t.subs.map ty,0,0):=by
 unfold typesR
 rw [h1,h2]
 rfl
theorem unitR_of {D:List tDim.T} {t:Tree} (h1:firstE tyE t.subs 0 = none) (h2:ty t = 1) (h3:deep t ≤ 6):unitR D t = bif decide ((measR (unitV t) D t).2 ≥ 0) then ((0,0),(measR (unitV t) D t).2,90) else (mk (unitV t),0,0):=by
 unfold unitR
 rw [typesR_of h1 h2,decide_eq_false (show ¬ deep t > 6 by omega)]
 rfl
theorem pow_inj {a b:Nat} (h:(10000:Int) ^ a = 10000 ^ b):a = b:=by
 have h:(10000:Nat) ^ a = 10000 ^ b:=by exact_mod_cast h
 rcases Nat.lt_trichotomy a b with h' | h' | h'
 ·have:=Nat.pow_lt_pow_right (a:=10000) (by decide) h'; omega
 ·exact h'
 ·have:=Nat.pow_lt_pow_right (a:=10000) (by decide) h'; omega
theorem subs_last (t:Tree):∃ l,t.subs = l ++ [t]:=by
 cases t with
 | nd n ks=>exact ⟨_,subs_nd n ks⟩
theorem get_last {l:List tWide.T} {x:tWide.T} {n:Nat} (h:n = l.length):get tWide (l ++ [x]) n = x:=by
 subst h
 unfold get
 rw [List.getD_eq_getElem?_getD,List.getElem?_append_right (by omega),Nat.sub_self]
 rfl
theorem mk_inj {a b:Int} (h:mk a = mk b):a = b:=by rw [← val_mk (v:=a),← val_mk (v:=b),h]
end Go.VS
