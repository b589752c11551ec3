import Derived.Test.YteflnofaioijmaaGreatDoorL10
set_option linter.unusedVariables false
set_option linter.unusedSimpArgs false
set_option linter.unusedSectionVars false
/-! Layer 9: what the laws of the layer take. -/
set_option linter.unusedVariables false
set_option linter.unusedSimpArgs false
set_option maxRecDepth 100000
namespace Go.VS
open Go

theorem awake_eq : octroilaw09_awake.sh FU = some ((true, ()), ()) := by kernel_rfl

theorem firstE_app (E : Tree → Int) : ∀ (a b : List Tree) (i : Nat), firstE E (a ++ b) i = match firstE E a i with | some x => some x | none => firstE E b (i + a.length)
  | [], b, i => by simp [firstE]
  | t :: r, b, i => by
    simp only [List.cons_append, firstE, List.length_cons]
    cases (E t != 0) with
    | true => rfl
    | false =>
      simp only [cond_false]
      rw [firstE_app E r b (i + 1), show i + 1 + r.length = i + (r.length + 1) by omega]
theorem firstE_none {E : Tree → Int} : ∀ {l : List Tree} {i : Nat} (j : Nat), firstE E l i = none → firstE E l j = none
  | [], i, j, h => rfl
  | t :: r, i, j, h => by
    simp only [firstE] at *
    cases ht : (E t != 0) with
    | true => rw [ht] at h; cases h
    | false =>
      rw [ht] at h
      exact firstE_none (i := i + 1) (j + 1) h
theorem firstE_all {E : Tree → Int} : ∀ {l : List Tree} (i : Nat), (∀ t ∈ l, E t = 0) → firstE E l i = none
  | [], i, h => rfl
  | t :: r, i, h => by
    simp only [firstE, h t (by simp)]
    exact firstE_all (i + 1) (fun x hx => h x (by simp [hx]))
theorem firstE_mem {E : Tree → Int} : ∀ {l : List Tree} {i : Nat}, firstE E l i = none → ∀ t ∈ l, E t = 0
  | [], i, h, t, ht => by simp at ht
  | x :: r, i, h, t, ht => by
    simp only [firstE] at h
    cases hx : (E x != 0) with
    | true => rw [hx] at h; cases h
    | false =>
      rw [hx] at h
      rcases List.mem_cons.1 ht with rfl | ht
      · simpa using hx
      · exact firstE_mem (i := i + 1) h t ht
theorem wides_rg (F : Nat) {R : Type} (k0 : Bool → Option R) (k1 : Option R) (L : List tWide.T) : ∀ (xs : List tWide.T) (i : Nat), L.drop i = xs →
    octroilaw09_wides.l4.rg F k0 (fun _ _ _ _ => k1) L xs (i : Int) L = k1
  | [], i, h => rfl
  | x :: r, i, h => by
    have ih := wides_rg F k0 k1 L r (i + 1) (rg_next h)
    rw [rg_cast] at ih
    have hg := rg_get (t := tWide) h
    simp only [octroilaw09_wides.l4.rg, rg_idx (rg_len h), hg, ih, beq_self_eq_true, Bool.and_true, Bool.not_true, cond_true, cond_false]
theorem wides_eq (F : Nat) {l : List tWide.T} (hF : l.length < F) (hL : l.length < 4611686018427387904) : octroilaw09_wides.sh F l l = some ((true, ()), ()) := by
  unfold octroilaw09_wides.sh
  simp only [bne_self_eq_false, cond_false]
  refine Eq.trans (octroilaw09_wides.l4.rg_eq F _ _ l (by omega) l 0 F l (by simp) hF) ?_
  exact wides_rg F (fun r41 => (some ((r41, ()), ()) : Option octroilaw09_wides.sg.R)) (some ((true, ()), ())) l l 0 (by simp)

theorem measR_ok {u : Int} {D : List tDim.T} {t : Tree} (h : (measR u D t).2 < 0) : firstE (magE u D) t.subs 0 = none ∧ measR u D t = (t.subs.map fun t => mk (mag u D t), -1) := by
  unfold measR at *
  cases hf : firstE (magE u D) t.subs 0 with
  | some x => rw [hf] at h; obtain ⟨j, e⟩ := x; exact absurd h (by simp only; omega)
  | none => exact ⟨rfl, rfl⟩

theorem typesR_ok {t : Tree} (h : (typesR t).2.2 = 0) : firstE tyE t.subs 0 = none ∧ ty t = 1 := by
  unfold typesR at h
  cases hf : firstE tyE t.subs 0 with
  | some x =>
    rw [hf] at h
    have hne : ∀ (l : List Tree) (i : Nat), firstE tyE l i = some x → x.2 ≠ 0 := by
      intro l
      induction l with
      | nil => intro i h; cases h
      | cons t r ih =>
        intro i h
        simp only [firstE] at h
        cases he : (tyE t != 0) with
        | true =>
          rw [he] at h
          simp only [cond_true, Option.some.injEq] at h
          rw [← h]
          simpa using he
        | false => rw [he] at h; exact ih _ h
    exact absurd h (hne _ _ hf)
  | none =>
    rw [hf] at h
    refine ⟨rfl, ?_⟩
    cases ht : (ty t != 1) with
    | true => rw [ht] at h; exact absurd (show (80 : Int) = 0 from h) (by decide)
    | false => simpa using ht
theorem typesR_of {t : Tree} (h1 : firstE tyE t.subs 0 = none) (h2 : ty t = 1) : typesR t = (t.subs.map ty, 0, 0) := by
  unfold typesR
  rw [h1, h2]
  rfl
theorem unitR_of {D : List tDim.T} {t : Tree} (h1 : firstE tyE t.subs 0 = none) (h2 : ty t = 1) (h3 : deep t ≤ 6) : unitR D t = bif decide ((measR (unitV t) D t).2 ≥ 0) then ((0, 0), (measR (unitV t) D t).2, 90) else (mk (unitV t), 0, 0) := by
  unfold unitR
  rw [typesR_of h1 h2, decide_eq_false (show ¬ deep t > 6 by omega)]
  rfl

/-- Mags' and Unit's answers. -/
theorem mags_unit (p : tPlan.T) : ∃ l a e u b f, bound_Mags.sh FU p = some ((l, a, e, ()), ()) ∧ bound_Unit.sh FU p = some ((u, b, f, ()), ()) ∧ ((e = 0) ↔ (f = 0)) ∧
    (e = 0 → ∃ t, Good p t ∧ (unitR p.2.1 t).2.2 = 0 ∧ l = (t.subs.map fun s => mk (mag (unitV t) p.2.1 s)) ∧ u = mk (unitV t)) := by
  by_cases h : (checkS p).2 = 0
  · obtain ⟨t, ht⟩ := check_ok h
    refine ⟨_, _, _, _, _, _, Mags_eq ht, Unit_eq ht, ?_, fun he => ⟨t, ht, ?_⟩⟩
    · unfold magsR
      cases hu : ((unitR p.2.1 t).2.2 != 0) with
      | true => exact Iff.rfl
      | false =>
        have hu : (unitR p.2.1 t).2.2 = 0 := by simpa using hu
        simp [hu]
    · have hu : (unitR p.2.1 t).2.2 = 0 := by
        unfold magsR at he
        cases hu : ((unitR p.2.1 t).2.2 != 0) with
        | true => rw [hu] at he; exact he
        | false => simpa using hu
      obtain ⟨a1, a2, a3, a4⟩ := unitR_ok hu
      refine ⟨hu, ?_, by rw [a4]⟩
      unfold magsR
      rw [hu, (measR_ok a3).2]
      rfl
  · exact ⟨_, _, _, _, _, _, Mags_bad h, Unit_bad h, Iff.rfl, fun he => absurd he h⟩

/-- Magnitudes are no more than the bound. -/
theorem meas_bd {u : Int} (hu : 1 ≤ u) (hu2 : u ≤ 1000000000000000000000000) {p : tPlan.T} (hD : dE [] p.2.1 = 0) (hd4 : p.2.1.length ≤ 4) : ∀ (xs : List tNode.T) (st : List Tree), okS p.2.1.length st xs → (∀ t ∈ st, 0 ≤ mag u p.2.1 t ∧ mag u p.2.1 t ≤ BND) → firstE (magE u p.2.1) (news st xs) 0 = none →
    ∀ t ∈ endT st xs, 0 ≤ mag u p.2.1 t ∧ mag u p.2.1 t ≤ BND
  | [], st, h, h4, hf => h4
  | n :: xs, st, h, h4, hf => by
    obtain ⟨g1, g2, g3, g4, g5, g6, g7, g8⟩ := nodeE_ok h.1
    have hdr : ∀ t ∈ st.drop (st.length - ar n), 0 ≤ mag u p.2.1 t ∧ mag u p.2.1 t ≤ BND := fun t ht => h4 t (List.mem_of_mem_drop ht)
    have hmm : mag u p.2.1 (topT st n) = magN u p.2.1 n ((st.drop (st.length - ar n)).map (mag u p.2.1)) := by unfold topT; rw [mag_nd]
    obtain ⟨w, o, q1, q2, q3, q4⟩ := mnode_eq FU (by decide) hu hu2 hD hd4 h.1 (vs := (st.drop (st.length - ar n)).map (mag u p.2.1)) (by simp; omega) (by
      intro v hv
      obtain ⟨t, ht, rfl⟩ := List.mem_map.1 hv
      exact hdr t ht)
    rw [← hmm] at q3
    simp only [news] at hf
    have hE := firstE_mem hf (topT st n) (by simp)
    have hfar : farN n (mag u p.2.1 (topT st n)) ≤ BND := by
      unfold magE at hE
      cases hx : decide (farN (topT st n).root (mag u p.2.1 (topT st n)) > BND) with
      | true => rw [hx] at hE; exact absurd (show (90 : Int) = 0 from hE) (by decide)
      | false => have := of_decide_eq_false hx; have hr : (topT st n).root = n := rfl; rw [hr] at this; omega
    have hle : mag u p.2.1 (topT st n) ≤ BND := by
      unfold farN at hfar
      cases h15 : (nK n == 15) with
      | true => rw [h15] at hfar; simp only [cond_true] at hfar; omega
      | false => rw [h15] at hfar; exact hfar
    refine meas_bd hu hu2 hD hd4 xs (stepT st n) h.2 ?_ ?_
    · intro t ht
      rcases List.mem_append.1 ht with ht | ht
      · exact h4 t (List.mem_of_mem_take ht)
      · rw [List.mem_singleton.1 ht]; exact ⟨q3, hle⟩
    · simp only [firstE] at hf
      rw [show (magE u p.2.1 (topT st n) != 0) = false by simpa using hE] at hf
      exact firstE_none 0 hf

theorem pow_inj {a b : Nat} (h : (10000 : Int) ^ a = 10000 ^ b) : a = b := by
  have h : (10000 : Nat) ^ a = 10000 ^ b := by exact_mod_cast h
  rcases Nat.lt_trichotomy a b with h' | h' | h'
  · have := Nat.pow_lt_pow_right (a := 10000) (by decide) h'; omega
  · exact h'
  · have := Nat.pow_lt_pow_right (a := 10000) (by decide) h'; omega

abbrev addN : tNode.T := (6, 0, 0, 0, [], 0)
theorem subs_last (t : Tree) : ∃ l, t.subs = l ++ [t] := by
  cases t with
  | nd n ks => exact ⟨_, subs_nd n ks⟩
theorem get_last {l : List tWide.T} {x : tWide.T} {n : Nat} (h : n = l.length) : get tWide (l ++ [x]) n = x := by
  subst h
  unfold get
  rw [List.getD_eq_getElem?_getD, List.getElem?_append_right (by omega), Nat.sub_self]
  rfl
theorem val0 {w : Int × Int} {v : Int} (h : w = mk v) : w.1 = (mk v).1 ∧ w.2 = (mk v).2 := by rw [h]; exact ⟨rfl, rfl⟩
theorem mk_inj {a b : Int} (h : mk a = mk b) : a = b := by rw [← val_mk (v := a), ← val_mk (v := b), h]

end Go.VS
