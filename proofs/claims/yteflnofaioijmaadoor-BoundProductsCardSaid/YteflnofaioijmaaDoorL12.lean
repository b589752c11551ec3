import Derived.Test.YteflnofaioijmaaDoorL11
set_option linter.unusedVariables false
set_option linter.unusedSimpArgs false
set_option linter.unusedSectionVars false
/-! Layer 9: the law of products. -/
set_option linter.unusedVariables false
set_option linter.unusedSimpArgs false
set_option maxRecDepth 100000
namespace Go.VS
open Go

abbrev numN (x : Int) : tNode.T := (1, x, 0, 0, [], 0)
abbrev mulN : tNode.T := (8, 0, 0, 0, [], 0)
abbrev monN (x : Int) : tNode.T := (2, x, 0, 0, [], 0)
abbrev D1 : List tDim.T := [((⟨#[97]⟩ : ByteArray), 10)]
abbrev hP (nodes : List tNode.T) : tPlan.T := ((⟨#[112]⟩ : ByteArray), D1, 0, nodes)
theorem hP_head : headE (⟨#[112]⟩ : ByteArray) D1 0 = 0 := by kernel_rfl
theorem hP_dE : dE [] D1 = 0 := (headE_dims hP_head).2.2.1

/-- A good tree of the law's plans. -/
structure OKT (u : Int) (t : Tree) : Prop where
  ok : okS 1 [] t.flat
  eq : endT [] t.flat = [t]
  tyE : firstE tyE t.subs 0 = none
  ty : ty t = 1
  nq : noQ t = true
  mag : 0 ≤ mag u D1 t
theorem OKT.good {u : Int} {t : Tree} (h : OKT u t) (hl : t.flat.length ≤ 1024) : Good (hP t.flat) t := ⟨hP_head, hl, h.ok, h.eq⟩
theorem nodeE_num {x : Int} (h1 : 0 ≤ x) (h2 : x ≤ 1000000000000) (pile : Nat) : nodeE 1 (numN x) pile = 0 := by
  have e1 : decide (nN (numN x) < 0) = false := decide_eq_false (show ¬ x < 0 by omega)
  have e2 : decide (nN (numN x) > mostN (numN x) 1) = false := decide_eq_false (show ¬ x > 1000000000000 by omega)
  have e3 : decide ((pile : Int) < (ar (numN x) : Int)) = false := decide_eq_false (show ¬ (pile : Int) < (0 : Int) by omega)
  unfold nodeE
  rw [e1, e2, e3]
  rfl
theorem nodeE_mon {x : Int} (h1 : 0 ≤ x) (h2 : x ≤ 1000000000000) (pile : Nat) : nodeE 1 (monN x) pile = 0 := by
  have e1 : decide (nN (monN x) < 0) = false := decide_eq_false (show ¬ x < 0 by omega)
  have e2 : decide (nN (monN x) > mostN (monN x) 1) = false := decide_eq_false (show ¬ x > 1000000000000 by omega)
  have e3 : decide ((pile : Int) < (ar (monN x) : Int)) = false := decide_eq_false (show ¬ (pile : Int) < (0 : Int) by omega)
  unfold nodeE
  rw [e1, e2, e3]
  rfl
theorem OKT_mon {u fee : Int} (hu : 0 ≤ u) (h1 : 0 ≤ fee) (h2 : fee ≤ 1000000000000) : OKT u (.nd (monN fee) []) :=
  ⟨⟨nodeE_mon h1 h2 0, trivial⟩, rfl, rfl, rfl, rfl, Int.mul_nonneg h1 hu⟩
abbrev mulT (t : Tree) (x : Int) : Tree := .nd mulN [t, .nd (numN x) []]
theorem flat_mulT (t : Tree) (x : Int) : (mulT t x).flat = t.flat ++ [numN x, mulN] := by
  rw [flat_nd, flats_cons, flats_one, flat_nd]
  simp [flats]
theorem subs_mulT (t : Tree) (x : Int) : (mulT t x).subs = t.subs ++ [.nd (numN x) [], mulT t x] := by
  rw [subs_nd]
  simp only [subss, List.map_cons, List.map_nil, List.flatten_cons, List.flatten_nil, List.append_nil, subs_nd, List.append_assoc]
  rfl
theorem mag_mulT (u : Int) (t : Tree) (x : Int) : mag u D1 (mulT t x) = mag u D1 t * x := by
  rw [mag_nd]; rfl
theorem OKT_mul {u : Int} {t : Tree} (h : OKT u t) {x : Int} (h1 : 0 ≤ x) (h2 : x ≤ 1000000000000) : OKT u (mulT t x) := by
  have hq : ty (mulT t x) = 1 := by rw [ty_nd]; simp only [List.map_cons, List.map_nil, h.ty]; rfl
  refine ⟨?_, ?_, ?_, hq, ?_, by rw [mag_mulT]; exact Int.mul_nonneg h.mag h1⟩
  · rw [flat_mulT, okS_app, h.eq]
    exact ⟨h.ok, nodeE_num h1 h2 1, rfl, trivial⟩
  · rw [flat_mulT, endT_app, h.eq]; rfl
  · rw [subs_mulT, firstE_app, h.tyE]
    simp only [firstE]
    have e1 : tyE (.nd (numN x) []) = 0 := rfl
    have e2 : tyE (mulT t x) = 0 := by
      unfold VS.tyE
      rw [hq]
      unfold linE
      simp only [Tree.kids, Tree.root, List.map_cons, List.map_nil, h.nq]
      rfl
    rw [e1, e2]; rfl
  · have hn := h.nq
    unfold noQ at hn ⊢
    rw [flat_mulT, List.all_append, hn]
    rfl
def pTree : Tree → List Int → Tree
  | t, [] => t
  | t, x :: r => pTree (mulT t x) r
theorem OKT_p {u : Int} : ∀ {xs : List Int} {t : Tree}, OKT u t → (∀ x ∈ xs, 0 ≤ x ∧ x ≤ 1000000000000) → OKT u (pTree t xs)
  | [], t, h, hx => h
  | x :: r, t, h, hx => OKT_p (xs := r) (t := mulT t x) (OKT_mul h (hx x (by simp)).1 (hx x (by simp)).2) (fun y hy => hx y (by simp [hy]))
def pairsN : List Int → List tNode.T
  | [] => []
  | x :: r => numN x :: mulN :: pairsN r
theorem flat_p : ∀ (xs : List Int) (t : Tree), (pTree t xs).flat = t.flat ++ pairsN xs
  | [], t => by simp [pTree, pairsN]
  | x :: r, t => by rw [pTree, flat_p r, flat_mulT]; simp [pairsN]
theorem pairsN_len : ∀ xs : List Int, (pairsN xs).length = 2 * xs.length
  | [] => rfl
  | x :: r => by simp only [pairsN, List.length_cons, pairsN_len r]; omega
theorem subs_p : ∀ (xs : List Int) (t : Tree), ∃ m, (pTree t xs).subs = t.subs ++ m
  | [], t => ⟨[], by simp [pTree]⟩
  | x :: r, t => by
    obtain ⟨m, hm⟩ := subs_p r (mulT t x)
    refine ⟨[.nd (numN x) [], mulT t x] ++ m, ?_⟩
    rw [pTree, hm, subs_mulT, List.append_assoc]
theorem deep_mulT (t : Tree) (x : Int) (h : deep t = 0) : deep (mulT t x) = 0 := by
  rw [deep_nd]
  simp only [List.map_cons, List.map_nil, h]
  rfl
theorem deep_p : ∀ (xs : List Int) (t : Tree), deep t = 0 → deep (pTree t xs) = 0
  | [], t, h => h
  | x :: r, t, h => deep_p r _ (deep_mulT t x h)

abbrev wantL (t : Tree) : List tWide.T := t.subs.map fun s => mk (mag 1 D1 s)
theorem pbad_rg (F : Nat) {R : Type} (k : Int → List tNode.T → List tWide.T → Option R) (L : List Int) {bad : Int} (hb : bad ≥ 0) (want : List tWide.T) : ∀ (xs : List Int) (i : Int) (nodes : List tNode.T), nodes.length + 2 * xs.length ≤ 2048 →
    octroilaw09_BoundProducts.l14.rg F (fun _ bad _ _ nodes want => k bad nodes want) L xs i bad nodes want = k bad (nodes ++ pairsN xs) want
  | [], i, nodes, h => by simp [octroilaw09_BoundProducts.l14.rg, pairsN]
  | x :: r, i, nodes, h => by
    simp only [List.length_cons] at h
    have ih := pbad_rg F k L hb want r (i + 1) (nodes ++ [numN x, mulN]) (by simp; omega)
    simp only [octroilaw09_BoundProducts.l14.rg]
    rw [ble_of (by simp; omega), decide_eq_true hb]
    simp only [cond_true]
    refine ih.trans ?_
    simp [pairsN]

theorem prod_rg {R : Type} (k : Int → List tNode.T → List tWide.T → Option R) (L : List Int) : ∀ (xs : List Int) (i : Int) (t : Tree), OKT 1 t → firstE (magE 1 D1) t.subs 0 = none → mag 1 D1 t ≤ BND → (∀ x ∈ xs, 0 ≤ x ∧ x ≤ 1000000000000) → t.flat.length + 2 * xs.length ≤ 2048 →
    ∃ bad want, octroilaw09_BoundProducts.l14.rg FU (fun _ bad _ _ nodes want => k bad nodes want) L xs i (-1) t.flat (wantL t) = k bad (pTree t xs).flat want ∧
      ((bad = -1 ∧ firstE (magE 1 D1) (pTree t xs).subs 0 = none ∧ want = wantL (pTree t xs)) ∨ (∃ j : Nat, bad = (j : Int) ∧ firstE (magE 1 D1) (pTree t xs).subs 0 = some (j, 90)))
  | [], i, t, h, hf, hb, hx, hl => ⟨-1, _, by simp only [octroilaw09_BoundProducts.l14.rg]; rfl, .inl ⟨rfl, hf, rfl⟩⟩
  | x :: r, i, t, h, hf, hb, hx, hl => by
    simp only [List.length_cons] at hl
    have ⟨x1, x2⟩ := hx x (by simp)
    have hs := h.mag
    rw [BND_eq] at hb
    have iv : inR (mag 1 D1 t) = true := by rw [inR_iff]; omega
    have ix : inR x = true := by rw [inR_iff]; omega
    have hp := Int.mul_nonneg hs x1
    have hsl := subs_len t
    obtain ⟨sp, hsp⟩ := subs_last t
    have hfl : sp.length + 1 = t.flat.length := by rw [← hsl, hsp]; simp
    have hwl : (wantL t).length = t.flat.length := by simp [hsl]
    have hflat := flat_mulT t x
    have hw2 : wantL (mulT t x) = wantL t ++ [mk x, mk (mag 1 D1 t * x)] := by
      unfold wantL
      rw [subs_mulT, List.map_append]
      simp only [List.map_cons, List.map_nil, mag_mulT]
      rfl
    have hE1 : magE 1 D1 (.nd (numN x) []) = 0 := by
      show (bif decide (x > BND) then (90 : Int) else 0) = 0
      rw [decide_eq_false (by rw [BND_eq]; omega)]; rfl
    have hE2 : magE 1 D1 (mulT t x) = bif decide (mag 1 D1 t * x > BND) then 90 else 0 := by
      unfold magE
      rw [mag_mulT]; rfl
    have hfm : firstE (magE 1 D1) (mulT t x).subs 0 = bif decide (mag 1 D1 t * x > BND) then some (t.flat.length + 1, 90) else none := by
      rw [subs_mulT, firstE_app, hf]
      simp only [firstE, hE1, hE2, hsl]
      cases decide (mag 1 D1 t * x > BND) with
      | true => simp
      | false => rfl
    have hget : get tWide (wantL t) sp.length = mk (mag 1 D1 t) := by
      unfold wantL
      rw [hsp, List.map_append]; exact get_last (by simp)
    have hB : val (72057594037927936, 0) = BND := rfl
    simp only [octroilaw09_BoundProducts.l14.rg]
    rw [ble_of (by simp; omega), decide_eq_false (show ¬ (-1 : Int) ≥ 0 by omega), hwl, wrap_i64 (n := (t.flat.length : Int) - 1) (by omega) (by omega), show (t.flat.length : Int) - 1 = ((sp.length : Nat) : Int) by omega, rg_idx (show sp.length < t.flat.length by omega), Int.toNat_natCast, hget, of_eq FU (v := x) (by omega) (by omega)]
    simp only [cond_true, cond_false, oB_some]
    rw [wmul_eq FU (wf_mk iv) (wf_mk ix)]
    simp only [oB_some, val_mk]
    rw [ble_of (show t.flat.length + ([mk x, resW (mag 1 D1 t * x)] : List tWide.T).length ≤ 4194304 by simp; omega)]
    rw [wrap_i64 (n := (((t.flat ++ ([(1, x, 0, 0, [], 0), (8, 0, 0, 0, [], 0)] : List tNode.T)).length : Nat) : Int) - 1) (by simp; omega) (by simp; omega)]
    have hbadI : ((((t.flat ++ ([(1, x, 0, 0, [], 0), (8, 0, 0, 0, [], 0)] : List tNode.T)).length : Nat) : Int) - 1) = ((t.flat.length + 1 : Nat) : Int) := by simp; omega
    rw [hbadI]
    -- the bad way
    have hbad : BND < mag 1 D1 t * x → ∀ want, ∃ bad' want', octroilaw09_BoundProducts.l14.rg FU (fun _ bad _ _ nodes want => k bad nodes want) L r (i + 1) ((t.flat.length + 1 : Nat) : Int) (t.flat ++ [numN x, mulN]) want = k bad' (pTree t (x :: r)).flat want' ∧
      ((bad' = -1 ∧ firstE (magE 1 D1) (pTree t (x :: r)).subs 0 = none ∧ want' = wantL (pTree t (x :: r))) ∨ (∃ j : Nat, bad' = (j : Int) ∧ firstE (magE 1 D1) (pTree t (x :: r)).subs 0 = some (j, 90))) := by
      intro hbig want
      refine ⟨((t.flat.length + 1 : Nat) : Int), want, ?_, .inr ⟨t.flat.length + 1, rfl, ?_⟩⟩
      · rw [pbad_rg FU k L (by omega) want r (i + 1) _ (by simp; omega), flat_p]
        simp [pairsN]
      · obtain ⟨m, hm⟩ := subs_p r (mulT t x)
        rw [pTree, hm, firstE_app, hfm, decide_eq_true (show mag 1 D1 t * x > BND from hbig)]
        rfl
    rcases inR_pos hp with ⟨i1, b1⟩ | ⟨i1, b1⟩
    · rw [(res_in i1).1, (res_in i1).2]
      simp only [cond_false]
      rw [cmp_eq FU (wf_mk i1) (by simp [wfW])]
      simp only [oB_some, val_mk, hB]
      rcases Int.lt_or_le BND (mag 1 D1 t * x) with hbig | hsm
      · rw [cmpZ_gt hbig]
        exact hbad hbig _
      · have hc : decide (cmpZ (mag 1 D1 t * x) BND > 0) = false := by
          unfold cmpZ
          split
          · decide
          · rw [if_pos (by omega)]; decide
        rw [hc]
        simp only [cond_false]
        rw [decide_eq_false (show ¬ mag 1 D1 t * x > BND by omega)] at hfm
        have ih := prod_rg k L r (i + 1) (mulT t x) (OKT_mul h x1 x2) hfm (by rw [mag_mulT]; exact hsm) (fun y hy => hx y (by simp [hy])) (by rw [hflat]; simp; omega)
        rw [hw2, hflat] at ih
        exact ih
    · rw [res_out i1]
      simp only [cond_true]
      exact hbad (by rw [BND_eq]; omega) _

theorem prod_j22 {fee : Int} (h1 : 0 ≤ fee) (h2 : fee ≤ 1000000000000) {xs : List Int} (hx : ∀ x ∈ xs, 0 ≤ x ∧ x ≤ 1000000000000) (hl : xs.length ≤ 40) {bad : Int} {want : List tWide.T}
    (h : (bad = -1 ∧ firstE (magE 1 D1) (pTree (.nd (monN fee) []) xs).subs 0 = none ∧ want = wantL (pTree (.nd (monN fee) []) xs)) ∨ (∃ j : Nat, bad = (j : Int) ∧ firstE (magE 1 D1) (pTree (.nd (monN fee) []) xs).subs 0 = some (j, 90))) :
    octroilaw09_BoundProducts.j22 FU (fun r => some ((r, ()), ())) (fun r => some ((r, ()), ())) (pTree (.nd (monN fee) []) xs).flat want bad = (some ((true, ()), ()) : Option octroilaw09_BoundProducts.sg.R) := by
  have ho := OKT_p (OKT_mon (u := 1) (by decide) h1 h2) hx
  have hlen : (pTree (.nd (monN fee) []) xs).flat.length = 1 + 2 * xs.length := by
    rw [flat_p, List.length_append, pairsN_len]; rfl
  have hg := ho.good (by omega)
  have hd := deep_p xs (.nd (monN fee) []) rfl
  have hsl := subs_len (pTree (.nd (monN fee) []) xs)
  have hR := unitR_of (D := D1) ho.tyE ho.ty (by omega)
  have hu : unitV (pTree (.nd (monN fee) []) xs) = 1 := by unfold unitV; rw [hd]; rfl
  rw [hu] at hR
  have hM := Mags_eq hg
  generalize pTree (.nd (monN fee) []) xs = t at *
  unfold octroilaw09_BoundProducts.j22
  rw [show octroilaw09_head.sh FU t.flat = some ((hP t.flat, ()), ()) from rfl]
  simp only [oB_some]
  rw [hM]
  simp only [oB_some]
  rcases h with ⟨rfl, hf, rfl⟩ | ⟨j, rfl, hf⟩
  · have hmr : measR 1 D1 t = (t.subs.map fun s => mk (mag 1 D1 s), -1) := by unfold measR; rw [hf]
    rw [hmr] at hR
    simp only at hR
    rw [decide_eq_false (show ¬ ((-1 : Int)) ≥ 0 by omega)] at hR
    have hMr : magsR D1 t = (wantL t, 0, 0) := by unfold magsR; rw [hR, hu, hmr]; rfl
    simp only [hMr]
    have hFU : FU = 4194304 := rfl
    rw [wides_eq FU (by rw [hFU]; simp; omega) (by simp; omega)]
    rfl
  · have hmr : measR 1 D1 t = ([], (j : Int)) := by unfold measR; rw [hf]
    rw [hmr] at hR
    simp only at hR
    rw [decide_eq_true (show (j : Int) ≥ 0 by omega)] at hR
    have hMr : magsR D1 t = ([], (j : Int), 90) := by unfold magsR; rw [hR]; rfl
    simp only [hMr]
    rw [decide_eq_true (show (j : Int) ≥ 0 by omega)]
    simp only [cond_true, beq_self_eq_true]
    rfl

theorem prod_l6 {R : Type} (k0 : Bool → Option R) (k1 : Int → List Int → Option R) (L : List Int) (fee : Int) : ∀ (xs : List Int) (i : Int), ((∀ x ∈ xs, 0 ≤ x ∧ x ≤ 1000000000000) ∧ octroilaw09_BoundProducts.l6.rg FU k0 (fun fee list _ _ => k1 fee list) L xs i fee = k1 fee L) ∨ octroilaw09_BoundProducts.l6.rg FU k0 (fun fee list _ _ => k1 fee list) L xs i fee = k0 true
  | [], i => .inl ⟨by simp, rfl⟩
  | x :: r, i => by
    simp only [octroilaw09_BoundProducts.l6.rg]
    by_cases h1 : x < 0
    · rw [decide_eq_true h1]; exact .inr rfl
    · by_cases h2 : x > 1000000000000
      · rw [decide_eq_false h1, decide_eq_true h2]; exact .inr rfl
      · rw [decide_eq_false h1, decide_eq_false h2]
        simp only [cond_false, cond_true]
        rcases prod_l6 k0 k1 L fee r (i + 1) with ⟨h, e⟩ | e
        · refine .inl ⟨fun y hy => ?_, e⟩
          rcases List.mem_cons.1 hy with rfl | hy
          · omega
          · exact h y hy
        · exact .inr e

theorem prod_loop {fee : Int} (h1 : 0 ≤ fee) (h2 : fee ≤ 1000000000000) {xs : List Int} (hx : ∀ x ∈ xs, 0 ≤ x ∧ x ≤ 1000000000000) (hl : xs.length ≤ 40) :
    octroilaw09_BoundProducts.l14 FU (fun list11 bad11 i11 t5511 nodes11 want11 => octroilaw09_BoundProducts.j22 FU (fun r415 => (some ((r415, ()), ()) : Option octroilaw09_BoundProducts.sg.R)) (fun r416 => some ((r416, ()), ())) nodes11 want11 bad11) FU xs (-1) ((0 : Nat) : Int) [monN fee] [mk fee] = some ((true, ()), ()) := by
  have hFU : FU = 4194304 := rfl
  rw [octroilaw09_BoundProducts.l14.rg_eq FU _ xs (by omega) xs 0 FU (-1) _ _ (by simp) (by rw [hFU]; omega)]
  have hb : mag 1 D1 (.nd (monN fee) []) = fee := by rw [mag_nd]; show fee * 1 = fee; omega
  have hfl : (Tree.nd (monN fee) []).flat = [monN fee] := by rw [flat_nd]; rfl
  have hsb : (Tree.nd (monN fee) []).subs = [.nd (monN fee) []] := by rw [subs_nd]; rfl
  obtain ⟨bad, want, q1, q2⟩ := prod_rg (fun bad nodes want => octroilaw09_BoundProducts.j22 FU (fun r415 => (some ((r415, ()), ()) : Option octroilaw09_BoundProducts.sg.R)) (fun r416 => some ((r416, ()), ())) nodes want bad) xs xs ((0 : Nat) : Int) (.nd (monN fee) []) (OKT_mon (by decide) h1 h2) (by
    rw [hsb]
    simp only [firstE]
    have : magE 1 D1 (.nd (monN fee) []) = 0 := by
      unfold magE
      rw [hb]
      show (bif decide (fee > BND) then (90 : Int) else 0) = 0
      rw [decide_eq_false (by rw [BND_eq]; omega)]; rfl
    rw [this]; rfl) (by rw [hb, BND_eq]; omega) hx (by rw [hfl]; simp; omega)
  have hw : wantL (.nd (monN fee) []) = [mk fee] := by
    unfold wantL
    rw [hsb, List.map_cons, hb]; rfl
  rw [hw, hfl] at q1
  exact q1.trans (prod_j22 h1 h2 hx hl q2)

theorem products_eq (fee : Int) (xs : List Int) : octroilaw09_BoundProducts.sh FU fee xs = some ((true, ()), ()) := by
  have hFU : FU = 4194304 := rfl
  unfold octroilaw09_BoundProducts.sh
  rw [awake_eq]
  simp only [oB_some, Bool.not_true, cond_false]
  by_cases h1 : fee < 0
  · rw [decide_eq_true h1]; rfl
  by_cases h2 : fee > 1000000000000
  · rw [decide_eq_false h1, decide_eq_true h2]; rfl
  by_cases h3 : (xs.length : Int) > 40
  · rw [decide_eq_false h1, decide_eq_false h2, decide_eq_true h3]; rfl
  rw [decide_eq_false h1, decide_eq_false h2, decide_eq_false h3]
  simp only [cond_false]
  have e1 := fun k0 k1 => octroilaw09_BoundProducts.l6.rg_eq (R := octroilaw09_BoundProducts.sg.R) FU k0 k1 xs (by omega) xs 0 FU fee (by simp) (by rw [hFU]; omega)
  rw [show ((0 : Nat) : Int) = 0 from rfl] at e1
  rw [e1]
  have e2 := fun k0 k1 => prod_l6 (R := octroilaw09_BoundProducts.sg.R) k0 k1 xs fee xs 0
  have e3 := e2 (fun r42 => some ((r42, ()), ())) (fun fee3 list3 => oB (wide_Of.sh FU fee3) fun c_4 =>
    octroilaw09_BoundProducts.l14 FU (fun list11 bad11 i11 t5511 nodes11 want11 => octroilaw09_BoundProducts.j22 FU (fun r415 => some ((r415, ()), ())) (fun r416 => some ((r416, ()), ())) nodes11 want11 bad11) FU list3 (-1) 0 ([(2, fee3, 0, 0, [], 0)] : List tNode.T) ([c_4.1.1] : List tWide.T))
  rcases e3 with ⟨hx, e⟩ | e
  · rw [e, of_eq FU (v := fee) (by omega) (by omega)]
    simp only [oB_some]
    have e4 := prod_loop (by omega) (by omega) hx (by omega) (fee := fee)
    rw [show ((0 : Nat) : Int) = 0 from rfl] at e4
    exact e4
  · exact e
end Go.VS
