import Derived.Test.YteflnofaioijmaaDoorL12
set_option linter.unusedVariables false
set_option linter.unusedSimpArgs false
set_option linter.unusedSectionVars false
/-! Layer 9: the law of offs. -/
set_option linter.unusedVariables false
set_option linter.unusedSimpArgs false
set_option maxRecDepth 100000
namespace Go.VS
open Go

abbrev offN (x : Int) : tNode.T := (15, x, 0, 0, [], 0)
theorem nodeE_off {x : Int} (h1 : 0 ≤ x) (h2 : x ≤ 10000) : nodeE 1 (offN x) 1 = 0 := by
  have e1 : decide (nN (offN x) < 0) = false := decide_eq_false (show ¬ x < 0 by omega)
  have e2 : decide (nN (offN x) > mostN (offN x) 1) = false := decide_eq_false (show ¬ x > 10000 by omega)
  unfold nodeE
  rw [e1, e2]
  rfl
abbrev offT (t : Tree) (x : Int) : Tree := .nd (offN x) [t]
theorem flat_offT (t : Tree) (x : Int) : (offT t x).flat = t.flat ++ [offN x] := by rw [flat_nd, flats_one]
theorem subs_offT (t : Tree) (x : Int) : (offT t x).subs = t.subs ++ [offT t x] := by rw [subs_nd, subss_one]
theorem mag_offT (u : Int) (t : Tree) (x : Int) : mag u D1 (offT t x) = mag u D1 t := by rw [mag_nd]; rfl
theorem deep_offT (t : Tree) (x : Int) : deep (offT t x) = deep t + 1 := by rw [deep_nd]; rfl
theorem OKT_off {u : Int} {t : Tree} (h : OKT u t) {x : Int} (h1 : 0 ≤ x) (h2 : x ≤ 10000) : OKT u (offT t x) := by
  have hq : ty (offT t x) = 1 := by rw [ty_nd]; simp only [List.map_cons, List.map_nil, h.ty]; rfl
  refine ⟨?_, ?_, ?_, hq, ?_, by rw [mag_offT]; exact h.mag⟩
  · rw [flat_offT, okS_app, h.eq]
    exact ⟨h.ok, nodeE_off h1 h2, trivial⟩
  · rw [flat_offT, endT_app, h.eq]; rfl
  · rw [subs_offT, firstE_app, h.tyE]
    simp only [firstE]
    have e2 : tyE (offT t x) = 0 := by
      unfold VS.tyE
      rw [hq]
      rfl
    rw [e2]; rfl
  · have hn := h.nq
    unfold noQ at hn ⊢
    rw [flat_offT, List.all_append, hn]
    rfl
def oTree : Tree → List Int → Tree
  | t, [] => t
  | t, x :: r => oTree (offT t x) r
theorem OKT_o {u : Int} : ∀ {xs : List Int} {t : Tree}, OKT u t → (∀ x ∈ xs, 0 ≤ x ∧ x ≤ 10000) → OKT u (oTree t xs)
  | [], t, h, hx => h
  | x :: r, t, h, hx => OKT_o (xs := r) (t := offT t x) (OKT_off h (hx x (by simp)).1 (hx x (by simp)).2) (fun y hy => hx y (by simp [hy]))
theorem flat_o : ∀ (xs : List Int) (t : Tree), (oTree t xs).flat.length = t.flat.length + xs.length
  | [], t => by simp [oTree]
  | x :: r, t => by rw [oTree, flat_o r, flat_offT]; simp; omega
theorem deep_o : ∀ (xs : List Int) (t : Tree), deep (oTree t xs) = deep t + xs.length
  | [], t => by simp [oTree]
  | x :: r, t => by rw [oTree, deep_o r, deep_offT]; simp; omega
theorem mag_o (u c : Int) : ∀ (xs : List Int) (t : Tree), mag u D1 t = c → (∀ s ∈ t.subs, mag u D1 s = c) → ∀ s ∈ (oTree t xs).subs, mag u D1 s = c
  | [], t, h0, h => h
  | x :: r, t, h0, h => mag_o u c r (offT t x) (by rw [mag_offT, h0]) (by
    intro s hs
    rw [subs_offT] at hs
    rcases List.mem_append.1 hs with hs | hs
    · exact h s hs
    · rw [List.mem_singleton.1 hs, mag_offT, h0])

def U6 (i : Nat) : Int := 10000 ^ (min i 6)
theorem U6_bd (i : Nat) : 1 ≤ U6 i ∧ U6 i ≤ 1000000000000000000000000 := by
  unfold U6
  have : min i 6 = 0 ∨ min i 6 = 1 ∨ min i 6 = 2 ∨ min i 6 = 3 ∨ min i 6 = 4 ∨ min i 6 = 5 ∨ min i 6 = 6 := by omega
  rcases this with h | h | h | h | h | h | h <;> rw [h] <;> decide
theorem U6_next {i : Nat} (h : i < 6) : U6 i * 10000 = U6 (i + 1) := by
  unfold U6
  rw [show min i 6 = i by omega, show min (i + 1) 6 = i + 1 by omega, Int.pow_succ]
theorem U6_stay {i : Nat} (h : ¬ i < 6) : U6 i = U6 (i + 1) := by
  unfold U6
  rw [show min i 6 = 6 by omega, show min (i + 1) 6 = 6 by omega]

theorem offs_l8 {R : Type} (k0 : Bool → Option R) (k1 : Int → List Int → tWide.T → List tNode.T → Option R) (L : List Int) (fee : Int) : ∀ (xs : List Int) (i : Nat) (t : Tree), t.flat.length + xs.length ≤ 2048 →
    ((∀ x ∈ xs, 0 ≤ x ∧ x ≤ 10000) ∧ octroilaw09_BoundOffs.l8.rg FU k0 (fun fee offs _ _ unit nodes => k1 fee offs unit nodes) L xs (i : Int) fee (mk (U6 i)) t.flat = k1 fee L (mk (U6 (i + xs.length))) (oTree t xs).flat) ∨
      octroilaw09_BoundOffs.l8.rg FU k0 (fun fee offs _ _ unit nodes => k1 fee offs unit nodes) L xs (i : Int) fee (mk (U6 i)) t.flat = k0 true
  | [], i, t, hl => .inl ⟨by simp, rfl⟩
  | x :: r, i, t, hl => by
    simp only [List.length_cons] at hl
    have ih := offs_l8 k0 k1 L fee r (i + 1) (offT t x) (by rw [flat_offT]; simp; omega)
    rw [flat_offT, rg_cast] at ih
    simp only [octroilaw09_BoundOffs.l8.rg]
    by_cases h1 : x < 0
    · rw [decide_eq_true h1]; exact .inr rfl
    · by_cases h2 : x > 10000
      · rw [decide_eq_false h1, decide_eq_true h2]; exact .inr rfl
      · rw [decide_eq_false h1, decide_eq_false h2]
        simp only [cond_false, cond_true]
        rw [ble_of (by simp; omega)]
        simp only [cond_true]
        have key : ∀ Z, Z = octroilaw09_BoundOffs.l8.rg FU k0 (fun fee offs _ _ unit nodes => k1 fee offs unit nodes) L r ((i : Int) + 1) fee (mk (U6 (i + 1))) (t.flat ++ [offN x]) →
            ((∀ y ∈ x :: r, 0 ≤ y ∧ y ≤ 10000) ∧ Z = k1 fee L (mk (U6 (i + (x :: r).length))) (oTree t (x :: r)).flat) ∨ Z = k0 true := by
          rintro Z rfl
          rcases ih with ⟨h, e⟩ | e
          · refine .inl ⟨fun y hy => ?_, ?_⟩
            · rcases List.mem_cons.1 hy with rfl | hy
              · omega
              · exact h y hy
            · rw [e, List.length_cons, show i + 1 + r.length = i + (r.length + 1) by omega]
              rfl
          · exact .inr e
        by_cases h6 : i < 6
        · rw [decide_eq_true (show (i : Int) < 6 by omega)]
          have hU := U6_bd i
          have hU1 := U6_bd (i + 1)
          simp only [cond_true]
          rw [of_eq FU (v := 10000) (by omega) (by omega)]
          simp only [oB_some]
          rw [wmul_eq FU (wf_mk (by rw [inR_iff]; omega)) (wf_mk (by rw [inR_iff]; omega))]
          simp only [oB_some, val_mk]
          rw [U6_next h6, (res_in (v := U6 (i + 1)) (by rw [inR_iff]; omega)).1]
          exact key _ rfl
        · rw [decide_eq_false (show ¬ (i : Int) < 6 by omega), U6_stay h6]
          exact key _ rfl

theorem offs_l23 {R : Type} (F : Nat) (k0 : Bool → Option R) (k1 : Option R) (L : List tWide.T) (s : tWide.T) : ∀ (xs : List tWide.T) (i : Int), (∀ x ∈ xs, x = s) → octroilaw09_BoundOffs.l23.rg F k0 (fun _ _ _ _ => k1) L xs i s = k1
  | [], i, h => rfl
  | x :: r, i, h => by
    have hx := h x (by simp)
    subst hx
    simp only [octroilaw09_BoundOffs.l23.rg, beq_self_eq_true, Bool.and_true, Bool.not_true, cond_false]
    exact offs_l23 F k0 k1 L x r (i + 1) (fun y hy => h y (by simp [hy]))

theorem offs_j15 {fee : Int} (h1 : 0 ≤ fee) (h2 : fee ≤ 1000000) {xs : List Int} (hx : ∀ x ∈ xs, 0 ≤ x ∧ x ≤ 10000) (hl : xs.length ≤ 100) :
    octroilaw09_BoundOffs.j15 FU (fun r => some ((r, ()), ())) (fun r => some ((r, ()), ())) (fun r => some ((r, ()), ())) (fun r => some ((r, ()), ())) fee xs (oTree (.nd (monN fee) []) xs).flat (mk (U6 (0 + xs.length))) = (some ((true, ()), ()) : Option octroilaw09_BoundOffs.sg.R) := by
  have hFU : FU = 4194304 := rfl
  have hd := deep_o xs (.nd (monN fee) [])
  rw [show deep (.nd (monN fee) []) = 0 from rfl] at hd
  have hfl : (Tree.nd (monN fee) []).flat = [monN fee] := by rw [flat_nd]; rfl
  have hsb : (Tree.nd (monN fee) []).subs = [.nd (monN fee) []] := by rw [subs_nd]; rfl
  have hlen := flat_o xs (.nd (monN fee) [])
  rw [hfl] at hlen
  have ho := fun u (hu : 0 ≤ u) => OKT_o (xs := xs) (OKT_mon (u := u) hu h1 (show fee ≤ 1000000000000 by omega)) hx
  have hm0 : ∀ u, mag u D1 (.nd (monN fee) []) = fee * u := fun u => by rw [mag_nd]; rfl
  have hmag := fun u => mag_o u (fee * u) xs (.nd (monN fee) []) (hm0 u) (by
    intro s hs
    rw [hsb] at hs
    rw [List.mem_singleton.1 hs, hm0])
  generalize oTree (.nd (monN fee) []) xs = t at *
  simp only [List.length_cons, List.length_nil] at hlen
  have hg := (ho 1 (by decide)).good (by omega)
  have hty := (ho 1 (by decide)).tyE
  have hty1 := (ho 1 (by decide)).ty
  have hsl := subs_len t
  have hU := U6_bd (0 + xs.length)
  unfold octroilaw09_BoundOffs.j15
  rw [show octroilaw09_head.sh FU t.flat = some ((hP t.flat, ()), ()) from rfl]
  simp only [oB_some]
  rw [Mags_eq hg, Unit_eq hg]
  simp only [oB_some]
  by_cases h6 : (xs.length : Int) > 6
  · rw [decide_eq_true h6]
    have hR : unitR D1 t = ((0, 0), (xs.length : Int), 90) := by
      unfold unitR
      rw [typesR_of hty hty1, decide_eq_true (show deep t > 6 by omega)]
      have : (t.size : Int) - 1 = (xs.length : Int) := by unfold Tree.size; omega
      rw [this]
      rfl
    have hM : magsR D1 t = ([], (xs.length : Int), 90) := by unfold magsR; rw [hR]; rfl
    simp only [hM, hR, beq_self_eq_true, cond_true]
    rfl
  · rw [decide_eq_false h6]
    simp only [cond_false]
    have hu : unitV t = U6 (0 + xs.length) := by
      unfold unitV U6
      rw [hd, show min (0 + xs.length) 6 = xs.length by omega, show ((0 : Int) + (xs.length : Int)).toNat = xs.length by omega]
    have hR := unitR_of (D := D1) hty hty1 (by omega)
    rw [hu] at hR
    have hfu := mul_bd h1 h2 (by omega) hU.2
    rw [show (1000000 : Int) * 1000000000000000000000000 = 1000000000000000000000000000000 by decide] at hfu
    have hE : firstE (magE (U6 (0 + xs.length)) D1) t.subs 0 = none := by
      refine firstE_all 0 (fun s hs => ?_)
      unfold magE farN
      rw [hmag _ s hs, BND_eq]
      cases (nK s.root == 15) with
      | true => simp only [cond_true]; rw [decide_eq_false (by omega)]; rfl
      | false => simp only [cond_false]; rw [decide_eq_false (by omega)]; rfl
    have hmr : measR (U6 (0 + xs.length)) D1 t = (t.subs.map fun s => mk (mag (U6 (0 + xs.length)) D1 s), -1) := by unfold measR; rw [hE]
    rw [hmr] at hR
    simp only at hR
    rw [decide_eq_false (show ¬ ((-1 : Int)) ≥ 0 by omega)] at hR
    simp only [cond_false] at hR
    have hM : magsR D1 t = (t.subs.map fun s => mk (mag (U6 (0 + xs.length)) D1 s), 0, 0) := by unfold magsR; rw [hR, hu, hmr]; rfl
    simp only [hM, hR]
    rw [of_eq FU (v := fee) (by omega) (by omega)]
    simp only [oB_some]
    rw [wmul_eq FU (wf_mk (by rw [inR_iff]; omega)) (wf_mk (by rw [inR_iff]; omega))]
    simp only [oB_some, val_mk]
    rw [Int.mul_comm (U6 (0 + xs.length)) fee]
    have iF : inR (fee * U6 (0 + xs.length)) = true := by rw [inR_iff]; omega
    rw [(res_in iF).1, (res_in iF).2]
    simp only [bne_self_eq_false, cond_false, beq_self_eq_true, Bool.and_true, Bool.not_true]
    have hlm : ((((t.subs.map fun s => mk (mag (U6 (0 + xs.length)) D1 s)).length : Nat) : Int) != ((t.flat.length : Nat) : Int)) = false := by
      rw [List.length_map, hsl]; simp
    rw [hlm]
    simp only [cond_false]
    have e1 := fun k0 k1 => octroilaw09_BoundOffs.l23.rg_eq (R := octroilaw09_BoundOffs.sg.R) FU k0 k1 (t.subs.map fun s => mk (mag (U6 (0 + xs.length)) D1 s)) (by simp; omega) (t.subs.map fun s => mk (mag (U6 (0 + xs.length)) D1 s)) 0 FU (mk (fee * U6 (0 + xs.length))) (by simp) (by rw [hFU]; simp; omega)
    rw [show ((0 : Nat) : Int) = 0 from rfl] at e1
    rw [e1]
    exact offs_l23 FU _ (some ((true, ()), ())) _ _ _ _ (by
      intro x hx'
      obtain ⟨s, hs, rfl⟩ := List.mem_map.1 hx'
      rw [hmag _ s hs])

theorem offs_eq (fee : Int) (xs : List Int) : octroilaw09_BoundOffs.sh FU fee xs = some ((true, ()), ()) := by
  have hFU : FU = 4194304 := rfl
  unfold octroilaw09_BoundOffs.sh
  rw [awake_eq]
  simp only [oB_some, Bool.not_true, cond_false]
  by_cases h1 : fee < 0
  · rw [decide_eq_true h1]; rfl
  by_cases h2 : fee > 1000000
  · rw [decide_eq_false h1, decide_eq_true h2]; rfl
  by_cases h3 : (xs.length : Int) > 100
  · rw [decide_eq_false h1, decide_eq_false h2, decide_eq_true h3]; rfl
  rw [decide_eq_false h1, decide_eq_false h2, decide_eq_false h3]
  simp only [cond_false]
  rw [of_eq FU (v := 1) (by omega) (by omega)]
  simp only [oB_some]
  have e1 := fun k0 k1 => octroilaw09_BoundOffs.l8.rg_eq (R := octroilaw09_BoundOffs.sg.R) FU k0 k1 xs (by omega) xs 0 FU fee (mk 1) [monN fee] (by simp) (by rw [hFU]; omega)
  have hfl : (Tree.nd (monN fee) []).flat = [monN fee] := by rw [flat_nd]; rfl
  have e3 := offs_l8 (R := octroilaw09_BoundOffs.sg.R) (fun r45 => some ((r45, ()), ())) (fun fee6 offs6 unit6 nodes6 => octroilaw09_BoundOffs.j15 FU (fun r415 => some ((r415, ()), ())) (fun r416 => some ((r416, ()), ())) (fun r417 => some ((r417, ()), ())) (fun r418 => some ((r418, ()), ())) fee6 offs6 nodes6 unit6) xs fee xs 0 (.nd (monN fee) []) (by rw [hfl]; simp; omega)
  rw [hfl, show U6 0 = 1 from rfl] at e3
  rw [show ((0 : Nat) : Int) = 0 from rfl] at e1 e3
  rw [show ([(2, fee, 0, 0, [], 0)] : List tNode.T) = [monN fee] from rfl, e1]
  rcases e3 with ⟨hx, e⟩ | e
  · exact e.trans (offs_j15 (by omega) (by omega) hx (by omega))
  · exact e
end Go.VS
