/- EvalCuts of octroilaw10: proved for every input, over the row's conditions: the package's table of kinds holds what the program's text lays in it. -/
import Derived.Test.YtklphgkipdkaeaaDoorQRow
set_option linter.unusedVariables false
set_option linter.unusedSimpArgs false
set_option linter.unusedSectionVars false
namespace Go.Proofs.YtklphgkipdkaeaaDoor.fnEvalCuts
open Go Go.VS Go.ChangeShapes Go.WideShapes Go.ChangeAt Go.RowKit
set_option maxRecDepth 100000
theorem answers (m : Int) (x : TA zn.sg.args) (hw : wfA zn.sg.args x) : ∃y : zn.sg.R, xY Tryd.prog (G m) 3 zn.sg x y /\ qg 0 zn.sg.res y.1=[.c (.v (.bool true))] :=
 ⟨((true, ()), ()), zn.ok m FU x _ (cuts_law x.1 x.2.1 x.2.2.1), rfl⟩
theorem contract (H : Type) (enc : TypeId × Value-> H) (W : World) (base : Nat) (args : Array Value) (ds gs : List (DataW H)) (before : List MemPlace)
  (hval : ∀(j : Nat) t v, Tryd.f3.params[j]?=some t-> args[j]?=some v-> Value.okWide Tryd.prog W .any base t v)
  (hW : DataW.Whole enc Tryd.prog Tryd.f3.params.toList Rows.evalCutsSpec.vars false W args.toList ds gs before) (hL : laidMetH Tryd.prog Rows.evalCutsRow.laid W) (hS : W.ShapedOpen Tryd.prog) :
  Calls Tryd.prog 3 args W fun e W' => ∃v, e=.returned v /\ Rows.evalCutsSpec.post enc Tryd.prog Tryd.f3 false true false false W args v W' := by
 obtain ⟨m, hG⟩ := globs hL hS;have hds : ∃d0 d1 d2, ds=[d0, d1, d2] := by
  obtain ⟨p, q, hA0, _⟩ := hW;have hA : DataW.TrodAll enc Tryd.prog W 0 (fun _ => true) true Tryd.f3.params.toList args.toList ds p := hA0;rw[Tryd.params3] at hA;obtain ⟨v0, vs0, d0, ds0, p0, q0, hargs0, rfl, rfl, h0, r0⟩ := trodAll_cons hA;obtain ⟨v1, vs1, d1, ds1, p1, q1, hargs1, rfl, rfl, h1, r1⟩ := trodAll_cons r0;obtain ⟨v2, vs2, d2, ds2, p2, q2, hargs2, rfl, rfl, h2, r2⟩ := trodAll_cons r1;obtain ⟨rfl, rfl, rfl⟩ := trodAll_nil r2;exact ⟨d0, d1, d2, rfl⟩
 obtain ⟨d0, d1, d2, rfl⟩ := hds;exact law_row (sg := zn.sg) (tb := 4) (n := 20) (bulkLike H) Tryd.func3 (by kernel_rfl) (by kernel_rfl) (by kernel_rfl) laidOut (by kernel_rfl) rfl (by kernel_rfl) Tryd.underlying4 rfl hval hW hG
  (fun x hw _ => answers m x hw)
abbrev args0 : Array Value := #[.int .i64 0, .int .i64 0, .int .i64 0]
theorem laid_met (os : Os) : laidMet Tryd.prog Rows.evalCutsRow.laid ((laidWorld os).forCall (fun _ _ => 0) ⟨#[], args0, []⟩).memory :=
 laidMet_of_run' 8 (by kernel_rfl) (by kernel_rfl)
theorem reads (os : Os) {H : Type} (enc : TypeId × Value-> H) : ∃places, DataW.whole enc Tryd.prog ((laidWorld os).forCall (fun _ _ => 0) ⟨#[], args0, []⟩).memory Tryd.f3.params.toList Rows.evalCutsSpec.vars false args0.toList 8=some ([.lit (.int .i64 0), .lit (.int .i64 0), .lit (.int .i64 0)], [], places) :=
 ⟨[], by kernel_rfl⟩
theorem lifted (os : Os) (started : os.Started) (H : Type) (enc : TypeId × Value-> H) (F : Stop.Interp) :
  ReturnsInHanded {} Tryd.checked os 3 .any ((OpenSpec.ofChange Rows.evalCutsSpec).preRow enc Tryd.prog Tryd.f3 Rows.evalCutsRow.domain false Rows.evalCutsRow.laid) (((OpenSpec.ofChange Rows.evalCutsSpec).at F).post enc Tryd.prog Tryd.f3 false true false false) := by
 obtain ⟨places, hx⟩ := reads os enc;refine returnsInHanded_of_row (C := Tryd.checked) (s := OpenSpec.ofChange Rows.evalCutsSpec) own started (by kernel_rfl) Tryd.func3
  (witness_row_at (enc := enc) (C := Tryd.checked) false (laidWorld os) args0 rfl (by kernel_rfl) (by kernel_rfl) (by kernel_rfl)
   (OpenSpec.preRow_of_cond 8 hx (by kernel_rfl) (fun k hk => by cases hk) (by kernel_rfl) (laid_met os))) ?_
 intro W base args ds gs before hval hW _ _ _ hL hS _;exact contract H enc W base args ds gs before hval hW hL hS
theorem said : Rows.EvalCutsSaid :=
 OpenClaim.holds_of_cond 3 Tryd.f3 rfl rfl rfl rfl rfl rfl rfl ⟨rfl, rfl, rfl, rfl, rfl⟩ rfl rfl rfl rfl rfl (by kernel_rfl) Tryd.func3 (by kernel_rfl)
  (of_decide_eq_true (by kernel_rfl)) (by unfold Func.isWrapper; first | (rw[if_pos (by decide +kernel)]; kernel_rfl) | (rw[if_neg (by decide +kernel)]; exact ⟨rfl, rfl⟩))
  (fun os started H enc _ F => by rw[OpenClaim.pre_eq_preRow]; exact lifted os started H enc F)
theorem plain (f : FuncId) (fn : Func) (hf : Tryd.pinned.checked.prog.funcNamed "octroi/octroilaw10.EvalCuts" = some f) (hfn : Tryd.pinned.checked.prog.funcs[f]? = some fn) :
  false=Tryd.pinned.checked.prog.looks [] /\ ∀(j : Nat) t, fn.params[j]?=some t-> Tryd.pinned.checked.prog.wantsStandIn t=false := by
 obtain rfl : f = 3 := Option.some.inj ((show Tryd.prog.funcNamed "octroi/octroilaw10.EvalCuts" = some 3 by kernel_rfl).symm.trans hf) |>.symm
 obtain rfl : fn=Tryd.f3 := (Option.some.inj (Tryd.func3.symm.trans hfn)).symm;refine ⟨by kernel_rfl, fun j t ht => ?_⟩;have hall : Tryd.f3.params.toList.all (fun t => !Tryd.prog.wantsStandIn t)=true := by kernel_rfl
 have := List.all_eq_true.1 hall t (by simpa using Array.mem_of_getElem? ht);have h2 : Tryd.prog.wantsStandIn t=false := by simpa using this
 exact h2
theorem card : Rows.EvalCutsCardSaid :=
 Claim7.holds_tied_plain_at .later [] _ _ _ _ said (fun _ h => by cases h) (by kernel_rfl) (fun _ h => by cases h) evalCuts_row_tie rfl ⟨rfl, rfl⟩ (by kernel_rfl) rfl plain (by kernel_rfl)
end Go.Proofs.YtklphgkipdkaeaaDoor.fnEvalCuts
