/- EmitForms of octroilaw17: proved for every input, over the row's conditions: the package's table of kinds holds what the program's text lays in it. -/
import Derived.Test.YtmkkoenoplginaaGreatDoorQRow
set_option linter.unusedVariables false
set_option linter.unusedSimpArgs false
set_option linter.unusedSectionVars false
namespace Go.Proofs.YtmkkoenoplginaaGreatDoor.fnEmitForms
open Go Go.VS Go.ChangeShapes Go.WideShapes Go.ChangeAt Go.RowKit
set_option maxRecDepth 100000
theorem answers (m : Int) (x : TA zm.sg.args) (hw : wfA zm.sg.args x) : ∃y : zm.sg.R, wt Tryz.prog (G m) 3 zm.sg x y /\ vZ 0 zm.sg.res y.1=[.c (.v (.bool true))] :=
 ⟨((true, ()), ()), zm.ok m FU x _ (R8 x.1), rfl⟩
theorem contract (H : Type) (enc : TypeId × Value-> H) (W : World) (base : Nat) (args : Array Value) (ds gs : List (DataW H)) (before : List MemPlace)
  (hval : ∀(j : Nat) t v, Tryz.f3.params[j]?=some t-> args[j]?=some v-> Value.okWide Tryz.prog W .any base t v)
  (hW : DataW.Whole enc Tryz.prog Tryz.f3.params.toList Rows.emitFormsSpec.vars false W args.toList ds gs before) (hL : laidMetH Tryz.prog Rows.emitFormsRow.laid W) (hS : W.ShapedOpen Tryz.prog) :
  Calls Tryz.prog 3 args W fun e W' => ∃v, e=.returned v /\ Rows.emitFormsSpec.post enc Tryz.prog Tryz.f3 false true false false W args v W' := by
 obtain ⟨m, hG⟩ := globs hL hS;have hds : ∃d0, ds=[d0] := by
  obtain ⟨p, q, hA0, _⟩ := hW;have hA : DataW.TrodAll enc Tryz.prog W 0 (fun _ => true) true Tryz.f3.params.toList args.toList ds p := hA0;rw[Tryz.params3] at hA;obtain ⟨v0, vs0, d0, ds0, p0, q0, hargs0, rfl, rfl, h0, r0⟩ := trodAll_cons hA;obtain ⟨rfl, rfl, rfl⟩ := trodAll_nil r0;exact ⟨d0, rfl⟩
 obtain ⟨d0, rfl⟩ := hds;exact law_row (sg := zm.sg) (tb := 4) (n := 20) (bulkLike H) Tryz.func3 (by kernel_rfl) (by kernel_rfl) (by kernel_rfl) laidOut (by kernel_rfl) rfl (by kernel_rfl) Tryz.underlying4 rfl hval hW hG
  (fun x hw _ => answers m x hw)
abbrev args0 : Array Value := #[.agg #[.string ByteArray.empty, .slice none 0 0, .int .i64 0, .slice none 0 0]]
theorem laid_met (os : Os) : laidMet Tryz.prog Rows.emitFormsRow.laid ((laidWorld os).forCall (fun _ _ => 0) ⟨#[], args0, []⟩).memory :=
 laidMet_of_run' 8 (by kernel_rfl) (by kernel_rfl)
theorem reads (os : Os) {H : Type} (enc : TypeId × Value-> H) : ∃places, DataW.whole enc Tryz.prog ((laidWorld os).forCall (fun _ _ => 0) ⟨#[], args0, []⟩).memory Tryz.f3.params.toList Rows.emitFormsSpec.vars false args0.toList 8=some ([.agg [.lit (.string []), .nil, .lit (.int .i64 0), .nil]], [], places) :=
 ⟨[], by kernel_rfl⟩
theorem lifted (os : Os) (started : os.Started) (H : Type) (enc : TypeId × Value-> H) (F : Stop.Interp) :
  ReturnsInHanded {} Tryz.checked os 3 .any ((OpenSpec.ofChange Rows.emitFormsSpec).preRow enc Tryz.prog Tryz.f3 Rows.emitFormsRow.domain false Rows.emitFormsRow.laid) (((OpenSpec.ofChange Rows.emitFormsSpec).at F).post enc Tryz.prog Tryz.f3 false true false false) := by
 obtain ⟨places, hx⟩ := reads os enc;refine returnsInHanded_of_row (C := Tryz.checked) (s := OpenSpec.ofChange Rows.emitFormsSpec) own started (by kernel_rfl) Tryz.func3
  (witness_row_at (enc := enc) (C := Tryz.checked) false (laidWorld os) args0 rfl (by kernel_rfl) (by kernel_rfl) (by kernel_rfl)
   (OpenSpec.preRow_of_cond 8 hx (by kernel_rfl) (fun k hk => by cases hk) (by kernel_rfl) (laid_met os))) ?_
 intro W base args ds gs before hval hW _ _ _ hL hS _;exact contract H enc W base args ds gs before hval hW hL hS
theorem said : Rows.EmitFormsSaid :=
 OpenClaim.holds_of_cond 3 Tryz.f3 rfl rfl rfl rfl rfl rfl rfl ⟨rfl, rfl, rfl, rfl, rfl⟩ rfl rfl rfl rfl rfl (by kernel_rfl) Tryz.func3 (by kernel_rfl)
  (of_decide_eq_true (by kernel_rfl)) (by unfold Func.isWrapper; first | (rw[if_pos (by decide +kernel)]; kernel_rfl) | (rw[if_neg (by decide +kernel)]; exact ⟨rfl, rfl⟩))
  (fun os started H enc _ F => by rw[OpenClaim.pre_eq_preRow]; exact lifted os started H enc F)
theorem plain (f : FuncId) (fn : Func) (hf : Tryz.pinned.checked.prog.funcNamed "octroi/octroilaw17.EmitForms" = some f) (hfn : Tryz.pinned.checked.prog.funcs[f]? = some fn) :
  false=Tryz.pinned.checked.prog.looks [] /\ ∀(j : Nat) t, fn.params[j]?=some t-> Tryz.pinned.checked.prog.wantsStandIn t=false := by
 obtain rfl : f = 3 := Option.some.inj ((show Tryz.prog.funcNamed "octroi/octroilaw17.EmitForms" = some 3 by kernel_rfl).symm.trans hf) |>.symm
 obtain rfl : fn=Tryz.f3 := (Option.some.inj (Tryz.func3.symm.trans hfn)).symm;refine ⟨by kernel_rfl, fun j t ht => ?_⟩;have hall : Tryz.f3.params.toList.all (fun t => !Tryz.prog.wantsStandIn t)=true := by kernel_rfl
 have := List.all_eq_true.1 hall t (by simpa using Array.mem_of_getElem? ht);have h2 : Tryz.prog.wantsStandIn t=false := by simpa using this
 exact h2
theorem card : Rows.EmitFormsCardSaid :=
 Claim7.holds_tied_plain_at .later [] _ _ _ _ said (fun _ h => by cases h) (by kernel_rfl) (fun _ h => by cases h) emitForms_row_tie rfl ⟨rfl, rfl⟩ (by kernel_rfl) rfl plain (by kernel_rfl)
end Go.Proofs.YtmkkoenoplginaaGreatDoor.fnEmitForms
