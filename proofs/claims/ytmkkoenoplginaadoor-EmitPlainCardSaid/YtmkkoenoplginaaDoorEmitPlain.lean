/- EmitPlain of octroilaw17: proved for every input, over the row's conditions: the package's table of kinds holds what the program's text lays in it. -/
import Derived.Test.YtmkkoenoplginaaDoorQRow
set_option linter.unusedVariables false
set_option linter.unusedSimpArgs false
set_option linter.unusedSectionVars false
namespace Go.Proofs.YtmkkoenoplginaaDoor.fnEmitPlain
open Go Go.VS Go.ChangeShapes Go.WideShapes Go.ChangeAt Go.RowKit
set_option maxRecDepth 100000
theorem answers (m : Int) (x : TA zi.sg.args) (hw : wfA zi.sg.args x) : ∃y : zi.sg.R, wg Tryd.prog (G m) 3 zi.sg x y /\ vP 0 zi.sg.res y.1=[.c (.v (.bool true))] :=
 ⟨((true, ()), ()), zi.ok m FU x _ (S9 x.1), rfl⟩
theorem contract (H : Type) (enc : TypeId × Value-> H) (W : World) (base : Nat) (args : Array Value) (ds gs : List (DataW H)) (before : List MemPlace)
  (hval : ∀(j : Nat) t v, Tryd.f3.params[j]?=some t-> args[j]?=some v-> Value.okWide Tryd.prog W .any base t v)
  (hW : DataW.Whole enc Tryd.prog Tryd.f3.params.toList Rows.emitPlainSpec.vars false W args.toList ds gs before) (hL : laidMetH Tryd.prog Rows.emitPlainRow.laid W) (hS : W.ShapedOpen Tryd.prog) :
  Calls Tryd.prog 3 args W fun e W' => ∃v, e=.returned v /\ Rows.emitPlainSpec.post enc Tryd.prog Tryd.f3 false true false false W args v W' := by
 obtain ⟨m, hG⟩ := globs hL hS;have hds : ∃d0, ds=[d0] := by
  obtain ⟨p, q, hA0, _⟩ := hW;have hA : DataW.TrodAll enc Tryd.prog W 0 (fun _ => true) true Tryd.f3.params.toList args.toList ds p := hA0;rw[Tryd.params3] at hA;obtain ⟨v0, vs0, d0, ds0, p0, q0, hargs0, rfl, rfl, h0, r0⟩ := trodAll_cons hA;obtain ⟨rfl, rfl, rfl⟩ := trodAll_nil r0;exact ⟨d0, rfl⟩
 obtain ⟨d0, rfl⟩ := hds;exact law_row (sg := zi.sg) (tb := 4) (n := 20) (bulkLike H) Tryd.func3 (by kernel_rfl) (by kernel_rfl) (by kernel_rfl) laidOut (by kernel_rfl) rfl (by kernel_rfl) Tryd.underlying4 rfl hval hW hG
  (fun x hw _ => answers m x hw)
abbrev args0 : Array Value := #[.agg #[.string ByteArray.empty, .slice none 0 0, .int .i64 0, .slice none 0 0]]
theorem laid_met (os : Os) : laidMet Tryd.prog Rows.emitPlainRow.laid ((laidWorld os).forCall (fun _ _ => 0) ⟨#[], args0, []⟩).memory :=
 laidMet_of_run' 8 (by kernel_rfl) (by kernel_rfl)
theorem reads (os : Os) {H : Type} (enc : TypeId × Value-> H) : ∃places, DataW.whole enc Tryd.prog ((laidWorld os).forCall (fun _ _ => 0) ⟨#[], args0, []⟩).memory Tryd.f3.params.toList Rows.emitPlainSpec.vars false args0.toList 8=some ([.agg [.lit (.string []), .nil, .lit (.int .i64 0), .nil]], [], places) :=
 ⟨[], by kernel_rfl⟩
theorem lifted (os : Os) (started : os.Started) (H : Type) (enc : TypeId × Value-> H) (F : Stop.Interp) :
  ReturnsInHanded {} Tryd.checked os 3 .any ((OpenSpec.ofChange Rows.emitPlainSpec).preRow enc Tryd.prog Tryd.f3 Rows.emitPlainRow.domain false Rows.emitPlainRow.laid) (((OpenSpec.ofChange Rows.emitPlainSpec).at F).post enc Tryd.prog Tryd.f3 false true false false) := by
 obtain ⟨places, hx⟩ := reads os enc;refine returnsInHanded_of_row (C := Tryd.checked) (s := OpenSpec.ofChange Rows.emitPlainSpec) own started (by kernel_rfl) Tryd.func3
  (witness_row_at (enc := enc) (C := Tryd.checked) false (laidWorld os) args0 rfl (by kernel_rfl) (by kernel_rfl) (by kernel_rfl)
   (OpenSpec.preRow_of_cond 8 hx (by kernel_rfl) (fun k hk => by cases hk) (by kernel_rfl) (laid_met os))) ?_
 intro W base args ds gs before hval hW _ _ _ hL hS _;exact contract H enc W base args ds gs before hval hW hL hS
theorem said : Rows.EmitPlainSaid :=
 OpenClaim.holds_of_cond 3 Tryd.f3 rfl rfl rfl rfl rfl rfl rfl ⟨rfl, rfl, rfl, rfl, rfl⟩ rfl rfl rfl rfl rfl (by kernel_rfl) Tryd.func3 (by kernel_rfl)
  (of_decide_eq_true (by kernel_rfl)) (by unfold Func.isWrapper; first | (rw[if_pos (by decide +kernel)]; kernel_rfl) | (rw[if_neg (by decide +kernel)]; exact ⟨rfl, rfl⟩))
  (fun os started H enc _ F => by rw[OpenClaim.pre_eq_preRow]; exact lifted os started H enc F)
theorem plain (f : FuncId) (fn : Func) (hf : Tryd.pinned.checked.prog.funcNamed "octroi/octroilaw17.EmitPlain" = some f) (hfn : Tryd.pinned.checked.prog.funcs[f]? = some fn) :
  false=Tryd.pinned.checked.prog.looks [] /\ ∀(j : Nat) t, fn.params[j]?=some t-> Tryd.pinned.checked.prog.wantsStandIn t=false := by
 obtain rfl : f = 3 := Option.some.inj ((show Tryd.prog.funcNamed "octroi/octroilaw17.EmitPlain" = some 3 by kernel_rfl).symm.trans hf) |>.symm
 obtain rfl : fn=Tryd.f3 := (Option.some.inj (Tryd.func3.symm.trans hfn)).symm;refine ⟨by kernel_rfl, fun j t ht => ?_⟩;have hall : Tryd.f3.params.toList.all (fun t => !Tryd.prog.wantsStandIn t)=true := by kernel_rfl
 have := List.all_eq_true.1 hall t (by simpa using Array.mem_of_getElem? ht);have h2 : Tryd.prog.wantsStandIn t=false := by simpa using this
 exact h2
theorem card : Rows.EmitPlainCardSaid :=
 Claim7.holds_tied_plain_at .later [] _ _ _ _ said (fun _ h => by cases h) (by kernel_rfl) (fun _ h => by cases h) emitPlain_row_tie rfl ⟨rfl, rfl⟩ (by kernel_rfl) rfl plain (by kernel_rfl)
end Go.Proofs.YtmkkoenoplginaaDoor.fnEmitPlain
