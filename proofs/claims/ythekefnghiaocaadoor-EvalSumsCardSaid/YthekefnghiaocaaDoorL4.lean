import Derived.Test.YthekefnghiaocaaDoorL3
set_option linter.unusedVariables false
set_option linter.unusedSimpArgs false
set_option linter.unusedSectionVars false
set_option linter.unusedVariables false
set_option linter.unusedSimpArgs false
set_option maxRecDepth 100000
namespace Go.VS
open Go
def letB (c:Int):Bool:=decide (c ≥ 97) && decide (c ≤ 122)
def digB (c:Int):Bool:=decide (c ≥ 48) && decide (c ≤ 57)
def innB (c:Int):Bool:=letB c || (digB c || c == 95)
theorem letter_eq (F:Nat) (c:Int):scan_letter.sh F c = some ((letB c,()),()):=by
 unfold scan_letter.sh letB
 cases decide (c ≥ 97) <;> rfl
theorem digit_eq (F:Nat) (c:Int):scan_digit.sh F c = some ((digB c,()),()):=by
 unfold scan_digit.sh digB
 cases decide (c ≥ 48) <;> rfl
theorem inner_eq (F:Nat) (c:Int):scan_inner.sh F c = some ((innB c,()),()):=by
 unfold scan_inner.sh innB
 rw [letter_eq,digit_eq]
 simp only [oB_some]
 cases letB c <;> cases digB c <;> rfl
def cI (c:UInt8):Int:=(c.toNat:Int)
theorem bt_at {s:ByteArray} {n:Nat} {c:UInt8} {r:List UInt8} (h:s.data.toList.drop n = c :: r):bt s (n:Int) = cI c:=by
 have:s.data.toList[n]? = some c:=by
  have:=congrArg (·[0]?) h
  simpa using this
 simp only [bt,Int.toNat_natCast,List.getD_eq_getElem?_getD,this,Option.getD_some,cI]
theorem size_list (s:ByteArray):s.size = s.data.toList.length:=by rw [Array.length_toList]; rfl
theorem run_l2 (F:Nat) {R:Type} (k:Int→Option R) (s:ByteArray) (of:Nat) (p:Int→Bool) (hp:∀ c,scan_run.d15 F of (c,()) = some ((p c,()),())) (hs:s.size < 4611686018427387904) :
  ∀ (xs:List UInt8) (n fu:Nat),s.data.toList.drop n = xs→xs.length < fu→scan_run.l2 F (fun _ _ n _=>k n) fu s of (n:Int) = k ((n + (xs.takeWhile fun c=>p (cI c)).length:Nat):Int):=by
 intro xs
 induction xs with
 | nil =>
  intro n fu h hf
  obtain ⟨fu,rfl⟩:∃ j,fu = j + 1:=⟨fu - 1,by simp at hf; omega⟩
  have hn:s.size ≤ n:=by rw [size_list]; simpa using h
  have e1:decide ((n:Int) < (s.size:Int)) = false:=by simp; exact hn
  simp only [scan_run.l2,scan_run.l2.body,e1,cond_false,List.takeWhile_nil,List.length_nil,Nat.add_zero]
 | cons c xs ih =>
  intro n fu h hf
  obtain ⟨fu,rfl⟩:∃ j,fu = j + 1:=⟨fu - 1,by simp at hf; omega⟩
  have hn:n < s.size:=by rw [size_list]; exact rg_len h
  have e1:decide ((n:Int) < (s.size:Int)) = true:=by simp; exact hn
  have e2:idx (n:Int) s.size = true:=rg_idx hn
  simp only [scan_run.l2,scan_run.l2.body,e1,e2,cond_true,bt_at h,hp,oB_some]
  cases hc:p (cI c) with
  | true =>
   simp only [cond_true]
   rw [wrap_i64 (by omega) (by omega),← rg_cast,ih (n + 1) fu (rg_next h) (by simp at hf; omega)]
   simp only [List.takeWhile_cons,hc,if_true,List.length_cons]
   congr 2
   omega
  | false =>
   simp only [cond_false,List.takeWhile_cons,hc]
   simp
theorem run_eq (F:Nat) {s:ByteArray} {of:Nat} {p:Int→Bool} (hp:∀ c,scan_run.d15 F of (c,()) = some ((p c,()),())) (hs:s.size < 4611686018427387904) (hF:s.size < F) :
  scan_run.sh F s of = some ((((s.data.toList.takeWhile fun c=>p (cI c)).length:Int),()),()):=by
 unfold scan_run.sh
 have:=run_l2 F (fun n=>(some ((n,()),()):Option scan_run.sg.R)) s of p hp hs s.data.toList 0 F (by simp) (by rw [← size_list]; exact hF)
 simpa using this
theorem d15_letter (F:Nat) (c:Int):scan_run.d15 F fn_scan_letter (c,()) = some ((letB c,()),()):=by
 unfold scan_run.d15
 rw [show mkT scan_run.ds15 [(fn_scan_inner,scan_inner.sp F),(fn_scan_letter,scan_letter.sp F)] fn_scan_letter (c,()) = scan_letter.sh F c from rfl,letter_eq]
theorem d15_inner (F:Nat) (c:Int):scan_run.d15 F fn_scan_inner (c,()) = some ((innB c,()),()):=by
 unfold scan_run.d15
 rw [show mkT scan_run.ds15 [(fn_scan_inner,scan_inner.sp F),(fn_scan_letter,scan_letter.sp F)] fn_scan_inner (c,()) = scan_inner.sh F c from rfl,inner_eq]
theorem takeWhile_all {α:Type} {p:α→Bool}:∀ {l:List α},((l.takeWhile p).length = l.length) ↔ l.all p = true
 | []=>by simp
 | a :: l=>by
  simp only [List.takeWhile_cons,List.all_cons]
  cases h:p a with
  | true=>simp only [if_true,List.length_cons,Bool.true_and]; rw [← takeWhile_all (l:=l)]; omega
  | false=>simp
def wordsL:List UInt8:=[32,112,108,97,110,32,114,111,117,110,100,32,98,121,32,98,108,111,99,107,115,32,109,105,110,32,109,97,120,32,111,118,101,114,32,117,112,116,111,32,103,114,97,100,117,97,116,101,100,32,118,111,108,117,109,101,32,111,102,102,32,105,102,32,102,108,111,111,114,32,99,101,105,108,32,122,101,114,111,32,104,97,108,102,32,101,118,101,110,32]
def wordB (l:List UInt8):Bool:=!l.isEmpty && (l.all (fun c=>letB (cI c)) && Lib.contains wordsL ([32] ++ l ++ [32]))
def nameB (l:List UInt8):Bool:=!l.isEmpty && (decide (l.length ≤ 32) && (letB (cI (l.headD 0)) && (l.all (fun c=>innB (cI c)) && !wordB l)))
theorem nonempty (s:ByteArray):(!(s.toList == (⟨#[]⟩:ByteArray).toList)) = !s.data.toList.isEmpty:=by
 rw [ByteArray.toList_eq,ByteArray.toList_eq]
 cases s.data.toList <;> rfl
theorem word_eq (F:Nat) {s:ByteArray} (hs:s.size ≤ 1048576) (hF:s.size < F):scan_Word.sh F s = some ((wordB s.data.toList,()),()):=by
 unfold scan_Word.sh
 rw [nonempty,run_eq F (d15_letter F) (by omega) hF]
 unfold wordB
 cases hE:s.data.toList.isEmpty with
 | true=>rfl
 | false =>
  simp only [Bool.not_false,cond_true,oB_some,Bool.true_and]
  by_cases ha:s.data.toList.all (fun c=>letB (cI c)) = true
  ·have e1:(((s.data.toList.takeWhile fun c=>letB (cI c)).length:Int) == (s.size:Int)) = true:=by
    rw [takeWhile_all.2 ha,← size_list]; simp
   have s1:(⟨#[32]⟩:ByteArray).size = 1:=rfl
   have s2:((⟨#[32]⟩:ByteArray) ++ s).size = 1 + s.size:=by rw [ByteArray.size_append]; rfl
   have e2:Nat.ble ((⟨#[32]⟩:ByteArray).size + s.size) maxN = true:=by rw [s1,Nat.ble_eq]; unfold maxN; omega
   have e3:Nat.ble (((⟨#[32]⟩:ByteArray) ++ s).size + (⟨#[32]⟩:ByteArray).size) maxN = true:=by rw [s1,s2,Nat.ble_eq]; unfold maxN; omega
   rw [e1,e2,e3,ha]
   simp only [cond_true,Bool.true_and]
   have hd:((⟨#[32]⟩:ByteArray) ++ s ++ (⟨#[32]⟩:ByteArray)).data.toList = [32] ++ s.data.toList ++ [32]:=by simp [ByteArray.data_append]
   unfold strings_Contains.sh
   rw [hd]
   rfl
  ·have e1:(((s.data.toList.takeWhile fun c=>letB (cI c)).length:Int) == (s.size:Int)) = false:=by
    rw [beq_eq_false_iff_ne]
    intro h
    apply ha
    rw [← takeWhile_all]
    rw [size_list] at h
    exact_mod_cast h
   rw [e1]
   simp only [cond_false]
   rw [Bool.not_eq_true] at ha
   rw [ha]
   rfl
theorem name_eq (F:Nat) {s:ByteArray} (hF:64 < F):scan_Name.sh F s = some ((nameB s.data.toList,()),()):=by
 unfold scan_Name.sh nameB
 rw [nonempty]
 cases hE:s.data.toList.isEmpty with
 | true=>rfl
 | false =>
  simp only [Bool.not_false,cond_true,Bool.true_and]
  by_cases hl:s.data.toList.length ≤ 32
  ·have e1:decide ((s.size:Int) ≤ 32) = true:=decide_eq_true (by have:=size_list s; omega)
   have hpos:0 < s.size:=by rw [size_list]; cases h:s.data.toList with | nil=>rw [h] at hE; cases hE | cons=>simp
   have e2:idx 0 s.size = true:=rg_idx (i:=0) hpos
   have e3:bt s 0 = cI (s.data.toList.headD 0):=by
    cases h:s.data.toList with
    | nil=>rw [h] at hE; cases hE
    | cons c r=>exact bt_at (n:=0) (r:=r) (by simpa using h)
   have hsz:s.size ≤ 32:=by rw [size_list]; exact hl
   rw [e1,e2,e3,letter_eq,run_eq F (d15_inner F) (by omega) (by omega),word_eq F (by omega) (by omega)]
   simp only [cond_true,oB_some,hl,decide_true,Bool.true_and]
   cases letB (cI (s.data.toList.headD 0)) with
   | false=>rfl
   | true =>
    simp only [cond_true,Bool.true_and]
    by_cases ha:s.data.toList.all (fun c=>innB (cI c)) = true
    ·have e4:(((s.data.toList.takeWhile fun c=>innB (cI c)).length:Int) == (s.size:Int)) = true:=by
      rw [takeWhile_all.2 ha,← size_list]; simp
     rw [e4,ha]
     rfl
    ·have e4:(((s.data.toList.takeWhile fun c=>innB (cI c)).length:Int) == (s.size:Int)) = false:=by
      rw [beq_eq_false_iff_ne]
      intro h
      apply ha
      rw [← takeWhile_all]
      rw [size_list] at h
      exact_mod_cast h
     rw [e4]
     rw [Bool.not_eq_true] at ha
     rw [ha]
     rfl
  ·have e1:decide ((s.size:Int) ≤ 32) = false:=decide_eq_false (by have:=size_list s; omega)
   have e2:decide (s.data.toList.length ≤ 32) = false:=decide_eq_false hl
   rw [e1,e2]
   rfl
end Go.VS
