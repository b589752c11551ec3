import Derived.Test.YtepflleaeogafaaGreatDoorM1
set_option linter.unusedVariables false
set_option linter.unusedSimpArgs false
set_option linter.unusedSectionVars false
set_option linter.unusedVariables false
set_option linter.unusedSimpArgs false
set_option maxRecDepth 100000
namespace Go.VS
open Go
def hor (d c b a:Int):Int:=a + 65536 * b + 4294967296 * c + 281474976710656 * d
theorem hor_bd {a b c d:Int} (h1:0 ≤ a∧a < 65536) (h2:0 ≤ b∧b < 65536) (h3:0 ≤ c∧c < 65536) (h4:0 ≤ d∧d < 65536):0 ≤ hor d c b a∧hor d c b a < 18446744073709551616:=by unfold hor; omega
theorem horner {a b c d:Int} (h1:0 ≤ a∧a < 65536) (h2:0 ≤ b∧b < 65536) (h3:0 ≤ c∧c < 65536) (h4:0 ≤ d∧d < 65536) :
  IntKind.u64.wrap (IntKind.u64.wrap (IntKind.u64.wrap (IntKind.u64.wrap (IntKind.u64.wrap (IntKind.u64.wrap (IntKind.u64.wrap (IntKind.u64.wrap (0 * 65536) + d) * 65536) + c) * 65536) + b) * 65536) + a) = hor d c b a:=by
 unfold hor
 rw [wrap_u64 (n:=0 * 65536) (by omega) (by omega),wrap_u64 (n:=0 * 65536 + d) (by omega) (by omega),wrap_u64 (n:=(0 * 65536 + d) * 65536) (by omega) (by omega),wrap_u64 (n:=(0 * 65536 + d) * 65536 + c) (by omega) (by omega),
  wrap_u64 (n:=((0 * 65536 + d) * 65536 + c) * 65536) (by omega) (by omega),wrap_u64 (n:=((0 * 65536 + d) * 65536 + c) * 65536 + b) (by omega) (by omega),wrap_u64 (n:=(((0 * 65536 + d) * 65536 + c) * 65536 + b) * 65536) (by omega) (by omega),wrap_u64 (by omega) (by omega)]
 omega
theorem wide_raw (f:Nat) (a b c d e f' g i j k m n:Int):octroiref01_Wide.sh (f + 20) [a,b,c,d,e,f',g,i,j,k,m,n] = bif decide (i ≥ 32768) then
  (bif (j != 65535) then some (((0,0),false,()),()) else bif (k != 65535) then some (((0,0),false,()),()) else bif (m != 65535) then some (((0,0),false,()),()) else bif (n != 65535) then some (((0,0),false,()),()) else
   some (((IntKind.i64.wrap (IntKind.u64.wrap (IntKind.u64.wrap (IntKind.u64.wrap (IntKind.u64.wrap (IntKind.u64.wrap (IntKind.u64.wrap (IntKind.u64.wrap (IntKind.u64.wrap (0 * 65536) + i) * 65536) + g) * 65536) + f') * 65536) + e)),IntKind.u64.wrap (IntKind.u64.wrap (IntKind.u64.wrap (IntKind.u64.wrap (IntKind.u64.wrap (IntKind.u64.wrap (IntKind.u64.wrap (IntKind.u64.wrap (0 * 65536) + d) * 65536) + c) * 65536) + b) * 65536) + a)),true,()),()))
 else (bif (j != 0) then some (((0,0),false,()),()) else bif (k != 0) then some (((0,0),false,()),()) else bif (m != 0) then some (((0,0),false,()),()) else bif (n != 0) then some (((0,0),false,()),()) else
   some (((IntKind.i64.wrap (IntKind.u64.wrap (IntKind.u64.wrap (IntKind.u64.wrap (IntKind.u64.wrap (IntKind.u64.wrap (IntKind.u64.wrap (IntKind.u64.wrap (IntKind.u64.wrap (0 * 65536) + i) * 65536) + g) * 65536) + f') * 65536) + e)),IntKind.u64.wrap (IntKind.u64.wrap (IntKind.u64.wrap (IntKind.u64.wrap (IntKind.u64.wrap (IntKind.u64.wrap (IntKind.u64.wrap (IntKind.u64.wrap (0 * 65536) + d) * 65536) + c) * 65536) + b) * 65536) + a)),true,()),())):=by kernel_rfl
theorem told_no (F:Nat) {l:List Int} (hl:l.length = 12) {v:Int} (hv:inR v = false) (h:octroiref01_Wide.sh F l = some (((0,0),false,()),())):octroiref01_told.sh F l = some ((resW v,errW v,()),()):=by
 unfold octroiref01_told.sh resW errW
 rw [hl,h,hv]
 rfl
theorem told_yes (F:Nat) {l:List Int} (hl:l.length = 12) {v:Int} (hv:inR v = true) (h:octroiref01_Wide.sh F l = some ((mk v,true,()),())):octroiref01_told.sh F l = some ((resW v,errW v,()),()):=by
 unfold octroiref01_told.sh resW errW
 rw [hl,h,hv]
 rfl
theorem pair2' {a b:Int} {w:Int×Int} (h1:a = w.1) (h2:b = w.2):(some (((a,b),true,()),()):Option ((((Int×Int))×Bool×Unit)×Unit)) = some ((w,true,()),()):=by
 rw [h1,h2]
theorem told_eq (F:Nat) (hF:20 < F) {l:List Int} {v:Int} (h:Rep l v) (h1:-3138550867693340381917894711603833208051177722232017256448 ≤ v) (h2:v < 3138550867693340381917894711603833208051177722232017256448):octroiref01_told.sh F l = some ((resW v,errW v,()),()):=by
 obtain ⟨fu,rfl⟩:∃ f,F = f + 20:=⟨F - 20,by omega⟩
 have hl:=h.1
 obtain ⟨a,b,c,d,e,f,g,i,j,k,m,n,q,rfl,b1,b2,b3,b4,b5,b6,b7,b8,b9,b10,b11,b12,hs⟩:=h.open
 have hw:=wide_raw fu a b c d e f g i j k m n
 rw [horner b1 b2 b3 b4,horner b5 b6 b7 b8] at hw
 have hb1:=hor_bd b1 b2 b3 b4
 have hb2:=hor_bd b5 b6 b7 b8
 have hs2:hor d c b a + 18446744073709551616 * hor i g f e + 340282366920938463463374607431768211456 * (hor n m k j) = v + 6277101735386680763835789423207666416102355444464034512896 * q:=by unfold hor; omega
 have hi8:decide (i ≥ 32768) = decide (hor i g f e ≥ 9223372036854775808):=by
  by_cases hi:i ≥ 32768
  ·rw [decide_eq_true hi,decide_eq_true (by unfold hor; omega)]
  ·rw [decide_eq_false hi,decide_eq_false (by unfold hor; omega)]
 have htop:=hor_bd b9 b10 b11 b12
 by_cases hi:i ≥ 32768
 ·rw [decide_eq_true hi] at hw hi8
  have hi9:=of_decide_eq_true hi8.symm
  simp only [cond_true] at hw
  by_cases ht:j = 65535∧k = 65535∧m = 65535∧n = 65535
  ·obtain ⟨rfl,rfl,rfl,rfl⟩:=ht
   simp only [bne_self_eq_false,cond_false] at hw
   have htt:hor 65535 65535 65535 65535 = 18446744073709551615:=by decide
   rw [htt] at hs2
   have hv:inR v = true:=by rw [inR_iff]; omega
   refine told_yes _ hl hv (hw.trans ?_)
   have e1:IntKind.i64.wrap (hor i g f e) = hor i g f e - 18446744073709551616:=by rw [wrap_i64_mod]; split <;> omega
   rw [e1]
   exact pair2' (by simp only [mk]; omega) (by simp only [mk]; omega)
  ·have hv:inR v = false:=by
    have:hor n m k j < 18446744073709551615:=by unfold hor; omega
    rw [inR_no]; omega
   refine told_no _ hl hv (hw.trans ?_)
   by_cases h1:j = 65535
   ·by_cases h2:k = 65535
    ·by_cases h3:m = 65535
     ·have h4:n ≠ 65535:=fun h4=>ht ⟨h1,h2,h3,h4⟩
      rw [show (n != 65535) = true by simpa using h4]
      cases (j != 65535) <;> cases (k != 65535) <;> cases (m != 65535) <;> rfl
     ·rw [show (m != 65535) = true by simpa using h3]
      cases (j != 65535) <;> cases (k != 65535) <;> rfl
    ·rw [show (k != 65535) = true by simpa using h2]
     cases (j != 65535) <;> rfl
   ·rw [show (j != 65535) = true by simpa using h1]
    rfl
 ·rw [decide_eq_false hi] at hw hi8
  have hi9:=of_decide_eq_false hi8.symm
  simp only [cond_false] at hw
  by_cases ht:j = 0∧k = 0∧m = 0∧n = 0
  ·obtain ⟨rfl,rfl,rfl,rfl⟩:=ht
   simp only [bne_self_eq_false,cond_false] at hw
   have htt:hor 0 0 0 0 = 0:=by decide
   rw [htt] at hs2
   have hv:inR v = true:=by rw [inR_iff]; omega
   refine told_yes _ hl hv (hw.trans ?_)
   have e1:IntKind.i64.wrap (hor i g f e) = hor i g f e:=by rw [wrap_i64_mod]; split <;> omega
   rw [e1]
   exact pair2' (by simp only [mk]; omega) (by simp only [mk]; omega)
  ·have hv:inR v = false:=by
    have:0 < hor n m k j:=by unfold hor; omega
    rw [inR_no]; omega
   refine told_no _ hl hv (hw.trans ?_)
   by_cases h1:j = 0
   ·by_cases h2:k = 0
    ·by_cases h3:m = 0
     ·have h4:n ≠ 0:=fun h4=>ht ⟨h1,h2,h3,h4⟩
      rw [show (n != 0) = true by simpa using h4]
      cases (j != 0) <;> cases (k != 0) <;> cases (m != 0) <;> rfl
     ·rw [show (m != 0) = true by simpa using h3]
      cases (j != 0) <;> cases (k != 0) <;> rfl
    ·rw [show (k != 0) = true by simpa using h2]
     cases (j != 0) <;> rfl
   ·rw [show (j != 0) = true by simpa using h1]
    rfl
theorem val_bd {w:Int×Int} (h:wfW w):-170141183460469231731687303715884105728 ≤ val w∧val w < 170141183460469231731687303715884105728:=by
 have:=inR_iff.1 (inR_val h); exact this
theorem radd_eq (F:Nat) (hF:20 < F) {a b:Int×Int} (ha:wfW a) (hb:wfW b):octroiref01_Add.sh F a b = some ((resW (val a + val b),errW (val a + val b),()),()):=by
 obtain ⟨la,da,ra⟩:=digs_eq F hF ha
 obtain ⟨lb,db,rb⟩:=digs_eq F hF hb
 obtain ⟨l,dl,rl⟩:=plus_eq F hF ra rb
 have h1:=val_bd ha
 have h2:=val_bd hb
 unfold octroiref01_Add.sh
 rw [da,db]
 simp only [oB_some]
 rw [dl]
 simp only [oB_some]
 rw [told_eq F hF rl (by omega) (by omega)]
 rfl
theorem abs_raw (f:Nat) (k0:Int→Int→Option octroiref01_Abs.sg.R) (a b c d e f' g i j k m n:Int):octroiref01_Abs.j4 (f + 20) k0 [a,b,c,d,e,f',g,i,j,k,m,n] =
  k0 (IntKind.u64.wrap (IntKind.u64.wrap (IntKind.u64.wrap (IntKind.u64.wrap (IntKind.u64.wrap (IntKind.u64.wrap (IntKind.u64.wrap (IntKind.u64.wrap (0 * 65536) + i) * 65536) + g) * 65536) + f') * 65536) + e)) (IntKind.u64.wrap (IntKind.u64.wrap (IntKind.u64.wrap (IntKind.u64.wrap (IntKind.u64.wrap (IntKind.u64.wrap (IntKind.u64.wrap (IntKind.u64.wrap (0 * 65536) + d) * 65536) + c) * 65536) + b) * 65536) + a)):=by kernel_rfl
theorem abs_j4 (F:Nat) (hF:20 < F) {l:List Int} {v:Int} (h:Rep l v) (h1:0 ≤ v) (h2:v < 340282366920938463463374607431768211456) (k0:Int→Int→Option octroiref01_Abs.sg.R) :
  octroiref01_Abs.j4 F k0 l = k0 (v / 18446744073709551616) (v % 18446744073709551616):=by
 obtain ⟨fu,rfl⟩:∃ f,F = f + 20:=⟨F - 20,by omega⟩
 obtain ⟨a,b,c,d,e,f,g,i,j,k,m,n,q,rfl,b1,b2,b3,b4,b5,b6,b7,b8,b9,b10,b11,b12,hs⟩:=h.open
 rw [abs_raw,horner b1 b2 b3 b4,horner b5 b6 b7 b8]
 have hb1:=hor_bd b1 b2 b3 b4
 have hb2:=hor_bd b5 b6 b7 b8
 have hs2:hor d c b a + 18446744073709551616 * hor i g f e + 340282366920938463463374607431768211456 * (hor n m k j) = v + 6277101735386680763835789423207666416102355444464034512896 * q:=by unfold hor; omega
 have htop:=hor_bd b9 b10 b11 b12
 have hq:hor n m k j = 0∧q = 0:=by omega
 rw [hq.1,hq.2] at hs2
 congr 1 <;> omega
theorem rabs_eq (F:Nat) (hF:20 < F) {a:Int×Int} (ha:wfW a):octroiref01_Abs.sh F a = some ((((val a).natAbs:Int) / 18446744073709551616,((val a).natAbs:Int) % 18446744073709551616,()),()):=by
 obtain ⟨la,da,ra⟩:=digs_eq F hF ha
 obtain ⟨lt,dt,rt⟩:=turned_eq F hF ra
 have h1:=val_bd ha
 unfold octroiref01_Abs.sh
 rw [da]
 simp only [oB_some]
 rw [below_eq F ra (by omega) (by omega),dt,ra.1]
 simp only [oB_some]
 rw [rt.1]
 by_cases hn:val a < 0
 ·rw [decide_eq_true hn,show ((val a).natAbs:Int) = - val a by omega]
  exact abs_j4 F hF rt (by omega) (by omega) (fun r25 r35=>some ((r25,r35,()),()))
 ·rw [decide_eq_false hn,show ((val a).natAbs:Int) = val a by omega]
  exact abs_j4 F hF ra (by omega) (by omega) (fun r25 r35=>some ((r25,r35,()),()))
theorem join_raw (f:Nat) {R:Type} (k0:Bool→tWide.T→List Int→Option R) (below:Bool) (a b:Int):octroiref01_Join.l3 (f + 20) (fun bl _ _ _ _ r l=>k0 bl r l) (f + 20) below a b 0 (0,0) (List.replicate 12 0) =
  k0 below (0,0) [(b.fdiv 1).tmod 65536,(b.fdiv 65536).tmod 65536,(b.fdiv 4294967296).tmod 65536,(b.fdiv 281474976710656).tmod 65536,(a.fdiv 1).tmod 65536,(a.fdiv 65536).tmod 65536,(a.fdiv 4294967296).tmod 65536,(a.fdiv 281474976710656).tmod 65536,0,0,0,0]:=by kernel_rfl
theorem rjoin_eq (F:Nat) (hF:20 < F) {b:Bool} {hi lo:Int} (h1:0 ≤ hi) (h2:hi < 18446744073709551616) (h3:0 ≤ lo) (h4:lo < 18446744073709551616) {v:Int} (hv:v = bif b then -(hi * 18446744073709551616 + lo) else hi * 18446744073709551616 + lo) :
  octroiref01_Join.sh F b hi lo = some ((resW v,errW v,()),()):=by
 obtain ⟨fu,rfl⟩:∃ f,F = f + 20:=⟨F - 20,by omega⟩
 have hu:=four h3 h4
 have hw:=four h1 h2
 have e:=join_raw fu (fun bl r l=>bif bl then bif Nat.beq 12 l.length then oB (octroiref01_Turned.sh (fu + 20) l) fun c_2 =>
   bif (Nat.beq c_2.1.1.length l.length && Nat.beq 12 l.length) then bif Nat.beq 12 c_2.1.1.length then oB (octroiref01_told.sh (fu + 20) c_2.1.1) fun c_3 =>
     (some ((c_3.1.1,c_3.1.2.1,()),()):Option octroiref01_Join.sg.R)
    else none
   else none
  else none
 else bif Nat.beq 12 l.length then oB (octroiref01_told.sh (fu + 20) l) fun c_4 =>
  some ((c_4.1.1,c_4.1.2.1,()),())
 else none) b hi lo
 rw [hu.1,hu.2.1,hu.2.2.1,hu.2.2.2,hw.1,hw.2.1,hw.2.2.1,hw.2.2.2] at e
 have hr:Rep [lo % 65536,lo / 65536 % 65536,lo / 4294967296 % 65536,lo / 281474976710656 % 65536,hi % 65536,hi / 65536 % 65536,hi / 4294967296 % 65536,hi / 281474976710656 % 65536,0,0,0,0] (hi * 18446744073709551616 + lo) :=
  Rep.of12 (q:=0) (by omega) (by omega) (by omega) (by omega) (by omega) (by omega) (by omega) (by omega) (by omega) (by omega) (by omega) (by omega) (by simp only [lv]; omega)
 generalize ([lo % 65536,lo / 65536 % 65536,lo / 4294967296 % 65536,lo / 281474976710656 % 65536,hi % 65536,hi / 65536 % 65536,hi / 4294967296 % 65536,hi / 281474976710656 % 65536,0,0,0,0]:List Int) = l at *
 obtain ⟨lt,dt,rt⟩:=turned_eq (fu + 20) hF hr
 unfold octroiref01_Join.sh
 refine Eq.trans e ?_
 simp only [dt,hr.1,rt.1,oB_some]
 cases b with
 | true =>
  simp only [cond_true] at hv ⊢
  rw [hv,told_eq _ hF rt (by omega) (by omega)]
  rfl
 | false =>
  simp only [cond_false] at hv ⊢
  rw [hv,told_eq _ hF hr (by omega) (by omega)]
  rfl
theorem rof_eq (F:Nat) {v:Int} (h1:-9223372036854775808 ≤ v) (h2:v < 9223372036854775808):octroiref01_Of.sh F v = some ((mk v,()),()):=by
 unfold octroiref01_Of.sh
 rw [wrap_u64_mod]
 by_cases h:v < 0
 ·rw [decide_eq_true h,show mk v = (-1,v % 18446744073709551616) by simp only [mk]; exact pair2 (by omega) rfl]; rfl
 ·rw [decide_eq_false h,show mk v = (0,v % 18446744073709551616) by simp only [mk]; exact pair2 (by omega) rfl]; rfl
end Go.VS
