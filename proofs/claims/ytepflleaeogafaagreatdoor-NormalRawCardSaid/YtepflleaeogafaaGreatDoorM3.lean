import Derived.Test.YtepflleaeogafaaGreatDoorM2
set_option linter.unusedVariables false
set_option linter.unusedSimpArgs false
set_option linter.unusedSectionVars false
set_option linter.unusedVariables false
set_option linter.unusedSimpArgs false
set_option maxRecDepth 100000
namespace Go.VS
open Go
theorem lv_app:∀ (a b:List Int),lv (a ++ b) = lv a + 65536 ^ a.length * lv b
 | [],b=>by simp [lv]
 | x :: r,b=>by
  simp only [List.cons_append,lv,lv_app r b,List.length_cons,Int.pow_succ]
  rw [Int.mul_comm (65536 ^ r.length) 65536,Int.mul_assoc,Int.mul_add]
  omega
theorem digits8_raw (f:Nat) (a b:Int):octroiref02_digits.sh (f + 20) a b =
  some (([(b.fdiv 1).tmod 65536,(b.fdiv 65536).tmod 65536,(b.fdiv 4294967296).tmod 65536,(b.fdiv 281474976710656).tmod 65536,(a.fdiv 1).tmod 65536,(a.fdiv 65536).tmod 65536,(a.fdiv 4294967296).tmod 65536,(a.fdiv 281474976710656).tmod 65536],()),()):=by kernel_rfl
theorem digits8_eq (F:Nat) (hF:20 < F) {hi lo:Int} (h1:0 ≤ hi) (h2:hi < 18446744073709551616) (h3:0 ≤ lo) (h4:lo < 18446744073709551616):∃ l,octroiref02_digits.sh F hi lo = some ((l,()),())∧l.length = 8∧DG l∧lv l = hi * 18446744073709551616 + lo:=by
 obtain ⟨fu,rfl⟩:∃ f,F = f + 20:=⟨F - 20,by omega⟩
 have hu:=four h3 h4
 have hw:=four h1 h2
 rw [digits8_raw,hu.1,hu.2.1,hu.2.2.1,hu.2.2.2,hw.1,hw.2.1,hw.2.2.1,hw.2.2.2]
 exact ⟨_,rfl,rfl,DG.mk (by omega) (DG.mk (by omega) (DG.mk (by omega) (DG.mk (by omega) (DG.mk (by omega) (DG.mk (by omega) (DG.mk (by omega) (DG.mk (by omega) DG.nil))))))),by simp only [lv]; omega⟩
def mrow (x:Int):Int→List Int→List Int→List Int×Int
 | c,p :: ps,y :: ys=>(((c + p + x * y) % 65536) :: (mrow x ((c + p + x * y) / 65536) ps ys).1,(mrow x ((c + p + x * y) / 65536) ps ys).2)
 | c,_,_=>([],c)
theorem dig_mul {x y:Int} (hx:0 ≤ x∧x < 65536) (hy:0 ≤ y∧y < 65536):0 ≤ x * y∧x * y ≤ 4294836225:=by
 have:=mul_bd hx.1 (show x ≤ 65535 by omega) hy.1 (show y ≤ 65535 by omega)
 omega
theorem mrow_ok {x:Int} (hx:0 ≤ x∧x < 65536):∀ (ps ys:List Int) (c:Int),ps.length = ys.length→DG ps→DG ys→0 ≤ c→c < 65536 →
  (mrow x c ps ys).1.length = ps.length∧DG (mrow x c ps ys).1∧0 ≤ (mrow x c ps ys).2∧(mrow x c ps ys).2 < 65536∧lv (mrow x c ps ys).1 + 65536 ^ ps.length * (mrow x c ps ys).2 = c + lv ps + x * lv ys
 | [],[],c,h,_,_,h1,h2=>⟨rfl,DG.nil,h1,h2,by simp [mrow,lv]⟩
 | [],_ :: _,_,h,_,_,_,_=>by simp at h
 | _ :: _,[],_,h,_,_,_,_=>by simp at h
 | p :: ps,y :: ys,c,h,hp,hy,h1,h2=>by
  have ⟨hp0,hp⟩:=hp.cons
  have ⟨hy0,hy⟩:=hy.cons
  have hm:=dig_mul hx hy0
  obtain ⟨i1,i2,i3,i4,i5⟩:=mrow_ok hx ps ys ((c + p + x * y) / 65536) (by simpa using h) hp hy (by omega) (by omega)
  simp only [mrow,List.length_cons,lv,Int.pow_succ]
  refine ⟨by omega,DG.mk (by omega) i2,i3,i4,?_⟩
  have e1:(65536:Int) ^ ps.length * 65536 * (mrow x ((c + p + x * y) / 65536) ps ys).2 = 65536 * (65536 ^ ps.length * (mrow x ((c + p + x * y) / 65536) ps ys).2):=by
   rw [Int.mul_comm (65536 ^ ps.length) 65536,Int.mul_assoc]
  have e2:x * (y + 65536 * lv ys) = x * y + 65536 * (x * lv ys):=by rw [Int.mul_add,← Int.mul_assoc,Int.mul_comm x 65536,Int.mul_assoc]
  rw [e1,e2]
  generalize (65536:Int) ^ ps.length * (mrow x ((c + p + x * y) / 65536) ps ys).2 = A at *
  generalize x * lv ys = B at *
  generalize x * y = C at *
  omega
theorem mul_l9 (F:Nat) {R:Type} (k:Int→Int→tWide.T→tWide.T→tWide.T→List Int→List Int→List Int→Option R) (a b r4:tWide.T) (X Y:List Int) (i:Nat) (x:Int) (hX:X.length = 8) (hi:i < 8) (hxi:X.getD i 0 = x) (hx:0 ≤ x∧x < 65536) (hY:Y.length = 8) :
  ∀ (ys ps pre rest:List Int) (c:Int) (j fu:Nat),pre.length = i + j→j + ys.length = 8→ps.length = ys.length→(pre ++ ps ++ rest).length = 17→Y.drop j = ys→DG ps→DG ys→0 ≤ c→c < 65536→ys.length < fu →
  octroiref02_Mul.l9 F (fun i c _ _ a b r x y p=>k i c a b r x y p) fu (i:Int) c (j:Int) a b r4 X Y (pre ++ ps ++ rest) = k (i:Int) (mrow x c ps ys).2 a b r4 X Y (pre ++ (mrow x c ps ys).1 ++ rest):=by
 intro ys
 induction ys with
 | nil =>
  intro ps pre rest c j fu hp hj hps hl hd _ _ _ _ hf
  obtain ⟨fu,rfl⟩:∃ j,fu = j + 1:=⟨fu - 1,by simp at hf; omega⟩
  simp only [List.length_nil,Nat.add_zero] at hj hps
  obtain rfl:=List.eq_nil_of_length_eq_zero hps
  simp only [octroiref02_Mul.l9,octroiref02_Mul.l9.body,decide_eq_false (show ¬ ((j:Int) < 8) by omega),cond_false,mrow]
 | cons y ys ih =>
  intro ps pre rest c j fu hp hj hps hl hd hdp hdy c1 c2 hf
  obtain ⟨fu,rfl⟩:∃ j,fu = j + 1:=⟨fu - 1,by simp at hf; omega⟩
  simp only [List.length_cons] at hj hps hf
  cases ps with
  | nil=>simp at hps
  | cons p ps =>
   simp only [List.length_cons] at hps
   have ⟨hp0,hdp⟩:=hdp.cons
   have ⟨hy0,hdy⟩:=hdy.cons
   have hm:=dig_mul hx hy0
   have hL:pre ++ p :: ps ++ rest = pre ++ p :: (ps ++ rest):=by simp
   rw [hL] at hl ⊢
   have ew:IntKind.i64.wrap ((i:Int) + (j:Int)) = ((i + j:Nat):Int):=by rw [wrap_i64 (by omega) (by omega)]; omega
   have e1:=idx_beq (show i + j < 17 by simp at hl; omega) hl
   have e2:=idx_beq (show i < 8 by omega) hX
   have e3:=idx_beq (show j < 8 by omega) hY
   have e4:(pre ++ p :: (ps ++ rest)).getD (Int.toNat ((i + j:Nat):Int)) 0 = p:=getD_mid (by rw [Int.toNat_natCast]; exact hp)
   have e5:X.getD (Int.toNat (i:Int)) 0 = x:=by rw [Int.toNat_natCast]; exact hxi
   have e6:Y.getD (Int.toNat (j:Int)) 0 = y:=by rw [Int.toNat_natCast]; exact getD_drop hd
   have e7:∀ z,(pre ++ p :: (ps ++ rest)).set (Int.toNat ((i + j:Nat):Int)) z = (pre ++ [z]) ++ (ps ++ rest):=fun z=>set_mid (by rw [Int.toNat_natCast]; exact hp)
   simp only [octroiref02_Mul.l9,octroiref02_Mul.l9.body,decide_eq_true (show ((j:Int) < 8) by omega),cond_true,ew,e1,e2,e3,e4,e5,e6,e7]
   rw [wrap_u64 (n:=c + p) (by omega) (by omega),wrap_u64 (n:=x * y) (by omega) (by omega),wrap_u64 (n:=c + p + x * y) (by omega) (by omega),Int.tdiv_eq_ediv_of_nonneg (by omega),Int.tmod_eq_emod_of_nonneg (by omega),wrap_u64 (n:=(c + p + x * y) / 65536) (by omega) (by omega),wrap_i64 (by omega) (by omega),← rg_cast,← List.append_assoc]
   rw [ih ps (pre ++ [(c + p + x * y) % 65536]) rest ((c + p + x * y) / 65536) (j + 1) fu (by simp; omega) (by omega) (by omega) (by simp at hl ⊢; omega) (rg_next hd) hdp hdy (by omega) (by omega) (by omega)]
   simp [mrow]
theorem mul_l5 (F:Nat) (hF:20 < F) {R:Type} (k:tWide.T→tWide.T→tWide.T→List Int→Option R) (a b r4:tWide.T) (X Y:List Int) (hX:X.length = 8) (hY:Y.length = 8) (dY:DG Y) :
  ∀ (xs q pre:List Int) (i fu:Nat),pre.length = i→i + xs.length = 8→q.length = 8→X.drop i = xs→DG xs→DG q→DG pre→xs.length < fu →
  ∃ s,octroiref02_Mul.l5 F (fun _ _ a b r _ _ p=>k a b r p) fu (i:Int) a b r4 X Y (pre ++ q ++ List.replicate (xs.length + 1) 0) = k a b r4 (pre ++ s)∧DG s∧(pre ++ s).length = 17∧lv s = lv q + lv xs * lv Y:=by
 intro xs
 induction xs with
 | nil =>
  intro q pre i fu hp hi hq hd _ hdq hdp hf
  obtain ⟨fu,rfl⟩:∃ j,fu = j + 1:=⟨fu - 1,by simp at hf; omega⟩
  simp only [List.length_nil,Nat.add_zero] at hi
  refine ⟨q ++ [0],?_,?_,by simp; omega,?_⟩
  ·simp only [octroiref02_Mul.l5,octroiref02_Mul.l5.body,decide_eq_false (show ¬ ((i:Int) < 8) by omega),cond_false]
   simp
  ·intro d hd'
   rcases List.mem_append.1 hd' with h | h
   ·exact hdq d h
   ·rw [List.mem_singleton.1 h]; decide
  ·rw [lv_app]; simp [lv]
 | cons x xs ih =>
  intro q pre i fu hp hi hq hd hdx hdq hdp hf
  obtain ⟨fu,rfl⟩:∃ j,fu = j + 1:=⟨fu - 1,by simp at hf; omega⟩
  simp only [List.length_cons] at hi hf
  have ⟨hx0,hdx⟩:=hdx.cons
  have hl:(pre ++ q ++ List.replicate (xs.length + 1 + 1) 0).length = 17:=by simp; omega
  have h9:=mul_l9 F (fun i5 c5 a5 b5 r45 x5 y5 p5=>bif (idx (IntKind.i64.wrap (i5 + 8)) 17 && Nat.beq 17 p5.length) then octroiref02_Mul.l5 F (fun _ _ a b r _ _ p=>k a b r p) fu (IntKind.i64.wrap (i5 + 1)) a5 b5 r45 x5 y5 (p5.set ((IntKind.i64.wrap (i5 + 8)).toNat) c5)
   else none) a b r4 X Y i x hX (by omega) (getD_drop hd) hx0 hY Y q pre (List.replicate (xs.length + 1 + 1) 0) 0 0 F (by omega) (by omega) (by omega) hl (by simp) hdq dY (by omega) (by omega) (by omega)
  obtain ⟨m1,m2,m3,m4,m5⟩:=mrow_ok hx0 q Y 0 (by omega) hdq dY (by omega) (by omega)
  rw [hq] at m1 m5
  have ew:IntKind.i64.wrap ((i:Int) + 8) = ((i + 8:Nat):Int):=by rw [wrap_i64 (by omega) (by omega)]; omega
  have hl2:(pre ++ (mrow x 0 q Y).1 ++ List.replicate (xs.length + 1 + 1) 0).length = 17:=by simp; omega
  have e1:=idx_beq (show i + 8 < 17 by omega) hl2
  have e2:(pre ++ (mrow x 0 q Y).1 ++ List.replicate (xs.length + 1 + 1) 0).set (Int.toNat ((i + 8:Nat):Int)) (mrow x 0 q Y).2 = (pre ++ (mrow x 0 q Y).1 ++ [(mrow x 0 q Y).2]) ++ List.replicate (xs.length + 1) 0:=by
   rw [List.replicate_succ]
   exact set_mid (by rw [Int.toNat_natCast]; simp; omega)
  simp only [octroiref02_Mul.l5,octroiref02_Mul.l5.body,decide_eq_true (show ((i:Int) < 8) by omega),cond_true,List.length_cons]
  rw [show ((0:Nat):Int) = 0 from rfl] at h9
  rw [h9]
  simp only [ew,e1,e2,cond_true]
  rw [wrap_i64 (by omega) (by omega),← rg_cast]
  cases hm:(mrow x 0 q Y).1 with
  | nil=>rw [hm] at m1; simp at m1
  | cons q0 q' =>
   rw [hm] at m1 m2 m5
   have ⟨hq0,dq'⟩:=m2.cons
   simp only [List.length_cons] at m1
   obtain ⟨s,s1,s2,s3,s4⟩:=ih (q' ++ [(mrow x 0 q Y).2]) (pre ++ [q0]) (i + 1) fu (by simp; omega) (by omega) (by simp; omega) (rg_next hd) hdx (by
    intro d hd'
    rcases List.mem_append.1 hd' with h | h
    ·exact dq' d h
    ·rw [List.mem_singleton.1 h]; exact ⟨m3,m4⟩) (by
    intro d hd'
    rcases List.mem_append.1 hd' with h | h
    ·exact hdp d h
    ·rw [List.mem_singleton.1 h]; exact hq0) (by omega)
   refine ⟨q0 :: s,?_,DG.mk hq0 s2,by simp at s3 ⊢; omega,?_⟩
   ·have:pre ++ q0 :: q' ++ [(mrow x 0 q Y).2] ++ List.replicate (xs.length + 1) 0 = pre ++ [q0] ++ (q' ++ [(mrow x 0 q Y).2]) ++ List.replicate (xs.length + 1) 0:=by simp
    rw [this,s1]
    simp
   ·rw [lv_app] at s4
    simp only [lv] at m5 s4 ⊢
    rw [s4,Int.add_mul,Int.mul_assoc]
    have hq':q'.length = 7:=by omega
    rw [hq'] at *
    have p7:(65536:Int) ^ 7 = 5192296858534827628530496329220096:=by decide
    have p8:(65536:Int) ^ 8 = 340282366920938463463374607431768211456:=by decide
    rw [p7]
    rw [p8] at m5
    generalize lv xs * lv Y = A at *
    generalize x * lv Y = B at *
    omega
theorem len17 {l:List Int} (h:l.length = 17):∃ a b c d e f g i j k m n o p q r s,l = [a,b,c,d,e,f,g,i,j,k,m,n,o,p,q,r,s]:=by
 match l,h with
 | [a,b,c,d,e,f,g,i,j,k,m,n,o,p,q,r,s],_=>exact ⟨a,b,c,d,e,f,g,i,j,k,m,n,o,p,q,r,s,rfl⟩
theorem l16_raw (f:Nat) {R:Type} (k0:Int→tWide.T→Option R) (k1:tWide.T→tWide.T→tWide.T→List Int→Option R) (A B C:tWide.T) (a b c d e f' g i j k m n o p q r s:Int):octroiref02_Mul.l16 (f + 20) k0 (fun _ _ a b r p=>k1 a b r p) (f + 20) 8 A B C [a,b,c,d,e,f',g,i,j,k,m,n,o,p,q,r,s] =
  bif (j != 0) then k0 10 (0,0) else bif (k != 0) then k0 10 (0,0) else bif (m != 0) then k0 10 (0,0) else bif (n != 0) then k0 10 (0,0) else bif (o != 0) then k0 10 (0,0) else bif (p != 0) then k0 10 (0,0) else bif (q != 0) then k0 10 (0,0) else bif (r != 0) then k0 10 (0,0) else bif (s != 0) then k0 10 (0,0) else
   k1 A B C [a,b,c,d,e,f',g,i,j,k,m,n,o,p,q,r,s]:=by kernel_rfl
theorem l23_raw (f:Nat) {R:Type} (k1:Int→Int→tWide.T→tWide.T→tWide.T→Option R) (A B C:tWide.T) (a b c d e f' g i j k m n o p q r s:Int):octroiref02_Mul.l23 (f + 20) (fun hi lo _ _ a b r _=>k1 hi lo a b r) (f + 20) 0 0 3 A B C [a,b,c,d,e,f',g,i,j,k,m,n,o,p,q,r,s] =
  k1 (IntKind.u64.wrap (IntKind.u64.wrap (IntKind.u64.wrap (IntKind.u64.wrap (IntKind.u64.wrap (IntKind.u64.wrap (IntKind.u64.wrap (IntKind.u64.wrap (0 * 65536) + i) * 65536) + g) * 65536) + f') * 65536) + e)) (IntKind.u64.wrap (IntKind.u64.wrap (IntKind.u64.wrap (IntKind.u64.wrap (IntKind.u64.wrap (IntKind.u64.wrap (IntKind.u64.wrap (IntKind.u64.wrap (0 * 65536) + d) * 65536) + c) * 65536) + b) * 65536) + a)) A B C:=by kernel_rfl
theorem rmul_eq (F:Nat) (hF:20 < F) {a b:Int×Int} (ha:wfW a) (hb:wfW b):octroiref02_Mul.sh F a b = some ((resW (val a * val b),errW (val a * val b),()),()):=by
 have pa:=abs_bd ha
 have pb:=abs_bd hb
 obtain ⟨X,eX,lX,dX,vX⟩:=digits8_eq F hF (hi:=((val a).natAbs:Int) / 18446744073709551616) (lo:=((val a).natAbs:Int) % 18446744073709551616) (by omega) (by omega) (by omega) (by omega)
 obtain ⟨Y,eY,lY,dY,vY⟩:=digits8_eq F hF (hi:=((val b).natAbs:Int) / 18446744073709551616) (lo:=((val b).natAbs:Int) % 18446744073709551616) (by omega) (by omega) (by omega) (by omega)
 rw [show ((val a).natAbs:Int) / 18446744073709551616 * 18446744073709551616 + ((val a).natAbs:Int) % 18446744073709551616 = ((val a).natAbs:Int) by omega] at vX
 rw [show ((val b).natAbs:Int) / 18446744073709551616 * 18446744073709551616 + ((val b).natAbs:Int) % 18446744073709551616 = ((val b).natAbs:Int) by omega] at vY
 unfold octroiref02_Mul.sh
 rw [rabs_eq F hF ha]
 simp only [oB_some]
 rw [eX]
 simp only [oB_some]
 rw [rabs_eq F hF hb]
 simp only [oB_some]
 rw [eY]
 simp only [oB_some]
 rw [lX,lY]
 simp only [List.length_replicate,Nat.beq_refl,Bool.and_true,cond_true]
 obtain ⟨s,s1,s2,s3,s4⟩:=mul_l5 F hF (fun a6 b6 r46 p6=>octroiref02_Mul.l16 F (fun r57 r47=>(some ((r47,r57,()),()):Option octroiref02_Mul.sg.R)) (fun i8 t628 a8 b8 r48 p8=>octroiref02_Mul.l23 F (fun hi9 lo9 i9 t719 a9 b9 r49 p9=>oB (octroiref01_Join.sh F (!(decide (a9.1 < 0) == decide (b9.1 < 0))) hi9 lo9) fun c_10 =>
   some ((c_10.1.1,c_10.1.2.1,()),())) F 0 0 3 a8 b8 r48 p8) F 8 a6 b6 r46 p6) a b (0,0) X Y lX lY dY X (List.replicate 8 0) [] 0 F rfl (by omega) rfl (by simp) dX (by intro d hd; simp [List.replicate] at hd; omega) DG.nil (by omega)
 rw [lX] at s1
 rw [show ([]:List Int) ++ List.replicate 8 0 ++ List.replicate (8 + 1) 0 = List.replicate 17 0 from rfl,show ((0:Nat):Int) = 0 from rfl,List.nil_append] at s1
 rw [s1]
 rw [List.nil_append] at s3
 have hz:lv (List.replicate 8 0) = 0:=by decide
 rw [hz,vX,vY,Int.zero_add] at s4
 obtain ⟨fu,rfl⟩:∃ f,F = f + 20:=⟨F - 20,by omega⟩
 obtain ⟨A,B,C,D,E,G,H,I,J,K,M,N,O,P,Q,R',S,rfl⟩:=len17 s3
 have b1:=s2 A (by simp)
 have b2:=s2 B (by simp)
 have b3:=s2 C (by simp)
 have b4:=s2 D (by simp)
 have b5:=s2 E (by simp)
 have b6:=s2 G (by simp)
 have b7:=s2 H (by simp)
 have b8:=s2 I (by simp)
 have b9:=s2 J (by simp)
 have b10:=s2 K (by simp)
 have b11:=s2 M (by simp)
 have b12:=s2 N (by simp)
 have b13:=s2 O (by simp)
 have b14:=s2 P (by simp)
 have b15:=s2 Q (by simp)
 have b16:=s2 R' (by simp)
 have b17:=s2 S (by simp)
 have hsign:=prod_sign (x:=val a) (y:=val b) rfl rfl
 have hb1:=hor_bd b1 b2 b3 b4
 have hb2:=hor_bd b5 b6 b7 b8
 obtain ⟨W,hW⟩:∃ W,W = J + 65536 * (K + 65536 * (M + 65536 * (N + 65536 * (O + 65536 * (P + 65536 * (Q + 65536 * (R' + 65536 * S))))))):=⟨_,rfl⟩
 have hs2:hor D C B A + 18446744073709551616 * hor I H G E + 340282366920938463463374607431768211456 * W = ((val a).natAbs:Int) * ((val b).natAbs:Int):=by
  rw [← s4,hW]
  simp only [lv,hor]
  omega
 have l16:=l16_raw fu (fun r57 r47=>(some ((r47,r57,()),()):Option octroiref02_Mul.sg.R)) (fun a8 b8 r48 p8=>octroiref02_Mul.l23 (fu + 20) (fun hi9 lo9 i9 t719 a9 b9 r49 p9=>oB (octroiref01_Join.sh (fu + 20) (!(decide (a9.1 < 0) == decide (b9.1 < 0))) hi9 lo9) fun c_10 =>
   some ((c_10.1.1,c_10.1.2.1,()),())) (fu + 20) 0 0 3 a8 b8 r48 p8) a b (0,0) A B C D E G H I J K M N O P Q R' S
 refine Eq.trans l16 ?_
 have l23:=l23_raw fu (fun hi9 lo9 a9 b9 r49=>oB (octroiref01_Join.sh (fu + 20) (!(decide (a9.1 < 0) == decide (b9.1 < 0))) hi9 lo9) fun c_10 =>
   (some ((c_10.1.1,c_10.1.2.1,()),()):Option octroiref02_Mul.sg.R)) a b (0,0) A B C D E G H I J K M N O P Q R' S
 rw [horner b1 b2 b3 b4,horner b5 b6 b7 b8] at l23
 rw [l23,val_neg ha,val_neg hb]
 by_cases ht:W = 0
 ·have hz:J = 0∧K = 0∧M = 0∧N = 0∧O = 0∧P = 0∧Q = 0∧R' = 0∧S = 0:=by omega
  obtain ⟨rfl,rfl,rfl,rfl,rfl,rfl,rfl,rfl,rfl⟩:=hz
  simp only [bne_self_eq_false,cond_false]
  rw [ht] at hs2
  rw [rjoin_eq (fu + 20) hF (v:=val a * val b) hb2.1 hb2.2 hb1.1 hb1.2 (by
   rw [hsign]
   cases (!(decide (val a < 0) == decide (val b < 0))) <;> simp only [cond_true,cond_false] <;> omega)]
  rfl
 ·have hv:inR (val a * val b) = false:=by
   have hbig:340282366920938463463374607431768211456 ≤ ((val a).natAbs:Int) * ((val b).natAbs:Int):=by omega
   rw [inR_no,hsign]
   cases (!(decide (val a < 0) == decide (val b < 0))) <;> simp only [cond_true,cond_false] <;> omega
  have hres:(some ((resW (val a * val b),errW (val a * val b),()),()):Option octroiref02_Mul.sg.R) = some (((0,0),10,()),()):=by
   unfold resW errW; rw [hv]; rfl
  rw [hres]
  have hnz:¬ (J = 0∧K = 0∧M = 0∧N = 0∧O = 0∧P = 0∧Q = 0∧R' = 0∧S = 0):=by
   rintro ⟨rfl,rfl,rfl,rfl,rfl,rfl,rfl,rfl,rfl⟩
   exact ht (by omega)
  cases h1:(J != 0) with
  | true=>rfl
  | false =>
  cases h2:(K != 0) with
  | true=>rfl
  | false =>
  cases h3:(M != 0) with
  | true=>rfl
  | false =>
  cases h4:(N != 0) with
  | true=>rfl
  | false =>
  cases h5:(O != 0) with
  | true=>rfl
  | false =>
  cases h6:(P != 0) with
  | true=>rfl
  | false =>
  cases h7:(Q != 0) with
  | true=>rfl
  | false =>
  cases h8:(R' != 0) with
  | true=>rfl
  | false =>
  cases h9:(S != 0) with
  | true=>rfl
  | false =>
   exact absurd ⟨by simpa using h1,by simpa using h2,by simpa using h3,by simpa using h4,by simpa using h5,by simpa using h6,by simpa using h7,by simpa using h8,by simpa using h9⟩ hnz
end Go.VS
