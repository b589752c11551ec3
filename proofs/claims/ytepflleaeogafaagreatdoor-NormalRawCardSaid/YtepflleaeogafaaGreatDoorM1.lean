import Derived.Test.YtepflleaeogafaaGreatDoorL11
set_option linter.unusedVariables false
set_option linter.unusedSimpArgs false
set_option linter.unusedSectionVars false
set_option linter.unusedVariables false
set_option linter.unusedSimpArgs false
set_option maxRecDepth 100000
namespace Go.VS
open Go
def lv:List Int→Int
 | []=>0
 | d :: r=>d + 65536 * lv r
def DG (l:List Int):Prop:=∀ d ∈ l,0 ≤ d∧d < 65536
def Rep (l:List Int) (v:Int):Prop:=l.length = 12∧DG l∧∃ k:Int,lv l = v + 6277101735386680763835789423207666416102355444464034512896 * k
theorem DG.cons {d:Int} {r:List Int} (h:DG (d :: r)):(0 ≤ d∧d < 65536)∧DG r:=⟨h d (by simp),fun x hx=>h x (by simp [hx])⟩
theorem DG.mk {d:Int} {r:List Int} (h:0 ≤ d∧d < 65536) (hr:DG r):DG (d :: r):=fun x hx=>by
 rcases List.mem_cons.1 hx with rfl | hx
 ·exact h
 ·exact hr x hx
theorem DG.nil:DG []:=fun x hx=>by simp at hx
theorem len12 {l:List Int} (h:l.length = 12):∃ a b c d e f g i j k m n,l = [a,b,c,d,e,f,g,i,j,k,m,n]:=by
 match l,h with
 | [a,b,c,d,e,f,g,i,j,k,m,n],_=>exact ⟨a,b,c,d,e,f,g,i,j,k,m,n,rfl⟩
theorem set_mid {pre xs:List Int} {x y:Int} {i:Nat} (h:pre.length = i):(pre ++ x :: xs).set i y = (pre ++ [y]) ++ xs:=by
 subst h; simp
theorem getD_mid {pre xs:List Int} {x:Int} {i:Nat} (h:pre.length = i):(pre ++ x :: xs).getD i 0 = x:=by
 subst h; simp [List.getD_eq_getElem?_getD]
theorem getD_drop {l xs:List Int} {x:Int} {i:Nat} (h:l.drop i = x :: xs):l.getD i 0 = x:=by
 have:=congrArg (·[0]?) h
 rw [List.getD_eq_getElem?_getD]
 simp at this
 rw [this]; rfl
theorem idx_beq {i n:Nat} {l:List Int} (h:i < n) (hl:l.length = n):(idx (i:Int) n && Nat.beq n l.length) = true:=by
 rw [rg_idx h,hl]; simp
def addc:Int→List Int→List Int→List Int
 | c,x :: xs,y :: ys=>((c + x + y) % 65536) :: addc ((c + x + y) / 65536) xs ys
 | _,_,_=>[]
theorem addc_len:∀ (xs ys:List Int) (c:Int),xs.length = ys.length→(addc c xs ys).length = xs.length
 | [],[],c,h=>rfl
 | x :: xs,y :: ys,c,h=>by simp only [addc,List.length_cons,addc_len xs ys _ (by simpa using h)]
 | [],_ :: _,_,h=>by simp at h
 | _ :: _,[],_,h=>by simp at h
theorem addc_dg:∀ (xs ys:List Int) (c:Int),DG (addc c xs ys)
 | [],ys,c=>by simp only [addc]; exact DG.nil
 | x :: xs,[],c=>by simp only [addc]; exact DG.nil
 | x :: xs,y :: ys,c=>by simp only [addc]; exact DG.mk (by omega) (addc_dg xs ys _)
theorem addc_lv:∀ (xs ys:List Int) (c:Int),xs.length = ys.length→DG xs→DG ys→0 ≤ c→c ≤ 1→∃ k:Int,0 ≤ k∧k ≤ 1∧lv (addc c xs ys) + 65536 ^ xs.length * k = c + lv xs + lv ys
 | [],[],c,h,_,_,h1,h2=>⟨c,h1,h2,by simp [addc,lv]⟩
 | [],_ :: _,_,h,_,_,_,_=>by simp at h
 | _ :: _,[],_,h,_,_,_,_=>by simp at h
 | x :: xs,y :: ys,c,h,hx,hy,h1,h2=>by
  have ⟨⟨x1,x2⟩,hx⟩:=hx.cons
  have ⟨⟨y1,y2⟩,hy⟩:=hy.cons
  obtain ⟨k,k1,k2,hk⟩:=addc_lv xs ys ((c + x + y) / 65536) (by simpa using h) hx hy (by omega) (by omega)
  refine ⟨k,k1,k2,?_⟩
  simp only [addc,lv,List.length_cons,Int.pow_succ]
  have:(65536:Int) ^ xs.length * 65536 * k = 65536 * (65536 ^ xs.length * k):=by
   rw [Int.mul_comm (65536 ^ xs.length) 65536,Int.mul_assoc]
  rw [this]
  generalize (65536:Int) ^ xs.length * k = q at *
  omega
theorem plus_l3 (F:Nat) {R:Type} (k:List Int→List Int→Option R) (b r4:List Int) (hb:b.length = 12):∀ (xs pre ys:List Int) (c:Int) (i fu:Nat),pre.length = i→i + xs.length = 12→b.drop i = ys→DG xs→DG ys→0 ≤ c→c ≤ 1→xs.length < fu →
  octroiref01_Plus.l3 F (fun _ _ _ a _ r=>k a r) fu c (i:Int) (pre ++ xs) b r4 = k (pre ++ addc c xs ys) r4:=by
 intro xs
 induction xs with
 | nil =>
  intro pre ys c i fu hp hi hy _ _ _ _ hf
  obtain ⟨fu,rfl⟩:∃ j,fu = j + 1:=⟨fu - 1,by simp at hf; omega⟩
  simp only [List.length_nil,Nat.add_zero] at hi
  simp only [octroiref01_Plus.l3,octroiref01_Plus.l3.body,decide_eq_false (show ¬ ((i:Int) < 12) by omega),cond_false,addc]
 | cons x xs ih =>
  intro pre ys c i fu hp hi hy hx hys c1 c2 hf
  obtain ⟨fu,rfl⟩:∃ j,fu = j + 1:=⟨fu - 1,by simp at hf; omega⟩
  simp only [List.length_cons] at hi hf
  have ⟨⟨x1,x2⟩,hx⟩:=hx.cons
  have hyl:=congrArg List.length hy
  simp only [List.length_drop] at hyl
  cases ys with
  | nil=>simp only [List.length_nil] at hyl; omega
  | cons y ys =>
   have ⟨⟨y1,y2⟩,hys⟩:=hys.cons
   have hal:(pre ++ x :: xs).length = 12:=by simp; omega
   have e1:=idx_beq (show i < 12 by omega) hal
   have e2:=idx_beq (show i < 12 by omega) hb
   have e3:(pre ++ x :: xs).getD (Int.toNat (i:Int)) 0 = x:=getD_mid (by rw [Int.toNat_natCast]; exact hp)
   have e4:b.getD (Int.toNat (i:Int)) 0 = y:=by rw [Int.toNat_natCast]; exact getD_drop hy
   have e5:∀ z,(pre ++ x :: xs).set (Int.toNat (i:Int)) z = (pre ++ [z]) ++ xs:=fun z=>set_mid (by rw [Int.toNat_natCast]; exact hp)
   simp only [octroiref01_Plus.l3,octroiref01_Plus.l3.body,decide_eq_true (show ((i:Int) < 12) by omega),cond_true,e1,e2,e3,e4,e5]
   rw [wrap_u64 (n:=c + x) (by omega) (by omega),wrap_u64 (n:=c + x + y) (by omega) (by omega),Int.tdiv_eq_ediv_of_nonneg (by omega),Int.tmod_eq_emod_of_nonneg (by omega),wrap_u64 (n:=(c + x + y) / 65536) (by omega) (by omega),wrap_i64 (by omega) (by omega),← rg_cast]
   rw [ih (pre ++ [(c + x + y) % 65536]) ys ((c + x + y) / 65536) (i + 1) fu (by simp; omega) (by omega) (rg_next hy) hx hys (by omega) (by omega) (by omega)]
   simp [addc]
theorem pow12:(65536:Int) ^ 12 = 6277101735386680763835789423207666416102355444464034512896:=by decide
theorem plus_eq (F:Nat) (hF:20 < F) {a b:List Int} {x y:Int} (ha:Rep a x) (hb:Rep b y):∃ l,octroiref01_Plus.sh F a b = some ((l,()),())∧Rep l (x + y):=by
 obtain ⟨a1,a2,k1,a3⟩:=ha
 obtain ⟨b1,b2,k2,b3⟩:=hb
 refine ⟨addc 0 a b,?_,by rw [addc_len _ _ _ (by omega)]; exact a1,addc_dg _ _ _,?_⟩
 ·unfold octroiref01_Plus.sh
  have:=plus_l3 F (fun a1 r41=>bif Nat.beq 12 a1.length then bif (Nat.beq a1.length r41.length && Nat.beq 12 r41.length) then bif (Nat.beq 12 a1.length && true) then (some ((a1,()),()):Option octroiref01_Plus.sg.R)
   else none
  else none
 else none) b (List.replicate 12 0) b1 a [] b 0 0 F rfl (by omega) (by simp) a2 b2 (by omega) (by omega) (by omega)
  rw [List.nil_append,show ((0:Nat):Int) = 0 from rfl] at this
  rw [this]
  have hl:(addc 0 a b).length = 12:=by rw [addc_len _ _ _ (by omega)]; exact a1
  rw [List.nil_append,hl]
  rfl
 ·obtain ⟨k,_,_,hk⟩:=addc_lv a b 0 (by omega) a2 b2 (by omega) (by omega)
  rw [a1,pow12] at hk
  refine ⟨k1 + k2 - k,?_⟩
  rw [Int.mul_sub,Int.mul_add]
  omega
theorem turned_l2 (F:Nat) {R:Type} (k:List Int→List Int→Option R) (r2:List Int):∀ (xs pre:List Int) (i fu:Nat),pre.length = i→i + xs.length = 12→DG xs→xs.length < fu →
  octroiref01_Turned.l2 F (fun _ _ a r=>k a r) fu (i:Int) (pre ++ xs) r2 = k (pre ++ xs.map (fun d=>65535 - d)) r2:=by
 intro xs
 induction xs with
 | nil =>
  intro pre i fu hp hi _ hf
  obtain ⟨fu,rfl⟩:∃ j,fu = j + 1:=⟨fu - 1,by simp at hf; omega⟩
  simp only [List.length_nil,Nat.add_zero] at hi
  simp only [octroiref01_Turned.l2,octroiref01_Turned.l2.body,decide_eq_false (show ¬ ((i:Int) < 12) by omega),cond_false,List.map_nil]
 | cons x xs ih =>
  intro pre i fu hp hi hx hf
  obtain ⟨fu,rfl⟩:∃ j,fu = j + 1:=⟨fu - 1,by simp at hf; omega⟩
  simp only [List.length_cons] at hi hf
  have ⟨⟨x1,x2⟩,hx⟩:=hx.cons
  have hal:(pre ++ x :: xs).length = 12:=by simp; omega
  have e1:=idx_beq (show i < 12 by omega) hal
  have e3:(pre ++ x :: xs).getD (Int.toNat (i:Int)) 0 = x:=getD_mid (by rw [Int.toNat_natCast]; exact hp)
  have e5:∀ z,(pre ++ x :: xs).set (Int.toNat (i:Int)) z = (pre ++ [z]) ++ xs:=fun z=>set_mid (by rw [Int.toNat_natCast]; exact hp)
  simp only [octroiref01_Turned.l2,octroiref01_Turned.l2.body,decide_eq_true (show ((i:Int) < 12) by omega),cond_true,e1,e3,e5]
  rw [wrap_u64 (n:=65535 - x) (by omega) (by omega),wrap_i64 (by omega) (by omega),← rg_cast]
  rw [ih (pre ++ [65535 - x]) (i + 1) fu (by simp; omega) (by omega) hx (by omega)]
  simp
theorem opp_lv:∀ (xs:List Int),lv (xs.map (fun d=>65535 - d)) + lv xs + 1 = 65536 ^ xs.length
 | []=>by simp [lv]
 | x :: xs=>by
  have:=opp_lv xs
  simp only [List.map_cons,lv,List.length_cons,Int.pow_succ]
  generalize (65536:Int) ^ xs.length = q at *
  omega
theorem opp_dg {xs:List Int} (h:DG xs):DG (xs.map (fun d=>65535 - d)):=fun d hd=>by
 obtain ⟨x,hx,rfl⟩:=List.mem_map.1 hd
 have:=h x hx
 omega
theorem turned_eq (F:Nat) (hF:20 < F) {a:List Int} {x:Int} (ha:Rep a x):∃ l,octroiref01_Turned.sh F a = some ((l,()),())∧Rep l (-x):=by
 obtain ⟨a1,a2,k1,a3⟩:=ha
 have h1:Rep (a.map (fun d=>65535 - d)) (-x - 1):=by
  refine ⟨by simpa using a1,opp_dg a2,1 - k1,?_⟩
  have:=opp_lv a
  rw [a1,pow12] at this
  rw [Int.mul_sub]
  omega
 have h2:Rep ((List.replicate 12 0).set 0 1) 1:=⟨rfl,by
  intro d hd
  simp [List.replicate] at hd
  omega,0,by rfl⟩
 obtain ⟨l,hl,hr⟩:=plus_eq F hF h1 h2
 refine ⟨l,?_,by rw [show -x = -x - 1 + 1 by omega]; exact hr⟩
 unfold octroiref01_Turned.sh
 have:=turned_l2 F (fun a1 r21=>bif Nat.beq 12 a1.length then oB (octroiref01_Plus.sh F a1 ((List.replicate 12 0).set 0 1)) fun c_2 =>
  bif (Nat.beq c_2.1.1.length r21.length && Nat.beq 12 r21.length) then bif (Nat.beq 12 c_2.1.1.length && true) then (some ((c_2.1.1,()),()):Option octroiref01_Turned.sg.R)
   else none
  else none
 else none) (List.replicate 12 0) a [] 0 F rfl (by omega) a2 (by omega)
 rw [List.nil_append,show ((0:Nat):Int) = 0 from rfl] at this
 rw [this,List.nil_append,hl]
 have e1:(a.map (fun d=>65535 - d)).length = 12:=by simpa using a1
 have e2:l.length = 12:=hr.1
 rw [e1]
 simp only [oB_some,e2]
 rfl
theorem digits_raw (f:Nat) (a b:Int):octroiref01_Digits.sh (f + 20) (a,b) = bif decide (a < 0) then
  some (([(b.fdiv 1).tmod 65536,(b.fdiv 65536).tmod 65536,(b.fdiv 4294967296).tmod 65536,(b.fdiv 281474976710656).tmod 65536,((IntKind.u64.wrap a).fdiv 1).tmod 65536,((IntKind.u64.wrap a).fdiv 65536).tmod 65536,((IntKind.u64.wrap a).fdiv 4294967296).tmod 65536,((IntKind.u64.wrap a).fdiv 281474976710656).tmod 65536,65535,65535,65535,65535],()),())
 else some (([(b.fdiv 1).tmod 65536,(b.fdiv 65536).tmod 65536,(b.fdiv 4294967296).tmod 65536,(b.fdiv 281474976710656).tmod 65536,((IntKind.u64.wrap a).fdiv 1).tmod 65536,((IntKind.u64.wrap a).fdiv 65536).tmod 65536,((IntKind.u64.wrap a).fdiv 4294967296).tmod 65536,((IntKind.u64.wrap a).fdiv 281474976710656).tmod 65536,0,0,0,0],()),()):=by kernel_rfl
theorem four {b:Int} (h1:0 ≤ b) (h2:b < 18446744073709551616):(b.fdiv 1).tmod 65536 = b % 65536∧(b.fdiv 65536).tmod 65536 = b / 65536 % 65536∧(b.fdiv 4294967296).tmod 65536 = b / 4294967296 % 65536∧(b.fdiv 281474976710656).tmod 65536 = b / 281474976710656 % 65536:=by
 rw [Int.fdiv_eq_ediv_of_nonneg _ (by omega),Int.fdiv_eq_ediv_of_nonneg _ (by omega),Int.fdiv_eq_ediv_of_nonneg _ (by omega),Int.fdiv_eq_ediv_of_nonneg _ (by omega),Int.tmod_eq_emod_of_nonneg (by omega),Int.tmod_eq_emod_of_nonneg (by omega),Int.tmod_eq_emod_of_nonneg (by omega),Int.tmod_eq_emod_of_nonneg (by omega)]
 exact ⟨by omega,rfl,rfl,rfl⟩
theorem Rep.of12 {a b c d e f g i j k m n v q:Int} (h1:0 ≤ a∧a < 65536) (h2:0 ≤ b∧b < 65536) (h3:0 ≤ c∧c < 65536) (h4:0 ≤ d∧d < 65536) (h5:0 ≤ e∧e < 65536) (h6:0 ≤ f∧f < 65536) (h7:0 ≤ g∧g < 65536) (h8:0 ≤ i∧i < 65536)
  (h9:0 ≤ j∧j < 65536) (h10:0 ≤ k∧k < 65536) (h11:0 ≤ m∧m < 65536) (h12:0 ≤ n∧n < 65536) (h:lv [a,b,c,d,e,f,g,i,j,k,m,n] = v + 6277101735386680763835789423207666416102355444464034512896 * q):Rep [a,b,c,d,e,f,g,i,j,k,m,n] v :=
 ⟨rfl,DG.mk h1 (DG.mk h2 (DG.mk h3 (DG.mk h4 (DG.mk h5 (DG.mk h6 (DG.mk h7 (DG.mk h8 (DG.mk h9 (DG.mk h10 (DG.mk h11 (DG.mk h12 DG.nil))))))))))),q,h⟩
theorem digs_eq (F:Nat) (hF:20 < F) {w:Int×Int} (hw:wfW w):∃ l,octroiref01_Digits.sh F w = some ((l,()),())∧Rep l (val w):=by
 obtain ⟨f,rfl⟩:∃ f,F = f + 20:=⟨F - 20,by omega⟩
 obtain ⟨a,b⟩:=w
 obtain ⟨h1,h2,h3,h4⟩:=hw
 simp only at h1 h2 h3 h4
 rw [digits_raw]
 have hu:=four h3 h4
 have hA1:0 ≤ IntKind.u64.wrap a:=by rw [wrap_u64_mod]; omega
 have hA2:IntKind.u64.wrap a < 18446744073709551616:=by rw [wrap_u64_mod]; omega
 have hv:=four hA1 hA2
 rw [hu.1,hu.2.1,hu.2.2.1,hu.2.2.2,hv.1,hv.2.1,hv.2.2.1,hv.2.2.2]
 by_cases hn:a < 0
 ·rw [decide_eq_true hn]
  have hA:IntKind.u64.wrap a = a + 18446744073709551616:=by rw [wrap_u64_mod]; omega
  rw [hA]
  refine ⟨_,rfl,Rep.of12 (q:=1) (by omega) (by omega) (by omega) (by omega) (by omega) (by omega) (by omega) (by omega) (by omega) (by omega) (by omega) (by omega) ?_⟩
  simp only [lv,val]
  omega
 ·rw [decide_eq_false hn]
  have hA:IntKind.u64.wrap a = a:=by rw [wrap_u64_mod]; omega
  rw [hA]
  refine ⟨_,rfl,Rep.of12 (q:=0) (by omega) (by omega) (by omega) (by omega) (by omega) (by omega) (by omega) (by omega) (by omega) (by omega) (by omega) (by omega) ?_⟩
  simp only [lv,val]
  omega
theorem Rep.open {l:List Int} {v:Int} (h:Rep l v):∃ a b c d e f g i j k m n q:Int,l = [a,b,c,d,e,f,g,i,j,k,m,n]∧(0 ≤ a∧a < 65536)∧(0 ≤ b∧b < 65536)∧(0 ≤ c∧c < 65536)∧(0 ≤ d∧d < 65536)∧(0 ≤ e∧e < 65536)∧(0 ≤ f∧f < 65536)∧(0 ≤ g∧g < 65536)∧(0 ≤ i∧i < 65536) ∧
  (0 ≤ j∧j < 65536)∧(0 ≤ k∧k < 65536)∧(0 ≤ m∧m < 65536)∧(0 ≤ n∧n < 65536) ∧
  a + 65536 * b + 4294967296 * c + 281474976710656 * d + 18446744073709551616 * e + 1208925819614629174706176 * f + 79228162514264337593543950336 * g + 5192296858534827628530496329220096 * i + 340282366920938463463374607431768211456 * j + 22300745198530623141535718272648361505980416 * k + 1461501637330902918203684832716283019655932542976 * m + 95780971304118053647396689196894323976171195136475136 * n = v + 6277101735386680763835789423207666416102355444464034512896 * q:=by
 obtain ⟨h1,h2,q,h3⟩:=h
 obtain ⟨a,b,c,d,e,f,g,i,j,k,m,n,rfl⟩:=len12 h1
 refine ⟨a,b,c,d,e,f,g,i,j,k,m,n,q,rfl,h2 a (by simp),h2 b (by simp),h2 c (by simp),h2 d (by simp),h2 e (by simp),h2 f (by simp),h2 g (by simp),h2 i (by simp),h2 j (by simp),h2 k (by simp),h2 m (by simp),h2 n (by simp),?_⟩
 simp only [lv] at h3
 omega
theorem below_eq (F:Nat) {l:List Int} {v:Int} (h:Rep l v) (h1:-3138550867693340381917894711603833208051177722232017256448 ≤ v) (h2:v < 3138550867693340381917894711603833208051177722232017256448):octroiref01_Below.sh F l = some ((decide (v < 0),()),()):=by
 obtain ⟨a,b,c,d,e,f,g,i,j,k,m,n,q,rfl,b1,b2,b3,b4,b5,b6,b7,b8,b9,b10,b11,b12,hs⟩:=h.open
 unfold octroiref01_Below.sh
 have hd:decide (([a,b,c,d,e,f,g,i,j,k,m,n].getD 11 0) ≥ 32768) = decide (v < 0):=by
  show decide (n ≥ 32768) = decide (v < 0)
  by_cases hv:v < 0
  ·rw [decide_eq_true hv,decide_eq_true (by omega)]
  ·rw [decide_eq_false hv,decide_eq_false (by omega)]
 rw [hd]
 rfl
end Go.VS
