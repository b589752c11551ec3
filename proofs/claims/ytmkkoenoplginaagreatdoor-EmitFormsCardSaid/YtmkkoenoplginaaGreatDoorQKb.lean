/- Plain laws, joined from smaller texts. -/
import Derived.Test.YtmkkoenoplginaaGreatDoorQKa
set_option linter.unusedVariables false
set_option linter.unusedSimpArgs false
set_option linter.unusedSectionVars false
set_option maxRecDepth 100000
namespace Go.VS
open Go IntKind
theorem QG (F:Nat) {R:Type} (k:Bool->Option R) (k1:Option R) (l:List zo.T) (N:Int) (hl:l.length<=32):∀(xs:List zo.T) (i:Nat),l.drop i=xs->
  zU.l4.rg F k (fun _ _ _ _ _=>k1) l N xs (i:Int) l=bif vJ l xs i then k1 else k false:=by
 intro xs;induction xs with
 | nil=>intro i h; simp[zU.l4.rg,vJ]
 | cons x xs ih =>
  intro i h;have hi:=xT h;have ih:=ih (i+1) (xm h);rw[y4] at ih;simp only[zU.l4.rg,vJ,V5];by_cases h0:i=0
  ·subst h0
   have e1:decide (((0:Nat):Int)>0)=false:=rfl;simp only[e1,cond_false,decide_true,Bool.true_or,Bool.true_and];cases decide (tF x>1000000000000)<;>cases decide (tR x < -1000000000000)<;>cases decide (tR x>1000000000000)<;>first | rfl | exact ih
  ·have e1:decide (((i:Nat):Int)>0)=true:=decide_eq_true (by omega)
   have e2:i64.wrap ((i:Int)-1)=((i-1:Nat):Int):=by rw[yT (by omega) (by omega)]; omega
   have e3:idx ((i-1:Nat):Int) l.length=true:=yZ (by omega);have e4:get zo l (((i-1:Nat):Int).toNat)=l.getD (i-1) (0,0):=rfl;have e5:decide (i=0)=false:=decide_eq_false h0;simp only[e1,e2,e3,e4,e5,cond_true,Bool.false_or];cases decide (tF x<=tF (l.getD (i-1) (0,0)))<;>cases decide (tF x>1000000000000)<;>cases decide (tR x < -1000000000000)<;>cases decide (tR x>1000000000000)<;>first | rfl | exact ih
theorem QH (F:Nat) (hF:64<F) (l:List zo.T):zU.sh F l=some ((tI l,()),()):=by
 unfold zU.sh tI;by_cases h1:1<=l.length
 ·have e1:decide ((l.length:Int)<1)=false:=decide_eq_false (by omega)
  by_cases h2:l.length<=16
  ·have e2:decide ((l.length:Int)>16)=false:=decide_eq_false (by omega)
   have e3:idx 0 l.length=true:=yZ (i:=0) (by omega);simp only[e1,e2,e3,cond_false,cond_true,h1,h2,decide_true,Bool.true_and];have e4:get zo l 0=l.getD 0 (0,0):=rfl;rw[e4];by_cases h3:tF (l.getD 0 (0,0))=0
   ·have e5:(tF (l.getD 0 (0,0)) != 0)=false:=by rw[h3]; rfl
    rw[e5,h3];simp only[cond_false,decide_true,Bool.true_and];refine Eq.trans (zU.l4.rg_eq F _ _ l _ rfl (by omega) l 0 F _ (by simp) (by omega)) ?_;refine Eq.trans (QG F (fun r=>(some ((r,()),()):Option zU.sg.R)) (some ((true,()),())) l (l.length:Int) (by omega) l 0 (by simp)) ?_;cases vJ l l 0<;>rfl
   ·have e5:(tF (l.getD 0 (0,0)) != 0)=true:=bne_iff_ne.2 h3
    have e6:decide (tF (l.getD 0 (0,0))=0)=false:=decide_eq_false h3;rw[e5,e6];rfl
  ·have e2:decide ((l.length:Int)>16)=true:=decide_eq_true (by omega)
   have e3:decide (l.length<=16)=false:=decide_eq_false h2;rw[e1,e2,e3];simp
 ·have e1:decide ((l.length:Int)<1)=true:=decide_eq_true (by omega)
  have e3:decide (1<=l.length)=false:=decide_eq_false h1;rw[e1,e3];rfl
structure SN (q:zi.T):Prop where
 m1:(0:Int)<=q.1
 m2:q.1<=(4:Int)
 s1:(0:Int)<=q.2.1
 s2:q.2.1<=(6:Int)
 d1:1<=q.2.2.1.length
 d2:q.2.2.1.length<=4
 sz:∀x∈q.2.2.1,(1:Int)<=x/\x<=(1000000000000:Int)
 C:q.2.2.2.1.length<=1024
 S:q.2.2.2.2.1.length<=1024
 K:q.2.2.2.2.2.length<=8192
 t:∀l∈q.2.2.2.2.1,tI l=true
 c:∀x∈q.2.2.2.2.2,((0:Int)<=x.1/\x.1<=(255:Int))/\((0:Int)<=x.2.1/\x.2.1<=(65535:Int))/\(0:Int)<=x.2.2/\x.2.2<=(65535:Int)
theorem qf {a b:Int} (h:b<=a):decide (a<b)=false:=decide_eq_false (by omega)
theorem Tp (F:Nat) {R:Type} (k0:Int->Option R) (kk:zi.T->Option R) (L:List Int) (N:Int) (p:zi.T):∀(xs:List Int) (i:Int),(∀x∈xs,(1:Int)<=x/\x<=(1000000000000:Int))->zt.l4.rg F k0 (fun _ _ _ _ p=>kk p) L N xs i p=kk p
 | [],i,_=>rfl
 | x::xs,i,h=>by
  have ih:=Tp F k0 kk L N p xs (i+1) fun y hy=>h y (by simp[hy])
  obtain ⟨h1,h2⟩:=h x (by simp);unfold zt.l4.rg;rw[qf h1,show decide (x>1000000000000)=false from qf h2];exact ih
theorem Vr (F:Nat) (hF:64<F) {R:Type} (k0:Int->Option R) (kk:zi.T->Option R) (L:List (List zo.T)) (N:Int) (p:zi.T):∀(xs:List (List zo.T)) (i:Int),(∀x∈xs,tI x=true)->zt.l12.rg F k0 (fun _ _ _ _ p=>kk p) L N xs i p=kk p
 | [],i,_=>rfl
 | x::xs,i,h=>by
  have ih:=Vr F hF k0 kk L N p xs (i+1) fun y hy=>h y (by simp[hy])
  unfold zt.l12.rg;rw[QH F hF x,h x (by simp),zD];exact ih
theorem Rc (F:Nat) {R:Type} (k0:Int->Option R) (kk:Option R) (L:List zM.T) (N:Int):∀(xs:List zM.T) (i:Int),(∀x∈xs,((0:Int)<=x.1/\x.1<=(255:Int))/\((0:Int)<=x.2.1/\x.2.1<=(65535:Int))/\(0:Int)<=x.2.2/\x.2.2<=(65535:Int))->
  zt.l18.rg F k0 (fun _ _ _ _=>kk) L N xs i=kk
 | [],i,_=>rfl
 | x::xs,i,h=>by
  have ih:=Rc F k0 kk L N xs (i+1) fun y hy=>h y (by simp[hy])
  obtain ⟨⟨a1,a2⟩,⟨b1,b2⟩,c1,c2⟩:=h x (by simp);unfold zt.l18.rg;rw[qf a1,show decide (x.1>255)=false from qf a2,qf b1,show decide (x.2.1>65535)=false from qf b2,qf c1,show decide (x.2.2>65535)=false from qf c2];exact ih
theorem ic_eq (F:Nat) (hF:8192<F) {q:zi.T} (h:SN q):zt.sh F q=some ((0,()),()):=by
 obtain ⟨m1,m2,s1,s2,d1,d2,sz,hC,hS,hK,ht,hc⟩:=h;unfold zt.sh;rw[qf m1,show decide (q.1>4)=false from qf m2,qf s1,show decide (q.2.1>6)=false from qf s2,show decide ((q.2.2.1.length:Int)<1)=false from qf (by omega),show decide ((q.2.2.1.length:Int)>4)=false from qf (by omega)];simp only[cond_false];refine (zt.l4.rg_eq F _ _ q.2.2.1 _ rfl (by omega) q.2.2.1 0 F q rfl (by omega)).trans ?_;refine (Tp F _ (fun p2=>bif decide ((p2.2.2.2.1.length:Int)>1024) then some ((2,()),())
  else bif decide ((p2.2.2.2.2.1.length:Int)>1024) then some ((2,()),())
  else bif decide ((p2.2.2.2.2.2.length:Int)>8192) then some ((2,()),())
  else zt.l12 F (fun r24=>some ((r24,()),())) (fun t705 t715 t725 t735 p5=>zt.l18 F (fun r26=>some ((r26,()),())) (fun t817 t827 t837 t847=>some ((0,()),())) F p5.2.2.2.2.2 (p5.2.2.2.2.2.length:Int) 0) F p2.2.2.2.2.1 (p2.2.2.2.2.1.length:Int) 0 p2) q.2.2.1 _ q q.2.2.1 _ sz).trans ?_
 rw[show decide ((q.2.2.2.1.length:Int)>1024)=false from qf (by omega),show decide ((q.2.2.2.2.1.length:Int)>1024)=false from qf (by omega),show decide ((q.2.2.2.2.2.length:Int)>8192)=false from qf (by omega)];simp only[cond_false];refine (zt.l12.rg_eq F _ _ q.2.2.2.2.1 _ rfl (by omega) q.2.2.2.2.1 0 F q rfl (by omega)).trans ?_;refine (Vr F (by omega) _ (fun p5=>zt.l18 F (fun r26=>some ((r26,()),())) (fun t817 t827 t837 t847=>some ((0,()),())) F p5.2.2.2.2.2 (p5.2.2.2.2.2.length:Int) 0) q.2.2.2.2.1 _ q q.2.2.2.2.1 _ ht).trans ?_;refine (zt.l18.rg_eq F _ _ q.2.2.2.2.2 _ rfl (by omega) q.2.2.2.2.2 0 F rfl (by omega)).trans ?_;exact Rc F _ (some ((0,()),())) q.2.2.2.2.2 _ q.2.2.2.2.2 _ hc
def leB:Nat->Int->List Int
 | 0,_=>[]
 | k+1,n=>IntKind.u8.wrap n::leB k (n.fdiv 256)
theorem wN:∀(k:Nat) (n:Int),(leB k n).length=k
 | 0,_=>rfl
 | k+1,n=>by simp[leB,wN k]
theorem U3 (F:Nat) {R:Type} (kk:List Int->Option R):∀(d i fu:Nat) (n:Int) (b:List Int),d<fu->i+d<=64->b.length+d<=4194304->ya.l2 F (fun _ _ _ _ b=>kk b) fu n ((i+d:Nat):Int) (i:Int) b=kk (b++leB d n)
 | _,_,0,_,_,h,_,_=>by omega
 | 0,i,fu+1,n,b,_,_,_=>by
  unfold ya.l2 ya.l2.body;rw[decide_eq_false (by omega)];simp[leB]
 | d+1,i,fu+1,n,b,h1,h2,h3=>by
  have ih:=U3 F kk d (i+1) fu (n.fdiv 256) (b++[IntKind.u8.wrap n]) (by omega) (by omega) (by simp; omega);unfold ya.l2 ya.l2.body;rw[decide_eq_true (show (i:Int)<((i+(d+1):Nat):Int) by omega),wU (by simp; omega)];simp only[cond_true];rw[yT (by omega) (by omega),show (2:Int)^(min (8:Int).toNat IntKind.u64.bits)=256 from rfl];rw[show i+(d+1)=i+1+d by omega,<-y4];refine Eq.trans ih ?_;simp[leB]
theorem vX (F:Nat) (hF:64<F) (b:List Int) (n:Int) (k:Nat) (hk:k<=8) (hb:b.length<=4194000):ya.sh F b n (k:Int)=some ((b++leB k n,()),()):=by
 unfold ya.sh;have:=U3 F (fun b1=>(some ((b1,()),()):Option ya.sg.R)) k 0 F n b (by omega) (by omega) (by omega);rw[Nat.zero_add] at this;exact this
def vK (n:Int):Int:=u64.wrap n
def VA (l:List Int):List Int:=(l.map fun x=>leB 8 (vK x)).flatten
def Qe (l:List zf.T):List Int:=(l.map fun w=>leB 8 w.2++leB 8 (vK w.1)).flatten
def Sw (l:List zo.T):List Int:=(l.map fun t=>leB 8 (vK t.1)++leB 8 (vK t.2)).flatten
def Ww (l:List (List zo.T)):List Int:=(l.map fun t=>IntKind.u8.wrap (t.length:Int)::Sw t).flatten
def encI (l:List zM.T):List Int:=(l.map fun c=>leB 1 (vK c.1)++leB 2 (vK c.2.1)++leB 2 (vK c.2.2)).flatten
def encP (q:zi.T):List Int :=
 ((((((([79,67,84,49,IntKind.u8.wrap q.1,IntKind.u8.wrap q.2.1,IntKind.u8.wrap (q.2.2.1.length:Int)]++VA q.2.2.1)++leB 2 (vK (q.2.2.2.1.length:Int)))++Qe q.2.2.2.1)++leB 2 (vK (q.2.2.2.2.1.length:Int)))++Ww q.2.2.2.2.1)++leB 2 (vK (q.2.2.2.2.2.length:Int)))++encI q.2.2.2.2.2)
theorem za0 (F:Nat) (hF:64<F) {R:Type} (kk:zi.T->List Int->Option R) (L:List Int) (N:Int) (p:zi.T):∀(xs:List Int) (i:Int) (b:List Int),b.length+8*xs.length<=4194000->zb.l6.rg F (fun _ _ _ _ p b=>kk p b) L N xs i p b=kk p (b++VA xs)
 | [],i,b,_=>by simp[zb.l6.rg,VA]
 | x::xs,i,b,h=>by
  simp only[List.length_cons] at h;have ih:=za0 F hF kk L N p xs (i+1) (b++leB 8 (vK x)) (by simp[wN]; omega);unfold zb.l6.rg;rw[show ya.sh F b (u64.wrap x) 8=_ from vX F hF b (vK x) 8 (by omega) (by omega),zD];refine Eq.trans ih ?_;simp[VA]
theorem enc_C (F:Nat) (hF:64<F) {R:Type} (kk:zi.T->List Int->Option R) (L:List zf.T) (N:Int) (p:zi.T):∀(xs:List zf.T) (i:Int) (b:List Int),b.length+16*xs.length<=4194000->zb.l12.rg F (fun _ _ _ _ p b=>kk p b) L N xs i p b=kk p (b++Qe xs)
 | [],i,b,_=>by simp[zb.l12.rg,Qe]
 | x::xs,i,b,h=>by
  simp only[List.length_cons] at h;have ih:=enc_C F hF kk L N p xs (i+1) (b++leB 8 x.2++leB 8 (vK x.1)) (by simp[wN]; omega);unfold zb.l12.rg;rw[show ya.sh F b x.2 8=_ from vX F hF b x.2 8 (by omega) (by omega),zD];simp only;rw[show ya.sh F (b++leB 8 x.2) (u64.wrap x.1) 8=_ from vX F hF _ (vK x.1) 8 (by omega) (by simp[wN]; omega),zD];refine Eq.trans ih ?_;simp[Qe]
theorem enc_T (F:Nat) (hF:64<F) {R:Type} (kk:List (List zo.T)->Int->Int->zi.T->List Int->Option R) (L:List zo.T) (N:Int) (S:List (List zo.T)) (t77 t78:Int) (p:zi.T):∀(xs:List zo.T) (i:Int) (b:List Int),b.length+16*xs.length<=4194000->
  zb.l22.rg F (fun S a c _ _ _ _ p b=>kk S a c p b) L N xs i S t77 t78 p b=kk S t77 t78 p (b++Sw xs)
 | [],i,b,_=>by simp[zb.l22.rg,Sw]
 | x::xs,i,b,h=>by
  simp only[List.length_cons] at h;have ih:=enc_T F hF kk L N S t77 t78 p xs (i+1) (b++leB 8 (vK x.1)++leB 8 (vK x.2)) (by simp[wN]; omega);unfold zb.l22.rg;rw[show ya.sh F b (u64.wrap x.1) 8=_ from vX F hF b (vK x.1) 8 (by omega) (by omega),zD];simp only;rw[show ya.sh F (b++leB 8 (vK x.1)) (u64.wrap x.2) 8=_ from vX F hF _ (vK x.2) 8 (by omega) (by simp[wN]; omega),zD];refine Eq.trans ih ?_;simp[Sw]
theorem Wv:∀l:List zo.T,(Sw l).length=16*l.length
 | []=>rfl
 | x::l=>by
  have:=Wv l;unfold Sw at*;simp only[List.map_cons,List.flatten_cons,List.length_append,wN,List.length_cons,this]; omega
theorem za1 (F:Nat) (hF:64<F) {R:Type} (kk:zi.T->List Int->Option R) (S:List (List zo.T)) (hS:S.length<=1024) (p:zi.T):∀(xs:List (List zo.T)) (i fu:Nat) (b:List Int),S.drop i=xs->xs.length<fu->(∀l∈xs,l.length<=16)->b.length+257*xs.length<=4194000->
  zb.l18 F (fun _ _ _ _ p b=>kk p b) fu S (S.length:Int) (i:Int) p b=kk p (b++Ww xs)
 | _,_,0,_,_,h,_,_=>by omega
 | [],i,fu+1,b,he,_,_,_=>by
  have:=wa he;unfold zb.l18 zb.l18.body;rw[decide_eq_false (by omega)];simp[Ww]
 | x::xs,i,fu+1,b,he,hf,hl,h=>by
  simp only[List.length_cons] at h hf;have hx:=hl x (by simp);have hi:=xT he;have ih:=za1 F hF kk S hS p xs (i+1) fu (b++[IntKind.u8.wrap (x.length:Int)]++Sw x) (xm he) (by omega) (fun l hl'=>hl l (by simp[hl'])) (by simp[Wv]; omega);unfold zb.l18 zb.l18.body;rw[decide_eq_true (show (i:Int)<(S.length:Int) by omega),yZ hi,xY (t:=.sl zo) he,wU (by simp; omega)];simp only[cond_true];refine (zb.l22.rg_eq F _ x _ rfl (by omega) x 0 F S _ _ p _ rfl (by omega)).trans ?_;refine (enc_T F hF (fun S a c p b=>zb.l18 F (fun _ _ _ _ p b=>kk p b) fu S a (i64.wrap (c+1)) p b) x _ S _ _ p x _ (b++[IntKind.u8.wrap (x.length:Int)]) (by simp; omega)).trans ?_;rw[yT (by omega) (by omega),<-y4];refine Eq.trans ih ?_;simp[Ww]
theorem enc_K (F:Nat) (hF:64<F) {R:Type} (kk:List Int->Option R) (L:List zM.T) (N:Int):∀(xs:List zM.T) (i:Int) (b:List Int),b.length+5*xs.length<=4194000->zb.l29.rg F (fun _ _ _ _ b=>kk b) L N xs i b=kk (b++encI xs)
 | [],i,b,_=>by simp[zb.l29.rg,encI]
 | x::xs,i,b,h=>by
  simp only[List.length_cons] at h;have ih:=enc_K F hF kk L N xs (i+1) (b++leB 1 (vK x.1)++leB 2 (vK x.2.1)++leB 2 (vK x.2.2)) (by simp[wN]; omega);unfold zb.l29.rg;rw[show ya.sh F b (u64.wrap x.1) 1=_ from vX F hF b (vK x.1) 1 (by omega) (by omega),zD];simp only;rw[show ya.sh F (b++leB 1 (vK x.1)) (u64.wrap x.2.1) 2=_ from vX F hF _ (vK x.2.1) 2 (by omega) (by simp[wN]; omega),zD];simp only;rw[show ya.sh F (b++leB 1 (vK x.1)++leB 2 (vK x.2.1)) (u64.wrap x.2.2) 2=_ from vX F hF _ (vK x.2.2) 2 (by omega) (by simp[wN]; omega),zD];refine Eq.trans ih ?_;simp[encI]
theorem Qc (l:List Int):(VA l).length=8*l.length:=by
 induction l with
 | nil=>rfl
 | cons x l ih =>
  unfold VA at*;simp only[List.map_cons,List.flatten_cons,List.length_append,wN,List.length_cons,ih]; omega
theorem za2 (l:List zf.T):(Qe l).length=16*l.length:=by
 induction l with
 | nil=>rfl
 | cons x l ih =>
  unfold Qe at*;simp only[List.map_cons,List.flatten_cons,List.length_append,wN,List.length_cons,ih]; omega
theorem Qd (l:List (List zo.T)) (h:∀x∈l,x.length<=16):(Ww l).length<=257*l.length:=by
 induction l with
 | nil=>simp[Ww]
 | cons x l ih =>
  have hx:=h x (by simp);have:=ih fun y hy=>h y (by simp[hy])
  have he:=Wv x;unfold Ww at*;simp only[List.map_cons,List.flatten_cons,List.length_append,List.length_cons] at*;omega
theorem Qs (F:Nat) (hF:8192<F) {q:zi.T} (h:SN q):zb.sh F q=some ((encP q,0,()),()):=by
 have hF64:64<F:=by omega
 have hS16:∀x∈q.2.2.2.2.1,x.length<=16:=fun x hx=>(XW (h.t x hx)).2.1
 have d2:=h.d2; have hC:=h.C; have hS:=h.S; have hK:=h.K;have n1:=Qc q.2.2.1;have n2:=za2 q.2.2.2.1;have n3:=Qd q.2.2.2.2.1 hS16;unfold zb.sh;rw[ic_eq F hF h,zD];simp only[bne_self_eq_false,cond_false];rw[wU (by simp)];simp only[cond_true];refine (zb.l6.rg_eq F _ q.2.2.1 _ rfl (by omega) q.2.2.1 0 F q _ rfl (by omega)).trans ?_;refine (za0 F hF64 (fun p3 b3=>oB (ya.sh F b3 (u64.wrap (p3.2.2.2.1.length:Int)) 2) fun c_4 =>
  zb.l12 F (fun t547 t557 t567 t577 p7 b7=>oB (ya.sh F b7 (u64.wrap (p7.2.2.2.2.1.length:Int)) 2) fun c_8 =>
  zb.l18 F (fun t7612 t7712 t7812 t7912 p12 b12=>oB (ya.sh F b12 (u64.wrap (p12.2.2.2.2.2.length:Int)) 2) fun c_13 =>
  zb.l29 F (fun t11217 t11317 t11417 t11517 b17=>zb.j33 F (fun r218 r318=>some ((r218,r318,()),())) b17) F p12.2.2.2.2.2 (p12.2.2.2.2.2.length:Int) 0 c_13.1.1) F p7.2.2.2.2.1 (p7.2.2.2.2.1.length:Int) 0 p7 c_8.1.1) F p3.2.2.2.1 (p3.2.2.2.1.length:Int) 0 p3 c_4.1.1) q.2.2.1 _ q q.2.2.1 _ _ (by simp; omega)).trans ?_
 rw[show ya.sh F _ (u64.wrap (q.2.2.2.1.length:Int)) 2=_ from vX F hF64 _ (vK (q.2.2.2.1.length:Int)) 2 (by omega) (by simp; omega),zD];simp only;refine (zb.l12.rg_eq F _ q.2.2.2.1 _ rfl (by omega) q.2.2.2.1 0 F q _ rfl (by omega)).trans ?_;refine (enc_C F hF64 (fun p7 b7=>oB (ya.sh F b7 (u64.wrap (p7.2.2.2.2.1.length:Int)) 2) fun c_8 =>
  zb.l18 F (fun t7612 t7712 t7812 t7912 p12 b12=>oB (ya.sh F b12 (u64.wrap (p12.2.2.2.2.2.length:Int)) 2) fun c_13 =>
  zb.l29 F (fun t11217 t11317 t11417 t11517 b17=>zb.j33 F (fun r218 r318=>some ((r218,r318,()),())) b17) F p12.2.2.2.2.2 (p12.2.2.2.2.2.length:Int) 0 c_13.1.1) F p7.2.2.2.2.1 (p7.2.2.2.2.1.length:Int) 0 p7 c_8.1.1) q.2.2.2.1 _ q q.2.2.2.1 _ _ (by simp[wN,n1]; omega)).trans ?_
 rw[show ya.sh F _ (u64.wrap (q.2.2.2.2.1.length:Int)) 2=_ from vX F hF64 _ (vK (q.2.2.2.2.1.length:Int)) 2 (by omega) (by simp[wN,n1,n2]; omega),zD];simp only;refine (za1 F hF64 (fun p12 b12=>oB (ya.sh F b12 (u64.wrap (p12.2.2.2.2.2.length:Int)) 2) fun c_13 =>
  zb.l29 F (fun t11217 t11317 t11417 t11517 b17=>zb.j33 F (fun r218 r318=>some ((r218,r318,()),())) b17) F p12.2.2.2.2.2 (p12.2.2.2.2.2.length:Int) 0 c_13.1.1) q.2.2.2.2.1 hS q q.2.2.2.2.1 0 F _ rfl (by omega) hS16 (by simp[wN,n1,n2]; omega)).trans ?_
 rw[show ya.sh F _ (u64.wrap (q.2.2.2.2.2.length:Int)) 2=_ from vX F hF64 _ (vK (q.2.2.2.2.2.length:Int)) 2 (by omega) (by simp[wN,n1,n2]; omega),zD];simp only;refine (zb.l29.rg_eq F _ q.2.2.2.2.2 _ rfl (by omega) q.2.2.2.2.2 0 F _ rfl (by omega)).trans ?_;refine (enc_K F hF64 (fun b17=>zb.j33 F (fun r218 r318=>some ((r218,r318,()),())) b17) q.2.2.2.2.2 _ q.2.2.2.2.2 _ _ (by simp[wN,n1,n2]; omega)).trans ?_;unfold zb.j33 encP;rfl
theorem zav:yw.sh FU=some ((true,()),()):=by kernel_rfl
theorem Mags_eq {p:zI.T} {t:Tree} (h:Good p t):xa.sh FU p=some (((Xg p.2.1 t).1,(Xg p.2.1 t).2.1,(Xg p.2.1 t).2.2,()),()):=by
 unfold xa.sh Xg;rw[RJ h];simp only[zD];cases h1:((wG p.2.1 t).2.2 != 0) with
 | true=>rfl
 | false =>
  have h1:(wG p.2.1 t).2.2=0:=by simpa using h1
  obtain ⟨a1,a2,a3,a4⟩:=XN h1;have hu:=XM (t:=t) (by omega);simp only[cond_false];rw[a4];simp only;rw[Xf FU WQ hu.1 hu.2 h];simp only[zD];rw[decide_eq_false (show ¬(ZG (un t) p.2.1 t).2>=0 by omega)];rfl
theorem zaD {p:zI.T} (h:(xO p).2≠0):xa.sh FU p=some (([],(xO p).1,(xO p).2,()),()):=by
 unfold xa.sh;rw[TW h];simp only[zD];rw[show ((xO p).2 != 0)=true by simpa using h];rfl
def Ris (s:EmS):Prop:=∀x∈s.2.1,tI x=true
theorem SW {s:EmS} {op:Int} {t:List zo.T} (h:Ris s) (ht:tI t=true):Ris (XV s op t):=by
 obtain ⟨_,_,r,h3,h4⟩:=VU s.2.1 t;intro x hx;have hx:x∈(ZA s.2.1 t).2:=hx;rw[h3] at hx;rcases List.mem_append.1 hx with hx | hx
 ·exact h x hx
 ·rw[h4 x hx]; exact ht
theorem SX {u:Int}:∀(ks:List Tree),(∀k∈ks,∀s,Ris s->Ris (em u k s))->∀s,Ris s->Ris (tk (ks.map (em u)) s)
 | [],_,s,hs=>hs
 | k::r,h,s,hs=>SX r (fun x hx=>h x (by simp[hx])) (em u k s) (h k (by simp) s hs)
theorem VV {u:Int} {op:Int}:∀(ks:List Tree),(∀k∈ks,∀s,Ris s->Ris (em u k s))->∀s,Ris s->Ris ((ks.map (em u)).foldl (fun s k=>wP (k s) op 0) s)
 | [],_,s,hs=>hs
 | k::r,h,s,hs=>VV r (fun x hx=>h x (by simp[hx])) (wP (em u k s) op 0) (h k (by simp) s hs)
theorem em_ris {u:Int} {dims:Nat} (t:Tree):WF dims t->∀s,Ris s->Ris (em u t s):=by
 refine Tree.ind (P:=fun t=>WF dims t->∀s,Ris s->Ris (em u t s)) (fun n ks ih hw s hs=>?_) t;have hk:∀k∈ks,∀s,Ris s->Ris (em u k s):=fun k hk=>ih k hk ((v8.1 hw).2 k hk)
 have hg:ub n=true:=hw.good.1;have har:=fun (k:Int) (h:nK n=k)=>hw.arK (k:=k) h
 obtain ⟨_,_,_,_,_,_,_,h8⟩:=wb (v8.1 hw).1.2;have hall:=SX ks hk s hs;have tier:∀k:Int,nK n=k->(get yG we k.toNat).2.2.1=true->tI (nT n)=true:=fun k h e=>h8 (by unfold uo qD; rw[h]; exact e)
 rw[Rj];rcases tu hg with h | h | h | h | h | h | h | h | h | h | h | h | h | h | h | h
 ·rw[emN1 h]; exact hs
 ·rw[emN2 h]; exact hs
 ·rw[emN3 h]; exact hs
 ·rw[emN4 h]; exact hs
 ·rw[emN5 h]; exact hall
 ·rw[emN6 h]; exact hall
 ·rw[emN7 h]; exact hall
 ·rw[emN8 h]; exact hall
 ·rw[emN9 h]
  cases ks with
  | nil=>exact hs
  | cons k r=>exact VV r (fun x hx=>hk x (by simp[hx])) _ (hk k (by simp) s hs)
 ·rw[Rq h]
  cases ks with
  | nil=>exact hs
  | cons k r=>exact VV r (fun x hx=>hk x (by simp[hx])) _ (hk k (by simp) s hs)
 ·rw[Rp h]; exact hall
 ·rw[Ro h]; exact hall
 ·rw[Rn h]; exact SW hall (tier 13 h rfl)
 ·rw[Rm h]; exact SW hall (tier 14 h rfl)
 ·rw[Rl h]; exact hall
 ·obtain ⟨a,b,c,rfl⟩:=three (show ks.length=3 from har 16 h)
  rw[Rk h];exact hk c (by simp) _ (hk b (by simp) _ (hk a (by simp) s hs))
theorem zau {d nc ns:Nat} {c:zM.T} (h:InsOK d nc ns c) (hd:d<=4) (hc:nc<=1024) (hs:ns<=1024):((0:Int)<=iO c/\iO c<=(255:Int))/\(0:Int)<=iA c/\iA c<=(65535:Int):=by
 obtain ⟨a,s,b,z⟩:=h;unfold WR at b;omega
theorem skip_bd {v:Int} {i l:Nat} (h:v+(i:Int)+1<=(l:Int)) (hl:l<=8192):v<=(65535:Int):=by omega
theorem prog_ok {p:zI.T} {t:Tree} (hg:Good p t) (h0:(wG p.2.1 t).2.2=0):SN (uB p t):=by
 have hw:=hg.wf;have hs:t.size<=1024:=by unfold Tree.size; rw[hg.flat]; exact hg.len
 obtain ⟨_,hdeep,_,_⟩:=XN h0;obtain ⟨hd1,hd2,hd3,_,hm1,hm2⟩:=ug hg.head;have hup:=u6 (u:=un t) t hw ([],[],[]);have hcs:=uy t hw;have hC:(uB p t).2.2.2.1.length<=0+t.size:=hup.Cn;have hS:(uB p t).2.2.2.2.1.length<=0+t.size:=hup.Sn;have hK:(uB p t).2.2.2.2.2.length=0+cnt t:=hup.Kn;obtain ⟨r,e,hseg⟩:=em_seg (u:=un t) t hw ([],[],[]);have e:(uB p t).2.2.2.2.2=r:=by show (em (un t) t ([],[],[])).2.2=r; rw[e]; rfl
 rw[<-e] at hseg;have hseg:SegOK p.2.1.length (uB p t).2.2.2.1.length (uB p t).2.2.2.2.1.length (uB p t).2.2.2.2.2:=hseg;exact {
  m1:=hm1
  m2:=hm2
  s1:=(XH t).1
  s2:=hdeep
  d1:=by show 1<=(p.2.1.map (·.2)).length; rw[List.length_map]; exact hd1
  d2:=by show (p.2.1.map (·.2)).length<=4; rw[List.length_map]; exact hd2
  sz:=fun x hx=>by
   obtain ⟨d,hd,rfl⟩:=List.mem_map.1 (show x∈p.2.1.map (·.2) from hx)
   exact WE p.2.1 [] hd3 d hd
  C:=by omega
  S:=by omega
  K:=by omega
  t:=em_ris t hw ([],[],[]) (by intro x hx; simp at hx)
  c:=fun x hx=>by
   obtain ⟨i,hi⟩:=List.getElem?_of_mem hx;obtain ⟨h1,h2⟩:=hseg i x hi;obtain ⟨b1,b2⟩:=zau h1 hd2 (by omega) (by omega);exact ⟨b1,b2,h1.s,skip_bd h2 (by omega)⟩}
theorem UT (F:Nat):zd.sh (F+1) (0,0,[],[],[],[]) (0,0,[],[],[],[])=some ((true,()),()):=rfl
theorem VE (F:Nat) {R:Type} (k0:Bool->Option R) (kk:Option R) (p:zI.T) (q:zi.T) (hq:q.2.2.1=p.2.1.map (·.2)) (hl:p.2.1.length<=4):∀(n i fu:Nat),i+n=p.2.1.length->n<fu->zm.l14 F k0 (fun _ _ _ _=>kk) fu (i:Int) p q=kk
 | _,_,0,_,h=>by omega
 | 0,i,fu+1,hi,hf=>by
  unfold zm.l14 zm.l14.body;rw[decide_eq_false (by omega)]; rfl
 | n+1,i,fu+1,hi,hf=>by
  have ih:=VE F k0 kk p q hq hl n (i+1) fu (by omega) (by omega);have hlt:i<p.2.1.length:=by omega
  unfold zm.l14 zm.l14.body;rw[decide_eq_true (show (i:Int)<(p.2.1.length:Int) by omega),yZ hlt,yZ (show i<q.2.2.1.length by rw[hq,List.length_map]; exact hlt)];have e1:get (.int .i64) q.2.2.1 ((i:Int)).toNat=(p.2.1[i]'hlt).2:=by
   show q.2.2.1.getD i _=_;rw[List.getD_eq_getElem?_getD,hq,List.getElem?_map,List.getElem?_eq_getElem hlt]; rfl
  have e2:get xd p.2.1 ((i:Int)).toNat=p.2.1[i]'hlt:=by
   show p.2.1.getD i _=_;rw[List.getD_eq_getElem?_getD,List.getElem?_eq_getElem hlt]; rfl
  rw[e1,e2];simp only[cond_true,bne_self_eq_false,cond_false];rw[yT (by omega) (by omega),<-y4];exact ih
theorem R9 (F:Nat) (hF:4194304<=F) (hW:yw.sh F=some ((true,()),())) (p:zI.T)
  (hG:∀t,Good p t->zL.sh F p=some (((tQ p t).1,(tQ p t).2.1,(tQ p t).2.2,()),())) (hM:∀t,Good p t->xa.sh F p=some (((Xg p.2.1 t).1,(Xg p.2.1 t).2.1,(Xg p.2.1 t).2.2,()),()))
  (hB:(xO p).2≠0->zL.sh F p=some (((0,0,[],[],[],[]),(xO p).1,(xO p).2,()),())) (hMB:(xO p).2≠0->xa.sh F p=some (([],(xO p).1,(xO p).2,()),())):zm.sh F p=some ((true,()),()):=by
 obtain ⟨f,rfl⟩:∃f,F=f+1:=⟨F-1,by omega⟩;unfold zm.sh;rw[hW,zD];simp only[Bool.not_true,cond_false];by_cases hc:(xO p).2=0
 ·obtain ⟨t,hg⟩:=zai hc
  rw[hG t hg,zD,hM t hg,zD];simp only;unfold Xg;cases he:((wG p.2.1 t).2.2 != 0) with
  | true =>
   unfold tQ;rw[he];simp only[cond_true,bne_self_eq_false,cond_false];rw[he,UT f]; rfl
  | false =>
   have h0:(wG p.2.1 t).2.2=0:=by simpa using he
   rw[Tz h0];simp only[cond_false,bne_self_eq_false];have hpok:=prog_ok hg h0;have hup:=u6 (u:=un t) t hg.wf ([],[],[]);have hcs:=uy t hg.wf;have hK:(uB p t).2.2.2.2.2.length=0+cnt t:=hup.Kn;have hsz:t.size=p.2.2.2.length:=by unfold Tree.size; rw[hg.flat]
   have hlen:=hg.len;obtain ⟨hd1,hd2,_⟩:=ug hg.head;rw[WN (f+1) (by omega) hg,zD,Qs (f+1) (by omega) hpok,zD];simp only[bne_self_eq_false,cond_false];rw[show ((uB p t).1 != p.2.2.1)=false from bne_self_eq_false _,show decide ((uB p t).2.1>vg t)=false from qf (Int.le_refl _)];simp only[cond_false];rw[show ((uB p t).2.2.1.length:Int)=(p.2.1.length:Int) by show ((p.2.1.map (·.2)).length:Int)=_; rw[List.length_map]]
   simp only[bne_self_eq_false,cond_false];rw[yT (by omega) (by omega),show decide (((uB p t).2.2.2.2.2.length:Int)>8*(p.2.2.2.length:Int))=false from qf (by omega)];simp only[cond_false];exact VE (f+1) _ (some ((true,()),())) p (uB p t) rfl hd2 p.2.1.length 0 (f+1) (by omega) (by omega)
 ·rw[hB hc,zD,hMB hc,zD]
  simp only[bne_self_eq_false,cond_false];rw[show ((xO p).2 != 0)=true by simpa using hc,UT f]; rfl
theorem R8 (p:zI.T):zm.sh FU p=some ((true,()),()):=R9 FU (by decide) zav p (fun _ h=>Emit_eq h) (fun _ h=>Mags_eq h) zaF zaD
end Go.VS
