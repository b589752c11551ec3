/- Plain laws, joined from smaller texts. -/
import Derived.Test.YtepflleaeogafaaGreatDoorQKb
import Derived.Test.YtepflleaeogafaaGreatDoorQKa
set_option linter.unusedVariables false
set_option linter.unusedSimpArgs false
set_option linter.unusedSectionVars false
set_option maxRecDepth 100000
namespace Go.VS
open Go IntKind
abbrev z0:LZ:=(0,0,0)
def xR (l:LZ) (n:Int):LZ:=uc l (xD n)
def YJ (l:LZ) (ts:List yp.T) (n:Nat):List LZ :=
 (if n=0 then [] else [xR l (tF (ts.getD (n-1) (0,0)))])++(if n<ts.length then [xR l (tF (ts.getD n (0,0)))] else [])
def Z8 (u:Int) (l:LZ) (ts:List yp.T) (n:Nat):LZ :=
 if n=0 then z0 else yO (qJ (yO (xR l (tF (ts.getD (n-1) (0,0)))) (tR (ts.getD (n-1) (0,0)))) (xD (Zp ts (n-1)))) u
def X7 (u:Int) (l:LZ) (ts:List yp.T) (n:Nat):LZ:=if n=0 then z0 else yO (yO l (tR (ts.getD (n-1) (0,0)))) u
def Ro (N a:Int):Int:=ZX 2 (a*(10000-N)) 10000
def Tq (N:Int) (l:LZ):LZ:=(Ro N l.1,Ro N l.2.1,Ro N l.2.2)
def chZ (n:zx.T) (u s:Int) (k:List LZ) (q:Int):LZ×List LZ :=
 bif nK n==5 then (uc z0 (k.getD 0 z0),[])
 else bif nK n==6 then (qJ (k.getD 0 z0) (k.getD 1 z0),[])
 else bif nK n==7 then (uc (k.getD 0 z0) (k.getD 1 z0),[])
 else bif nK n==8 then ((if k.getD 0 z0=xD (k.getD 0 z0).1 then yO (k.getD 1 z0) (k.getD 0 z0).1 else yO (k.getD 0 z0) (k.getD 1 z0).1),[])
 else bif nK n==9 then ((bif vE s (uc (k.getD 0 z0) (k.getD 1 z0)) q then k.getD 1 z0 else k.getD 0 z0),[uc (k.getD 0 z0) (k.getD 1 z0)])
 else bif nK n==10 then ((bif vE s (uc (k.getD 1 z0) (k.getD 0 z0)) q then k.getD 1 z0 else k.getD 0 z0),[uc (k.getD 1 z0) (k.getD 0 z0)])
 else bif nK n==11 then ((bif vE s (xR (k.getD 0 z0) (nN n)) q then xR (k.getD 0 z0) (nN n) else z0),[xR (k.getD 0 z0) (nN n)])
 else bif nK n==12 then ((bif vE s (xR (k.getD 0 z0) (nN n)) q then xD (nN n) else k.getD 0 z0),[xR (k.getD 0 z0) (nN n)])
 else bif nK n==13 then (Z8 u (k.getD 0 z0) (nT n) (uw (yK s (k.getD 0 z0) q) (nT n)),YJ (k.getD 0 z0) (nT n) (uw (yK s (k.getD 0 z0) q) (nT n)))
 else bif nK n==14 then (X7 u (k.getD 0 z0) (nT n) (uw (yK s (k.getD 0 z0) q) (nT n)),YJ (k.getD 0 z0) (nT n) (uw (yK s (k.getD 0 z0) q) (nT n)))
 else bif nK n==15 then (Tq (nN n) (k.getD 0 z0),[])
 else ((bif ZC (nO n) (yK s (k.getD 0 z0) q) (nN n) then k.getD 1 z0 else k.getD 2 z0),[xR (k.getD 0 z0) (nN n),xR (k.getD 0 z0) (nN n-1)])
def Got (s M:Int) (W:Int->Int) (q:Int) (g:LZ×List LZ):Prop :=
 yk s g.1<=M/\(∀t∈g.2,yk s t<=LIM)/\g.2.length<=16/\∀x,(∀t∈g.2,vE s t x=vE s t q)->yK s g.1 x=W x
theorem WF (s:Int):yk s z0=0:=by
 have:nA 0=0:=rfl;simp[yk,this]
theorem QC (s q:Int):yK s z0 q=0:=by simp[yK]
theorem tX {s:Int} (h:1<=s) (l:LZ) (n:Int):yk s (xR l n)<=yk s l+nA n:=by
 have:=Zd h l (xD n);rw[tB] at this;exact this
theorem T1 (s:Int) (l:LZ) (n q:Int):yK s (xR l n) q=yK s l q-n:=by
 unfold xR; rw[VE,Yo]
theorem qK (s:Int) (l:LZ) (n q:Int):vE s (xR l n) q=decide (n<yK s l q):=by
 unfold vE; rw[T1]; exact decide_eq_decide.2 (by omega)
theorem Xk {s M:Int} {W:Int->Int} {q:Int} {l:LZ} (h1:yk s l<=M) (h2:∀x,yK s l x=W x):Got s M W q (l,[]) :=
 ⟨h1,by simp,by simp,fun x _=>h2 x⟩
theorem got_neg {s A:Int} (hs:1<=s) {a:LZ} (ha:yk s a<=A) (q:Int):Got s A (fun x=>0-yK s a x) q (uc z0 a,[]) :=
 Xk (by have:=Zd hs z0 a; rw[WF] at this; omega) (fun x=>by rw[VE,QC])
theorem got_add {s A B:Int} (hs:1<=s) {a b:LZ} (ha:yk s a<=A) (hb:yk s b<=B) (q:Int):Got s (A+B) (fun x=>yK s a x+yK s b x) q (qJ a b,[]) :=
 Xk (by have:=VK hs a b; omega) (fun x=>by rw[zcG])
theorem got_sub {s A B:Int} (hs:1<=s) {a b:LZ} (ha:yk s a<=A) (hb:yk s b<=B) (q:Int):Got s (A+B) (fun x=>yK s a x-yK s b x) q (uc a b,[]) :=
 Xk (by have:=Zd hs a b; omega) (fun x=>by rw[VE])
theorem Qo {a:LZ} (h:a=xD a.1) (s x:Int):yK s a x=a.1:=by rw[h,Yo]; rfl
theorem S6 {s:Int} {a:LZ} (h:a=xD a.1):yk s a=nA a.1:=by rw[h,tB]; rfl
theorem zde {s A B:Int} (hs:1<=s) {a b:LZ} (ha:yk s a<=A) (hb:yk s b<=B) (hc:a=xD a.1\/b=xD b.1) (q:Int) :
  Got s (A*B) (fun x=>yK s a x*yK s b x) q ((if a=xD a.1 then yO b a.1 else yO a b.1),[]):=by
 have n1:=Xt hs a;have n2:=Xt hs b;have hm:yk s a*yk s b<=A*B:=Int.mul_le_mul ha hb n2 (by omega);by_cases h:a=xD a.1
 ·rw[if_pos h]
  exact Xk (by rw[uL,<-S6 h,Int.mul_comm]; exact hm) (fun x=>by rw[Zw,Qo h,Int.mul_comm])
 ·rw[if_neg h]
  have h:=hc.resolve_left h;exact Xk (by rw[uL,<-S6 h]; exact hm) (fun x=>by rw[Zw,Qo h])
theorem got_min {s A B:Int} (hs:1<=s) {a b:LZ} (ha:yk s a<=A) (hb:yk s b<=B) (hA:0<=A) (hB:0<=B) (hL:A+B<=LIM) (q:Int) :
  Got s (A+B) (fun x=>if yK s b x<yK s a x then yK s b x else yK s a x) q ((bif vE s (uc a b) q then b else a),[uc a b]):=by
 have hd:=Zd hs a b;refine ⟨by cases vE s (uc a b) q<;>simp only[cond_true,cond_false]<;>omega,fun t ht=>?_,by simp,fun x hx=>?_⟩
 ·rw[List.mem_singleton.1 ht]; omega
 ·rw[<-hx _ (List.mem_singleton.2 rfl)]
  unfold vE;rw[VE];by_cases h:yK s b x<yK s a x
  ·rw[decide_eq_true (show yK s a x-yK s b x>0 by omega)]; exact (if_pos h).symm
  ·rw[decide_eq_false (show ¬yK s a x-yK s b x>0 by omega)]; exact (if_neg h).symm
theorem got_max {s A B:Int} (hs:1<=s) {a b:LZ} (ha:yk s a<=A) (hb:yk s b<=B) (hA:0<=A) (hB:0<=B) (hL:A+B<=LIM) (q:Int) :
  Got s (A+B) (fun x=>if yK s b x>yK s a x then yK s b x else yK s a x) q ((bif vE s (uc b a) q then b else a),[uc b a]):=by
 have hd:=Zd hs b a;refine ⟨by cases vE s (uc b a) q<;>simp only[cond_true,cond_false]<;>omega,fun t ht=>?_,by simp,fun x hx=>?_⟩
 ·rw[List.mem_singleton.1 ht]; omega
 ·rw[<-hx _ (List.mem_singleton.2 rfl)]
  unfold vE;rw[VE];by_cases h:yK s b x>yK s a x
  ·rw[decide_eq_true (show yK s b x-yK s a x>0 by omega)]; exact (if_pos h).symm
  ·rw[decide_eq_false (show ¬yK s b x-yK s a x>0 by omega)]; exact (if_neg h).symm
theorem zfO {s A N:Int} (hs:1<=s) {a:LZ} (ha:yk s a<=A) (hN:0<=N) (hA:0<=A) (hL:A+N<=LIM) (q:Int) :
  Got s (A+N) (fun x=>X5 [0,yK s a x-N]) q ((bif vE s (xR a N) q then xR a N else z0),[xR a N]):=by
 have hd:=tX hs a N;rw[qt hN] at hd;refine ⟨by cases vE s (xR a N) q<;>simp only[cond_true,cond_false]<;>first | (rw[WF]; omega) | omega,fun t ht=>?_,by simp,fun x hx=>?_⟩
 ·rw[List.mem_singleton.1 ht]; omega
 ·rw[<-hx _ (List.mem_singleton.2 rfl),qK]
  show _=(if yK s a x-N>0 then yK s a x-N else 0);by_cases h:N<yK s a x
  ·rw[decide_eq_true h,if_pos (by omega),cond_true,T1]
  ·rw[decide_eq_false h,if_neg (by omega),cond_false,QC]
theorem zfM {s A N:Int} (hs:1<=s) {a:LZ} (ha:yk s a<=A) (hN:0<=N) (hA:0<=A) (hL:A+N<=LIM) (q:Int) :
  Got s (A+N) (fun x=>minL [N,yK s a x]) q ((bif vE s (xR a N) q then xD N else a),[xR a N]):=by
 have hd:=tX hs a N;rw[qt hN] at hd;have hc:=tB (s:=s) N;rw[qt hN] at hc;refine ⟨by cases vE s (xR a N) q<;>simp only[cond_true,cond_false]<;>omega,fun t ht=>?_,by simp,fun x hx=>?_⟩
 ·rw[List.mem_singleton.1 ht]; omega
 ·rw[<-hx _ (List.mem_singleton.2 rfl),qK]
  show _=(if yK s a x<N then yK s a x else N);by_cases h:N<yK s a x
  ·rw[decide_eq_true h,if_neg (by omega),cond_true,Yo]
  ·rw[decide_eq_false h]
   show yK s a x=_;split<;>omega
theorem qd (z:LZ) (a b:Int):yO (yO z a) b=yO z (a*b):=by simp only[yO,Int.mul_assoc]
theorem Vg (N c:Int):Ro N (c*10000)=c*(10000-N):=by
 unfold Ro;rw[Int.mul_right_comm,S3 (by decide)]
theorem Vh (N:Int) (z:LZ):Tq N (yO z 10000)=yO z (10000-N):=by
 unfold Tq yO;simp only[Vg]
theorem got_off {s A N:Int} (hs:1<=s) {a:LZ} (ha:yk s a<=A) (hN:0<=N) (hN2:N<=10000) (hd:∃z,a=yO z 10000) (q:Int) :
  Got s A (fun x=>ZX 2 (yK s a x*(10000-N)) 10000) q (Tq N a,[]):=by
 obtain ⟨z,rfl⟩:=hd;rw[Vh];refine Xk ?_ (fun x=>?_)
 ·rw[uL] at ha ⊢
  have:=Xt hs z;rw[qt (show 0<=10000-N by omega)];rw[qt (by omega)] at ha;have:=Int.mul_le_mul_of_nonneg_left (show 10000-N<=10000 by omega) this;omega
 ·rw[Zw,Zw]
  exact (Vg N (yK s z x)).symm
theorem zfN {s A B C N:Int} (hs:1<=s) {a b c:LZ} (ha:yk s a<=A) (hb:yk s b<=B) (hc:yk s c<=C) (hN:0<=N) (hA:0<=A) (hB:0<=B) (hC:0<=C) (hL:A+N+1<=LIM) (op q:Int) :
  Got s (A+(B+C)+N) (fun x=>bif ZC op (yK s a x) N then yK s b x else yK s c x) q ((bif ZC op (yK s a q) N then b else c),[xR a N,xR a (N-1)]):=by
 have h1:=tX hs a N;have h2:=tX hs a (N-1);rw[qt hN] at h1;have h3:nA (N-1)<=N+1:=by unfold nA; omega
 refine ⟨by cases ZC op (yK s a q) N<;>simp only[cond_true,cond_false]<;>omega,fun t ht=>?_,by simp,fun x hx=>?_⟩
 ·simp only[List.mem_cons,List.not_mem_nil,or_false] at ht
  rcases ht with rfl | rfl<;>omega
 ·have e1:=hx (xR a N) (by simp)
  have e2:=hx (xR a (N-1)) (by simp);rw[qK,qK] at e1 e2;have e1:=decide_eq_decide.1 e1;have e2:=decide_eq_decide.1 e2;have:ZC op (yK s a x) N=ZC op (yK s a q) N:=by
   unfold ZC;rw[decide_eq_decide.2 (show yK s a x<N↔yK s a q<N by omega),decide_eq_decide.2 (show yK s a x<=N↔yK s a q<=N by omega),decide_eq_decide.2 (show yK s a x>N↔yK s a q>N by omega),
    decide_eq_decide.2 (show yK s a x>=N↔yK s a q>=N by omega),decide_eq_decide.2 (show yK s a x=N↔yK s a q=N by omega)]
  show yK s (bif ZC op (yK s a q) N then b else c) x=bif ZC op (yK s a x) N then yK s b x else yK s c x
  rw[this];cases ZC op (yK s a q) N<;>rfl
theorem SJ:∀(l:List yp.T) (lo:Int),W0 lo l->∀t∈l,lo<tF t
 | [],lo,h,t,ht=>by simp at ht
 | a::r,lo,h,t,ht=>by
  obtain ⟨a1,a2,a3,a4,a5⟩:=h;rcases List.mem_cons.1 ht with rfl | ht
  ·exact a1
  ·have:=SJ r (tF a) a5 t ht; omega
theorem zao {l:List yp.T} {n:Nat} (h:n<l.length):l.getD n (0,0)∈l:=by
 rw[List.getD_eq_getElem?_getD,List.getElem?_eq_getElem h]; exact List.getElem_mem _
theorem zbg:∀(l:List yp.T) (lo:Int),W0 lo l->∀(x:Int) (n:Nat),n<=l.length->(0<n->tF (l.getD (n-1) (0,0))<x)->(n<l.length->¬tF (l.getD n (0,0))<x)->uw x l=n
 | [],lo,h,x,n,h1,h2,h3=>by simp at h1; simp[uw,h1]
 | a::r,lo,h,x,0,h1,h2,h3=>by
  have:¬tF a<x:=h3 (by simp);simp only[uw]; rw[if_neg this]
 | a::r,lo,h,x,n+1,h1,h2,h3=>by
  obtain ⟨a1,a2,a3,a4,a5⟩:=h;have h2:tF ((a::r).getD n (0,0))<x:=h2 (by omega);have hax:tF a<x:=by
   cases n with
   | zero=>exact h2
   | succ m =>
    have:=SJ r (tF a) a5 _ (zao (show m<r.length by simp at h1; omega));have h2:tF (r.getD m (0,0))<x:=h2;omega
  simp only[uw]; rw[if_pos hax,zbg r (tF a) a5 x n (by simpa using h1) (fun h=>by
   obtain ⟨m,rfl⟩:∃m,n=m+1:=⟨n-1,by omega⟩;exact h2) (fun h=>h3 (by simp; omega))]
theorem zdp:∀(l:List yp.T) (x:Int),(0<uw x l->tF (l.getD (uw x l-1) (0,0))<x)/\(uw x l<l.length->¬tF (l.getD (uw x l) (0,0))<x)
 | [],x=>by simp[uw]
 | a::r,x=>by
  have ih:=zdp r x;simp only[uw];by_cases h:tF a<x
  ·rw[if_pos h,Nat.add_sub_cancel]
   refine ⟨fun _=>?_,fun h1=>ih.2 (by simp at h1; omega)⟩;cases hc:uw x r with
   | zero=>exact h
   | succ m=>have:=ih.1 (by omega); rw[hc] at this; exact this
  ·rw[if_neg h]
   exact ⟨fun h=>by omega,fun _=>h⟩
theorem SF:∀(l:List yp.T) (lo:Int),W0 lo l->∀n,n<l.length->tF (l.getD n (0,0))<=tg l
 | [],lo,h,n,hn=>by simp at hn
 | [a],lo,h,n,hn=>by
  have:n=0:=by simp at hn; omega
  subst this; exact Int.le_refl _
 | a::b::r,lo,h,0,hn=>by
  obtain ⟨a1,a2,a3,a4,a5⟩:=h;have:=SF (b::r) (tF a) a5 0 (by simp);have h2:=a5.1;have:tF b<=tg (b::r):=this;show tF a<=tg (b::r);omega
 | a::b::r,lo,h,n+1,hn=>by
  obtain ⟨a1,a2,a3,a4,a5⟩:=h;exact SF (b::r) (tF a) a5 n (by simpa using hn)
theorem ZZ {l:List yp.T} {lo:Int} (hlo:-1<=lo) (hi:W0 lo l) {n:Nat} (h:n<l.length):0<=tF (l.getD n (0,0))/\tF (l.getD n (0,0))<=tg l/\nA (tR (l.getD n (0,0)))<=qp 0 l:=by
 have hm:l.getD n (0,0)∈l:=zao h;have h1:=SJ l lo hi _ hm;have h2:=(Xc l 0).2 _ hm;refine ⟨by omega,SF l lo hi n h,?_⟩;unfold tW at h2;unfold nA;split at h2<;>omega
theorem zcH {s A:Int} (hs:1<=s) {a:LZ} (ha:yk s a<=A) (hA:0<=A) (hL:A<=BND) {ts:List yp.T} (hr:Zq ts=true) (q:Int) :
  (∀t∈YJ a ts (uw (yK s a q) ts),yk s t<=LIM)/\(YJ a ts (uw (yK s a q) ts)).length<=16/\∀x,(∀t∈YJ a ts (uw (yK s a q) ts),vE s t x=vE s t q)->uw (yK s a x) ts=uw (yK s a q) ts:=by
 obtain ⟨l1,l2,l3⟩:=tN hr;have hcl:=YV (yK s a q) ts;obtain ⟨c1,c2⟩:=zdp ts (yK s a q);have hBND:BND=1329227995784915872903807060280344576:=rfl;have hLIM:LIM=85070591730234615865843651857942052864:=rfl;have hlf:=Zg ts (-1) (by omega) l3;generalize hn:uw (yK s a q) ts=n at*;have hsp:∀i,i<ts.length->yk s (xR a (tF (ts.getD i (0,0))))<=LIM:=fun i hi=>by
  have h1:=tX hs a (tF (ts.getD i (0,0)));obtain ⟨t1,t2,_⟩:=ZZ (by omega) l3 hi;rw[qt t1] at h1;omega
 unfold YJ;refine ⟨fun t ht=>?_,by split<;>split<;>simp,fun x hx=>?_⟩
 ·rcases List.mem_append.1 ht with ht | ht
  ·split at ht
   ·simp at ht
   ·rw[List.mem_singleton.1 ht]; exact hsp _ (by omega)
  ·split at ht
   ·rw[List.mem_singleton.1 ht]; exact hsp _ (by omega)
   ·simp at ht
 ·refine zbg ts (-1) l3 _ n hcl (fun h0=>?_) (fun h0=>?_)
  ·have:=hx (xR a (tF (ts.getD (n-1) (0,0)))) (by rw[if_neg (by omega)]; simp)
   rw[qK,qK] at this;exact (decide_eq_decide.1 this).2 (c1 h0)
  ·have:=hx (xR a (tF (ts.getD n (0,0)))) (by rw[if_pos h0]; simp)
   rw[qK,qK] at this;exact fun h=>c2 h0 ((decide_eq_decide.1 this).1 h)
theorem zfP {s A u:Int} (hs:1<=s) (hu:1<=u) {a:LZ} (ha:yk s a<=A) (hA:0<=A) (hL:A<=BND) {ts:List yp.T} (hr:Zq ts=true) (q:Int) :
  Got s (uX u A ts) (fun x=>u*grad (yK s a x) ts) q (Z8 u a ts (uw (yK s a q) ts),YJ a ts (uw (yK s a q) ts)):=by
 obtain ⟨l1,l2,l3⟩:=tN hr;obtain ⟨t1,t2,t3⟩:=zcH hs ha hA hL hr q;have hcl:=YV (yK s a q) ts;have hlf:=Zg ts (-1) (by omega) l3;have hr0:=(Xc ts 0).1;have hm0:=Int.mul_nonneg hr0 (show 0<=A+tg ts by omega);have hw0:=(ZH ts (-1) (by omega) l3).1;refine ⟨?_,t1,t2,fun x hx=>?_⟩
 ·unfold Z8 uX
  have hz:=Int.mul_nonneg (show 0<=u by omega) (show 0<=qp 0 ts*(A+tg ts)+tT ts by omega);split
  ·rw[WF]; exact hz
  ·generalize hn:uw (yK s a q) ts=n at*
   obtain ⟨i1,i2,i3⟩:=ZZ (by omega) l3 (show n-1<ts.length by omega);have hw:=Tw ts (-1) (n-1) (by omega) l3;rw[uL,qt (show 0<=u by omega),Int.mul_comm];refine Int.mul_le_mul_of_nonneg_left ?_ (by omega);have h1:=VK hs (yO (xR a (tF (ts.getD (n-1) (0,0)))) (tR (ts.getD (n-1) (0,0)))) (xD (Zp ts (n-1)));rw[uL,tB] at h1;have h2:=tX hs a (tF (ts.getD (n-1) (0,0)));rw[qt i1] at h2;have h3:nA (Zp ts (n-1))<=tT ts:=by unfold nA; omega
   have h4:=Int.mul_le_mul (show yk s (xR a (tF (ts.getD (n-1) (0,0))))<=A+tg ts by omega) i3 (qA _) (by omega);rw[Int.mul_comm (A+tg ts)] at h4;omega
 ·have e:=t3 x hx
  show yK s (Z8 u a ts (uw (yK s a q) ts)) x=u*grad (yK s a x) ts;unfold Z8 grad zam;rw[e];split
  ·rw[QC,Int.mul_zero]
  ·rw[Zw,zcG,Zw,Yo,T1,Int.mul_comm,Int.add_comm,Int.mul_comm (tR _)]
theorem got_vol {s A u:Int} (hs:1<=s) (hu:1<=u) {a:LZ} (ha:yk s a<=A) (hA:0<=A) (hL:A<=BND) {ts:List yp.T} (hr:Zq ts=true) (q:Int) :
  Got s (uX u A ts) (fun x=>u*vol (yK s a x) ts) q (X7 u a ts (uw (yK s a q) ts),YJ a ts (uw (yK s a q) ts)):=by
 obtain ⟨l1,l2,l3⟩:=tN hr;obtain ⟨t1,t2,t3⟩:=zcH hs ha hA hL hr q;have hcl:=YV (yK s a q) ts;have hlf:=Zg ts (-1) (by omega) l3;have hr0:=(Xc ts 0).1;have hm0:=Int.mul_nonneg hr0 (show 0<=A+tg ts by omega);have hw0:=(ZH ts (-1) (by omega) l3).1;refine ⟨?_,t1,t2,fun x hx=>?_⟩
 ·unfold X7 uX
  have hz:=Int.mul_nonneg (show 0<=u by omega) (show 0<=qp 0 ts*(A+tg ts)+tT ts by omega);split
  ·rw[WF]; exact hz
  ·generalize hn:uw (yK s a q) ts=n at*
   obtain ⟨i1,i2,i3⟩:=ZZ (by omega) l3 (show n-1<ts.length by omega);rw[uL,uL,qt (show 0<=u by omega),Int.mul_comm];refine Int.mul_le_mul_of_nonneg_left ?_ (by omega);have h4:=Int.mul_le_mul (show yk s a<=A+tg ts by omega) i3 (qA _) (by omega);rw[Int.mul_comm (A+tg ts)] at h4;omega
 ·have e:=t3 x hx
  show yK s (X7 u a ts (uw (yK s a q) ts)) x=u*vol (yK s a x) ts;unfold X7 vol zam;rw[e];split
  ·rw[QC,Int.mul_zero]
  ·rw[Zw,Zw,Int.mul_comm]
theorem n_neg (F:Nat) {m:za.T} (hs:1<=m.2.2) {a:LZ} (ha:yk m.2.2 a<=LIM) (q:Int):ww.sh F m [wL a] q=some ((wL (uc z0 a),[],()),()):=by
 have h1:=Zd hs z0 a;rw[WF] at h1;have:xP.sh F ((0,0),(0,0),0,0) (wL a)=_:=XF F (x:=z0) hs (by rw[WF]; decide) ha (by omega);unfold ww.sh;show oB (xP.sh F ((0,0),(0,0),0,0) (wL a)) _=_;rw[this,zg]
theorem n_add (F:Nat) {m:za.T} (hs:1<=m.2.2) {a b:LZ} (ha:yk m.2.2 a<=LIM) (hb:yk m.2.2 b<=LIM) (hl:yk m.2.2 (qJ a b)<=LIM) (q:Int):wy.sh F m [wL a,wL b] q=some ((wL (qJ a b),[],()),()):=by
 unfold wy.sh;show oB (vv.sh F (wL a) (wL b)) _=_;rw[zd8 F hs ha hb hl,zg]
theorem n_sub (F:Nat) {m:za.T} (hs:1<=m.2.2) {a b:LZ} (ha:yk m.2.2 a<=LIM) (hb:yk m.2.2 b<=LIM) (hl:yk m.2.2 (uc a b)<=LIM) (q:Int):wv.sh F m [wL a,wL b] q=some ((wL (uc a b),[],()),()):=by
 unfold wv.sh;show oB (xP.sh F (wL a) (wL b)) _=_;rw[XF F hs ha hb hl,zg]
theorem n_mul (F:Nat) {m:za.T} (hs:1<=m.2.2) {a b:LZ} (ha:yk m.2.2 a<=LIM) (hb:yk m.2.2 b<=LIM) (hl:yk m.2.2 (if a=xD a.1 then yO b a.1 else yO a b.1)<=LIM) (q:Int) :
  wx.sh F m [wL a,wL b] q=some ((wL (if a=xD a.1 then yO b a.1 else yO a b.1),[],()),()):=by
 obtain ⟨a1,_⟩:=uq hs a;obtain ⟨b1,_⟩:=uq hs b;unfold wx.sh;rw[show idx 0 ([wL a,wL b]:List zf.T).length=true from rfl,show idx 1 ([wL a,wL b]:List zf.T).length=true from rfl,show get zf [wL a,wL b] 0=wL a from rfl,show get zf [wL a,wL b] 1=wL b from rfl];simp only[cond_true];rw[show (wL a).1=mk a.1 from rfl,Yq,zg,show (wL b).1=mk b.1 from rfl];show (bif Wk (wL a) (wL (xD a.1)) then (oB (vk.sh F (wL b) (mk a.1)) fun c_2=>some ((c_2.1.1,[],()),())) else oB (vk.sh F (wL a) (mk b.1)) fun c_3=>some ((c_3.1.1,[],()),()))=_;rw[V5];by_cases h:a=xD a.1
 ·rw[decide_eq_true h,if_pos h]
  rw[if_pos h] at hl;simp only[cond_true];rw[UO F hs hb (v6 (uS a1 ha)) hl,zg]
 ·rw[decide_eq_false h,if_neg h]
  rw[if_neg h] at hl;simp only[cond_false];rw[UO F hs ha (v6 (uS b1 hb)) hl,zg]
theorem n_least (F:Nat) {m:za.T} {a b:LZ} {q:Int} (hq:td m.2.2 q=true) (ha:yk m.2.2 a<=LIM) (hb:yk m.2.2 b<=LIM) (hl:yk m.2.2 (uc a b)<=LIM) :
  xT.sh F m [wL a,wL b] q=some ((wL (bif vE m.2.2 (uc a b) q then b else a),[wL (uc a b)],()),()):=by
 unfold xT.sh;show oB (xP.sh F (wL a) (wL b)) _=_;rw[XF F (wI.1 hq).1 ha hb hl,zg,ZQ F hq hl,zg];cases vE m.2.2 (uc a b) q<;>rfl
theorem n_most (F:Nat) {m:za.T} {a b:LZ} {q:Int} (hq:td m.2.2 q=true) (ha:yk m.2.2 a<=LIM) (hb:yk m.2.2 b<=LIM) (hl:yk m.2.2 (uc b a)<=LIM) :
  wg.sh F m [wL a,wL b] q=some ((wL (bif vE m.2.2 (uc b a) q then b else a),[wL (uc b a)],()),()):=by
 unfold wg.sh;show oB (xP.sh F (wL b) (wL a)) _=_;rw[XF F (wI.1 hq).1 hb ha hl,zg,ZQ F hq hl,zg];cases vE m.2.2 (uc b a) q<;>rfl
abbrev mN (m:za.T):Int:=nN m.1
theorem QX (F:Nat) {m:za.T} (hs:1<=m.2.2) (hN:0<=mN m) (hN2:mN m<=1000000000000) {a:LZ} (ha:yk m.2.2 a+1000000000001<=LIM) {o:Int} (ho:0<=o) (ho2:o<=1) :
  yJ.sh F m (wL a) o=some ((wL (xR a (mN m-o)),()),())/\yk m.2.2 (xR a (mN m-o))<=LIM:=by
 have h1:=tX hs a (mN m-o);have h2:nA (mN m-o)<=1000000000001:=by unfold nA; omega
 have hL:LIM=85070591730234615865843651857942052864:=rfl;refine ⟨?_,by omega⟩;unfold yJ.sh;rw[show m.1.2.1=mN m from rfl,zY (n:=mN m-o) (by omega) (by omega),tK F (by omega) (by omega),zg,Yq,zg,XF F hs (by omega) (by rw[tB]; omega) (by have:uc a (xD (mN m-o))=xR a (mN m-o):=rfl; rw[this]; omega),zg];rfl
theorem n_over (F:Nat) {m:za.T} {q:Int} (hq:td m.2.2 q=true) (hN:0<=mN m) (hN2:mN m<=1000000000000) {a:LZ} (ha:yk m.2.2 a+1000000000001<=LIM) :
  we.sh F m [wL a] q=some ((wL (bif vE m.2.2 (xR a (mN m)) q then xR a (mN m) else z0),[wL (xR a (mN m))],()),()):=by
 obtain ⟨e,h⟩:=QX F (wI.1 hq).1 hN hN2 ha (o:=0) (by omega) (by omega);rw[Int.sub_zero] at e h;unfold we.sh;show oB (yJ.sh F m (wL a) 0) _=_;rw[e,zg,ZQ F hq h,zg];cases vE m.2.2 (xR a (mN m)) q<;>rfl
theorem n_upto (F:Nat) {m:za.T} {q:Int} (hq:td m.2.2 q=true) (hN:0<=mN m) (hN2:mN m<=1000000000000) {a:LZ} (ha:yk m.2.2 a+1000000000001<=LIM) :
  wb.sh F m [wL a] q=some ((wL (bif vE m.2.2 (xR a (mN m)) q then xD (mN m) else a),[wL (xR a (mN m))],()),()):=by
 obtain ⟨e,h⟩:=QX F (wI.1 hq).1 hN hN2 ha (o:=0) (by omega) (by omega);rw[Int.sub_zero] at e h;unfold wb.sh;show oB (yJ.sh F m (wL a) 0) _=_;rw[e,zg,ZQ F hq h,zg];cases vE m.2.2 (xR a (mN m)) q with
 | false=>rfl
 | true =>
  simp only[cond_true];rw[tK F (v:=mN m) (by omega) (by omega),zg,Yq,zg]
theorem n_offc (F:Nat) (hF:70<F) {m:za.T} (hN:0<=mN m) (hN2:mN m<=10000) {v:Int} (hv:nA v*10000<=LIM):xi.sh F (mk v) m=some ((mk (Ro (mN m) v),()),()):=by
 have h1:nA (v*(10000-mN m))<=LIM:=by
  rw[UL,qt (show 0<=10000-mN m by omega)];have:=Int.mul_le_mul_of_nonneg_left (show 10000-mN m<=10000 by omega) (qA v);omega
 have h0:=qA v;have i1:=v6 h1;unfold xi.sh;rw[show m.1.2.1=mN m from rfl,zY (n:=10000-mN m) (by omega) (by omega),tK F (by omega) (by omega),zg,ZG F (wj (v6 (by omega))) (wj (qn (by omega) (by omega))),zg,xv,xv,(uB i1).1,
  tK F (v:=10000) (by omega) (by omega),zg,za7 F hF i1 (by decide) (by decide) (T3 (by decide) h1) (by omega) (by omega),zg]
 rfl
theorem n_off (F:Nat) (hF:70<F) {m:za.T} (hs:1<=m.2.2) (hN:0<=mN m) (hN2:mN m<=10000) {a:LZ} (ha:yk m.2.2 a*10000<=LIM) (q:Int):yj.sh F m [wL a] q=some ((wL (Tq (mN m) a),[],()),()):=by
 obtain ⟨a1,a2,a3,_⟩:=uq hs a;unfold yj.sh;have e:∀v,nA v<=yk m.2.2 a->yj.d15 F (vF+1) (mk v,m,())=some ((mk (Ro (mN m) v),()),())/\yj.d21 F (vF+1) (mk v,m,())=some ((mk (Ro (mN m) v),()),())/\yj.d27 F (vF+1) (mk v,m,())=some ((mk (Ro (mN m) v),()),()):=fun v hv=>by
  have:=n_offc F hF (m:=m) hN hN2 (v:=v) (by omega);exact ⟨this,this,this⟩
 show oB (yj.d15 F (vF+1) (mk a.1,m,())) _=_;rw[(e _ a1).1,zg];show oB (yj.d21 F (vF+1) (mk a.2.1,m,())) _=_;rw[(e _ a2).2.1,zg];show oB (yj.d27 F (vF+1) (mk a.2.2,m,())) _=_;rw[(e _ a3).2.2,zg];rfl
theorem n_test (F:Nat) {m:za.T} {q:Int} (hq:td m.2.2 q=true) (hN:0<=mN m) (hN2:mN m<=1000000000000) (hO:1<=nO m.1) (hO2:nO m.1<=6) {a:LZ} (b c:LZ) (ha:yk m.2.2 a+1000000000001<=LIM) :
  wd.sh F m [wL a,wL b,wL c] q=some ((wL (bif ZC (nO m.1) (yK m.2.2 a q) (mN m) then b else c),[wL (xR a (mN m)),wL (xR a (mN m-1))],()),()):=by
 obtain ⟨e,h⟩:=QX F (wI.1 hq).1 hN hN2 ha (o:=0) (by omega) (by omega);obtain ⟨e1,h1⟩:=QX F (wI.1 hq).1 hN hN2 ha (o:=1) (by omega) (by omega);rw[Int.sub_zero] at e h;unfold wd.sh;show oB (yJ.sh F m (wL a) 0) _=_;rw[e,zg];show oB (yJ.sh F m (wL a) 1) _=_;rw[e1,zg,ZQ F hq h,zg,ZQ F hq h1,zg,qK,qK];have ho:nO m.1=1\/nO m.1=2\/nO m.1=3\/nO m.1=4\/nO m.1=5\/nO m.1=6:=by omega
 unfold ZC;rw[show m.1.2.2.1=nO m.1 from rfl];generalize yK m.2.2 a q=v;generalize mN m=N at*;rcases Int.lt_trichotomy v N with hv | hv | hv
 ·rw[decide_eq_false (show ¬N<v by omega),decide_eq_false (show ¬N-1<v by omega),decide_eq_true (show v<N from hv),decide_eq_true (show v<=N by omega),decide_eq_false (show ¬v>=N by omega),decide_eq_false (show ¬v=N by omega)]
  rcases ho with h | h | h | h | h | h<;>rw[h]<;>rfl
 ·rw[decide_eq_false (show ¬N<v by omega),decide_eq_true (show N-1<v by omega),decide_eq_false (show ¬v<N by omega),decide_eq_true (show v<=N by omega),decide_eq_true (show v>=N by omega),decide_eq_true (show v=N by omega)]
  rcases ho with h | h | h | h | h | h<;>rw[h]<;>rfl
 ·rw[decide_eq_true (show N<v by omega),decide_eq_true (show N-1<v by omega),decide_eq_false (show ¬v<N by omega),decide_eq_false (show ¬v<=N by omega),decide_eq_true (show v>=N by omega),decide_eq_false (show ¬v=N by omega)]
  rcases ho with h | h | h | h | h | h<;>rw[h]<;>rfl
abbrev mT (m:za.T):List yp.T:=nT m.1
theorem zbT (F:Nat) {m:za.T} (hs:1<=m.2.2) {ts:List yp.T} (hts:mT m=ts) (hr:Zq ts=true) {a:LZ} (ha:yk m.2.2 a+1000000000001<=LIM) {i:Nat} (hi:i<ts.length) :
  yW.sh F (i:Int) (wL a) m=some ((wL (xR a (tF (ts.getD i (0,0)))),()),())/\yk m.2.2 (xR a (tF (ts.getD i (0,0))))<=LIM:=by
 obtain ⟨l1,l2,l3⟩:=tN hr;obtain ⟨t1,t2,_⟩:=ZZ (by omega) l3 hi;have hlf:=Zg ts (-1) (by omega) l3;have h1:=tX hs a (tF (ts.getD i (0,0)));rw[qt t1] at h1;have hL:LIM=85070591730234615865843651857942052864:=rfl;refine ⟨?_,by omega⟩;unfold yW.sh;have e:m.1.2.2.2.2.1=ts:=hts;rw[e,xX hi,Int.toNat_natCast];simp only[cond_true];rw[show (get yp ts i).1=tF (ts.getD i (0,0)) from rfl,tK F (by omega) (by omega),zg,Yq,zg,XF F hs (by omega) (by rw[tB,qt t1]; omega) (by have:uc a (xD (tF (ts.getD i (0,0))))=xR a (tF (ts.getD i (0,0))):=rfl; rw[this]; omega),zg];rfl
theorem Qm {ts xs:List yp.T} {x:yp.T} {i:Nat} (h:ts.drop i=x::xs):ts.getD i (0,0)=x:=by
 have:=congrArg (·[0]?) h
 rw[List.getD_eq_getElem?_getD];simp at this;rw[this]; rfl
theorem R3 (F:Nat) {R:Type} (k:Int->za.T->(Nat×zf.T×za.T)->Int->Bool->Option R) {m:za.T} {q:Int} (hq:td m.2.2 q=true) {ts:List yp.T} (hts:mT m=ts) (hr:Zq ts=true) {a:LZ} (ha:yk m.2.2 a+1000000000001<=LIM):∀(xs:List yp.T) (i fu:Nat),ts.drop i=xs->xs.length<fu->
  zk.l3 F k fu q m (vP,wL a,m) (i:Int)=k q m (vP,wL a,m) ((i+uw (yK m.2.2 a q) xs:Nat):Int) false
 | xs,i,0,h,hf=>by omega
 | [],i,fu+1,h,hf=>by
  have:=tO h;simp only[zk.l3,zk.l3.body];rw[show m.1.2.2.2.2.1=ts from hts,decide_eq_false (show ¬(i:Int)<(ts.length:Int) by omega)];rfl
 | x::xs,i,fu+1,h,hf=>by
  obtain ⟨l1,l2,l3⟩:=tN hr;have hi:=ug h;obtain ⟨e,hl⟩:=zbT F (wI.1 hq).1 hts hr ha hi;have ih:=R3 F k hq hts hr ha xs (i+1) fu (wX h) (by simp at hf; omega);simp only[zk.l3,zk.l3.body];rw[show m.1.2.2.2.2.1=ts from hts,decide_eq_true (show (i:Int)<(ts.length:Int) by omega)];simp only[cond_true];have e':zk.d22 F (vP+1) ((i:Int),wL a,m,())=_:=e;rw[e',zg,ZQ F hq hl,zg,qK,Qm h];simp only[uw];by_cases hx:tF x<yK m.2.2 a q
  ·rw[decide_eq_true hx,if_pos hx,zY (n:=(i:Int)+1) (by omega) (by omega)]
   simp only[cond_true];rw[show (i:Int)+1=((i+1:Nat):Int) by omega,ih];exact congrArg (fun z=>k q m (vP,wL a,m) z false) (by omega)
  ·rw[decide_eq_false hx,if_neg hx]
   rfl
theorem zfq (F:Nat) (hF:20<F) {m:za.T} {q:Int} (hq:td m.2.2 q=true) {ts:List yp.T} (hts:mT m=ts) (hr:Zq ts=true) {a:LZ} (ha:yk m.2.2 a+1000000000001<=LIM) :
  zk.sh F m (wL a) q=some (((uw (yK m.2.2 a q) ts:Int),(YJ a ts (uw (yK m.2.2 a q) ts)).map wL,()),()):=by
 obtain ⟨l1,l2,l3⟩:=tN hr;have hcl:=YV (yK m.2.2 a q) ts;have hs:=(wI.1 hq).1;have hj8:∀(n:Nat) (turn:List zf.T),n<=ts.length->turn.length<=1->zk.j8 F (fun r66 r76=>some ((r66,r76,()),())) m (vP,wL a,m) (n:Int) turn =
   (some (((n:Int),turn++(if n<ts.length then [xR a (tF (ts.getD n (0,0)))] else []).map wL,()),()):Option zk.sg.R):=fun n turn hn ht=>by
  unfold zk.j8;rw[show m.1.2.2.2.2.1=ts from hts];by_cases h:n<ts.length
  ·obtain ⟨e,hl⟩:=zbT F hs hts hr ha h
   have e':zk.d46 F (vP+1) ((n:Int),wL a,m,())=_:=e;rw[decide_eq_true (show (n:Int)<(ts.length:Int) by omega),if_pos h];simp only[cond_true];rw[e',zg,show Nat.ble (turn.length+[wL (xR a (tF (ts.getD n (0,0))))].length) vc=true from uV (by simp; omega)];rfl
  ·rw[decide_eq_false (show ¬(n:Int)<(ts.length:Int) by omega),if_neg h]
   simp only[cond_false,List.map_nil,List.append_nil];rfl
 unfold zk.sh;refine Eq.trans (R3 F _ hq hts hr ha ts 0 F rfl (by omega)) ?_;rw[Nat.zero_add];generalize uw (yK m.2.2 a q) ts=n at*;unfold YJ;by_cases h0:n=0
 ·subst h0
  rw[decide_eq_false (show ¬((0:Nat):Int)>0 by omega),if_pos rfl];simp only[cond_false,List.nil_append];rw[hj8 0 [] (by omega) (by simp)];rfl
 ·obtain ⟨e,hl⟩:=zbT F hs hts hr ha (show n-1<ts.length by omega)
  have e':zk.d34 F (vP+1) (((n-1:Nat):Int),wL a,m,())=_:=e;rw[decide_eq_true (show (n:Int)>0 by omega),if_neg h0,zY (n:=(n:Int)-1) (by omega) (by omega),show (n:Int)-1=((n-1:Nat):Int) by omega];simp only[cond_true];rw[e',zg,show Nat.ble (0+[wL (xR a (tF (ts.getD (n-1) (0,0))))].length) vc=true from uV (by simp)];simp only[cond_true];rw[hj8 n _ hcl (by simp)];simp
theorem zfp (F:Nat) {R:Type} (kk:List zf.T->Int->List zf.T->List yp.T->Int->Int->Bool->za.T->zf.T->zh.T->Option R) (L:List yp.T) (hL:L.length<=16) (k:List zf.T) (nn:Int) (turn:List zf.T) (m:za.T) (r6:zf.T) (K:Nat) :
  ∀(n i fu:Nat) (xs:List yp.T) (s lo:Int),L.drop i=xs->n<xs.length->n<fu->K=i+n->-1<=lo->W0 lo xs->
  -20000000000000000000000000<=s-n*1000000000000000000000000->s+n*1000000000000000000000000<=20000000000000000000000000->
  zO.l7 F kk fu k nn turn L (K:Int) (i:Int) m r6 (mk s)=kk k nn turn L (K:Int) (K:Int) false m r6 (mk (s+Zp xs n))
 | n,i,0,xs,s,lo,h,hn,hf,hK,hlo,hi,b1,b2=>by omega
 | 0,i,fu+1,xs,s,lo,h,hn,hf,hK,hlo,hi,b1,b2=>by
  have hKi:K=i:=by omega
  subst hKi;simp only[zO.l7,zO.l7.body];rw[decide_eq_false (show ¬(K:Int)<(K:Int) by omega)];have:Zp xs 0=0:=by cases xs with
   | nil=>rfl
   | cons a r=>cases r<;>rfl
  rw[this,Int.add_zero];rfl
 | n+1,i,fu+1,[],s,lo,h,hn,hf,hK,hlo,hi,b1,b2=>by simp at hn
 | n+1,i,fu+1,[a],s,lo,h,hn,hf,hK,hlo,hi,b1,b2=>by simp at hn
 | n+1,i,fu+1,a::b::r,s,lo,h,hn,hf,hK,hlo,hi,b1,b2=>by
  obtain ⟨a1,a2,a3,a4,a5⟩:=hi;have ⟨c1,c2,c3,c4,c5⟩:=a5;have h0:=ug h;have h1:=ug (wX h);have hg:get yp L ((i:Int)).toNat=a:=by rw[Int.toNat_natCast]; exact uI h
  have hg1:get yp L (((i+1:Nat):Int)).toNat=b:=by rw[Int.toNat_natCast]; exact uI (wX h)
  push_cast at b1 b2;have hp:=Vy (show -1000000000000<=tR a by omega) (show tR a<=1000000000000 by omega) (show -1000000000000<=tF b-tF a by omega) (show tF b-tF a<=1000000000000 by omega);have IH:=zfp F kk L hL k nn turn m r6 K n (i+1) fu (b::r) (s+tR a*(tF b-tF a)) (tF a) (wX h) (by simp at hn ⊢; omega) (by omega) (by omega) (by omega) a5 (by omega) (by omega);have i1:inR (tR a*(tF b-tF a))=true:=by rw[yR]; omega
  have i2:inR s=true:=by rw[yR]; omega
  have i3:inR (s+tR a*(tF b-tF a))=true:=by rw[yR]; omega
  simp only[zO.l7,zO.l7.body];rw[decide_eq_true (show (i:Int)<(K:Int) by omega),xX h0,hg,zY (n:=(i:Int)+1) (by omega) (by omega),show (i:Int)+1=((i+1:Nat):Int) by omega,xX h1,hg1];simp only[cond_true];rw[tK F (v:=tR a) (by omega) (by omega),zg,zY (n:=tF b-tF a) (by omega) (by omega),tK F (v:=tF b-tF a) (by omega) (by omega),zg];rw[ZG F (wj (qn (by omega) (by omega))) (wj (qn (by omega) (by omega))),zg,xv,xv,(uB i1).1,YG F (wj i2) (wj i1),zg,xv,xv,(uB i3).1];rw[IH,Int.add_assoc];rfl
theorem Sw (F:Nat) (hF:20<F) {m:za.T} {u:Int} (hm:m.2.1=mk u) (hu:inR u=true) {q:Int} (hq:td m.2.2 q=true) {ts:List yp.T} (hts:mT m=ts) (hr:Zq ts=true) {a:LZ} (ha:yk m.2.2 a+1000000000001<=LIM)
  (h1:∀n,n<ts.length->yk m.2.2 (yO a (tR (ts.getD n (0,0))))<=LIM) (h2:∀n,n<ts.length->yk m.2.2 (yO (yO a (tR (ts.getD n (0,0)))) u)<=LIM) :
  xI.sh F m [wL a] q=some ((wL (X7 u a ts (uw (yK m.2.2 a q) ts)),(YJ a ts (uw (yK m.2.2 a q) ts)).map wL,()),()):=by
 obtain ⟨l1,l2,l3⟩:=tN hr;have hcl:=YV (yK m.2.2 a q) ts;have hs:=(wI.1 hq).1;unfold xI.sh;show oB (zk.sh F m (wL a) q) _=_;rw[zfq F hF hq hts hr ha,zg];generalize uw (yK m.2.2 a q) ts=n at*;unfold X7;by_cases h0:n=0
 ·subst h0; rfl
 ·have hn:n-1<ts.length:=by omega
  rw[if_neg h0,show (((n:Int))==0)=false by simp; omega];simp only[cond_false];obtain ⟨t1,t2,t3⟩:=incT_in ts (-1) l3 (n-1) hn;rw[zY (n:=(n:Int)-1) (by omega) (by omega),show (n:Int)-1=((n-1:Nat):Int) by omega,show m.1.2.2.2.2.1=ts from hts,xX hn,Int.toNat_natCast,show (get yp ts (n-1)).2=tR (ts.getD (n-1) (0,0)) from rfl];rw[show idx 0 ([wL a]:List zf.T).length=true from rfl,show get zf [wL a] 0=wL a from rfl];simp only[cond_true];rw[tK F (by omega) (by omega),zg,UO F hs (by omega) (qn (by omega) (by omega)) (h1 _ hn),zg,hm,UO F hs (h1 _ hn) hu (h2 _ hn),zg]
where
 incT_in:∀(l:List yp.T) (lo:Int),W0 lo l->∀n,n<l.length->tF (l.getD n (0,0))<=1000000000000/\-1000000000000<=tR (l.getD n (0,0))/\tR (l.getD n (0,0))<=1000000000000
 | [],lo,h,n,hn=>by simp at hn
 | a::r,lo,h,0,hn=>by
  obtain ⟨a1,a2,a3,a4,a5⟩:=h;exact ⟨a2,a3,a4⟩
 | a::r,lo,h,n+1,hn=>by
  obtain ⟨a1,a2,a3,a4,a5⟩:=h;exact incT_in r (tF a) a5 n (by simpa using hn)
theorem zaT (F:Nat) (hF:20<F) {m:za.T} {u:Int} (hm:m.2.1=mk u) (hu:inR u=true) {q:Int} (hq:td m.2.2 q=true) {ts:List yp.T} (hts:mT m=ts) (hr:Zq ts=true) {a:LZ} (ha:yk m.2.2 a+1000000000001<=LIM)
  (h1:∀n,n<ts.length->yk m.2.2 (yO (xR a (tF (ts.getD n (0,0)))) (tR (ts.getD n (0,0))))<=LIM)
  (h2:∀n,n<ts.length->yk m.2.2 (qJ (yO (xR a (tF (ts.getD n (0,0)))) (tR (ts.getD n (0,0)))) (xD (Zp ts n)))<=LIM)
  (h3:∀n,n<ts.length->yk m.2.2 (yO (qJ (yO (xR a (tF (ts.getD n (0,0)))) (tR (ts.getD n (0,0)))) (xD (Zp ts n))) u)<=LIM) :
  zO.sh F m [wL a] q=some ((wL (Z8 u a ts (uw (yK m.2.2 a q) ts)),(YJ a ts (uw (yK m.2.2 a q) ts)).map wL,()),()):=by
 obtain ⟨l1,l2,l3⟩:=tN hr;have hcl:=YV (yK m.2.2 a q) ts;have hs:=(wI.1 hq).1;have hL:LIM=85070591730234615865843651857942052864:=rfl;unfold zO.sh;show oB (zk.sh F m (wL a) q) _=_;rw[zfq F hF hq hts hr ha,zg];generalize uw (yK m.2.2 a q) ts=n at*;unfold Z8;by_cases h0:n=0
 ·subst h0; rfl
 ·have hn:n-1<ts.length:=by omega
  rw[if_neg h0,show (((n:Int))==0)=false by simp; omega];simp only[cond_false];obtain ⟨t1,t2,t3⟩:=Sw.incT_in ts (-1) l3 (n-1) hn;obtain ⟨i1,i2,i3⟩:=ZZ (by omega) l3 hn;have hw:=Tw ts (-1) (n-1) (by omega) l3;have hw2:=(ZH ts (-1) (by omega) l3).2;have hw3:tT ts<=16*1000000000000000000000000:=by
   have:(ts.length:Int)*1000000000000000000000000<=16*1000000000000000000000000:=Int.mul_le_mul_of_nonneg_right (by omega) (by omega);omega
  have hls:=tX hs a (tF (ts.getD (n-1) (0,0)));rw[qt i1] at hls;rw[zY (n:=(n:Int)-1) (by omega) (by omega),show (n:Int)-1=((n-1:Nat):Int) by omega,show m.1.2.2.2.2.1=ts from hts];have hlp:=fun kk=>zfp F (R:=zO.sg.R) kk ts l2 [wL a] (n:Int) ((YJ a ts n).map wL) m ((0,0),(0,0),0,0) (n-1) (n-1) 0 F ts 0 (-1) rfl hn (by omega) (by omega) (by omega) l3 (by omega) (by omega)
  rw[show ((0:Nat):Int)=0 from rfl,Qz] at hlp;rw[hlp];rw[zY (n:=(n:Int)-1) (by omega) (by omega),show (n:Int)-1=((n-1:Nat):Int) by omega,xX hn,Int.toNat_natCast,show get yp ts (n-1)=ts.getD (n-1) (0,0) from rfl,show idx 0 ([wL a]:List zf.T).length=true from rfl,show get zf [wL a] 0=wL a from rfl];simp only[cond_true];have hw':nA (Zp ts (n-1))<=LIM:=by unfold nA; omega
  rw[tK F (v:=(ts.getD (n-1) (0,0)).1) (show _<=tF (ts.getD (n-1) (0,0)) by omega) (show tF (ts.getD (n-1) (0,0))<_ by omega),zg,Yq,zg,
   XF F hs (by omega) (by rw[tB,qt i1]; show tF (ts.getD (n-1) (0,0))<=_; omega) (show yk m.2.2 (xR a (tF (ts.getD (n-1) (0,0))))<=LIM by omega),zg,
   tK F (v:=(ts.getD (n-1) (0,0)).2) (show -9223372036854775808<=tR (ts.getD (n-1) (0,0)) by omega) (show tR (ts.getD (n-1) (0,0))<_ by omega),zg]
  rw[show uc a (xD (ts.getD (n-1) (0,0)).1)=xR a (tF (ts.getD (n-1) (0,0))) from rfl,UO F hs (show yk m.2.2 (xR a (tF (ts.getD (n-1) (0,0))))<=LIM by omega) (qn (show _<=tR (ts.getD (n-1) (0,0)) by omega) (show tR (ts.getD (n-1) (0,0))<_ by omega)) (h1 _ hn),zg];rw[Int.zero_add,Yq,zg];rw[zd8 F hs (h1 _ hn) (by rw[tB]; exact hw') (h2 _ hn),zg,hm,UO F hs (h2 _ hn) hu (h3 _ hn),zg]
def tV (n:zx.T):Nat :=
 bif nK n==5 then uO else bif nK n==6 then uQ else bif nK n==7 then uM else bif nK n==8 then uP
 else bif nK n==9 then uz else bif nK n==10 then uH else bif nK n==11 then uG else bif nK n==12 then uE
 else bif nK n==13 then vR else bif nK n==14 then ut else bif nK n==15 then uN else uF
theorem zcx (F:Nat) {n:zx.T} (hg:qw n=true) (hk:qf n=true) (h5:5<=nK n) (u:zh.T) (s:Int):xd.sh F (n,u,s)=some (((tV n,(n,u,s)),(ar n:Int),()),()):=by
 have h9:∀k:Int,(nK n=k)->(k=9\/k=10)->(ar n:Int)=nC n:=by
  intro k h hkk;rw[XG h] at hk;have hk:(decide (nC n>=2)&&decide (nC n<=16))=true:=by rcases hkk with rfl | rfl<;>exact hk
  simp at hk;have:ar n=(nC n).toNat:=by rw[vq h]; rcases hkk with rfl | rfl<;>rfl
  omega
 have e:∀k:Int,nK n=k->xd.sh F (n,u,s)=xd.sh F ((k,n.2),u,s):=fun k h=>by
  rw[<-h]
 unfold tV;rcases qP hg with h | h | h | h | h | h | h | h | h | h | h | h | h | h | h | h
 ·omega
 ·omega
 ·omega
 ·omega
 ·rw[vq h,e _ h,h]; rw[show n=(5,n.2) by rw[<-h]]; rfl
 ·rw[vq h,e _ h,h]; rw[show n=(6,n.2) by rw[<-h]]; rfl
 ·rw[vq h,e _ h,h]; rw[show n=(7,n.2) by rw[<-h]]; rfl
 ·rw[vq h,e _ h,h]; rw[show n=(8,n.2) by rw[<-h]]; rfl
 ·rw[h9 9 h (.inl rfl),e _ h,h]; rw[show n=(9,n.2) by rw[<-h]]; rfl
 ·rw[h9 10 h (.inr rfl),e _ h,h]; rw[show n=(10,n.2) by rw[<-h]]; rfl
 ·rw[vq h,e _ h,h]; rw[show n=(11,n.2) by rw[<-h]]; rfl
 ·rw[vq h,e _ h,h]; rw[show n=(12,n.2) by rw[<-h]]; rfl
 ·rw[vq h,e _ h,h]; rw[show n=(13,n.2) by rw[<-h]]; rfl
 ·rw[vq h,e _ h,h]; rw[show n=(14,n.2) by rw[<-h]]; rfl
 ·rw[vq h,e _ h,h]; rw[show n=(15,n.2) by rw[<-h]]; rfl
 ·rw[vq h,e _ h,h]; rw[show n=(16,n.2) by rw[<-h]]; rfl
def XW (F:Nat) (n:zx.T) (u s:Int) (k:List LZ) (q:Int) (g:LZ×List LZ):Prop :=
 zb.d99 F (tV n) ((n,mk u,s),k.map wL,q,())=some ((wL g.1,g.2.map wL,()),())
theorem TY {A:Int} (h:A<=BND):A+1000000000001<=LIM:=by
 have hBND:BND=1329227995784915872903807060280344576:=rfl;have hLIM:LIM=85070591730234615865843651857942052864:=rfl;omega
theorem WG {s A u:Int} (hs:1<=s) (hu:1<=u) {a:LZ} (ha:yk s a<=A) (hA:0<=A) {ts:List yp.T} (hr:Zq ts=true) (hb:uX u A ts<=BND) :
  (∀n,n<ts.length->yk s (yO a (tR (ts.getD n (0,0))))<=LIM/\yk s (yO (yO a (tR (ts.getD n (0,0)))) u)<=LIM) /\
  (∀n,n<ts.length->yk s (yO (xR a (tF (ts.getD n (0,0)))) (tR (ts.getD n (0,0))))<=LIM/\yk s (qJ (yO (xR a (tF (ts.getD n (0,0)))) (tR (ts.getD n (0,0)))) (xD (Zp ts n)))<=LIM /\
   yk s (yO (qJ (yO (xR a (tF (ts.getD n (0,0)))) (tR (ts.getD n (0,0)))) (xD (Zp ts n))) u)<=LIM):=by
 obtain ⟨l1,l2,l3⟩:=tN hr;have hlf:=Zg ts (-1) (by omega) l3;have hr0:=(Xc ts 0).1;have hm0:=Int.mul_nonneg hr0 (show 0<=A+tg ts by omega);have hw0:=(ZH ts (-1) (by omega) l3).1;have hBND:BND=1329227995784915872903807060280344576:=rfl;have hLIM:LIM=85070591730234615865843651857942052864:=rfl;unfold uX at hb;have hT:=QY hu (show 0<=qp 0 ts*(A+tg ts)+tT ts by omega);refine ⟨fun n hn=>?_,fun n hn=>?_⟩
 ·obtain ⟨i1,i2,i3⟩:=ZZ (by omega) l3 hn
  have h4:=Int.mul_le_mul (show yk s a<=A+tg ts by omega) i3 (qA _) (by omega);rw[Int.mul_comm (A+tg ts)] at h4;rw[uL,uL,qt (show 0<=u by omega)];have h5:=Int.mul_le_mul_of_nonneg_right (show yk s a*nA (tR (ts.getD n (0,0)))<=qp 0 ts*(A+tg ts)+tT ts by omega) (show 0<=u by omega);rw[Int.mul_comm _ u] at h5;have h6:yk s (yO a (tR (ts.getD n (0,0))))*u=yk s a*nA (tR (ts.getD n (0,0)))*u:=by rw[uL]
  rw[uL];rw[Int.mul_comm u] at h5 hb;rw[Int.mul_comm u] at hT;omega
 ·obtain ⟨i1,i2,i3⟩:=ZZ (by omega) l3 hn
  have hw:=Tw ts (-1) n (by omega) l3;have h2:=tX hs a (tF (ts.getD n (0,0)));rw[qt i1] at h2;have h3:nA (Zp ts n)<=tT ts:=by unfold nA; omega
  have h4:=Int.mul_le_mul (show yk s (xR a (tF (ts.getD n (0,0))))<=A+tg ts by omega) i3 (qA _) (by omega);rw[Int.mul_comm (A+tg ts)] at h4;have h1:=VK hs (yO (xR a (tF (ts.getD n (0,0)))) (tR (ts.getD n (0,0)))) (xD (Zp ts n));rw[tB] at h1;have e0:=uL s (xR a (tF (ts.getD n (0,0)))) (tR (ts.getD n (0,0)));have e1:=uL s (qJ (yO (xR a (tF (ts.getD n (0,0)))) (tR (ts.getD n (0,0)))) (xD (Zp ts n))) u;rw[qt (show 0<=u by omega)] at e1;have h5:=Int.mul_le_mul_of_nonneg_right (show yk s (qJ (yO (xR a (tF (ts.getD n (0,0)))) (tR (ts.getD n (0,0)))) (xD (Zp ts n)))<=qp 0 ts*(A+tg ts)+tT ts by omega) (show 0<=u by omega);rw[Int.mul_comm u] at hb hT;omega
theorem ch1 {u s:Int} (hu:1<=u) (hu2:inR u=true) {dims pile:Nat} (hd:dims<=4) {n:zx.T} (hn:tm dims n pile=0) (hk:nK n=5\/nK n=11\/nK n=12\/nK n=13\/nK n=14\/nK n=15)
  {a:LZ} {A:Int} (ha:yk s a<=A) (hA:0<=A) (hb:A<=BND) {D:List wV.T} (hfar:tC n (vz u D n [A])<=BND) (hoff:nK n=15->∃z,a=yO z 10000) {q:Int} (hq:td s q=true) :
  Got s (vz u D n [A]) (fun x=>evN u D [x] n [yK s a x]) q (chZ n u s [a] q)/\∀F,300<F->XW F n u s [a] q (chZ n u s [a] q):=by
 obtain ⟨g1,g2,g3,g4,g5,g6,g7,g8⟩:=uh hn;have hN2:=YP hd g3 g1;have hs:=(wI.1 hq).1;have hlim:=TY hb;have hBND:BND=1329227995784915872903807060280344576:=rfl;have hLIM:LIM=85070591730234615865843651857942052864:=rfl;have hm:mN (n,mk u,s)=nN n:=rfl;rcases hk with h | h | h | h | h | h
 ·have e:chZ n u s [a] q=(uc z0 a,[]):=by unfold chZ; rw[h]; rfl
  have em:vz u D n [A]=A:=by unfold vz; rw[h]; simp[qo]
  have ev:∀x,evN u D [x] n [yK s a x]=0-yK s a x:=fun x=>by unfold evN; rw[h]; rfl
  have ef:tV n=uO:=by unfold tV; rw[h]; rfl
  rw[e,em];simp only[ev];refine ⟨got_neg hs ha q,fun F hF=>?_⟩;unfold XW;rw[ef];exact n_neg F (m:=(n,mk u,s)) hs (by show yk s a<=_; omega) q
 ·have e:chZ n u s [a] q=((bif vE s (xR a (nN n)) q then xR a (nN n) else z0),[xR a (nN n)]):=by unfold chZ; rw[h]; rfl
  have em:vz u D n [A]=A+nN n:=by unfold vz; rw[h]; simp[qo]
  have ev:∀x,evN u D [x] n [yK s a x]=X5 [0,yK s a x-nN n]:=fun x=>by unfold evN; rw[h]; rfl
  have ef:tV n=uG:=by unfold tV; rw[h]; rfl
  rw[e,em];simp only[ev];refine ⟨zfO hs ha g2 hA (by omega) q,fun F hF=>?_⟩;unfold XW;rw[ef];exact n_over F (m:=(n,mk u,s)) hq g2 hN2 (by show yk s a+_<=_; omega)
 ·have e:chZ n u s [a] q=((bif vE s (xR a (nN n)) q then xD (nN n) else a),[xR a (nN n)]):=by unfold chZ; rw[h]; rfl
  have em:vz u D n [A]=A+nN n:=by unfold vz; rw[h]; simp[qo]
  have ev:∀x,evN u D [x] n [yK s a x]=minL [nN n,yK s a x]:=fun x=>by unfold evN; rw[h]; rfl
  have ef:tV n=uE:=by unfold tV; rw[h]; rfl
  rw[e,em];simp only[ev];refine ⟨zfM hs ha g2 hA (by omega) q,fun F hF=>?_⟩;unfold XW;rw[ef];exact n_upto F (m:=(n,mk u,s)) hq g2 hN2 (by show yk s a+_<=_; omega)
 ·have hr:=g8 (by unfold th ZY; rw[h]; rfl)
  have e:chZ n u s [a] q=(Z8 u a (nT n) (uw (yK s a q) (nT n)),YJ a (nT n) (uw (yK s a q) (nT n))):=by unfold chZ; rw[h]; rfl
  have em:vz u D n [A]=uX u A (nT n):=by unfold vz; rw[h]; rfl
  have ev:∀x,evN u D [x] n [yK s a x]=u*grad (yK s a x) (nT n):=fun x=>by unfold evN; rw[h]; rfl
  have ef:tV n=vR:=by unfold tV; rw[h]; rfl
  have hf:uX u A (nT n)<=BND:=by rw[em] at hfar; unfold tC at hfar; rw[h] at hfar; exact hfar
  have hin:=(WG hs hu ha hA hr hf).2;rw[e,em];simp only[ev];refine ⟨zfP hs hu ha hA hb hr q,fun F hF=>?_⟩;unfold XW;rw[ef];exact zaT F (by omega) (m:=(n,mk u,s)) rfl hu2 hq rfl hr (by show yk s a+_<=_; omega) (fun n hn=>(hin n hn).1) (fun n hn=>(hin n hn).2.1) (fun n hn=>(hin n hn).2.2)
 ·have hr:=g8 (by unfold th ZY; rw[h]; rfl)
  have e:chZ n u s [a] q=(X7 u a (nT n) (uw (yK s a q) (nT n)),YJ a (nT n) (uw (yK s a q) (nT n))):=by unfold chZ; rw[h]; rfl
  have em:vz u D n [A]=uX u A (nT n):=by unfold vz; rw[h]; rfl
  have ev:∀x,evN u D [x] n [yK s a x]=u*vol (yK s a x) (nT n):=fun x=>by unfold evN; rw[h]; rfl
  have ef:tV n=ut:=by unfold tV; rw[h]; rfl
  have hf:uX u A (nT n)<=BND:=by rw[em] at hfar; unfold tC at hfar; rw[h] at hfar; exact hfar
  have hin:=(WG hs hu ha hA hr hf).1;rw[e,em];simp only[ev];refine ⟨got_vol hs hu ha hA hb hr q,fun F hF=>?_⟩;unfold XW;rw[ef];exact Sw F (by omega) (m:=(n,mk u,s)) rfl hu2 hq rfl hr (by show yk s a+_<=_; omega) (fun n hn=>(hin n hn).1) (fun n hn=>(hin n hn).2)
 ·have e:chZ n u s [a] q=(Tq (nN n) a,[]):=by unfold chZ; rw[h]; rfl
  have em:vz u D n [A]=A:=by unfold vz; rw[h]; rfl
  have ev:∀x,evN u D [x] n [yK s a x]=ZX 2 (yK s a x*(10000-nN n)) 10000:=fun x=>by unfold evN; rw[h]; rfl
  have ef:tV n=uN:=by unfold tV; rw[h]; rfl
  have hf:A*10000<=BND:=by rw[em] at hfar; unfold tC at hfar; rw[h] at hfar; exact hfar
  rw[Zm h] at g3;have g3:nN n<=10000:=g3;rw[e,em];simp only[ev];refine ⟨got_off hs ha g2 g3 (hoff h) q,fun F hF=>?_⟩;unfold XW;rw[ef];exact n_off F (by omega) (m:=(n,mk u,s)) hs g2 g3 (by show yk s a*_<=_; omega) q
theorem ch2 {u s:Int} {dims pile:Nat} (hd:dims<=4) {n:zx.T} (hn:tm dims n pile=0) (hk:nK n=6\/nK n=7\/nK n=8)
  {a b:LZ} {A B:Int} (ha:yk s a<=A) (hb:yk s b<=B) (hA:A<=BND) (hB:B<=BND) {D:List wV.T} (hfar:tC n (vz u D n [A,B])<=BND) (hmul:nK n=8->a=xD a.1\/b=xD b.1) {q:Int} (hq:td s q=true) :
  Got s (vz u D n [A,B]) (fun x=>evN u D [x] n [yK s a x,yK s b x]) q (chZ n u s [a,b] q)/\∀F,300<F->XW F n u s [a,b] q (chZ n u s [a,b] q):=by
 have hs:=(wI.1 hq).1;have hBND:BND=1329227995784915872903807060280344576:=rfl;have hLIM:LIM=85070591730234615865843651857942052864:=rfl;rcases hk with h | h | h
 ·have e:chZ n u s [a,b] q=(qJ a b,[]):=by unfold chZ; rw[h]; rfl
  have em:vz u D n [A,B]=A+B:=by unfold vz; rw[h]; simp[qo]
  have ev:∀x,evN u D [x] n [yK s a x,yK s b x]=yK s a x+yK s b x:=fun x=>by unfold evN; rw[h]; rfl
  have ef:tV n=uQ:=by unfold tV; rw[h]; rfl
  rw[e,em];simp only[ev];have hg:=got_add hs ha hb q;refine ⟨hg,fun F hF=>?_⟩;unfold XW;rw[ef];exact n_add F (m:=(n,mk u,s)) hs (by show yk s a<=_; omega) (by show yk s b<=_; omega) (by have:=hg.1; show yk s (qJ a b)<=_; simp only at this; omega) q
 ·have e:chZ n u s [a,b] q=(uc a b,[]):=by unfold chZ; rw[h]; rfl
  have em:vz u D n [A,B]=A+B:=by unfold vz; rw[h]; simp[qo]
  have ev:∀x,evN u D [x] n [yK s a x,yK s b x]=yK s a x-yK s b x:=fun x=>by unfold evN; rw[h]; rfl
  have ef:tV n=uM:=by unfold tV; rw[h]; rfl
  rw[e,em];simp only[ev];have hg:=got_sub hs ha hb q;refine ⟨hg,fun F hF=>?_⟩;unfold XW;rw[ef];exact n_sub F (m:=(n,mk u,s)) hs (by show yk s a<=_; omega) (by show yk s b<=_; omega) (by have:=hg.1; show yk s (uc a b)<=_; simp only at this; omega) q
 ·have e:chZ n u s [a,b] q=((if a=xD a.1 then yO b a.1 else yO a b.1),[]):=by unfold chZ; rw[h]; rfl
  have em:vz u D n [A,B]=A*B:=by unfold vz; rw[h]; rfl
  have ev:∀x,evN u D [x] n [yK s a x,yK s b x]=yK s a x*yK s b x:=fun x=>by unfold evN; rw[h]; rfl
  have ef:tV n=uP:=by unfold tV; rw[h]; rfl
  have hf:A*B<=BND:=by rw[em] at hfar; unfold tC at hfar; rw[h] at hfar; exact hfar
  rw[e,em];simp only[ev];have hg:=zde hs ha hb (hmul h) q;refine ⟨hg,fun F hF=>?_⟩;unfold XW;rw[ef];exact n_mul F (m:=(n,mk u,s)) hs (by show yk s a<=_; omega) (by show yk s b<=_; omega) (by have:=hg.1; show yk s (if a=xD a.1 then yO b a.1 else yO a b.1)<=_; simp only at this; omega) q
def Zb (n:zx.T) (x y:Int):Int:=bif nK n==9 then (if y<x then y else x) else if y>x then y else x
theorem ch2m {u s:Int} {n:zx.T} (hk:nK n=9\/nK n=10) {a b:LZ} {A B:Int} (ha:yk s a<=A) (hb:yk s b<=B) (hA:0<=A) (hB:0<=B) (hL:A+B<=BND) {q:Int} (hq:td s q=true) :
  Got s (A+B) (fun x=>Zb n (yK s a x) (yK s b x)) q (chZ n u s [a,b] q)/\((chZ n u s [a,b] q).1=a\/(chZ n u s [a,b] q).1=b)/\∀F,300<F->XW F n u s [a,b] q (chZ n u s [a,b] q):=by
 have hs:=(wI.1 hq).1;have hBND:BND=1329227995784915872903807060280344576:=rfl;have hLIM:LIM=85070591730234615865843651857942052864:=rfl;have h1:=Zd hs a b;have h2:=Zd hs b a;rcases hk with h | h
 ·have e:chZ n u s [a,b] q=((bif vE s (uc a b) q then b else a),[uc a b]):=by unfold chZ; rw[h]; rfl
  have ev:∀x y,Zb n x y=if y<x then y else x:=fun x y=>by unfold Zb; rw[h]; rfl
  have ef:tV n=uz:=by unfold tV; rw[h]; rfl
  rw[e];simp only[ev];refine ⟨got_min hs ha hb hA hB (by omega) q,by cases vE s (uc a b) q<;>simp,fun F hF=>?_⟩;unfold XW;rw[ef];exact n_least F (m:=(n,mk u,s)) hq (by show yk s a<=_; omega) (by show yk s b<=_; omega) (by show yk s (uc a b)<=_; omega)
 ·have e:chZ n u s [a,b] q=((bif vE s (uc b a) q then b else a),[uc b a]):=by unfold chZ; rw[h]; rfl
  have ev:∀x y,Zb n x y=if y>x then y else x:=fun x y=>by unfold Zb; rw[h]; rfl
  have ef:tV n=uH:=by unfold tV; rw[h]; rfl
  rw[e];simp only[ev];refine ⟨got_max hs ha hb hA hB (by omega) q,by cases vE s (uc b a) q<;>simp,fun F hF=>?_⟩;unfold XW;rw[ef];exact n_most F (m:=(n,mk u,s)) hq (by show yk s a<=_; omega) (by show yk s b<=_; omega) (by show yk s (uc b a)<=_; omega)
theorem ch3 {u s:Int} {dims pile:Nat} (hd:dims<=4) {n:zx.T} (hn:tm dims n pile=0) (h:nK n=16) {a b c:LZ} {A B C:Int} (ha:yk s a<=A) (hb:yk s b<=B) (hc:yk s c<=C) (hA:0<=A) (hB:0<=B) (hC:0<=C) (hL:A<=BND) {D:List wV.T} {q:Int} (hq:td s q=true) :
  Got s (vz u D n [A,B,C]) (fun x=>evN u D [x] n [yK s a x,yK s b x,yK s c x]) q (chZ n u s [a,b,c] q)/\((chZ n u s [a,b,c] q).1=b\/(chZ n u s [a,b,c] q).1=c)/\∀F,300<F->XW F n u s [a,b,c] q (chZ n u s [a,b,c] q):=by
 obtain ⟨g1,g2,g3,g4,g5,g6,g7,g8⟩:=uh hn;have hN2:=YP hd g3 g1;have hs:=(wI.1 hq).1;have hlim:=TY hL;have e:chZ n u s [a,b,c] q=((bif ZC (nO n) (yK s a q) (nN n) then b else c),[xR a (nN n),xR a (nN n-1)]):=by unfold chZ; rw[h]; rfl
 have em:vz u D n [A,B,C]=A+(B+C)+nN n:=by unfold vz; rw[h]; simp[qo]
 have ev:∀x,evN u D [x] n [yK s a x,yK s b x,yK s c x]=bif ZC (nO n) (yK s a x) (nN n) then yK s b x else yK s c x:=fun x=>by unfold evN; rw[h]; rfl
 have ef:tV n=uF:=by unfold tV; rw[h]; rfl
 have ho:1<=nO n/\nO n<=6:=by
  unfold opB ZY at g5;rw[h] at g5;have g5:(decide (nO n>=1)&&decide (nO n<=6))=true:=g5;simp at g5;omega
 rw[e,em];simp only[ev];refine ⟨zfN hs ha hb hc g2 hA hB hC (by omega) (nO n) q,by cases ZC (nO n) (yK s a q) (nN n)<;>simp,fun F hF=>?_⟩;unfold XW;rw[ef];exact n_test F (m:=(n,mk u,s)) hq g2 hN2 ho.1 ho.2 b c (by show yk s a+_<=_; omega)
def QT (S:Int) (t:Tree) (l:LZ):Prop:=(noQ t=true->l=xD l.1)/\(ty t=1->∃z,l=yO z (10000^(S-wT t).toNat))
theorem TH {n:zx.T} {ks:List Tree} (h:noQ (.nd n ks)=true):isQ n=false/\∀k∈ks,noQ k=true:=by
 unfold noQ at h ⊢;rw[XL,List.all_append,Bool.and_eq_true] at h;refine ⟨by simpa using h.2,fun k hk=>?_⟩;refine List.all_eq_true.2 fun x hx=>List.all_eq_true.1 h.1 x ?_
 unfold yn;exact List.mem_flatten.2 ⟨k.flat,List.mem_map_of_mem hk,hx⟩
theorem QT.div {S:Int} {k:Tree} {l:LZ} (h:QT S k l) (ht:ty k=1) {e:Int} (h1:wT k<=e) (h2:e<=S):∃z,l=yO z (10000^(S-e).toNat):=by
 obtain ⟨z,hz⟩:=h.2 ht;have h0:=(qZ k).1;refine ⟨yO z (10000^(e-wT k).toNat),?_⟩;rw[hz,qd,<-Int.pow_add,show (e-wT k).toNat+(S-e).toNat=(S-wT k).toNat by omega]
theorem QT.up {S:Int} {n:zx.T} {ks:List Tree} {k:Tree} {l:LZ} (h:QT S k l) (hk:k∈ks) (hS:wT (.nd n ks)<=S) (ht:ty (.nd n ks)=1->ty k=1):QT S (.nd n ks) l:=by
 have h1:=(Ug hk).2;have h2:=Uf n ks;exact ⟨fun hq=>h.1 ((TH hq).2 k hk),fun h1'=>h.div (ht h1') (by omega) hS⟩
theorem Sf (z:LZ) (a b:Int):yO (yO z a) b=yO (yO z b) a:=by rw[qd,qd,Int.mul_comm]
theorem Se (a:Int):yO z0 a=z0:=by simp[yO]
theorem Vl (v N:Int):xR (xD v) N=xD (v-N):=by simp[xR,uc,xD]
theorem Zx (v k:Int):yO (xD v) k=xD (v*k):=by simp[yO,xD]
theorem Qw (v w:Int):qJ (xD v) (xD w)=xD (v+w):=by simp[qJ,xD]
theorem RG (v w:Int):uc (xD v) (xD w)=xD (v-w):=by simp[uc,xD]
theorem zew (x y:LZ) (P:Int):qJ (yO x P) (yO y P)=yO (qJ x y) P:=by simp only[qJ,yO,Int.add_mul]
theorem RF (x y:LZ) (P:Int):uc (yO x P) (yO y P)=yO (uc x y) P:=by simp only[uc,yO,Int.sub_mul]
theorem ze5 (N v:Int):Tq N (xD v)=xD (Ro N v):=by
 have:=Vg N 0;simp only[Int.zero_mul] at this;simp[Tq,xD,this]
theorem zfJ {l:LZ} {v:Int} (h:l=xD v):l=xD l.1:=by rw[h]; rfl
theorem ty15 {n:zx.T} {k:Tree} (h:nK n=15) (hty:ty (.nd n [k])≠-1):ty k=1:=by
 have hx:ty (.nd n [k])=(bif ty k==1 then (1:Int) else -1):=by rw[Y6]; unfold tyN; rw[h]; rfl
 cases hta:(ty k==1) with
 | true=>simpa using hta
 | false=>rw[hx,hta] at hty; exact absurd rfl hty
theorem QU {S:Int} {n:zx.T} {k:Tree} {a:LZ} (h:nK n=15) (hty:ty (.nd n [k])≠-1) (hS:wT (.nd n [k])<=S) (ha:QT S k a) :
  ty k=1/\∃z,a=yO z (10000^(S-wT (.nd n [k])).toNat*10000):=by
 have h1:=ty15 h hty;have hdn:=WT n [k];rw[h] at hdn;have hdn:wT (.nd n [k])=wT k+1:=by rw[hdn]; rfl
 obtain ⟨z,hz⟩:=ha.div h1 (e:=wT (.nd n [k])-1) (by omega) (by omega);refine ⟨h1,z,?_⟩;rw[hz,show (S-(wT (.nd n [k])-1)).toNat=(S-wT (.nd n [k])).toNat+1 by omega,Int.pow_succ]
theorem q1 {S u:Int} (hS0:0<=S) (hu:u=10000^S.toNat) {n:zx.T} (hk:nK n=5\/nK n=11\/nK n=12\/nK n=13\/nK n=14\/nK n=15) {k:Tree} (hS:wT (.nd n [k])<=S) (hty:ty (.nd n [k])≠-1) {a:LZ} (ha:QT S k a) (s q:Int):QT S (.nd n [k]) (chZ n u s [a] q).1:=by
 have hd0:=(qZ (.nd n [k])).1;have hup:u=10000^(wT (.nd n [k])).toNat*10000^(S-wT (.nd n [k])).toNat:=by
  rw[hu,<-Int.pow_add]; congr 1; omega
 have hc:noQ (.nd n [k])=true->a=xD a.1:=fun h=>ha.1 ((TH h).2 k (by simp))
 have hno:∀x:Int,(nK n=11\/nK n=12)->¬ty (.nd n [k])=1:=fun x h h1=>by
  have:ty (.nd n [k])=bif qH (ty k) then ty k else -1:=by rw[Y6]; unfold tyN; rcases h with h | h<;>rw[h]<;>rfl
  rw[this] at h1;cases hcc:qH (ty k) with
  | false=>rw[hcc] at h1; exact absurd (show (-1:Int)=1 from h1) (by decide)
  | true=>rw[hcc] at h1; unfold qH at hcc; have:=of_decide_eq_true hcc; simp only[cond_true] at h1; omega
 rcases hk with h | h | h | h | h | h
 ·have e:chZ n u s [a] q=(uc z0 a,[]):=by unfold chZ; rw[h]; rfl
  rw[e];refine ⟨fun hq=>?_,fun h1=>?_⟩
  ·rw[hc hq]; exact zfJ (v:=0-a.1) (RG 0 a.1)
  ·have h1k:ty k=1:=by
    have ho:Y2 ([k].map ty)=1:=by rw[<-h1,Y6]; unfold tyN; rw[h]; rfl
    exact qU ho (ty k) (by simp)
   obtain ⟨z,hz⟩:=(ha.up (n:=n) (ks:=[k]) (by simp) hS (fun _=>h1k)).2 h1;refine ⟨uc z0 z,?_⟩;show uc z0 a=_;rw[hz];conv=>lhs; rw[<-Se (10000^(S-wT (.nd n [k])).toNat)]
   exact RF _ _ _
 ·have e:chZ n u s [a] q=((bif vE s (xR a (nN n)) q then xR a (nN n) else z0),[xR a (nN n)]):=by unfold chZ; rw[h]; rfl
  rw[e];refine ⟨fun hq=>?_,fun h1=>absurd h1 (hno 0 (.inl h))⟩;rw[hc hq,Vl];cases vE s (xD (a.1-nN n)) q<;>rfl
 ·have e:chZ n u s [a] q=((bif vE s (xR a (nN n)) q then xD (nN n) else a),[xR a (nN n)]):=by unfold chZ; rw[h]; rfl
  rw[e];refine ⟨fun hq=>?_,fun h1=>absurd h1 (hno 0 (.inr h))⟩;rw[hc hq,Vl];cases vE s (xD (a.1-nN n)) q<;>rfl
 ·have e:chZ n u s [a] q=(Z8 u a (nT n) (uw (yK s a q) (nT n)),YJ a (nT n) (uw (yK s a q) (nT n))):=by unfold chZ; rw[h]; rfl
  rw[e];show (_->Z8 u a (nT n) (uw (yK s a q) (nT n))=xD (Z8 u a (nT n) (uw (yK s a q) (nT n))).1)/\(_->∃z,Z8 u a (nT n) (uw (yK s a q) (nT n))=_);generalize uw (yK s a q) (nT n)=i;unfold Z8;refine ⟨fun hq=>?_,fun h1=>?_⟩
  ·rw[hc hq]
   split
   ·rfl
   ·rw[Vl,Zx,Qw,Zx]; rfl
  ·split
   ·exact ⟨z0,(Se _).symm⟩
   ·rw[hup,<-qd]; exact ⟨_,rfl⟩
 ·have e:chZ n u s [a] q=(X7 u a (nT n) (uw (yK s a q) (nT n)),YJ a (nT n) (uw (yK s a q) (nT n))):=by unfold chZ; rw[h]; rfl
  rw[e];show (_->X7 u a (nT n) (uw (yK s a q) (nT n))=xD (X7 u a (nT n) (uw (yK s a q) (nT n))).1)/\(_->∃z,X7 u a (nT n) (uw (yK s a q) (nT n))=_);generalize uw (yK s a q) (nT n)=i;unfold X7;refine ⟨fun hq=>?_,fun h1=>?_⟩
  ·rw[hc hq]
   split
   ·rfl
   ·rw[Zx,Zx]; rfl
  ·split
   ·exact ⟨z0,(Se _).symm⟩
   ·rw[hup,<-qd]; exact ⟨_,rfl⟩
 ·have e:chZ n u s [a] q=(Tq (nN n) a,[]):=by unfold chZ; rw[h]; rfl
  rw[e];refine ⟨fun hq=>?_,fun h1=>?_⟩
  ·rw[hc hq,ze5]; rfl
  ·obtain ⟨_,z,hz⟩:=QU h hty hS ha
   refine ⟨yO z (10000-nN n),?_⟩;show Tq (nN n) a=_;rw[hz,<-qd,Vh,Sf]
theorem q2 {S u:Int} {n:zx.T} (hk:nK n=6\/nK n=7\/nK n=8) {k k':Tree} (hS:wT (.nd n [k,k'])<=S) {a b:LZ} (ha:QT S k a) (hb:QT S k' b) (s q:Int):QT S (.nd n [k,k']) (chZ n u s [a,b] q).1:=by
 have hc:noQ (.nd n [k,k'])=true->a=xD a.1/\b=xD b.1:=fun h=>⟨ha.1 ((TH h).2 k (by simp)),hb.1 ((TH h).2 k' (by simp))⟩
 have hda:=fun h1:ty k=1=>ha.div h1 (e:=wT (.nd n [k,k'])) (by have:=(Ug (ks:=[k,k']) (k:=k) (by simp)).2; have:=Uf n [k,k']; omega) hS
 have hdb:=fun h1:ty k'=1=>hb.div h1 (e:=wT (.nd n [k,k'])) (by have:=(Ug (ks:=[k,k']) (k:=k') (by simp)).2; have:=Uf n [k,k']; omega) hS
 rcases hk with h | h | h
 ·have e:chZ n u s [a,b] q=(qJ a b,[]):=by unfold chZ; rw[h]; rfl
  rw[e];refine ⟨fun hq=>?_,fun h1=>?_⟩
  ·obtain ⟨c1,c2⟩:=hc hq
   rw[c1,c2,Qw]; rfl
  ·have ho:Y2 ([k,k'].map ty)=1:=by rw[<-h1,Y6]; unfold tyN; rw[h]; rfl
   obtain ⟨x,hx⟩:=hda (qU ho (ty k) (by simp));obtain ⟨y,hy⟩:=hdb (qU ho (ty k') (by simp));exact ⟨qJ x y,by show qJ a b=_; rw[hx,hy,zew]⟩
 ·have e:chZ n u s [a,b] q=(uc a b,[]):=by unfold chZ; rw[h]; rfl
  rw[e];refine ⟨fun hq=>?_,fun h1=>?_⟩
  ·obtain ⟨c1,c2⟩:=hc hq
   rw[c1,c2,RG]; rfl
  ·have ho:Y2 ([k,k'].map ty)=1:=by rw[<-h1,Y6]; unfold tyN; rw[h]; rfl
   obtain ⟨x,hx⟩:=hda (qU ho (ty k) (by simp));obtain ⟨y,hy⟩:=hdb (qU ho (ty k') (by simp));exact ⟨uc x y,by show uc a b=_; rw[hx,hy,RF]⟩
 ·have e:chZ n u s [a,b] q=((if a=xD a.1 then yO b a.1 else yO a b.1),[]):=by unfold chZ; rw[h]; rfl
  rw[e];have hdv:∀(x:LZ) (P y1:Int) (y z:LZ),(x=yO z P\/(y=yO z P/\y1=y.1))->∃w,yO x y1=yO w P:=fun x P y1 y z hxy=>by
   rcases hxy with rfl | ⟨rfl,rfl⟩
   ·exact ⟨yO z y1,Sf _ _ _⟩
   ·exact ⟨yO x z.1,by rw[qd]; rfl⟩
  refine ⟨fun hq=>?_,fun h1=>?_⟩
  ·obtain ⟨c1,c2⟩:=hc hq
   show (if a=xD a.1 then yO b a.1 else yO a b.1)=xD (if a=xD a.1 then yO b a.1 else yO a b.1).1;rw[if_pos c1,c2,Zx]; rfl
  ·have ho:U9 (ty k) (ty k')=1:=by rw[<-h1,Y6]; unfold tyN; rw[h]; rfl
   show ∃z,(if a=xD a.1 then yO b a.1 else yO a b.1)=_;rcases ze2 ho with h2 | h2
   ·obtain ⟨x,hx⟩:=hda h2
    split
    ·exact hdv b _ a.1 a x (.inr ⟨hx,rfl⟩)
    ·exact hdv a _ b.1 b x (.inl hx)
   ·obtain ⟨x,hx⟩:=hdb h2
    split
    ·exact hdv b _ a.1 a x (.inl hx)
    ·exact hdv a _ b.1 b x (.inr ⟨hx,rfl⟩)
theorem UM {S:Int} {n:zx.T} {k k':Tree} (h:nK n=8) (hty:tyE (.nd n [k,k'])=0) {a b:LZ} (ha:QT S k a) (hb:QT S k' b):a=xD a.1\/b=xD b.1:=by
 unfold tyE at hty;cases h1:(ty (.nd n [k,k']) == -1) with
 | true=>rw[h1] at hty; exact absurd (show (80:Int)=0 from hty) (by decide)
 | false =>
  rw[h1] at hty;have e:zaX (Tree.nd n [k,k']).root ((Tree.nd n [k,k']).kids.map noQ)=(!noQ k&&!noQ k'):=by
   unfold zaX;rw[show (Tree.nd n [k,k']).root=n from rfl,h];rfl
  rw[e] at hty;cases hk:noQ k with
  | true=>exact .inl (ha.1 hk)
  | false =>
   cases hk':noQ k' with
   | true=>exact .inr (hb.1 hk')
   | false=>rw[hk,hk'] at hty; exact absurd (show (81:Int)=0 from hty) (by decide)
theorem zeJ {t:Tree} (h:tyE t=0):ty t≠-1:=fun h1=>by
 unfold tyE at h;rw[h1] at h;exact absurd (show (80:Int)=0 from h) (by decide)
theorem PG.at {s M:Int} {V:Int->Int} {Q:LZ->Prop} {ps:List PZ} (h:PG s M V Q ps) (q:Int):yk s (wz ps q)<=M/\Q (wz ps q):=by
 obtain ⟨p,hp,e⟩:=SD ps q h.ne;rw[e];exact ⟨h.sp p hp,h.pr p hp⟩
theorem zfU {s q:Int} {t:LZ} (hq:td s q=true) (h:yk s t<=LIM):∃f,ZT s t q f:=by
 obtain ⟨f,_,hf⟩:=zdi 71 (by decide) h hq;exact ⟨f,hf⟩
theorem Y3 {s q:Int} (hs:1<=s) (hs2:s<=1000000000000) (h0:0<=q) (h1:q<=1099511627776):td s q=true:=wI.2 ⟨hs,hs2,h0,h1⟩
theorem mk1 {s u M A:Int} (hs:1<=s) (hs2:s<=1000000000000) {n:zx.T} {V V0:Int->Int} {W:Int->Int->Int} {Q Q0:LZ->Prop} {p0:List PZ} (g0:PG s A V0 Q0 p0)
  (h:∀a q,yk s a<=A->Q0 a->td s q=true->Q (chZ n u s [a] q).1/\Got s M (fun x=>W x (yK s a x)) q (chZ n u s [a] q)/\∀F,300<F->XW F n u s [a] q (chZ n u s [a] q))
  (hV:∀x,0<=x->x<=1099511627776->V x=W x (V0 x)):zcC s M V Q (chZ n u s) [p0]/\∀F,300<F->Calls F (tV n,(n,mk u,s)) (chZ n u s) s [p0]:=by
 refine ⟨fun q q0 q1=>?_,fun F hF q q0 q1=>?_⟩
 ·have hq:=Y3 hs hs2 q0 q1
  obtain ⟨h1,⟨h2,h3,h4,h5⟩,h6⟩:=h _ q (g0.at q).1 (g0.at q).2 hq;refine ⟨h2,h1,fun t ht=>zfU hq (h3 t ht),fun x x0 x1 e ht=>?_⟩;have e0:wz p0 x=wz p0 q:=by simpa using e
  refine (h5 x ht).trans ?_;rw[hV x (by omega) x1,<-g0.vl x (by omega) x1,e0]
 ·have hq:=Y3 hs hs2 q0 q1
  obtain ⟨h1,⟨h2,h3,h4,h5⟩,h6⟩:=h _ q (g0.at q).1 (g0.at q).2 hq;exact ⟨h6 F hF,h3,h4⟩
theorem mk2 {s u M A B:Int} (hs:1<=s) (hs2:s<=1000000000000) {n:zx.T} {V V0 V1:Int->Int} {W:Int->Int->Int->Int} {Q Q0 Q1:LZ->Prop} {p0 p1:List PZ} (g0:PG s A V0 Q0 p0) (g1:PG s B V1 Q1 p1)
  (h:∀a b q,yk s a<=A->yk s b<=B->Q0 a->Q1 b->td s q=true->Q (chZ n u s [a,b] q).1/\Got s M (fun x=>W x (yK s a x) (yK s b x)) q (chZ n u s [a,b] q)/\∀F,300<F->XW F n u s [a,b] q (chZ n u s [a,b] q))
  (hV:∀x,0<=x->x<=1099511627776->V x=W x (V0 x) (V1 x)):zcC s M V Q (chZ n u s) [p0,p1]/\∀F,300<F->Calls F (tV n,(n,mk u,s)) (chZ n u s) s [p0,p1]:=by
 refine ⟨fun q q0 q1=>?_,fun F hF q q0 q1=>?_⟩
 ·have hq:=Y3 hs hs2 q0 q1
  obtain ⟨h1,⟨h2,h3,h4,h5⟩,h6⟩:=h _ _ q (g0.at q).1 (g1.at q).1 (g0.at q).2 (g1.at q).2 hq;refine ⟨h2,h1,fun t ht=>zfU hq (h3 t ht),fun x x0 x1 e ht=>?_⟩;have e:wz p0 x=wz p0 q/\wz p1 x=wz p1 q:=by simpa using e
  refine (h5 x ht).trans ?_;rw[hV x (by omega) x1,<-g0.vl x (by omega) x1,<-g1.vl x (by omega) x1,e.1,e.2]
 ·have hq:=Y3 hs hs2 q0 q1
  obtain ⟨h1,⟨h2,h3,h4,h5⟩,h6⟩:=h _ _ q (g0.at q).1 (g1.at q).1 (g0.at q).2 (g1.at q).2 hq;exact ⟨h6 F hF,h3,h4⟩
theorem mk3 {s u M A B C:Int} (hs:1<=s) (hs2:s<=1000000000000) {n:zx.T} {V V0 V1 V2:Int->Int} {W:Int->Int->Int->Int->Int} {Q Q0 Q1 Q2:LZ->Prop} {p0 p1 p2:List PZ} (g0:PG s A V0 Q0 p0) (g1:PG s B V1 Q1 p1) (g2:PG s C V2 Q2 p2)
  (h:∀a b c q,yk s a<=A->yk s b<=B->yk s c<=C->Q0 a->Q1 b->Q2 c->td s q=true->Q (chZ n u s [a,b,c] q).1/\Got s M (fun x=>W x (yK s a x) (yK s b x) (yK s c x)) q (chZ n u s [a,b,c] q)/\∀F,300<F->XW F n u s [a,b,c] q (chZ n u s [a,b,c] q))
  (hV:∀x,0<=x->x<=1099511627776->V x=W x (V0 x) (V1 x) (V2 x)):zcC s M V Q (chZ n u s) [p0,p1,p2]/\∀F,300<F->Calls F (tV n,(n,mk u,s)) (chZ n u s) s [p0,p1,p2]:=by
 refine ⟨fun q q0 q1=>?_,fun F hF q q0 q1=>?_⟩
 ·have hq:=Y3 hs hs2 q0 q1
  obtain ⟨h1,⟨h2,h3,h4,h5⟩,h6⟩:=h _ _ _ q (g0.at q).1 (g1.at q).1 (g2.at q).1 (g0.at q).2 (g1.at q).2 (g2.at q).2 hq;refine ⟨h2,h1,fun t ht=>zfU hq (h3 t ht),fun x x0 x1 e ht=>?_⟩;have e:wz p0 x=wz p0 q/\wz p1 x=wz p1 q/\wz p2 x=wz p2 q:=by simpa using e
  refine (h5 x ht).trans ?_;rw[hV x (by omega) x1,<-g0.vl x (by omega) x1,<-g1.vl x (by omega) x1,<-g2.vl x (by omega) x1,e.1,e.2.1,e.2.2]
 ·have hq:=Y3 hs hs2 q0 q1
  obtain ⟨h1,⟨h2,h3,h4,h5⟩,h6⟩:=h _ _ _ q (g0.at q).1 (g1.at q).1 (g2.at q).1 (g0.at q).2 (g1.at q).2 (g2.at q).2 hq;exact ⟨h6 F hF,h3,h4⟩
def tQ (u:Int) (n:zx.T):LZ:=bif nK n==1 then xD (nN n) else bif nK n==2 then xD (nN n*u) else bif nK n==3 then (0,1,0) else (0,0,1)
noncomputable def YR (n:zx.T) (u s:Int):List PZ->List (List PZ)->Option (List PZ)
 | acc,[]=>some acc
 | acc,k::r=>match mdZ (chZ n u s) s [acc,k] 4096 0 [] with | none=>none | some a=>YR n u s a r
noncomputable def zah (n:zx.T) (u s:Int) (kids:List (List PZ)):Option (List PZ) :=
 bif nK n==9||nK n==10 then YR n u s (kids.getD 0 []) (kids.drop 1) else mdZ (chZ n u s) s kids 4096 0 []
noncomputable def pcN (u s:Int) (n:zx.T) (ks:List (Option (List PZ))):Option (List PZ) :=
 bif decide (nK n<=4) then some [(0,tQ u n)] else zah n u s (ks.map fun k=>k.getD [])
noncomputable def pc (u s:Int):Tree->Option (List PZ):=Tree.fold (pcN u s)
theorem VU (u s:Int) (n:zx.T) (ks:List Tree):pc u s (.nd n ks)=pcN u s n (ks.map (pc u s)):=Tree.fold_nd _ n ks
noncomputable abbrev pcs (u s:Int) (t:Tree):List PZ:=(pc u s t).getD []
noncomputable def pcE (u s:Int) (t:Tree):Int:=bif (pc u s t).isNone then 120 else 0
structure PT (u S:Int) (d:wV.T) (t:Tree):Prop where
 pg:PG (dS d) (mag u [d] t) (fun x=>ev u [d] [x] t) (QT S t) (pcs u (dS d) t)
 m0:0<=mag u [d] t
 mb:mag u [d] t<=BND
theorem zdw (F:Nat) (hF:4200<F) {u s:Int} (hs:1<=s) (hs2:s<=1000000000000) {n:zx.T} (hk:nK n=9\/nK n=10) {Q:LZ->Prop} {A B:Int} {VA VB:Int->Int} {p0 p1:List PZ} (g0:PG s A VA Q p0) (g1:PG s B VB Q p1) (hA:0<=A) (hB:0<=B) (hL:A+B<=BND) :
  zb.sh F (n,mk u,s) (tV n,(n,mk u,s)) [p0.map wP,p1.map wP]=some (mdR (mdZ (chZ n u s) s [p0,p1] 4096 0 [])) /\
  ∀ps,mdZ (chZ n u s) s [p0,p1] 4096 0 []=some ps->PG s (A+B) (fun x=>Zb n (VA x) (VB x)) Q ps:=by
 obtain ⟨st,ca⟩:=mk2 (u:=u) (M:=A+B) (n:=n) (V:=fun x=>Zb n (VA x) (VB x)) (W:=fun _=>Zb n) (Q:=Q) hs hs2 g0 g1 (fun a b q ha hb qa qb hq=>by
  obtain ⟨h1,h2,h3⟩:=ch2m (u:=u) hk ha hb hA hB hL hq;exact ⟨by rcases h2 with h2 | h2<;>rw[h2]<;>assumption,h1,h3⟩) (fun x _ _=>rfl)
 refine ⟨?_,fun ps h=>TN st h⟩;exact TM F hF (tV n,(n,mk u,s)) (KS:=[p0,p1]) (by simp[g0.len,g1.len]) (by simp) (by simp[g0.ne,g1.ne]) (n,mk u,s) hs hs2 (ca F (by omega)) (fun q q0 q1=>(Zf st q0 q1).1)
theorem zdh (F:Nat) (hF:4200<F) {u s:Int} (hs:1<=s) (hs2:s<=1000000000000) {n:zx.T} (hk:nK n=9\/nK n=10) {Q:LZ->Prop} (of:Nat×za.T) (hof:of=(tV n,(n,mk u,s)))
  {R:Type} (k0:List zo.T->Bool->Option R) (k1:List zo.T->Option R) (L:List (List zo.T)) (N:Int):∀(r:List (List PZ×Int×(Int->Int))) (i:Int) (acc:List PZ) (A:Int) (VA:Int->Int),PG s A VA Q acc->0<=A->A+(r.map fun x=>x.2.1).sum<=BND->(∀x∈r,0<=x.2.1/\PG s x.2.1 x.2.2 Q x.1)->
  (zw.l5.rg F k0 (fun _ made _ _ _ _ _=>k1 made) L N (r.map fun x=>x.1.map wP) i of (acc.map wP) (n,mk u,s)=match YR n u s acc (r.map fun x=>x.1) with | some ps=>k1 (ps.map wP) | none=>k0 [] false) /\
  ∀ps,YR n u s acc (r.map fun x=>x.1)=some ps->PG s (A+(r.map fun x=>x.2.1).sum) (fun x=>r.foldl (fun v y=>Zb n v (y.2.2 x)) (VA x)) Q ps
 | [],i,acc,A,VA,g,hA,hL,hr=>by
  refine ⟨rfl,fun ps h=>?_⟩;have h:acc=ps:=by simpa [YR] using h
  subst h;simpa using g
 | y::r,i,acc,A,VA,g,hA,hL,hr=>by
  obtain ⟨y0,gy⟩:=hr y (by simp);have hsum:0<=(r.map fun x=>x.2.1).sum:=by
   have:∀(l:List (List PZ×Int×(Int->Int))),(∀x∈l,0<=x.2.1)->0<=(l.map fun x=>x.2.1).sum:=by
    intro l;induction l with
    | nil=>intro _; simp
    | cons z l ih=>intro h; have:=ih (fun x hx=>h x (List.mem_cons_of_mem _ hx)); have:=h z (by simp); simp only[List.map_cons,List.sum_cons]; omega
   exact this r (fun x hx=>(hr x (List.mem_cons_of_mem _ hx)).1)
  simp only[List.map_cons,List.sum_cons] at hL ⊢;obtain ⟨e1,e2⟩:=zdw F hF hs hs2 hk (u:=u) g gy hA y0 (by omega);subst hof;rw[zw.l5.rg,e1,zg];simp only[YR];cases hm:mdZ (chZ n u s) s [acc,y.1] 4096 0 [] with
  | none=>exact ⟨rfl,fun ps h=>by cases h⟩
  | some a =>
   obtain ⟨f1,f2⟩:=zdh F hF hs hs2 hk (u:=u) (tV n,(n,mk u,s)) rfl k0 k1 L N r (i+1) a (A+y.2.1) (fun x=>Zb n (VA x) (y.2.2 x)) (e2 a hm) (by omega) (by omega) (fun x hx=>hr x (List.mem_cons_of_mem _ hx));refine ⟨f1,fun ps h=>?_⟩;have:=f2 ps h;rw[Int.add_assoc] at this;exact this
theorem TQ {n:zx.T} (hg:qw n=true) (hk:qf n=true):(ar n=0/\(nK n=1\/nK n=2\/nK n=3\/nK n=4))\/(ar n=1/\(nK n=5\/nK n=11\/nK n=12\/nK n=13\/nK n=14\/nK n=15)) \/
  (ar n=2/\(nK n=6\/nK n=7\/nK n=8))\/((2<=ar n/\ar n<=16)/\(nK n=9\/nK n=10))\/(ar n=3/\nK n=16):=by
 have h9:(nK n=9\/nK n=10)->2<=ar n/\ar n<=16:=fun h=>by
  rcases h with h | h<;>rw[XG h] at hk<;>rw[vq h]
  ·have hk:(decide (nC n>=2)&&decide (nC n<=16))=true:=hk
   show 2<=(nC n).toNat/\(nC n).toNat<=16;simp at hk; omega
  ·have hk:(decide (nC n>=2)&&decide (nC n<=16))=true:=hk
   show 2<=(nC n).toNat/\(nC n).toNat<=16;simp at hk; omega
 rcases qP hg with h | h | h | h | h | h | h | h | h | h | h | h | h | h | h | h
 ·exact .inl ⟨by rw[vq h]; rfl,by omega⟩
 ·exact .inl ⟨by rw[vq h]; rfl,by omega⟩
 ·exact .inl ⟨by rw[vq h]; rfl,by omega⟩
 ·exact .inl ⟨by rw[vq h]; rfl,by omega⟩
 ·exact .inr (.inl ⟨by rw[vq h]; rfl,by omega⟩)
 ·exact .inr (.inr (.inl ⟨by rw[vq h]; rfl,by omega⟩))
 ·exact .inr (.inr (.inl ⟨by rw[vq h]; rfl,by omega⟩))
 ·exact .inr (.inr (.inl ⟨by rw[vq h]; rfl,by omega⟩))
 ·exact .inr (.inr (.inr (.inl ⟨h9 (.inl h),.inl h⟩)))
 ·exact .inr (.inr (.inr (.inl ⟨h9 (.inr h),.inr h⟩)))
 ·exact .inr (.inl ⟨by rw[vq h]; rfl,by omega⟩)
 ·exact .inr (.inl ⟨by rw[vq h]; rfl,by omega⟩)
 ·exact .inr (.inl ⟨by rw[vq h]; rfl,by omega⟩)
 ·exact .inr (.inl ⟨by rw[vq h]; rfl,by omega⟩)
 ·exact .inr (.inl ⟨by rw[vq h]; rfl,by omega⟩)
 ·exact .inr (.inr (.inr (.inr ⟨by rw[vq h]; rfl,h⟩)))
theorem zd7 (F:Nat) {u S:Int} (hS0:0<=S) (hu:u=10000^S.toNat) (hu1:1<=u) (hu2:u<=1000000000000000000000000) {d:wV.T} (hs:1<=dS d) (hs2:dS d<=1000000000000) {n:zx.T} {pile:Nat} (hn:tm 1 n pile=0) (hk:nK n=1\/nK n=2\/nK n=3\/nK n=4) :
  xq.sh F (n,mk u,dS d)=some (([wP (0,tQ u n)],()),())/\PG (dS d) (mag u [d] (.nd n [])) (fun x=>ev u [d] [x] (.nd n [])) (QT S (.nd n [])) [(0,tQ u n)]:=by
 obtain ⟨g1,g2,g3,g4,g5,g6,g7,g8⟩:=uh hn;have hN2:=YP (show 1<=4 by omega) g3 g1;have i1:mk 1=(0,1):=rfl;have mkPG:∀M (V:Int->Int) (Q:LZ->Prop),yk (dS d) (tQ u n)<=M->Q (tQ u n)->(∀x,0<=x->x<=1099511627776->yK (dS d) (tQ u n) x=V x)->PG (dS d) M V Q [(0,tQ u n)]:=fun M V Q h1 h2 h3 =>
  ⟨by simp,by simp,by simp,⟨trivial,trivial⟩,by simpa using h1,by simpa using h2,h3⟩
 have ha:mag u [d] (.nd n [])=vz u [d] n []:=by rw[SB]; rfl
 have hv:∀x,ev u [d] [x] (.nd n [])=evN u [d] [x] n []:=fun x=>by rw[zfZ]; rfl
 have ht:ty (.nd n [])=tyN n []:=by rw[Y6]; rfl
 have hq:noQ (.nd n [])=!isQ n:=by
  unfold noQ; rw[XL]; simp[yn]
 rw[ha];simp only[hv];rcases hk with h | h | h | h
 ·have e:tQ u n=xD (nN n):=by unfold tQ; rw[h]; rfl
  rw[e] at mkPG ⊢;refine ⟨?_,mkPG _ _ _ ?_ ⟨fun _=>rfl,fun h1=>?_⟩ fun x _ _=>?_⟩
  ·unfold xq.sh
   rw[show (n,mk u,dS d).1.1=1 from h];simp only[beq_self_eq_true,cond_true];rw[tK F (v:=n.2.1) (show _<=nN n by omega) (show nN n<_ by omega),zg];rfl
  ·rw[tB,qt g2,show vz u [d] n []=nN n by unfold vz; rw[h]; rfl]; omega
  ·rw[ht,show tyN n []=0 by unfold tyN; rw[h]; rfl] at h1; omega
  ·rw[Yo]; unfold evN; rw[h]; rfl
 ·have e:tQ u n=xD (nN n*u):=by unfold tQ; rw[h]; rfl
  have hb:=ZR g2 hN2 (show 0<=u by omega) hu2;have iu:inR u=true:=by rw[yR]; omega
  have iN:inR (nN n)=true:=by rw[yR]; omega
  have im:inR (nN n*u)=true:=by rw[yR]; omega
  rw[e] at mkPG ⊢;refine ⟨?_,mkPG _ _ _ ?_ ⟨fun _=>rfl,fun h1=>?_⟩ fun x _ _=>?_⟩
  ·unfold xq.sh
   rw[show (n,mk u,dS d).1.1=2 from h];simp only[Int.reduceBEq,cond_false,beq_self_eq_true,cond_true];rw[tK F (v:=n.2.1) (show _<=nN n by omega) (show nN n<_ by omega),zg,ZG F (wj iN) (wj iu),zg,xv,xv,(uB im).1];rfl
  ·rw[tB,qt hb.1,show vz u [d] n []=nN n*u by unfold vz; rw[h]; rfl]; omega
  ·have hd:wT (.nd n [])=0:=by rw[WT,h]; rfl
   rw[hd,Int.sub_zero,<-hu];exact ⟨xD (nN n),(Zx _ _).symm⟩
  ·rw[Yo]; unfold evN; rw[h]; rfl
 ·have e:tQ u n=(0,1,0):=by unfold tQ; rw[h]; rfl
  rw[Zm h] at g3;have g3:nN n<=0:=g3;rw[e] at mkPG ⊢;refine ⟨?_,mkPG _ _ _ ?_ ⟨fun h1=>?_,fun h1=>?_⟩ fun x _ _=>?_⟩
  ·unfold xq.sh
   rw[show (n,mk u,dS d).1.1=3 from h];simp only[Int.reduceBEq,cond_false,beq_self_eq_true,cond_true];rw[tK F (v:=1) (by omega) (by omega),zg];rfl
  ·rw[show vz u [d] n []=1099511627776 by unfold vz; rw[h]; rfl]
   simp only[yk,show nA 0=0 from rfl,show nA 1=1 from rfl,Int.zero_mul,Int.one_mul];omega
  ·rw[hq] at h1; unfold isQ at h1; rw[h] at h1; cases h1
  ·rw[ht,show tyN n []=2+2*nN n by unfold tyN; rw[h]; rfl] at h1; omega
  ·have:nN n=0:=by omega
   simp only[yK];unfold evN; rw[h,this];show 0+1*x+0*_=x;omega
 ·have e:tQ u n=(0,0,1):=by unfold tQ; rw[h]; rfl
  rw[Zm h] at g3;have g3:nN n<=0:=g3;have h0:nN n=0:=by omega
  rw[e] at mkPG ⊢;refine ⟨?_,mkPG _ _ _ ?_ ⟨fun h1=>?_,fun h1=>?_⟩ fun x _ _=>?_⟩
  ·unfold xq.sh
   rw[show (n,mk u,dS d).1.1=4 from h];simp only[Int.reduceBEq,cond_false,beq_self_eq_true,cond_true];rw[tK F (v:=1) (by omega) (by omega),zg];rfl
  ·rw[show vz u [d] n []=xw 1099511627776 (dS d) by unfold vz; rw[h,h0]; rfl]
   simp only[yk,show nA 0=0 from rfl,show nA 1=1 from rfl,Int.zero_mul,Int.one_mul];show 0+0+xw 1099511627776 (dS d)<=_;omega
  ·rw[hq] at h1; unfold isQ at h1; rw[h] at h1; cases h1
  ·rw[ht,show tyN n []=3+2*nN n by unfold tyN; rw[h]; rfl] at h1; omega
  ·simp only[yK]
   unfold evN; rw[h,h0];show 0+0*x+1*xw x (dS d)=xw x (dS d);omega
theorem ze7 {n:zx.T} (h:nK n=9):∀(l:List Int) (m:Int),minF m l=l.foldl (Zb n) m:=by
 have:Zb n=fun m x=>if x<m then x else m:=by funext m x; unfold Zb; rw[h]; rfl
 intro l m;rw[this]; rfl
theorem ze9 {n:zx.T} (h:nK n=10):∀(l:List Int) (m:Int),ZE m l=l.foldl (Zb n) m:=by
 have:Zb n=fun m x=>if x>m then x else m:=by funext m x; unfold Zb; rw[h]; rfl
 intro l m;rw[this]; rfl
theorem node_pc (F:Nat) (hF:4200<F) {u S:Int} (hS0:0<=S) (hu:u=10000^S.toNat) (hu1:1<=u) (hu2:u<=1000000000000000000000000) {d:wV.T} (hs:1<=dS d) (hs2:dS d<=1000000000000) {n:zx.T} {pile:Nat} (hn:tm 1 n pile=0) {ks:List Tree} (hl:ks.length=ar n) (ha:1<=ar n)
  (hty:tyE (.nd n ks)=0) (hm:tC n (mag u [d] (.nd n ks))<=BND) (hS:wT (.nd n ks)<=S) (hk:∀k∈ks,PT u S d k) :
  zw.sh F (n,mk u,dS d) (tV n,(n,mk u,dS d)) (ks.map fun k=>(pcs u (dS d) k).map wP)=some (mdR (pc u (dS d) (.nd n ks))) /\
  ∀ps,pc u (dS d) (.nd n ks)=some ps->PG (dS d) (mag u [d] (.nd n ks)) (fun x=>ev u [d] [x] (.nd n ks)) (QT S (.nd n ks)) ps:=by
 obtain ⟨g1,g2,g3,g4,g5,g6,g7,g8⟩:=uh hn;have iu:inR u=true:=by rw[yR]; omega
 have hmag:=SB u [d] n ks;have hev:∀x,ev u [d] [x] (.nd n ks)=evN u [d] [x] n (ks.map (ev u [d] [x])):=fun x=>zfZ _ _ _ _ _
 have htn:=zeJ hty;rcases TQ g1 g4 with ⟨h,_⟩ | ⟨h,hkd⟩ | ⟨h,hkd⟩ | ⟨h,hkd⟩ | ⟨h,hkd⟩
 ·omega
 ·obtain ⟨k,rfl⟩:=List.length_eq_one_iff.1 (hl.trans h)
  have pk:=hk k (by simp);have hf:tC n (vz u [d] n [mag u [d] k])<=BND:=by rw[hmag] at hm; exact hm
  have hpc:pc u (dS d) (.nd n [k])=mdZ (chZ n u (dS d)) (dS d) [pcs u (dS d) k] 4096 0 []:=by
   rw[VU]; unfold pcN zah;rw[decide_eq_false (show ¬nK n<=4 by omega),show (nK n==9||nK n==10)=false by rcases hkd with h | h | h | h | h | h<;>rw[h]<;>rfl]
   rfl
  obtain ⟨st,ca⟩:=mk1 (u:=u) (M:=vz u [d] n [mag u [d] k]) (n:=n) (V:=fun x=>ev u [d] [x] (.nd n [k])) (W:=fun x v=>evN u [d] [x] n [v]) (Q:=QT S (.nd n [k])) hs hs2 pk.pg (fun a q ha' qa hq=>by
   obtain ⟨h1,h2⟩:=ch1 hu1 iu (show 1<=4 by omega) hn hkd ha' pk.m0 pk.mb hf (fun h15=>by
    obtain ⟨_,z,hz⟩:=QU h15 htn hS qa;exact ⟨yO z (10000^(S-wT (.nd n [k])).toNat),by rw[qd]; exact hz⟩) hq
   exact ⟨q1 hS0 hu hkd hS htn qa _ _,h1,h2⟩) (fun x _ _=>hev x)
  rw[hpc,hmag];refine ⟨?_,fun ps hps=>TN st hps⟩;unfold zw.sh;have e9:((n,mk u,dS d).1.1 != 9)=true:=by show (nK n != 9)=true; rcases hkd with h | h | h | h | h | h<;>rw[h]<;>rfl
  have e10:((n,mk u,dS d).1.1 != 10)=true:=by show (nK n != 10)=true; rcases hkd with h | h | h | h | h | h<;>rw[h]<;>rfl
  rw[e9,e10];simp only[cond_true];have hmd:=TM F hF (tV n,(n,mk u,dS d)) (KS:=[pcs u (dS d) k]) (by simp[pk.pg.len]) (by simp) (by simp[pk.pg.ne]) (n,mk u,dS d) hs hs2 (ca F (by omega)) (fun q q0 q1=>(Zf st q0 q1).1);have hmd':zb.sh F (n,mk u,dS d) (tV n,(n,mk u,dS d)) ([k].map fun k=>(pcs u (dS d) k).map wP)=_:=hmd;rw[hmd',zg]
 ·obtain ⟨k,k',rfl⟩:=len2 (hl.trans h)
  have pk:=hk k (by simp);have pk':=hk k' (by simp);have hf:tC n (vz u [d] n [mag u [d] k,mag u [d] k'])<=BND:=by rw[hmag] at hm; exact hm
  have hpc:pc u (dS d) (.nd n [k,k'])=mdZ (chZ n u (dS d)) (dS d) [pcs u (dS d) k,pcs u (dS d) k'] 4096 0 []:=by
   rw[VU]; unfold pcN zah;rw[decide_eq_false (show ¬nK n<=4 by omega),show (nK n==9||nK n==10)=false by rcases hkd with h | h | h<;>rw[h]<;>rfl]
   rfl
  obtain ⟨st,ca⟩:=mk2 (u:=u) (M:=vz u [d] n [mag u [d] k,mag u [d] k']) (n:=n) (V:=fun x=>ev u [d] [x] (.nd n [k,k'])) (W:=fun x v w=>evN u [d] [x] n [v,w]) (Q:=QT S (.nd n [k,k'])) hs hs2 pk.pg pk'.pg (fun a b q ha' hb' qa qb hq=>by
   obtain ⟨h1,h2⟩:=ch2 (u:=u) (show 1<=4 by omega) hn hkd ha' hb' pk.mb pk'.mb hf (fun h8=>UM h8 hty qa qb) hq;exact ⟨q2 hkd hS qa qb _ _,h1,h2⟩) (fun x _ _=>hev x)
  rw[hpc,hmag];refine ⟨?_,fun ps hps=>TN st hps⟩;unfold zw.sh;have e9:((n,mk u,dS d).1.1 != 9)=true:=by show (nK n != 9)=true; rcases hkd with h | h | h<;>rw[h]<;>rfl
  have e10:((n,mk u,dS d).1.1 != 10)=true:=by show (nK n != 10)=true; rcases hkd with h | h | h<;>rw[h]<;>rfl
  rw[e9,e10];simp only[cond_true];have hmd:=TM F hF (tV n,(n,mk u,dS d)) (KS:=[pcs u (dS d) k,pcs u (dS d) k']) (by simp[pk.pg.len,pk'.pg.len]) (by simp) (by simp[pk.pg.ne,pk'.pg.ne]) (n,mk u,dS d) hs hs2 (ca F (by omega)) (fun q q0 q1=>(Zf st q0 q1).1);have hmd':zb.sh F (n,mk u,dS d) (tV n,(n,mk u,dS d)) ([k,k'].map fun k=>(pcs u (dS d) k).map wP)=_:=hmd;rw[hmd',zg]
 ·obtain ⟨k,r,rfl⟩:∃k r,ks=k::r:=by
   cases ks with
   | nil=>simp at hl; omega
   | cons k r=>exact ⟨k,r,rfl⟩
  have pk:=hk k (by simp);have em:vz u [d] n ((k::r).map (mag u [d]))=mag u [d] k+(r.map (mag u [d])).sum:=by
   unfold vz; rcases hkd with h | h<;>rw[h]<;>simp[qo]
  have hf:mag u [d] k+(r.map (mag u [d])).sum<=BND:=by
   rw[hmag,em] at hm; unfold tC at hm; rcases hkd with h | h<;>rw[h] at hm<;>exact hm
  have hpc:pc u (dS d) (.nd n (k::r))=YR n u (dS d) (pcs u (dS d) k) (r.map (pcs u (dS d))):=by
   rw[VU]; unfold pcN zah;rw[decide_eq_false (show ¬nK n<=4 by omega),show (nK n==9||nK n==10)=true by rcases hkd with h | h<;>rw[h]<;>rfl]
   simp only[cond_true,cond_false,List.map_map,List.map_cons,List.drop_succ_cons,List.drop_zero];rfl
  have hup:∀k'∈k::r,∀l,QT S k' l->QT S (.nd n (k::r)) l:=fun k' hk' l hq=>hq.up hk' hS (fun h1=>by
   have ho:Y2 ((k::r).map ty)=1:=by rw[<-h1,Y6]; unfold tyN; rcases hkd with h | h<;>rw[h]<;>rfl
   exact qU ho (ty k') (List.mem_map_of_mem hk'))
  have hweak:∀k'∈k::r,PG (dS d) (mag u [d] k') (fun x=>ev u [d] [x] k') (QT S (.nd n (k::r))) (pcs u (dS d) k'):=fun k' hk'=>by
   obtain ⟨a1,a2,a3,a4,a5,a6,a7⟩:=(hk k' hk').pg;exact ⟨a1,a2,a3,a4,a5,fun p hp=>hup k' hk' _ (a6 p hp),a7⟩
  have er:∀{β:Type} (f:List PZ×Int×(Int->Int)->β),(r.map fun k'=>((pcs u (dS d) k',mag u [d] k',fun x=>ev u [d] [x] k'):List PZ×Int×(Int->Int))).map f=r.map fun k'=>f (pcs u (dS d) k',mag u [d] k',fun x=>ev u [d] [x] k'):=fun f=>by rw[List.map_map]; rfl
  obtain ⟨f1,f2⟩:=zdh F hF hs hs2 hkd (u:=u) (Q:=QT S (.nd n (k::r))) (tV n,(n,mk u,dS d)) rfl (fun r65 r75=>(some ((r65,r75,()),()):Option zw.sg.R)) (fun made=>some ((made,true,()),())) (r.map fun k=>(pcs u (dS d) k).map wP) (r.length:Int)
   (r.map fun k'=>(pcs u (dS d) k',mag u [d] k',fun x=>ev u [d] [x] k')) 0 (pcs u (dS d) k) (mag u [d] k) (fun x=>ev u [d] [x] k) (hweak k (by simp)) pk.m0 (by rw[er]; exact hf) (by
    intro x hx;obtain ⟨k',hk',rfl⟩:=List.mem_map.1 hx;exact ⟨(hk k' (by simp[hk'])).m0,hweak k' (by simp[hk'])⟩)
  rw[er,er] at f1;rw[er,er] at f2;rw[hpc,hmag,em];refine ⟨?_,fun ps hps=>?_⟩
  ·unfold zw.sh
   have hj:∀(k0 k1:List zo.T->Bool->Option zw.sg.R),zw.j3 F k0 k1 (tV n,(n,mk u,dS d)) ((k::r).map fun k=>(pcs u (dS d) k).map wP) (n,mk u,dS d) =
     zw.l5.rg F k0 (fun _ made _ _ _ _ _=>k1 made true) (r.map fun k=>(pcs u (dS d) k).map wP) (r.length:Int) (r.map fun k=>(pcs u (dS d) k).map wP) 0 (tV n,(n,mk u,dS d)) ((pcs u (dS d) k).map wP) (n,mk u,dS d):=fun k0 k1=>by
    have hbl:=Za (n:=((k::r).map fun k=>(pcs u (dS d) k).map wP).length) (i:=1) (by simp);rw[show ((1:Nat):Int)=1 from rfl] at hbl;unfold zw.j3;rw[YK (by simp),hbl];simp only[cond_true];rw[List.take_length,List.map_cons,List.drop_succ_cons,List.drop_zero];have hrl:r.length<=16:=by simp at hl; omega
    refine (zw.l5.rg_eq F k0 (fun _ made _ _ _ _ _=>k1 made true) (r.map fun k=>(pcs u (dS d) k).map wP) _ rfl (by simp; omega) (r.map fun k=>(pcs u (dS d) k).map wP) 0 F _ _ _ rfl (by simp; omega)).trans ?_;rw[List.length_map];rfl
   rcases hkd with h | h
   ·rw[show ((n,mk u,dS d).1.1 != 9)=false by show (nK n != 9)=false; rw[h]; rfl]
    simp only[cond_false];rw[hj];refine f1.trans ?_;unfold mdR;cases YR n u (dS d) (pcs u (dS d) k) (r.map (pcs u (dS d)))<;>rfl
   ·rw[show ((n,mk u,dS d).1.1 != 9)=true by show (nK n != 9)=true; rw[h]; rfl,show ((n,mk u,dS d).1.1 != 10)=false by show (nK n != 10)=false; rw[h]; rfl]
    simp only[cond_false,cond_true];rw[hj];refine f1.trans ?_;unfold mdR;cases YR n u (dS d) (pcs u (dS d) k) (r.map (pcs u (dS d)))<;>rfl
  ·have hg:=f2 ps hps
   have hV:(fun x=>(r.map fun k'=>((pcs u (dS d) k',mag u [d] k',fun x=>ev u [d] [x] k'):List PZ×Int×(Int->Int))).foldl (fun v y=>Zb n v (y.2.2 x)) (ev u [d] [x] k))=fun x=>ev u [d] [x] (.nd n (k::r)):=by
    funext x
    rw[List.foldl_map,hev,List.map_cons];have e1:r.foldl (fun v k'=>Zb n v (ev u [d] [x] k')) (ev u [d] [x] k)=(r.map (ev u [d] [x])).foldl (Zb n) (ev u [d] [x] k):=by rw[List.foldl_map]
    refine e1.trans ?_;unfold evN;rcases hkd with h | h
    ·rw[h]; exact (ze7 h _ _).symm
    ·rw[h]; exact (ze9 h _ _).symm
   rw[hV] at hg;exact hg
 ·obtain ⟨k,k',k2,rfl⟩:=len3 (hl.trans h)
  have pk:=hk k (by simp);have pk':=hk k' (by simp);have pk2:=hk k2 (by simp);have hpc:pc u (dS d) (.nd n [k,k',k2])=mdZ (chZ n u (dS d)) (dS d) [pcs u (dS d) k,pcs u (dS d) k',pcs u (dS d) k2] 4096 0 []:=by
   rw[VU]; unfold pcN zah;rw[decide_eq_false (show ¬nK n<=4 by omega),show (nK n==9||nK n==10)=false by rw[hkd]; rfl]
   rfl
  have hone:ty (.nd n [k,k',k2])=1->ty k'=1/\ty k2=1:=fun h1=>by
   have hx0:ty (.nd n [k,k',k2])=(bif qH (ty k) then Y2 [ty k',ty k2] else -1):=by rw[Y6]; unfold tyN; rw[hkd]; rfl
   rw[hx0] at h1;cases hc:qH (ty k) with
   | false=>rw[hc] at h1; exact absurd (show (-1:Int)=1 from h1) (by decide)
   | true =>
    rw[hc] at h1;have h1:Y2 [ty k',ty k2]=1:=h1;exact ⟨qU h1 _ (by simp),qU h1 _ (by simp)⟩
  obtain ⟨st,ca⟩:=mk3 (u:=u) (M:=vz u [d] n [mag u [d] k,mag u [d] k',mag u [d] k2]) (n:=n) (V:=fun x=>ev u [d] [x] (.nd n [k,k',k2])) (W:=fun x v w z=>evN u [d] [x] n [v,w,z]) (Q:=QT S (.nd n [k,k',k2])) hs hs2 pk.pg pk'.pg pk2.pg (fun a b c q ha' hb' hc' qa qb qc hq=>by
   obtain ⟨h1,h2,h3⟩:=ch3 (u:=u) (show 1<=4 by omega) hn hkd ha' hb' hc' pk.m0 pk'.m0 pk2.m0 pk.mb (D:=[d]) hq;refine ⟨?_,h1,h3⟩;rcases h2 with h2 | h2<;>rw[h2]
   ·exact qb.up (by simp) hS (fun h=>(hone h).1)
   ·exact qc.up (by simp) hS (fun h=>(hone h).2)) (fun x _ _=>hev x)
  rw[hpc,hmag];refine ⟨?_,fun ps hps=>TN st hps⟩;unfold zw.sh;have e9:((n,mk u,dS d).1.1 != 9)=true:=by show (nK n != 9)=true; rw[hkd]; rfl
  have e10:((n,mk u,dS d).1.1 != 10)=true:=by show (nK n != 10)=true; rw[hkd]; rfl
  rw[e9,e10];simp only[cond_true];have hmd:=TM F hF (tV n,(n,mk u,dS d)) (KS:=[pcs u (dS d) k,pcs u (dS d) k',pcs u (dS d) k2]) (by simp[pk.pg.len,pk'.pg.len,pk2.pg.len]) (by simp) (by simp[pk.pg.ne,pk'.pg.ne,pk2.pg.ne]) (n,mk u,dS d) hs hs2 (ca F (by omega)) (fun q q0 q1=>(Zf st q0 q1).1);have hmd':zb.sh F (n,mk u,dS d) (tV n,(n,mk u,dS d)) ([k,k',k2].map fun k=>(pcs u (dS d) k).map wP)=_:=hmd;rw[hmd',zg]
def PS (u S:Int) (d:wV.T) (t:Tree):Prop:=PT u S d t/\∃ps,pc u (dS d) t=some ps
theorem zcM {u S:Int} (hS0:0<=S) (hu:u=10000^S.toNat) (hu1:1<=u) (hu2:u<=1000000000000000000000000) {d:wV.T} (hs:1<=dS d) (hs2:dS d<=1000000000000) {st:List Tree} {n:zx.T} (hn:tm 1 n st.length=0)
  (hI:∀t∈st,PS u S d t) (hty:tyE (ve st n)=0) (hE:Wj u [d] (ve st n)=0) (hS:wT (ve st n)<=S) :
  (pcE u (dS d) (ve st n)=0->PS u S d (ve st n))/\(ar n=0->nK n<=4/\pc u (dS d) (ve st n)=some [(0,tQ u n)]/\∀F,xq.sh F (n,mk u,dS d)=some (([wP (0,tQ u n)],()),())) /\
  (1<=ar n->5<=nK n/\∀F,4200<F->zw.sh F (n,mk u,dS d) (tV n,(n,mk u,dS d)) ((st.drop (st.length-ar n)).map fun k=>(pcs u (dS d) k).map wP)=some (mdR (pc u (dS d) (ve st n)))):=by
 obtain ⟨g1,g2,g3,g4,g5,g6,g7,g8⟩:=uh hn;have hfar:tC n (mag u [d] (ve st n))<=BND:=by
  unfold Wj at hE;rw[show (ve st n).root=n from rfl] at hE;cases hx:decide (tC n (mag u [d] (ve st n))>BND) with
  | true=>rw[hx] at hE; exact absurd (show (90:Int)=0 from hE) (by decide)
  | false=>have:=of_decide_eq_false hx; omega
 have hkp:∀k∈st.drop (st.length-ar n),PS u S d k:=fun k hk=>hI k (List.mem_of_mem_drop hk)
 have hpm:∀ps,PG (dS d) (mag u [d] (ve st n)) (fun x=>ev u [d] [x] (ve st n)) (QT S (ve st n)) ps->0<=mag u [d] (ve st n)/\mag u [d] (ve st n)<=BND:=fun ps g=>by
  have h1:=(g.at 0).1;have h2:=Xt hs (wz ps 0);exact ⟨by omega,farN_ge (by omega) hfar⟩
 by_cases ha:ar n=0
 ·have e0:ve st n=.nd n []:=by unfold ve; rw[ha,Nat.sub_zero,List.drop_of_length_le (Nat.le_refl _)]
  have hk4:nK n=1\/nK n=2\/nK n=3\/nK n=4:=by
   rcases TQ g1 g4 with ⟨_,h⟩ | ⟨h,_⟩ | ⟨h,_⟩ | ⟨h,_⟩ | ⟨h,_⟩
   ·exact h
   ·omega
   ·omega
   ·omega
   ·omega
  have hp:pc u (dS d) (ve st n)=some [(0,tQ u n)]:=by
   rw[e0,VU]; unfold pcN; rw[decide_eq_true (show nK n<=4 by omega)]; rfl
  obtain ⟨_,l2⟩:=zd7 0 hS0 hu hu1 hu2 hs hs2 hn hk4;rw[<-e0] at l2;have hm:=hpm _ l2;refine ⟨fun _=>⟨⟨by unfold pcs; rw[hp]; exact l2,hm.1,hm.2⟩,_,hp⟩,fun _=>⟨by omega,hp,fun F=>(zd7 F hS0 hu hu1 hu2 hs hs2 hn hk4).1⟩,fun h=>by omega⟩
 ·have hnp:=fun F hF=>node_pc F hF hS0 hu hu1 hu2 hs hs2 hn (ks:=st.drop (st.length-ar n)) (by simp; omega) (by omega) hty hfar hS (fun k hk=>(hkp k hk).1)
  refine ⟨fun hE0=>?_,fun h=>by omega,fun _=>⟨?_,fun F hF=>(hnp F hF).1⟩⟩
  ·cases hp:pc u (dS d) (ve st n) with
   | none=>unfold pcE at hE0; rw[hp] at hE0; exact absurd (show (120:Int)=0 from hE0) (by decide)
   | some ps =>
    have l2:=(hnp 4201 (by omega)).2 ps hp;have hm:=hpm _ l2;exact ⟨⟨by unfold pcs; rw[hp]; exact l2,hm.1,hm.2⟩,_,hp⟩
  ·rcases TQ g1 g4 with ⟨h,_⟩ | ⟨_,h⟩ | ⟨_,h⟩ | ⟨_,h⟩ | ⟨_,h⟩<;>omega
theorem zap (F:Nat) (hF:4200<F) {u S:Int} (hS0:0<=S) (hu:u=10000^S.toNat) (hu1:1<=u) (hu2:u<=1000000000000000000000000) {d:wV.T} (hs:1<=dS d) (hs2:dS d<=1000000000000) {R:Type}
  (k0:Int->Int->wY.T->Option R) (k1:Int->yr.T->wY.T->List (List zo.T)->Option R) (L:List zx.T) (N scale:Int) (p:yr.T) (hp:p.2.1=[d]):∀(xs:List zx.T) (st:List Tree) (i:Nat),okS 1 st xs->(yn st).length+xs.length<=2048->(∀t∈st,PS u S d t)->(∀t∈uC st xs,tyE t=0/\Wj u [d] t=0/\wT t<=S)->
  (zQ.l9.rg F k0 (fun scale _ _ _ _ p r2 _ pile=>k1 scale p r2 pile) L N xs (i:Int) scale p (0,0,[]) (mk u) (st.map fun t=>(pcs u (dS d) t).map wP) =
   match ud (pcE u (dS d)) (uC st xs) i with | some x=>k0 (x.1:Int) 120 (0,0,[]) | none=>k1 scale p (0,0,[]) ((Zs st xs).map fun t=>(pcs u (dS d) t).map wP)) /\
  (ud (pcE u (dS d)) (uC st xs) i=none->∀t∈Zs st xs,PS u S d t)
 | [],st,i,h,h2,h3,h4=>⟨rfl,fun _=>h3⟩
 | n::xs,st,i,h,h2,h3,h4=>by
  obtain ⟨g1,g2,g3,g4,g5,g6,g7,g8⟩:=uh h.1;have hst:=qL st;have hfs:=congrArg List.length (uR st n);simp only[List.length_cons,List.length_append,List.length_nil] at h2 hfs;simp only[uC,Zs,ud] at h4 ⊢;obtain ⟨t1,t2,t3⟩:=h4 (ve st n) (by simp);obtain ⟨s1,s2,s3⟩:=zcM hS0 hu hu1 hu2 hs hs2 h.1 h3 t1 t2 t3;have hl:(st.map fun t=>(pcs u (dS d) t).map wP).length=st.length:=by simp
  have ew:=Yt g7 (by omega);have hb1:=Za (show st.length-ar n<=st.length by omega);have hb2:=ZD (show st.length-ar n<=st.length by omega);have htk:(st.map fun t=>(pcs u (dS d) t).map wP).take st.length=st.map fun t=>(pcs u (dS d) t).map wP:=List.take_of_length_le (by omega)
  have hbl2:∀y,Nat.ble (st.length-ar n+([y]:List (List zo.T)).length) vc=true:=fun y=>uV (by simp; omega)
  have hstep:(uo st n).map (fun t=>(pcs u (dS d) t).map wP)=(st.map fun t=>(pcs u (dS d) t).map wP).take (st.length-ar n)++[(pcs u (dS d) (ve st n)).map wP]:=by
   unfold uo; simp[List.map_take]
  have hdm:(st.map fun t=>(pcs u (dS d) t).map wP).drop (st.length-ar n)=(st.drop (st.length-ar n)).map fun t=>(pcs u (dS d) t).map wP:=by rw[<-List.map_drop]
  have hd0:(get wV p.2.1 0).2=dS d:=by rw[hp]; rfl
  have hi0:idx 0 p.2.1.length=true:=by rw[hp]; rfl
  have rest:pcE u (dS d) (ve st n)=0->_:=fun hE0=>zap F hF hS0 hu hu1 hu2 hs hs2 k0 k1 L N scale p hp xs (uo st n) (i+1) h.2 (by omega) (by
   intro t ht;rcases List.mem_append.1 ht with ht | ht
   ·exact h3 t (List.mem_of_mem_take ht)
   ·rw[List.mem_singleton.1 ht]; exact s1 hE0) (fun t ht=>h4 t (by simp[ht]))
  simp only[zQ.l9.rg];rw[hi0,hd0];simp only[cond_true];by_cases ha:ar n=0
  ·obtain ⟨k4,l1,l2⟩:=s2 ha
   have hE0:pcE u (dS d) (ve st n)=0:=by unfold pcE; rw[l1]; rfl
   have IH:=rest hE0;rw[hE0];rw[hstep,ha,Nat.sub_zero,htk] at IH;have hpl:pcs u (dS d) (ve st n)=[(0,tQ u n)]:=by unfold pcs; rw[l1]; rfl
   rw[hpl] at IH;rw[decide_eq_true (show n.1<=4 from k4)];simp only[cond_true,bne_self_eq_false,cond_false];rw[l2 F,zg];have hbl1:Nat.ble ((st.map fun t=>(pcs u (dS d) t).map wP).length+([[wP (0,tQ u n)]]:List (List zo.T)).length) vc=true:=uV (by simp; omega);rw[hbl1];simp only[cond_true];rw[show ((i+1:Nat):Int)=(i:Int)+1 by omega] at IH;exact IH
  ·obtain ⟨k5,m1⟩:=s3 (by omega)
   rw[decide_eq_false (show ¬n.1<=4 by show ¬nK n<=4; omega)];simp only[cond_false];rw[zcx F g1 g4 k5 (mk u) (dS d),zg];simp only[hl,ew,hb1,hb2,htk,cond_true,hdm];rw[m1 F hF,zg];cases hpc:pc u (dS d) (ve st n) with
   | none =>
    have hE0:pcE u (dS d) (ve st n)=120:=by unfold pcE; rw[hpc]; rfl
    rw[hE0];exact ⟨rfl,fun h=>by cases h⟩
   | some ps =>
    have hE0:pcE u (dS d) (ve st n)=0:=by unfold pcE; rw[hpc]; rfl
    have IH:=rest hE0;have hpl:pcs u (dS d) (ve st n)=ps:=by unfold pcs; rw[hpc]; rfl
    rw[hstep,hpl] at IH;rw[hE0];simp only[mdR,Bool.not_true,cond_false,hbl2,cond_true,bne_self_eq_false];rw[show ((i+1:Nat):Int)=(i:Int)+1 by omega] at IH;exact IH
noncomputable def zaq (d:wV.T) (t:Tree):wY.T×Int×Int :=
 match ud (pcE (tZ t) (dS d)) t.subs 0 with | some x=>((0,0,[]),(x.1:Int),120) | none=>((dS d,wT t,(pcs (tZ t) (dS d) t).map wP),0,0)
noncomputable def tG (D:List wV.T) (t:Tree):wY.T×Int×Int :=
 bif (uY D t).2.2 != 0 then ((0,0,[]),(uY D t).2.1,(uY D t).2.2) else bif (D.length:Int) != 1 then ((0,0,[]),-1,100) else zaq (D.getD 0 (ByteArray.empty,0)) t
theorem RA {p:yr.T} {t:Tree} (h:Good p t) (hu:(uY p.2.1 t).2.2=0):∀s∈t.subs,tyE s=0/\Wj (tZ t) p.2.1 s=0/\wT s<=wT t:=by
 obtain ⟨u1,u2,u3,u4,u5⟩:=QD h hu;exact fun s hs=>⟨Vq u2 s hs,Vq u4 s hs,zep t s hs⟩
theorem Qx (F:Nat) (hF:4200<F) {p:yr.T} {t:Tree} (h:Good p t) (hU:vC.sh F p=some (((uY p.2.1 t).1,(uY p.2.1 t).2.1,(uY p.2.1 t).2.2,()),())) :
  zQ.sh F p=some (((tG p.2.1 t).1,(tG p.2.1 t).2.1,(tG p.2.1 t).2.2,()),()) /\
  ((tG p.2.1 t).2.2=0->∃d,p.2.1=[d]/\1<=dS d/\dS d<=1000000000000/\PS (tZ t) (wT t) d t):=by
 unfold zQ.sh tG;rw[hU,zg];cases hu:((uY p.2.1 t).2.2 != 0) with
 | true =>
  simp only[cond_true,hu];exact ⟨trivial,fun h=>by rw[h] at hu; cases hu⟩
 | false =>
  have hu':(uY p.2.1 t).2.2=0:=by simpa using hu
  obtain ⟨u1,u2,u3,u4,u5⟩:=QD h hu';simp only[cond_false,hu];cases hD:((p.2.1.length:Int) != 1) with
  | true=>exact ⟨rfl,fun h=>absurd (show (100:Int)=0 from h) (by decide)⟩
  | false =>
   have hD':p.2.1.length=1:=by
    have:(p.2.1.length:Int)=1:=by simpa using hD
    omega
   obtain ⟨d,hd⟩:=List.length_eq_one_iff.1 hD';have hh:=qW h.head;have hds:=Wq _ _ hh.2.2.1 d (by rw[hd]; simp);have hub:=VF u1;have hdp:=(qZ t).1;have hl:=h.len;have hok:=h.ok;rw[hD'] at hok;simp only[cond_false];rw[zbn F (by omega) h,zg,u5];have hg:=RA h hu';rw[<-h.subs,hd] at hg;obtain ⟨r1,r2⟩:=zap F hF hdp (show tZ t=10000^(wT t).toNat from rfl) hub.1 hub.2 hds.1 hds.2 (fun r36 r46 r26=>(some ((r26,r36,r46,()),()):Option zQ.sg.R)) (fun scale7 p7 r27 pile7=>zQ.j21 F (fun r38 r48 r28=>some ((r28,r38,r48,()),())) scale7 pile7 p7 r27) p.2.2.2 (p.2.2.2.length:Int) (wT t) p hd p.2.2.2 [] 0 hok (by simp[yn]; omega) (by simp) hg;have e0:p.2.1.getD 0 (ByteArray.empty,0)=d:=by rw[hd]; rfl
   have hrg:=zQ.l9.rg_eq F (fun r36 r46 r26=>(some ((r26,r36,r46,()),()):Option zQ.sg.R)) (fun scale7 t417 t427 t437 t447 p7 r27 unit7 pile7=>zQ.j21 F (fun r38 r48 r28=>some ((r28,r38,r48,()),())) scale7 pile7 p7 r27) p.2.2.2 _ rfl (by omega) p.2.2.2 0 F (wT t) p (0,0,[]) (mk (tZ t)) [] (by simp) (by omega);rw[e0];unfold zaq;rw[h.subs] at r1 r2;rw[h.eq] at r1 r2;have r1:=hrg.trans r1;refine ⟨r1.trans ?_,fun hz=>⟨d,hd,hds.1,hds.2,?_⟩⟩
   ·cases hf:ud (pcE (tZ t) (dS d)) t.subs 0 with
    | some x=>rfl
    | none =>
     simp only;unfold zQ.j21;rw[hd];rfl
   ·cases hf:ud (pcE (tZ t) (dS d)) t.subs 0 with
    | some x=>rw[hf] at hz; exact absurd (show (120:Int)=0 from hz) (by decide)
    | none=>exact r2 hf t (by simp)
theorem zgG {p:yr.T} {t:Tree} (h:Good p t):zQ.sh FU p=some (((tG p.2.1 t).1,(tG p.2.1 t).2.1,(tG p.2.1 t).2.2,()),()):=(Qx FU (by decide) h (zdz h)).1
theorem zgF {p:yr.T} {t:Tree} (h:Good p t) (hz:(tG p.2.1 t).2.2=0):∃d,p.2.1=[d]/\1<=dS d/\dS d<=1000000000000/\PS (tZ t) (wT t) d t:=(Qx FU (by decide) h (zdz h)).2 hz
theorem zey {p:yr.T} (h:(um p).2≠0):zQ.sh FU p=some (((0,0,[]),(um p).1,(um p).2,()),()):=by
 unfold zQ.sh;rw[zgD h,zg];rw[show ((um p).2 != 0)=true by simpa using h];rfl
theorem WU:∀(ps:List PZ),YE ps->XP (ps.map wP)=true
 | [],h=>rfl
 | [p],h=>rfl
 | p::p'::r,h=>by
  have ih:=WU (p'::r) h.2;obtain ⟨h1,h2,h3⟩:=h.1;show (RS (wP p) (wP p')&&XP ((p'::r).map wP))=true;rw[ih,Bool.and_true];unfold RS;rw[show Wk (wP p).2 (wP p').2=false by show Wk (wL p.2) (wL p'.2)=false; rw[V5]; exact decide_eq_false h3];show (!decide (p.1>=p'.1)&&(!decide (p'.1>1099511627776)&&!false))=true;rw[decide_eq_false (show ¬p.1>=p'.1 by omega),decide_eq_false (show ¬p'.1>1099511627776 by omega)];rfl
theorem pF_map (ps:List PZ) (i:Nat) (hi:i<ps.length):pF (ps.map wP) i=(ps.getD i (0,z0)).1:=by
 unfold pF get;rw[List.getD_eq_getElem?_getD,List.getD_eq_getElem?_getD,List.getElem?_map,List.getElem?_eq_getElem hi];rfl
theorem R9:∀(ps:List PZ) (q:Int) (k:Nat),YE ps->isAt (ps.map wP) q k->(get zo (ps.map wP) k).2=wL (wz ps q)
 | [],q,k,hc,h=>by have:=h.1; simp at this
 | [p],q,k,hc,h=>by
  have:k=0:=by have:=h.1; simp at this; exact this
  subst this; rfl
 | p::p'::r,q,k,hc,h=>by
  obtain ⟨h1,h2,h3⟩:=h;rw[tP];have hcb:=WU _ hc;cases k with
  | zero =>
   have:=h3 1 (by omega) (by simp);have:q<p'.1:=this;rw[decide_eq_false (show ¬p'.1<=q by omega)];rfl
  | succ k =>
   have hp:p'.1<=q:=by
    have h4:pF ((p::p'::r).map wP) 1=p'.1:=rfl;rcases Nat.eq_zero_or_pos k with hk | hk
    ·subst hk; rw[<-h4]; exact h2
    ·have:=UY hcb (i:=1) (j:=k+1) (by omega) h1
     omega
   rw[decide_eq_true hp];exact R9 (p'::r) q k hc.2 ⟨by simpa using h1,h2,fun j hj hl=>h3 (j+1) (by omega) (by simpa using hl)⟩
theorem RL (F:Nat) {R:Type} (k0:Bool->Option R) (kT:Option R) (a:wY.T) (hn:a.2.2.length<=256):∀(n i fu:Nat),i+n=a.2.2.length->n<fu->yg.l4 F k0 (fun _ _ _ _=>kT) fu (i:Int) a a=kT
 | n,i,0,h,hf=>by omega
 | 0,i,fu+1,h,hf=>by
  simp only[yg.l4,yg.l4.body];rw[decide_eq_false (show ¬(i:Int)<(a.2.2.length:Int) by omega)];rfl
 | n+1,i,fu+1,h,hf=>by
  simp only[yg.l4,yg.l4.body];rw[decide_eq_true (show (i:Int)<(a.2.2.length:Int) by omega),xX (show i<a.2.2.length by omega),zY (n:=(i:Int)+1) (by omega) (by omega),show (i:Int)+1=((i+1:Nat):Int) by omega];simp only[cond_true,beq_self_eq_true,Bool.and_self,Bool.not_true,cond_false];exact RL F k0 kT a hn n (i+1) fu (by omega) (by omega)
theorem same12 (F:Nat) (hF:256<F) (a:wY.T) (hn:a.2.2.length<=256):yg.sh F a a=some ((true,()),()):=by
 unfold yg.sh;simp only[bne_self_eq_false,cond_false];exact RL F (fun r41=>some ((r41,()),())) (some ((true,()),())) a hn _ 0 F (Nat.zero_add _) (by omega)
theorem rneg_eq (F:Nat) (hF:20<F) {a:Int×Int} (ha:wfW a):wE.sh F a=some ((ue (-val a),vN (-val a),()),()):=by
 obtain ⟨la,da,ra⟩:=Ym F hF ha;obtain ⟨lt,dt,rt⟩:=Y7 F hF ra;have h1:=Xq ha;unfold wE.sh;rw[da,zg,dt,zg,VH F hF rt (by omega) (by omega),zg]
theorem zdL (F:Nat) (hF:20<F) {v:Int} (hv:inR v=true):∃k,wo.sh F (mk v)=some ((k,()),())/\decide (k>0)=decide (v>0):=by
 obtain ⟨la,da,ra⟩:=Ym F hF (wj hv);have h1:=Xq (wj hv);unfold wo.sh;rw[da,zg,Re F ra (by omega) (by omega),zg];rw[xv] at*;by_cases h:v<0
 ·rw[decide_eq_true h]
  exact ⟨-1,rfl,by rw[decide_eq_false (show ¬v>0 by omega)]; rfl⟩
 ·rw[decide_eq_false h]
  have hz:=VZ (v:=v);by_cases h0:v=0
  ·rw[decide_eq_true h0] at hz
   simp only[Bool.and_eq_true,Bool.and_true] at hz;rw[hz.1,hz.2,decide_eq_false (show ¬v>0 by omega)];exact ⟨0,rfl,rfl⟩
  ·rw[decide_eq_false h0] at hz
   rw[decide_eq_true (show v>0 by omega)];cases h1:((mk v).1==0) with
   | false=>exact ⟨1,rfl,rfl⟩
   | true =>
    rw[h1] at hz;simp only[Bool.and_true,Bool.true_and] at hz;rw[hz];exact ⟨1,rfl,rfl⟩
theorem UA (F:Nat) (hF:20<F) {s q:Int} (h:td s q=true) {z:LZ} (hz:yk s z<=LIM):xf.sh F (wL z) s q=some ((mk (yK s z q),0,()),()):=by
 have hw:=XZ (wI.1 h).1 hz;have e1:=Um F h hz;rw[R8 F hw s q] at e1;rw[zdF F hF hw s q];exact e1
theorem qq (F:Nat) (hF:20<F) {s q:Int} (h:td s q=true) {z:LZ} (hz:yk s z<=LIM):yh.sh F (wL z) s q=some ((vE s z q,()),()):=by
 have hv:inR (yK s z q)=true:=v6 (uS (Y5 h z) hz);obtain ⟨k,e,e1⟩:=zdL F hF hv;unfold yh.sh vE;rw[UA F hF h hz,zg,e,zg,e1]
theorem zeT (F:Nat) (hF:20<F) {s:Int} (hs:1<=s) (hs2:s<=1000000000000) {z:LZ} (hz:yk s z<=LIM):wn.sh F (wL z) s=some ((mk (yk s z),0,()),()):=by
 have hL:LIM=85070591730234615865843651857942052864:=rfl;have hfar:∀v,nA v<=LIM->wk.sh F (mk v)=some ((mk (nA v),0,()),()):=fun v hv=>by
  have iv:=v6 hv;unfold wk.sh;rw[zbV];by_cases h:v<0
  ·rw[decide_eq_true h,cond_true,rneg_eq F hF (wj iv),zg,xv,show -v=nA v by unfold nA; omega]
   have:inR (nA v)=true:=by rw[yR]; have:=qA v; omega
   unfold ue vN;rw[this]; rfl
  ·rw[decide_eq_false h,cond_false,show nA v=v by unfold nA; omega]
 obtain ⟨s1,s2,s3,_⟩:=uq hs z;unfold wn.sh;rw[Q8,zg,wI.2 ⟨hs,hs2,by omega,by omega⟩];simp only[Bool.not_true,cond_false];rw[show (wL z).1=mk z.1 from rfl,show (wL z).2.1=mk z.2.1 from rfl,show (wL z).2.2=mk z.2.2 from rfl,hfar _ (uS s1 hz),zg,hfar _ (uS s2 hz),zg,hfar _ (uS s3 hz),zg];simp only[bne_self_eq_false,cond_false];have hab:∀v,nA (nA v)=nA v:=fun v=>qt (qA v)
 have e1:yk s (nA z.1,nA z.2.1,nA z.2.2)=yk s z:=by
  unfold yk;rw[hab,hab,hab]
 have e2:yK s (nA z.1,nA z.2.1,nA z.2.2) 1099511627776=yk s z:=rfl;have:=UA F hF (s:=s) (q:=1099511627776) (wI.2 ⟨hs,hs2,by omega,by omega⟩) (z:=(nA z.1,nA z.2.1,nA z.2.2)) (by rw[e1]; exact hz);rw[show ((mk (nA z.1),mk (nA z.2.1),mk (nA z.2.2)):zf.T)=wL (nA z.1,nA z.2.1,nA z.2.2) from rfl,this,zg,e2]
def hiE (s k:Int):Int:=if 1099511627776<bHi s k then 1099511627776 else bHi s k
theorem zc3 {s k:Int} (hs:1<=s) (hk2:(k-1)*s<1099511627776):hiE s k<=1099511627776/\hiE s k<=bHi s k/\bLo s k<=hiE s k:=by
 have:=lo_hi (s:=s) (k:=k) hs;unfold hiE bLo at*;split<;>omega
theorem Sm (F:Nat) {s k:Int} (hs:1<=s) (hs2:s<=1000000000000) (hk:1<=k) (hk2:(k-1)*s<1099511627776):xU.sh F s k=some ((bLo s k,hiE s k,()),()):=by
 unfold xU.sh bLo hiE bHi;have h0:=Int.mul_nonneg (show 0<=k-1 by omega) (show 0<=s by omega);have hks:k-1<=(k-1)*s:=by
  have:=Int.mul_le_mul_of_nonneg_left hs (show 0<=k-1 by omega);omega
 have e:k*s=(k-1)*s+s:=by rw[Int.sub_mul]; omega
 have hd1:0<=1099511627776/s:=Int.ediv_nonneg (by omega) (by omega);have hd2:1099511627776/s<=1099511627776:=Int.ediv_le_self _ (by omega);have hiff:k<=1099511627776/s↔k*s<=1099511627776:=Int.le_ediv_iff_mul_le (by omega);rw[show (s != 0)=true from bne_iff_ne.2 (by omega),Int.tdiv_eq_ediv_of_nonneg (by omega),zY (n:=1099511627776/s) (by omega) (by omega),zY (n:=k-1) (by omega) (by omega),zY (n:=(k-1)*s) (by omega) (by omega),zY (n:=(k-1)*s+1) (by omega) (by omega),zY (n:=k*s) (by omega) (by omega)];simp only[cond_true];by_cases hk3:k<=1099511627776/s
 ·rw[decide_eq_true hk3,if_neg (show ¬1099511627776<k*s by have:=hiff.1 hk3; omega)]; rfl
 ·rw[decide_eq_false hk3,if_pos (show 1099511627776<k*s by have:=fun h=>hk3 (hiff.2 h); omega)]; rfl
theorem T8 (was:Bool) (s:Int) (z:LZ) (q:Int):(!(vE s z q==was))=vS was s z q:=rfl
def XO (was:Bool) (s:Int) (z:LZ) (k:Int):Bool:=vS was s z (bLo s k)||vS was s z (hiE s k)
theorem UZ {s k:Int} (hs:1<=s) (hs2:s<=1000000000000) (hk:1<=k) (hk2:(k-1)*s<1099511627776):td s (bLo s k)=true/\td s (hiE s k)=true:=by
 have h0:=Int.mul_nonneg (show 0<=k-1 by omega) (show 0<=s by omega);obtain ⟨h1,h2,h3⟩:=zc3 hs hk2;exact ⟨wI.2 ⟨hs,hs2,by unfold bLo; omega,by omega⟩,wI.2 ⟨hs,hs2,by unfold bLo at h3; omega,h1⟩⟩
theorem WH (F:Nat) (hF:20<F) {s k:Int} (hs:1<=s) (hs2:s<=1000000000000) (hk:1<=k) (hk2:(k-1)*s<1099511627776) {z:LZ} (hz:yk s z<=LIM) (was:Bool):xz.sh F (wL z) s k was=some ((XO was s z k,()),()):=by
 obtain ⟨f1,f2⟩:=UZ hs hs2 hk hk2;unfold xz.sh XO;rw[Sm F hs hs2 hk hk2,zg,qq F hF f1 hz,zg,T8];cases vS was s z (bLo s k) with
 | true=>rfl
 | false =>
  simp only[cond_false];rw[qq F hF f2 hz,zg,T8];rfl
def bsZ (T:Int->Bool):Nat->Int->Int->Int
 | 0,lo,hi=>lo
 | n+1,lo,hi=>if lo<hi then (bif T (lo+(hi-lo)/2) then bsZ T n lo (lo+(hi-lo)/2) else bsZ T n (lo+(hi-lo)/2+1) hi) else lo
theorem Uj (T:Int->Bool):∀(n:Nat) (lo hi:Int),lo<=hi->hi-lo<2^n->T hi=true->(∀x y,lo<=x->x<=y->y<=hi->T x=true->T y=true)->lo<=bsZ T n lo hi/\bsZ T n lo hi<=hi/\T (bsZ T n lo hi)=true/\∀x,lo<=x->x<bsZ T n lo hi->T x=false
 | 0,lo,hi,h,hn,ht,hm=>by
  have:lo=hi:=by simp at hn; omega
  subst this;exact ⟨Int.le_refl _,Int.le_refl _,ht,fun x h1 h2=>by simp only[bsZ] at h2; omega⟩
 | n+1,lo,hi,h,hn,ht,hm=>by
  have hp:(2:Int)^(n+1)=2*2^n:=by rw[Int.pow_succ]; omega
  simp only[bsZ];by_cases hlt:lo<hi
  ·rw[if_pos hlt]
   have hmid:lo<=lo+(hi-lo)/2/\lo+(hi-lo)/2<hi:=by omega
   cases hT:T (lo+(hi-lo)/2) with
   | true =>
    obtain ⟨a1,a2,a3,a4⟩:=Uj T n lo (lo+(hi-lo)/2) (by omega) (by omega) hT (fun x y h1 h2 h3=>hm x y h1 h2 (by omega));exact ⟨a1,by simp only[cond_true]; omega,a3,a4⟩
   | false =>
    obtain ⟨a1,a2,a3,a4⟩:=Uj T n (lo+(hi-lo)/2+1) hi (by omega) (by omega) ht (fun x y h1 h2 h3=>hm x y (by omega) h2 h3);refine ⟨by simp only[cond_false]; omega,a2,a3,fun x h1 h2=>?_⟩;rcases Int.lt_or_le x (lo+(hi-lo)/2+1) with hx | hx
    ·cases hTx:T x with
     | false=>rfl
     | true=>rw[hm x _ h1 (show x<=lo+(hi-lo)/2 by omega) (by omega) hTx] at hT; cases hT
    ·exact a4 x hx h2
  ·rw[if_neg hlt]
   have:lo=hi:=by omega
   subst this;exact ⟨Int.le_refl _,Int.le_refl _,ht,fun x h1 h2=>by omega⟩
theorem zfv {lo hi:Int} (h0:0<=lo) (h1:lo<=hi) (h2:hi<=1099511627777):i64.wrap (lo+(i64.wrap ((i64.wrap (hi-lo)).tdiv 2)))=lo+(hi-lo)/2:=by
 rw[zY (n:=hi-lo) (by omega) (by omega),Int.tdiv_eq_ediv_of_nonneg (by omega),zY (n:=(hi-lo)/2) (by omega) (by omega),zY (by omega) (by omega)]
theorem Uy (F:Nat) (hF:20<F) {R:Type} (k0:Int->Int->Int->Bool->Bool->zf.T->Option R) {s:Int} (hs:1<=s) (hs2:s<=1000000000000) {z:LZ} (hz:yk s z<=LIM) (was:Bool):∀(n:Nat) (lo hi:Int) (fu:Nat),0<=lo->lo<=hi->hi<=1099511627776->hi-lo<2^n->n<fu->
  ye.l1 F k0 fu s lo hi was (wL z)=k0 s (bsZ (vS was s z) n lo hi) (bsZ (vS was s z) n lo hi) was false (wL z)
 | n,lo,hi,0,h0,h1,h2,hn,hf=>by omega
 | 0,lo,hi,fu+1,h0,h1,h2,hn,hf=>by
  have:lo=hi:=by simp at hn; omega
  subst this;simp only[ye.l1,ye.l1.body,bsZ];rw[decide_eq_false (show ¬lo<lo by omega)];rfl
 | n+1,lo,hi,fu+1,h0,h1,h2,hn,hf=>by
  have hp:(2:Int)^(n+1)=2*2^n:=by rw[Int.pow_succ]; omega
  simp only[ye.l1,ye.l1.body,bsZ];by_cases hlt:lo<hi
  ·have hmid:lo<=lo+(hi-lo)/2/\lo+(hi-lo)/2<hi:=by omega
   rw[decide_eq_true hlt,if_pos hlt,zfv h0 h1 (by omega)];simp only[cond_true];rw[qq F hF (wI.2 ⟨hs,hs2,by omega,by omega⟩) hz,zg,T8];cases vS was s z (lo+(hi-lo)/2) with
   | true=>exact Uy F hF k0 hs hs2 hz was n lo (lo+(hi-lo)/2) fu h0 (by omega) (by omega) (by omega) (by omega)
   | false =>
    rw[zY (n:=lo+(hi-lo)/2+1) (by omega) (by omega)];exact Uy F hF k0 hs hs2 hz was n (lo+(hi-lo)/2+1) hi fu (by omega) (by omega) (by omega) (by omega) (by omega)
  ·have:lo=hi:=by omega
   subst this;rw[decide_eq_false hlt,if_neg hlt];rfl
theorem RP (F:Nat) (hF:60<F) {s:Int} (hs:1<=s) (hs2:s<=1000000000000) {z:LZ} (hz:yk s z<=LIM) (was:Bool) {lo hi:Int} (h0:0<=lo) (h1:lo<=hi) (h2:hi<=1099511627776) (ht:vS was s z hi=true) (hm:∀x y,lo<=x->x<=y->y<=hi->vS was s z x=true->vS was s z y=true) :
  ∃f:Int,ye.sh F (wL z) s lo hi was=some ((f,()),())/\lo<=f/\f<=hi/\vS was s z f=true/\∀x,lo<=x->x<f->vS was s z x=false:=by
 have hb:hi-lo<(2:Int)^41:=by
  have:(2:Int)^41=2199023255552:=by decide
  omega
 obtain ⟨a1,a2,a3,a4⟩:=Uj (vS was s z) 41 lo hi h1 hb ht hm;refine ⟨_,?_,a1,a2,a3,a4⟩;unfold ye.sh;rw[Uy F (by omega) _ hs hs2 hz was 41 lo hi F h0 h1 h2 hb (by omega)]
theorem Uw (F:Nat) (hF:20<F) {R:Type} (k0:Int->Bool->Int->Int->Int->Bool->zf.T->Option R) {s:Int} (hs:1<=s) (hs2:s<=1000000000000) {z:LZ} (hz:yk s z<=LIM) (was:Bool) (last:Int) (hl2:last<=1099511627777) (hl:∀k,k<last->(k-1)*s<1099511627776):∀(n:Nat) (lo hi:Int) (fu:Nat),1<=lo->lo<=hi->hi<last->hi-lo<2^n->n<fu->
  zC.l18 F k0 fu s was last hi lo (wL z)=k0 s was last (bsZ (XO was s z) n lo hi) (bsZ (XO was s z) n lo hi) false (wL z)
 | n,lo,hi,0,h0,h1,h2,hn,hf=>by omega
 | 0,lo,hi,fu+1,h0,h1,h2,hn,hf=>by
  have:lo=hi:=by simp at hn; omega
  subst this;simp only[zC.l18,zC.l18.body,bsZ];rw[decide_eq_false (show ¬lo<lo by omega)];rfl
 | n+1,lo,hi,fu+1,h0,h1,h2,hn,hf=>by
  have hp:(2:Int)^(n+1)=2*2^n:=by rw[Int.pow_succ]; omega
  simp only[zC.l18,zC.l18.body,bsZ];by_cases hlt:lo<hi
  ·have hmid:lo<=lo+(hi-lo)/2/\lo+(hi-lo)/2<hi:=by omega
   rw[decide_eq_true hlt,if_pos hlt,zfv (by omega) h1 (by omega)];simp only[cond_true];rw[WH F hF hs hs2 (by omega) (hl _ (by omega)) hz,zg];cases XO was s z (lo+(hi-lo)/2) with
   | true=>exact Uw F hF k0 hs hs2 hz was last hl2 hl n lo (lo+(hi-lo)/2) fu h0 (by omega) (by omega) (by omega) (by omega)
   | false =>
    rw[zY (n:=lo+(hi-lo)/2+1) (by omega) (by omega)];exact Uw F hF k0 hs hs2 hz was last hl2 hl n (lo+(hi-lo)/2+1) hi fu (by omega) (by omega) (by omega) (by omega) (by omega)
  ·have:lo=hi:=by omega
   subst this;rw[decide_eq_false hlt,if_neg hlt];rfl
theorem Rx {was:Bool} {s:Int} {z:LZ} {lo x y k:Int} (h1:lo<=x) (h2:x<=y) (hlo:xw lo s=k) (hx:xw x s=k) (hy:xw y s=k) (t1:vS was s z lo=false) (t:vS was s z x=true):vS was s z y=true:=by
 cases ty:vS was s z y with
 | true=>rfl
 | false=>rw[VG h1 h2 hlo hx hy t1 ty] at t; cases t
theorem zd5 {was:Bool} {v d:Int} {i j:Int} (h0:0<=i) (hij:i<=j) (t0:tnB was v=false) (t:tnB was (v+i*d)=true):tnB was (v+j*d)=true:=by
 have e:v+j*d=(v+i*d)+(j-i)*d:=by rw[Int.sub_mul]; omega
 rw[e];have p1:d>=0->0<=i*d/\0<=(j-i)*d:=fun h=>⟨Int.mul_nonneg h0 h,Int.mul_nonneg (by omega) h⟩
 have p2:d<=0->i*d<=0/\(j-i)*d<=0:=fun h=>⟨Int.mul_nonpos_of_nonneg_of_nonpos h0 h,Int.mul_nonpos_of_nonneg_of_nonpos (by omega) h⟩
 unfold tnB at*;generalize i*d=a at*;generalize (j-i)*d=b at*;cases was with
 | true =>
  have t0:v>0:=by simpa using t0
  have t:¬v+a>0:=by simpa using t
  rw[decide_eq_false (show ¬v+a+b>0 by rcases Int.le_total 0 d with h | h<;>first | (have:=p1 h; omega) | (have:=p2 h; omega))]
  rfl
 | false =>
  have t0:¬v>0:=by simpa using t0
  have t:v+a>0:=by simpa using t
  rw[decide_eq_true (show v+a+b>0 by rcases Int.le_total 0 d with h | h<;>first | (have:=p1 h; omega) | (have:=p2 h; omega))]
  rfl
theorem zdl {was:Bool} {s:Int} (hs:1<=s) {z:LZ} {k i j:Int} (hki:k<=i) (hij:i<=j) (hj:bHi s j<=1099511627776) (h0:XO was s z k=false) (h:XO was s z i=true):XO was s z j=true:=by
 have hmono:∀a,a<=j->bHi s a<=1099511627776:=fun a ha=>by
  have:=Int.mul_le_mul_of_nonneg_right ha (show 0<=s by omega);unfold bHi at*; omega
 have hE:∀a,a<=j->hiE s a=bHi s a:=fun a ha=>by
  have:=hmono a ha;unfold hiE; rw[if_neg (by omega)]
 unfold XO at*;rw[hE k (by omega)] at h0;rw[hE i (by omega)] at h;rw[hE j (by omega)];rw[Bool.or_eq_false_iff] at h0;rw[Bool.or_eq_true] at h ⊢;have e1:∀a,yK s z (bLo s a)=yK s z (bLo s k)+(a-k)*(z.2.1*s+z.2.2):=fun a=>zd3 s hs z
 have e2:∀a,yK s z (bHi s a)=yK s z (bHi s k)+(a-k)*(z.2.1*s+z.2.2):=fun a=>zdc s hs z
 rcases h with h | h
 ·left
  unfold vS at*;rw[e1 i] at h;rw[e1 j];exact zd5 (show 0<=i-k by omega) (by omega) h0.1 h
 ·right
  unfold vS at*;rw[e2 i] at h;rw[e2 j];exact zd5 (show 0<=i-k by omega) (by omega) h0.2 h
theorem WI (F:Nat) (hF:60<F) {s q:Int} {z:LZ} (hz:yk s z<=LIM) (hs:1<=s) (hs2:s<=1000000000000) (hq:0<=q) (j:Int) (hj1:1<=j) (hjq:q<bLo s j) (hj:j<=kM s)
  (hn:∀x,q<x->x<bLo s j->x<=1099511627776->vS (vE s z q) s z x=false) (hend:j<kM s->XO (vE s z q) s z j=true) (k0:Int->Int->Option zC.sg.R) :
  ∃f:Int,zC.j24 F k0 k0 k0 s (vE s z q) (kM s) j (wL z)=k0 f 0/\ZT s z q f:=by
 obtain ⟨m1,m2⟩:=Yn (q:=1099511627776) hs;have hjs:(j-1)*s<1099511627776:=by
  have:=Int.mul_le_mul_of_nonneg_right (show j-1<=kM s-1 by omega) (show 0<=s by omega);unfold kM at this;omega
 obtain ⟨l1,l2⟩:=Q3 (s:=s) (k:=j) hs;obtain ⟨e1,e2,e3⟩:=zc3 hs hjs;have h0:=Int.mul_nonneg (show 0<=j-1 by omega) (show 0<=s by omega);have hlo0:1<=bLo s j:=by unfold bLo; omega
 have hblk:∀x,bLo s j<=x->x<=hiE s j->xw x s=j:=fun x g1 g2=>YW hs (by unfold bLo at g1; omega) (by unfold bHi at e2; omega)
 unfold zC.j24;rw[decide_eq_false (show ¬j>kM s by omega)];simp only[cond_false];rw[WH F (by omega) hs hs2 hj1 hjs hz,zg];cases he:XO (vE s z q) s z j with
 | false =>
  have hjk:j=kM s:=by
   rcases Int.lt_or_le j (kM s) with h | h
   ·rw[hend h] at he; cases he
   ·omega
  refine ⟨1099511627777,rfl,by omega,by omega,fun x g1 g2=>qR.1 ?_,fun h=>by omega⟩;rcases Int.lt_or_le x (bLo s j) with h | h
  ·exact hn x g1 h (by omega)
  ·have hbs:1099511627776<=bHi s j:=by rw[hjk]; exact m2
   have hi:hiE s j=1099511627776:=by unfold hiE; split<;>omega
   unfold XO at he;rw[Bool.or_eq_false_iff] at he;exact VG h (show x<=hiE s j by omega) (hblk _ (Int.le_refl _) e3) (hblk x h (by omega)) (hblk _ e3 (Int.le_refl _)) he.1 he.2
 | true =>
  simp only[Bool.not_true,cond_false];rw[Sm F hs hs2 hj1 hjs,zg,qq F (by omega) (UZ hs hs2 hj1 hjs).1 hz,zg,T8];cases hlo:vS (vE s z q) s z (bLo s j) with
  | true=>exact ⟨bLo s j,rfl,hjq,by omega,fun x g1 g2=>qR.1 (hn x g1 g2 (by omega)),fun _=>Y8.1 hlo⟩
  | false =>
   simp only[cond_false];have hhi:vS (vE s z q) s z (hiE s j)=true:=by unfold XO at he; rw[hlo] at he; simpa using he
   obtain ⟨f,e,c1,c2,c3,c4⟩:=RP F hF hs hs2 hz (vE s z q) (lo:=bLo s j) (hi:=hiE s j) (by omega) e3 e1 hhi (fun x y g1 g2 g3 t=>Rx g1 g2 (hblk _ (Int.le_refl _) e3) (hblk x g1 (by omega)) (hblk y (by omega) g3) hlo t);rw[e,zg];have c2':f<=1099511627776:=Int.le_trans c2 e1;refine ⟨f,rfl,by omega,by omega,fun x g1 g2=>qR.1 ?_,fun _=>Y8.1 c3⟩;rcases Int.lt_or_le x (bLo s j) with h | h
   ·exact hn x g1 h (by omega)
   ·exact c4 x h g2
theorem zf2 (F:Nat) (hF:60<F) {s q:Int} {z:LZ} (hz:yk s z<=LIM) (h:td s q=true):∃f:Int,zC.sh F (wL z) s q=some ((f,0,()),())/\ZT s z q f:=by
 obtain ⟨hs,hs2,hq,hq2⟩:=wI.1 h;have hLIM:LIM=85070591730234615865843651857942052864:=rfl;have hsp:=Xt hs z;obtain ⟨k,ek,hk⟩:∃k,xu.sh F (mk (yk s z)) (4611686018427387904,0)=some ((k,()),())/\decide (k>0)=false:=by
  have e:((4611686018427387904,0):Int×Int)=mk LIM:=by rw[hLIM]; rfl
  rw[e,QJ F (by omega) (wj (by rw[yR]; omega)) (wj (by rw[yR]; omega)),xv,xv];exact ⟨_,rfl,by rw[S8]; exact decide_eq_false (by omega)⟩
 obtain ⟨m1,m2⟩:=Yn (q:=1099511627776) hs;obtain ⟨n1,n2⟩:=Yn (q:=q) hs;have hkM:xw 1099511627776 s=kM s:=rfl;rw[hkM] at m1 m2;have hkq:=Qt (x:=q) (y:=1099511627776) hs hq2;rw[hkM] at hkq;have hk0:=(zad h).1;have hk1:=V6 hs;have hlo:∀j,xw q s+1<=j->q<bLo s j:=fun j hj=>by
  have:=Int.mul_le_mul_of_nonneg_right (show xw q s<=j-1 by omega) (show 0<=s by omega);unfold bLo;omega
 have hlt:∀k,k<=kM s->(k-1)*s<1099511627776:=fun k hk=>by
  have:=Int.mul_le_mul_of_nonneg_right (show k-1<=kM s-1 by omega) (show 0<=s by omega);omega
 have hj13:(∀x,q<x->x<=xw q s*s->x<=1099511627776->vS (vE s z q) s z x=false)->∀k0:Int->Int->Option zC.sg.R,∃f:Int,zC.j13 F k0 k0 k0 s (vE s z q) (kM s) (xw q s) (wL z)=k0 f 0/\ZT s z q f:=by
  intro a2 k0;unfold zC.j13;rw[zY (n:=xw q s+1) (by omega) (by omega),zY (n:=kM s-1) (by omega) (by omega)];by_cases hlast:xw q s+1<kM s
  ·rw[decide_eq_true hlast]
   simp only[cond_true];rw[WH F (by omega) hs hs2 (by omega) (hlt _ (by omega)) hz,zg];have hwhole:∀k,k<kM s->bHi s k<=1099511627776:=fun k hk=>by
    have:=Int.mul_le_mul_of_nonneg_right (show k<=kM s-1 by omega) (show 0<=s by omega);unfold bHi; omega
   have hE:∀k,k<kM s->XO (vE s z q) s z k=false->vS (vE s z q) s z (bLo s k)=false/\vS (vE s z q) s z (bHi s k)=false:=fun k hk he=>by
    unfold XO at he;rw[Bool.or_eq_false_iff] at he;have:=hwhole k hk;have e:hiE s k=bHi s k:=by unfold hiE; rw[if_neg (by omega)]
    rw[e] at he;exact he
   cases he:XO (vE s z q) s z (xw q s+1) with
   | true =>
    simp only[Bool.not_true,cond_false];exact WI F hF hz hs hs2 hq (xw q s+1) (by omega) (hlo _ (by omega)) (by omega) (WM hs a2 (fun i g1 g2=>by omega)) (fun _=>he) k0
   | false =>
    simp only[Bool.not_false,cond_true];rw[WH F (by omega) hs hs2 (by omega) (hlt _ (by omega)) hz,zg];cases he2:XO (vE s z q) s z (kM s-1) with
    | true =>
     simp only[cond_true];have hb:kM s-1-(xw q s+1)<(2:Int)^41:=by
      have:(2:Int)^41=2199023255552:=by decide
      omega
     rw[Uw F (by omega) _ hs hs2 hz (vE s z q) (kM s) (by omega) (fun k hk=>hlt k (by omega)) 41 (xw q s+1) (kM s-1) F (by omega) (by omega) (by omega) hb (by omega)];obtain ⟨b1,b2,b3,b4⟩:=Uj (XO (vE s z q) s z) 41 (xw q s+1) (kM s-1) (by omega) hb he2 (fun x y g1 g2 g3 t=>zdl hs g1 g2 (hwhole y (by omega)) he t);exact WI F hF hz hs hs2 hq _ (by omega) (hlo _ b1) (by omega) (WM hs a2 (fun i g1 g2=>hE i (by omega) (b4 i g1 g2))) (fun _=>b3) k0
    | false =>
     simp only[cond_false];refine WI F hF hz hs hs2 hq (kM s) (by omega) (hlo _ (by omega)) (by omega) (WM hs a2 (fun i g1 g2=>hE i g2 ?_)) (fun g=>by omega) k0;cases hi:XO (vE s z q) s z i with
     | false=>rfl
     | true=>rw[zdl hs g1 (show i<=kM s-1 by omega) (hwhole _ (by omega)) he hi] at he2; cases he2
  ·rw[decide_eq_false hlast]
   simp only[cond_false];by_cases hgt:xw q s+1>kM s
   ·have hkk:xw q s=kM s:=by omega
    unfold zC.j24;rw[decide_eq_true hgt];exact ⟨1099511627777,rfl,by omega,by omega,fun x g1 g2=>qR.1 (a2 x g1 (by rw[hkk]; omega) (by omega)),fun g=>by omega⟩
   ·exact WI F hF hz hs hs2 hq (xw q s+1) (by omega) (hlo _ (by omega)) (by omega) (WM hs a2 (fun i g1 g2=>by omega)) (fun g=>by omega) k0
 unfold zC.sh;rw[Q8,zg,h];simp only[Bool.not_true,cond_false];rw[zeT F (by omega) hs hs2 hz,zg];simp only[bne_self_eq_false,cond_false];rw[ek,zg,hk];simp only[cond_false];rw[qq F (by omega) h hz,zg,Ve F (by omega) (by omega) hs,zg,Ve F hq hq2 hs,zg,hkM];by_cases hkz:xw q s>0
 ·rw[decide_eq_true hkz]
  simp only[cond_true];have hks:=hlt (xw q s) hkq;rw[Sm F hs hs2 (by omega) hks,zg];obtain ⟨e1,e2,e3⟩:=zc3 hs hks;have hbl:bLo s (xw q s)<=q:=by unfold bLo; omega
  have hblk:∀x,q<=x->x<=hiE s (xw q s)->xw x s=xw q s:=fun x g1 g2=>YW hs (by omega) (by unfold bHi at e2; omega)
  have hhi:∀x,x<=xw q s*s->x<=1099511627776->x<=hiE s (xw q s):=fun x g1 g2=>by unfold hiE bHi; split<;>omega
  have hself:vS (vE s z q) s z q=false:=qR.2 rfl;by_cases hqh:q<hiE s (xw q s)
  ·rw[decide_eq_true hqh]
   simp only[cond_true];have hf2:=(UZ hs hs2 (show 1<=xw q s by omega) hks).2;rw[qq F (by omega) hf2 hz,zg,T8];cases ht:vS (vE s z q) s z (hiE s (xw q s)) with
   | true =>
    simp only[cond_true];rw[zY (n:=q+1) (by omega) (by omega)];obtain ⟨f,e,c1,c2,c3,c4⟩:=RP F hF hs hs2 hz (vE s z q) (lo:=q+1) (hi:=hiE s (xw q s)) (by omega) (by omega) e1 ht (fun x y g1 g2 g3 t=>Rx (show q<=x by omega) g2 rfl (hblk x (by omega) (by omega)) (hblk y (by omega) g3) hself t);have c2':f<=1099511627776:=Int.le_trans c2 e1;have c1':q<f:=c1;rw[e,zg];exact ⟨f,rfl,c1',by omega,fun x g1 g2=>qR.1 (c4 x (by omega) g2),fun _=>Y8.1 c3⟩
   | false =>
    simp only[cond_false];exact hj13 (fun x g1 g2 g3=>VG (show q<=x by omega) (hhi x g2 g3) rfl (hblk x (by omega) (hhi x g2 g3)) (hblk _ (by omega) (Int.le_refl _)) hself ht) _
  ·rw[decide_eq_false hqh]
   simp only[cond_false];exact hj13 (fun x g1 g2 g3=>by have:=hhi x g2 g3; omega) _
 ·rw[decide_eq_false hkz]
  simp only[cond_false];have hz0:xw q s=0:=by omega
  exact hj13 (fun x g1 g2 g3=>by rw[hz0,Int.zero_mul] at g2; omega) _
theorem Ux (F:Nat) (v:Int):yz.sh F (mk v)=some ((wL (xD v),()),()):=by
 unfold yz.sh wL xD;simp only[Qz]
theorem zeZ (F:Nat) (hF:20<F) {s:Int} (h:1<=s) {x y:LZ} (hx:yk s x<=LIM) (hy:yk s y<=LIM) (hxy:yk s (qJ x y)<=LIM):wu.sh F (wL x) (wL y)=some ((wL (qJ x y),0,()),()):=by
 obtain ⟨a1,a2,a3⟩:=XZ h hx;obtain ⟨b1,b2,b3⟩:=XZ h hy;obtain ⟨c1,c2,c3,_,_⟩:=uq h (qJ x y);have i1:inR (x.1+y.1)=true:=v6 (uS c1 hxy);have i2:inR (x.2.1+y.2.1)=true:=v6 (uS c2 hxy);have i3:inR (x.2.2+y.2.2)=true:=v6 (uS c3 hxy);unfold wu.sh;rw[YN F hF a1 b1,zg,YN F hF a2 b2,zg,YN F hF a3 b3,zg];simp only[wL,xv];unfold ue vN;rw[i1,i2,i3];rfl
theorem VO (F:Nat) (hF:20<F) {s:Int} (h:1<=s) {x y:LZ} (hx:yk s x<=LIM) (hy:yk s y<=LIM) (hxy:yk s (uc x y)<=LIM):xx.sh F (wL x) (wL y)=some ((wL (uc x y),0,()),()):=by
 obtain ⟨a1,a2,a3⟩:=XZ h hx;obtain ⟨b1,b2,b3⟩:=XZ h hy;obtain ⟨c1,c2,c3,_,_⟩:=uq h (uc x y);have i1:inR (x.1-y.1)=true:=v6 (uS c1 hxy);have i2:inR (x.2.1-y.2.1)=true:=v6 (uS c2 hxy);have i3:inR (x.2.2-y.2.2)=true:=v6 (uS c3 hxy);unfold xx.sh;rw[TC F hF a1 b1,zg,TC F hF a2 b2,zg,TC F hF a3 b3,zg];simp only[wL,xv];unfold ue vN;rw[i1,i2,i3];rfl
theorem YM (F:Nat) (hF:20<F) {s:Int} (h:1<=s) {x:LZ} {k:Int} (hx:yk s x<=LIM) (hk:inR k=true) (hxy:yk s (yO x k)<=LIM):xj.sh F (wL x) (mk k)=some ((wL (yO x k),()),()):=by
 obtain ⟨a1,a2,a3⟩:=XZ h hx;obtain ⟨c1,c2,c3,_,_⟩:=uq h (yO x k);have i1:inR (x.1*k)=true:=v6 (uS c1 hxy);have i2:inR (x.2.1*k)=true:=v6 (uS c2 hxy);have i3:inR (x.2.2*k)=true:=v6 (uS c3 hxy);unfold xj.sh wa.sh;rw[Z0 F hF a1 (wj hk),zg,Z0 F hF a2 (wj hk),zg,Z0 F hF a3 (wj hk),zg];simp only[wL,xv];unfold ue vN;rw[i1,i2,i3];rfl
theorem VP (F:Nat) (hF:20<F) {s:Int} (hs:1<=s) {a:LZ} (ha:yk s a+1000000000001<=LIM) {v:Int} (h1:-1000000000000<=v) (h2:v<=1000000000000):yD.sh F (wL a) v=some ((wL (xR a v),()),())/\yk s (xR a v)<=LIM:=by
 have hl:=tX hs a v;have hn:nA v<=1000000000000:=by unfold nA; omega
 have hL:LIM=85070591730234615865843651857942052864:=rfl;refine ⟨?_,by omega⟩;unfold yD.sh;rw[qO F (by omega) (by omega),zg,Ux,zg,VO F hF hs (by omega) (by rw[tB]; omega) (by have:uc a (xD v)=xR a v:=rfl; rw[this]; omega),zg];rfl
def Yc (F:Nat) (n:zx.T) (u s:Int) (k:List LZ) (q:Int) (g:LZ×List LZ):Prop :=
 xt.sh F (n,mk u,s) (k.map wL) q=some (((wL g.1,g.2.map wL),()),())
theorem Zn {n:zx.T} {k:Int} (h:nK n=k):n=(k,n.2):=by rw[<-h]
theorem zdE (a:LZ):yO a (-1)=uc z0 a:=by
 obtain ⟨a1,a2,a3⟩:=a;simp only[yO,uc,Prod.mk.injEq];omega
theorem zcL (a b:LZ):yO (uc a b) (-1)=uc b a:=by
 obtain ⟨a1,a2,a3⟩:=a;obtain ⟨b1,b2,b3⟩:=b;simp only[yO,uc,Prod.mk.injEq];omega
theorem rg_neg (F:Nat) (hF:20<F) {u s:Int} (hs:1<=s) {n:zx.T} (h:nK n=5) {a:LZ} (ha:yk s a<=LIM) (q:Int):Yc F n u s [a] q (uc z0 a,[]):=by
 unfold Yc;rw[Zn h];refine Eq.trans (show _=(oB (zU.sh F (-1)) fun c_1=>oB (xj.sh F (wL a) c_1.1.1) fun c_2=>some (((c_2.1.1,[]),()),())) from rfl) ?_;have hl:yk s (yO a (-1))<=LIM:=by rw[uL,show nA (-1)=1 from rfl,Int.mul_one]; exact ha
 rw[qO F (by omega) (by omega),zg,YM F hF hs ha (by decide) hl,zg,zdE];rfl
theorem rg_add (F:Nat) (hF:20<F) {u s:Int} (hs:1<=s) {n:zx.T} (h:nK n=6) {a b:LZ} (ha:yk s a<=LIM) (hb:yk s b<=LIM) (hl:yk s (qJ a b)<=LIM) (q:Int):Yc F n u s [a,b] q (qJ a b,[]):=by
 unfold Yc;rw[Zn h];refine Eq.trans (show _=(oB (wu.sh F (wL a) (wL b)) fun c_2=>some (((c_2.1.1,[]),()),())) from rfl) ?_;rw[zeZ F hF hs ha hb hl,zg];rfl
theorem rg_sub (F:Nat) (hF:20<F) {u s:Int} (hs:1<=s) {n:zx.T} (h:nK n=7) {a b:LZ} (ha:yk s a<=LIM) (hb:yk s b<=LIM) (hl:yk s (uc a b)<=LIM) (q:Int):Yc F n u s [a,b] q (uc a b,[]):=by
 unfold Yc;rw[Zn h];refine Eq.trans (show _=(oB (xx.sh F (wL a) (wL b)) fun c_2=>some (((c_2.1.1,[]),()),())) from rfl) ?_;rw[VO F hF hs ha hb hl,zg];rfl
theorem rg_mul (F:Nat) (hF:20<F) {u s:Int} (hs:1<=s) {n:zx.T} (h:nK n=8) {a b:LZ} (ha:yk s a<=LIM) (hb:yk s b<=LIM) (hl:yk s (if a=xD a.1 then yO b a.1 else yO a b.1)<=LIM) (q:Int) :
  Yc F n u s [a,b] q ((if a=xD a.1 then yO b a.1 else yO a b.1),[]):=by
 obtain ⟨a1,_⟩:=uq hs a;obtain ⟨b1,_⟩:=uq hs b;unfold Yc;rw[Zn h];refine Eq.trans (show _=(oB (yz.sh F (mk a.1)) fun c_5=>bif Wk (wL a) c_5.1.1 then (oB (xj.sh F (wL b) (mk a.1)) fun c_6=>some (((c_6.1.1,[]),()),())) else oB (xj.sh F (wL a) (mk b.1)) fun c_7=>some (((c_7.1.1,[]),()),())) from rfl) ?_;rw[Ux,zg,V5];by_cases hc:a=xD a.1
 ·rw[decide_eq_true hc,if_pos hc]
  rw[if_pos hc] at hl;simp only[cond_true];rw[YM F hF hs hb (v6 (uS a1 ha)) hl,zg];rfl
 ·rw[decide_eq_false hc,if_neg hc]
  rw[if_neg hc] at hl;simp only[cond_false];rw[YM F hF hs ha (v6 (uS b1 hb)) hl,zg];rfl
theorem rg_min (F:Nat) (hF:20<F) {u s:Int} {n:zx.T} (h:nK n=9) {a b:LZ} {q:Int} (hq:td s q=true) (ha:yk s a<=LIM) (hb:yk s b<=LIM) (hl:yk s (uc a b)<=LIM) :
  Yc F n u s [a,b] q ((bif vE s (uc a b) q then b else a),[uc a b]):=by
 unfold Yc;rw[Zn h];refine Eq.trans (show _=(oB (xx.sh F (wL a) (wL b)) fun c_8=>oB (yh.sh F c_8.1.1 s q) fun c_12=>bif c_12.1.1 then some (((wL b,[c_8.1.1]),()),()) else some (((wL a,[c_8.1.1]),()),())) from rfl) ?_;rw[VO F hF (wI.1 hq).1 ha hb hl,zg,qq F hF hq hl,zg];cases vE s (uc a b) q<;>rfl
theorem rg_max (F:Nat) (hF:20<F) {u s:Int} {n:zx.T} (h:nK n=10) {a b:LZ} {q:Int} (hq:td s q=true) (ha:yk s a<=LIM) (hb:yk s b<=LIM) (hl:yk s (uc a b)<=LIM) :
  Yc F n u s [a,b] q ((bif vE s (uc b a) q then b else a),[uc b a]):=by
 have hl2:yk s (yO (uc a b) (-1))<=LIM:=by rw[uL,show nA (-1)=1 from rfl,Int.mul_one]; exact hl
 have hl3:=hl2;rw[zcL] at hl3;unfold Yc;rw[Zn h];refine Eq.trans (show _=(oB (xx.sh F (wL a) (wL b)) fun c_8=>oB (zU.sh F (-1)) fun c_9=>oB (xj.sh F c_8.1.1 c_9.1.1) fun c_10=>oB (yh.sh F c_10.1.1 s q) fun c_12=>bif c_12.1.1 then some (((wL b,[c_10.1.1]),()),()) else some (((wL a,[c_10.1.1]),()),())) from rfl) ?_;rw[VO F hF (wI.1 hq).1 ha hb hl,zg,qO F (by omega) (by omega),zg,YM F hF (wI.1 hq).1 hl (by decide) hl2,zg,zcL,qq F hF hq hl3,zg];cases vE s (uc b a) q<;>rfl
theorem rg_over (F:Nat) (hF:20<F) {u s:Int} {n:zx.T} (h:nK n=11) {q:Int} (hq:td s q=true) (hN:0<=nN n) (hN2:nN n<=1000000000000) {a:LZ} (ha:yk s a+1000000000001<=LIM) :
  Yc F n u s [a] q ((bif vE s (xR a (nN n)) q then xR a (nN n) else z0),[xR a (nN n)]):=by
 obtain ⟨e,hl⟩:=VP F hF (wI.1 hq).1 ha (v:=nN n) (by omega) hN2;unfold Yc;rw[Zn h];refine Eq.trans (show _=(oB (yD.sh F (wL a) (nN n)) fun c_13=>oB (yh.sh F c_13.1.1 s q) fun c_14=>bif c_14.1.1 then some (((c_13.1.1,[c_13.1.1]),()),()) else some (((((0,0),(0,0),0,0),[c_13.1.1]),()),())) from rfl) ?_;rw[e,zg,qq F hF hq hl,zg];show _=some (((wL (bif vE s (xR a (nN n)) q then xR a (nN n) else z0),[wL (xR a (nN n))]),()),());cases vE s (xR a (nN n)) q<;>rfl
theorem rg_upto (F:Nat) (hF:20<F) {u s:Int} {n:zx.T} (h:nK n=12) {q:Int} (hq:td s q=true) (hN:0<=nN n) (hN2:nN n<=1000000000000) {a:LZ} (ha:yk s a+1000000000001<=LIM) :
  Yc F n u s [a] q ((bif vE s (xR a (nN n)) q then xD (nN n) else a),[xR a (nN n)]):=by
 obtain ⟨e,hl⟩:=VP F hF (wI.1 hq).1 ha (v:=nN n) (by omega) hN2;unfold Yc;rw[Zn h];refine Eq.trans (show _=(oB (yD.sh F (wL a) (nN n)) fun c_31=>oB (yh.sh F c_31.1.1 s q) fun c_32=>bif c_32.1.1 then (oB (zU.sh F (nN n)) fun c_37=>oB (yz.sh F c_37.1.1) fun c_38=>some (((c_38.1.1,[c_31.1.1]),()),())) else some (((wL a,[c_31.1.1]),()),())) from rfl) ?_;rw[e,zg,qq F hF hq hl,zg];show _=some (((wL (bif vE s (xR a (nN n)) q then xD (nN n) else a),[wL (xR a (nN n))]),()),());cases vE s (xR a (nN n)) q with
 | false=>rfl
 | true =>
  simp only[cond_true];rw[qO F (by omega) (by omega),zg,Ux,zg]
theorem QG (F:Nat) (hF:150<F) {n:zx.T} {u s:Int} (hN:0<=nN n) (hN2:nN n<=10000) {c:Int} (hv:nA (c*10000)*10000<=LIM):zT.sh F (n,mk u,s) (mk (c*10000))=some ((mk (c*(10000-nN n)),()),()):=by
 have h1:nA (c*10000*(10000-nN n))<=LIM:=by
  rw[UL,qt (show 0<=10000-nN n by omega)];have:=Int.mul_le_mul_of_nonneg_left (show 10000-nN n<=10000 by omega) (qA (c*10000));omega
 have h0:=qA (c*10000);have i1:=v6 h1;unfold zT.sh;rw[show (n,mk u,s).1.2.1=nN n from rfl,zY (n:=10000-nN n) (by omega) (by omega),qO F (by omega) (by omega),zg,Z0 F (by omega) (wj (v6 (by omega))) (wj (qn (by omega) (by omega))),zg,xv,xv,(uB i1).1,
  qO F (v:=10000) (by omega) (by omega),zg,rdiv_eq F hF i1 (by decide) (by decide) (T3 (by decide) h1) (by omega) (by omega),zg,Int.mul_right_comm,S3 (by decide)]
theorem rg_off (F:Nat) (hF:150<F) {u s:Int} (hs:1<=s) {n:zx.T} (h:nK n=15) (hN:0<=nN n) (hN2:nN n<=10000) {a:LZ} (ha:yk s a*10000<=LIM) (hd:∃z,a=yO z 10000) (q:Int):Yc F n u s [a] q (Tq (nN n) a,[]):=by
 obtain ⟨z,rfl⟩:=hd;obtain ⟨a1,a2,a3,_⟩:=uq hs (yO z 10000);have hb:∀c,nA (c*10000)<=yk s (yO z 10000)->nA (c*10000)*10000<=LIM:=fun c hc=>by omega
 have hn:=Zn h;rw[Vh];unfold Yc;have e1:=QG F hF (n:=n) (u:=u) (s:=s) hN hN2 (hb z.1 a1);have e2:=QG F hF (n:=n) (u:=u) (s:=s) hN hN2 (hb z.2.1 a2);have e3:=QG F hF (n:=n) (u:=u) (s:=s) hN hN2 (hb z.2.2 a3);rw[hn] at e1 e2 e3;rw[hn];refine Eq.trans (show _=(oB (zT.sh F ((15,n.2),mk u,s) (mk (z.1*10000))) fun c_86=>oB (zT.sh F ((15,n.2),mk u,s) (mk (z.2.1*10000))) fun c_87=>oB (zT.sh F ((15,n.2),mk u,s) (mk (z.2.2*10000))) fun c_88=>some ((((c_86.1.1,c_87.1.1,c_88.1.1),[]),()),())) from rfl) ?_;rw[e1,zg,e2,zg,e3,zg];rfl
theorem rg_test (F:Nat) (hF:20<F) {u s:Int} {n:zx.T} (h:nK n=16) {q:Int} (hq:td s q=true) (hN:0<=nN n) (hN2:nN n<=1000000000000) (hO:1<=nO n) (hO2:nO n<=6) {a:LZ} (b c:LZ) (ha:yk s a+1000000000001<=LIM) :
  Yc F n u s [a,b,c] q ((bif ZC (nO n) (yK s a q) (nN n) then b else c),[xR a (nN n),xR a (nN n-1)]):=by
 have hL:LIM=85070591730234615865843651857942052864:=rfl;have hsp:=Xt (wI.1 hq).1 a;obtain ⟨e,hl⟩:=VP F hF (wI.1 hq).1 ha (v:=nN n) (by omega) hN2;obtain ⟨e1,hl1⟩:=VP F hF (wI.1 hq).1 ha (v:=nN n-1) (by omega) (by omega);have hv:inR (yK s a q)=true:=v6 (uS (Y5 hq a) (by omega));have hj:∀is:Bool,zR.j17 F (fun r66=>(some ((r66,()),()):Option zR.sg.R)) [wL a,wL b,wL c] is (n,mk u,s) (((0,0),(0,0),0,0),[])=some (((wL (bif is then b else c),[wL (xR a (nN n)),wL (xR a (nN n-1))]),()),()):=fun is=>by
  refine Eq.trans (show _=(oB (yD.sh F (wL a) (nN n)) fun c_4=>oB (yD.sh F (wL a) (i64.wrap (nN n-1))) fun c_5=>bif is then some (((wL b,[c_4.1.1,c_5.1.1]),()),()) else some (((wL c,[c_4.1.1,c_5.1.1]),()),())) from rfl) ?_;rw[e,zg,zY (n:=nN n-1) (by omega) (by omega),e1,zg];cases is<;>rfl
 have ht:zR.sh F (n,mk u,s) [wL a,wL b,wL c] q=some (((wL (bif ZC (nO n) (yK s a q) (nN n) then b else c),[wL (xR a (nN n)),wL (xR a (nN n-1))]),()),()):=by
  unfold zR.sh;rw[show idx 0 ([wL a,wL b,wL c]:List zf.T).length=true from rfl,show get zf [wL a,wL b,wL c] 0=wL a from rfl];simp only[cond_true];rw[UA F hF hq (by omega),zg,show (n,mk u,s).1.2.1=nN n from rfl,show (n,mk u,s).1.2.2.1=nO n from rfl,qO F (by omega) (by omega),zg,QJ F hF (wj hv) (wj (qn (by omega) (by omega))),zg,xv,xv];generalize yK s a q=v at*;generalize hNe:nN n=N at*;have h3:(Ye v N=-1/\v<N)\/(Ye v N=0/\v=N)\/(Ye v N=1/\v>N):=by
   unfold Ye;split
   ·exact .inl ⟨rfl,by assumption⟩
   ·split
    ·exact .inr (.inl ⟨rfl,by assumption⟩)
    ·exact .inr (.inr ⟨rfl,by omega⟩)
  have c1:decide (Ye v N<0)=decide (v<N):=zgi;have c3:decide (Ye v N>0)=decide (v>N):=S8;have c2:decide (Ye v N<=0)=decide (v<=N):=decide_eq_decide.2 (by omega);have c4:decide (Ye v N>=0)=decide (v>=N):=decide_eq_decide.2 (by omega);have c5:(Ye v N==0)=decide (v=N):=by
   by_cases h:v=N
   ·rw[decide_eq_true h]; have:Ye v N=0:=by omega
    rw[this]; rfl
   ·rw[decide_eq_false h,beq_eq_false_iff_ne]; omega
  simp only[c1,c2,c3,c4,c5,bne];unfold ZC;have ho:nO n=1\/nO n=2\/nO n=3\/nO n=4\/nO n=5\/nO n=6:=by omega
  rcases ho with h | h | h | h | h | h<;>rw[h]<;>exact hj _
 have hn:=Zn h;unfold Yc;rw[hn] at ht;rw[hn];refine Eq.trans (show _=(oB (zR.sh F ((16,n.2),mk u,s) [wL a,wL b,wL c] q) fun c_30=>some ((c_30.1.1,()),())) from rfl) ?_;rw[ht,zg];rfl
theorem zcQ (F:Nat) (hF:20<F) {s:Int} (hs:1<=s) {ts:List yp.T} (hr:Zq ts=true) {a:LZ} (ha:yk s a+1000000000001<=LIM) {i:Nat} (hi:i<ts.length) :
  yD.sh F (wL a) (get yp ts i).1=some ((wL (xR a (tF (ts.getD i (0,0)))),()),())/\yk s (xR a (tF (ts.getD i (0,0))))<=LIM:=by
 obtain ⟨l1,l2,l3⟩:=tN hr;obtain ⟨t1,t2,_⟩:=ZZ (by omega) l3 hi;have hlf:=Zg ts (-1) (by omega) l3;exact VP F hF hs ha (v:=tF (ts.getD i (0,0))) (by omega) (by omega)
theorem zaz (F:Nat) (hF:20<F) {R:Type} (k0:Int->Int->List yp.T->Bool->za.T->zf.T->(zf.T×List zf.T)->(zf.T×List zf.T)->List zf.T->Option R) {m:za.T} {q:Int} (hq:td m.2.2 q=true) {ts:List yp.T} (hr:Zq ts=true) {a:LZ} (ha:yk m.2.2 a+1000000000001<=LIM) (r6:zf.T×List zf.T) (g1:zf.T) (g6:List zf.T) :
  ∀(xs:List yp.T) (i fu:Nat) (y:List zf.T),ts.drop i=xs->xs.length<fu->
  ze.l4 F k0 fu q (i:Int) ts m (wL a) r6 (g1,y) g6=k0 q ((i+uw (yK m.2.2 a q) xs:Nat):Int) ts false m (wL a) r6 (g1,[]) g6
 | xs,i,0,y,h,hf=>by omega
 | [],i,fu+1,y,h,hf=>by
  have:=tO h;simp only[ze.l4,ze.l4.body];rw[decide_eq_false (show ¬(i:Int)<(ts.length:Int) by omega)];rfl
 | x::xs,i,fu+1,y,h,hf=>by
  obtain ⟨l1,l2,l3⟩:=tN hr;have hi:=ug h;obtain ⟨e,hl⟩:=zcQ F hF (wI.1 hq).1 hr ha hi;have ih:=zaz F hF k0 hq hr ha r6 g1 g6 xs (i+1) fu [] (wX h) (by simp at hf; omega);simp only[ze.l4,ze.l4.body];rw[decide_eq_true (show (i:Int)<(ts.length:Int) by omega),xX hi,Int.toNat_natCast];simp only[cond_true];rw[e,zg,qq F hF hq hl,zg,qK,Qm h];simp only[uw];by_cases hx:tF x<yK m.2.2 a q
  ·rw[decide_eq_true hx,if_pos hx,zY (n:=(i:Int)+1) (by omega) (by omega)]
   simp only[cond_true];rw[show (i:Int)+1=((i+1:Nat):Int) by omega,ih];exact congrArg (fun z=>k0 q z ts false m (wL a) r6 (g1,[]) g6) (by omega)
  ·rw[decide_eq_false hx,if_neg hx]
   rfl
theorem RM (F:Nat) (hF:20<F) {R:Type} (k0:Int->List yp.T->Int->Bool->za.T->(zf.T×List zf.T)->(zf.T×List zf.T)->zf.T->Option R) (L:List yp.T) (hL:L.length<=16) (m:za.T) (r6 g:zf.T×List zf.T) (K:Nat) (lb:zh.T×zh.T) {A:Int} (hA:nA A<=1329227995784915872903807060280344576) :
  ∀(n i fu:Nat) (xs:List yp.T) (s lo:Int),L.drop i=xs->n<xs.length->n<fu->K=i+n->-1<=lo->W0 lo xs->
  -20000000000000000000000000<=s-n*1000000000000000000000000->s+n*1000000000000000000000000<=20000000000000000000000000->
  ze.l18 F k0 fu ((K:Int)+1) L (i:Int) m r6 g (mk (A+s),lb)=k0 ((K:Int)+1) L (K:Int) false m r6 g (mk (A+(s+Zp xs n)),lb)
 | n,i,0,xs,s,lo,h,hn,hf,hK,hlo,hi,b1,b2=>by omega
 | 0,i,fu+1,xs,s,lo,h,hn,hf,hK,hlo,hi,b1,b2=>by
  have hKi:K=i:=by omega
  subst hKi;have hlen:=congrArg List.length h;simp only[List.length_drop] at hlen;simp only[ze.l18,ze.l18.body];rw[zY (n:=(K:Int)+1-1) (by omega) (by omega),decide_eq_false (show ¬(K:Int)<(K:Int)+1-1 by omega)];have:Zp xs 0=0:=by cases xs with
   | nil=>rfl
   | cons a r=>cases r<;>rfl
  rw[this,Int.add_zero];rfl
 | n+1,i,fu+1,[],s,lo,h,hn,hf,hK,hlo,hi,b1,b2=>by simp at hn
 | n+1,i,fu+1,[a],s,lo,h,hn,hf,hK,hlo,hi,b1,b2=>by simp at hn
 | n+1,i,fu+1,a::b::r,s,lo,h,hn,hf,hK,hlo,hi,b1,b2=>by
  obtain ⟨a1,a2,a3,a4,a5⟩:=hi;have ⟨c1,c2,c3,c4,c5⟩:=a5;have hlen:=congrArg List.length h;simp only[List.length_drop,List.length_cons] at hlen hn;have h0:=ug h;have h1:=ug (wX h);have hg:get yp L ((i:Int)).toNat=a:=by rw[Int.toNat_natCast]; exact uI h
  have hg1:get yp L (((i+1:Nat):Int)).toNat=b:=by rw[Int.toNat_natCast]; exact uI (wX h)
  push_cast at b1 b2;have hp:=Vy (show -1000000000000<=tR a by omega) (show tR a<=1000000000000 by omega) (show -1000000000000<=tF b-tF a by omega) (show tF b-tF a<=1000000000000 by omega);have IH:=RM F hF k0 L hL m r6 g K lb hA n (i+1) fu (b::r) (s+tR a*(tF b-tF a)) (tF a) (wX h) (by simp at hn ⊢; omega) (by omega) (by omega) (by omega) a5 (by omega) (by omega);unfold nA at hA;have i1:inR (tR a*(tF b-tF a))=true:=by rw[yR]; omega
  have i2:inR (A+s)=true:=by rw[yR]; omega
  have i3:inR (A+s+tR a*(tF b-tF a))=true:=by rw[yR]; omega
  simp only[ze.l18,ze.l18.body];rw[zY (n:=(K:Int)+1-1) (by omega) (by omega),decide_eq_true (show (i:Int)<(K:Int)+1-1 by omega),xX h0,hg,zY (n:=(i:Int)+1) (by omega) (by omega),show (i:Int)+1=((i+1:Nat):Int) by omega,xX h1,hg1];simp only[cond_true];rw[qO F (v:=tR a) (by omega) (by omega),zg,zY (n:=tF b-tF a) (by omega) (by omega),qO F (v:=tF b-tF a) (by omega) (by omega),zg];rw[Z0 F hF (wj (qn (by omega) (by omega))) (wj (qn (by omega) (by omega))),zg,xv,xv,(uB i1).1,YN F hF (wj i2) (wj i1),zg,xv,xv,(uB i3).1];rw[show A+s+tR a*(tF b-tF a)=A+(s+tR a*(tF b-tF a)) by omega,IH,show s+tR a*(tF b-tF a)+Zp (b::r) n=s+Zp (a::b::r) (n+1) by simp only[Zp]; omega]
theorem Sh (F:Nat) (hF:20<F) {n:zx.T} {u s:Int} (hu:inR u=true) {q:Int} (hq:td s q=true) (hr:Zq (nT n)=true) {a:LZ} (ha:yk s a+1000000000001<=LIM) (G:Nat->LZ)
  (hG:(nK n==14)=true->(∀i,i<(nT n).length->yk s (yO a (tR ((nT n).getD i (0,0))))<=LIM/\yk s (yO (yO a (tR ((nT n).getD i (0,0)))) u)<=LIM)/\∀i,G i=X7 u a (nT n) i)
  (hG2:(nK n==14)=false->(∀i,i<(nT n).length->yk s (yO (xR a (tF ((nT n).getD i (0,0)))) (tR ((nT n).getD i (0,0))))<=BND/\yk s (qJ (yO (xR a (tF ((nT n).getD i (0,0)))) (tR ((nT n).getD i (0,0)))) (xD (Zp (nT n) i)))<=LIM /\
   yk s (yO (qJ (yO (xR a (tF ((nT n).getD i (0,0)))) (tR ((nT n).getD i (0,0)))) (xD (Zp (nT n) i))) u)<=LIM)/\∀i,G i=Z8 u a (nT n) i) :
  ze.sh F (n,mk u,s) (wL a) q=some (((wL (G (uw (yK s a q) (nT n))),(YJ a (nT n) (uw (yK s a q) (nT n))).map wL),()),()):=by
 obtain ⟨l1,l2,l3⟩:=tN hr;have hcl:=YV (yK s a q) (nT n);have hs:=(wI.1 hq).1;have hBND:BND=1329227995784915872903807060280344576:=rfl;have hLIM:LIM=85070591730234615865843651857942052864:=rfl;have hzz:(((0,0),(0,0),0,0):zf.T)=wL z0:=rfl;have hj10:∀(k:Nat) (g2:List zf.T),k<=(nT n).length->ze.j10 F (fun r617=>some ((r617,()),())) (fun r618=>some ((r618,()),())) (fun r619=>some ((r619,()),())) (k:Int) (nT n) (n,mk u,s) (wL a) (((0,0),(0,0),0,0),[]) (((0,0),(0,0),0,0),g2) =
   (some (((wL (G k),g2),()),()):Option ze.sg.R):=fun k g2 hk=>by
  unfold ze.j10;by_cases h0:k=0
  ·subst h0
   have hg0:G 0=z0:=by
    cases h14:(nK n==14) with
    | true=>rw[(hG h14).2]; rfl
    | false=>rw[(hG2 h14).2]; rfl
   rw[hg0];rfl
  ·have hi:k-1<(nT n).length:=by omega
   obtain ⟨t1,t2,t3⟩:=Sw.incT_in (nT n) (-1) l3 (k-1) hi;obtain ⟨q1,q2,q3⟩:=ZZ (by omega) l3 hi;rw[show ((k:Int)==0)=false by simp; omega,zY (n:=(k:Int)-1) (by omega) (by omega),show (k:Int)-1=((k-1:Nat):Int) by omega,xX hi,Int.toNat_natCast,show (get yp (nT n) (k-1)).2=tR ((nT n).getD (k-1) (0,0)) from rfl,show (n,mk u,s).1.1=nK n from rfl];simp only[cond_false,cond_true];rw[qO F (by omega) (by omega),zg];cases h14:(nK n==14) with
   | true =>
    obtain ⟨g1,g2'⟩:=hG h14;obtain ⟨v1,v2⟩:=g1 _ hi;simp only[cond_true];rw[YM F hF hs (by omega) (qn (by omega) (by omega)) v1,zg,YM F hF hs v1 hu v2,zg,g2'];unfold X7;rw[if_neg h0]
   | false =>
    obtain ⟨g1,g2'⟩:=hG2 h14;obtain ⟨v1,v2,v3⟩:=g1 _ hi;obtain ⟨e,hl⟩:=zcQ F hF hs hr ha hi;obtain ⟨w1,_⟩:=uq hs (yO (xR a (tF ((nT n).getD (k-1) (0,0)))) (tR ((nT n).getD (k-1) (0,0))));simp only[cond_false];rw[e,zg,YM F hF hs hl (qn (by omega) (by omega)) (by omega),zg];have hlp:=fun kk=>RM F hF (R:=ze.sg.R) kk (nT n) l2 (n,mk u,s) (((0,0),(0,0),0,0),[]) (((0,0),(0,0),0,0),g2) (k-1) (mk (yO (xR a (tF ((nT n).getD (k-1) (0,0)))) (tR ((nT n).getD (k-1) (0,0)))).2.1,mk (yO (xR a (tF ((nT n).getD (k-1) (0,0)))) (tR ((nT n).getD (k-1) (0,0)))).2.2)
     (A:=(yO (xR a (tF ((nT n).getD (k-1) (0,0)))) (tR ((nT n).getD (k-1) (0,0)))).1) (by omega) (k-1) 0 F (nT n) 0 (-1) rfl hi (by omega) (by omega) (by omega) l3 (by omega) (by omega)
    rw[show ((0:Nat):Int)=0 from rfl,show ((k-1:Nat):Int)+1=(k:Int) by omega,Int.add_zero,Int.zero_add] at hlp;refine Eq.trans (hlp _) ?_;rw[show ((mk ((yO (xR a (tF ((nT n).getD (k-1) (0,0)))) (tR ((nT n).getD (k-1) (0,0)))).1+Zp (nT n) (k-1)),mk (yO (xR a (tF ((nT n).getD (k-1) (0,0)))) (tR ((nT n).getD (k-1) (0,0)))).2.1,mk (yO (xR a (tF ((nT n).getD (k-1) (0,0)))) (tR ((nT n).getD (k-1) (0,0)))).2.2):zf.T) =
     wL (qJ (yO (xR a (tF ((nT n).getD (k-1) (0,0)))) (tR ((nT n).getD (k-1) (0,0)))) (xD (Zp (nT n) (k-1)))) from by simp only[wL,qJ,xD,Int.add_zero]]
    rw[YM F hF hs v2 hu v3,zg,g2'];unfold Z8;rw[if_neg h0]
 have hj8:∀(k:Nat) (g2:List zf.T),k<=(nT n).length->g2.length<=1->ze.j8 F (fun r617=>some ((r617,()),())) (fun r618=>some ((r618,()),())) (fun r619=>some ((r619,()),())) (k:Int) (nT n) (n,mk u,s) (wL a) (((0,0),(0,0),0,0),[]) (((0,0),(0,0),0,0),[]) g2 =
   (some (((wL (G k),g2++(if k<(nT n).length then [xR a (tF ((nT n).getD k (0,0)))] else []).map wL),()),()):Option ze.sg.R):=fun k g2 hk hg2=>by
  unfold ze.j8;by_cases h:k<(nT n).length
  ·obtain ⟨e,hl⟩:=zcQ F hF hs hr ha h
   rw[decide_eq_true (show (k:Int)<((nT n).length:Int) by omega),if_pos h,xX h,Int.toNat_natCast];simp only[cond_true];rw[e,zg,show Nat.ble (g2.length+([wL (xR a (tF ((nT n).getD k (0,0))))]:List zf.T).length) vc=true from uV (by simp; omega)];simp only[cond_true];exact hj10 k _ hk
  ·rw[decide_eq_false (show ¬(k:Int)<((nT n).length:Int) by omega),if_neg h]
   simp only[cond_false,List.map_nil,List.append_nil];exact hj10 k _ hk
 unfold ze.sh;have h4:=fun k0=>zaz F hF (R:=ze.sg.R) k0 (m:=(n,mk u,s)) hq hr ha (((0,0),(0,0),0,0),[]) ((0,0),(0,0),0,0) [] (nT n) 0 F [] rfl (by omega)
 rw[show ((0:Nat):Int)=0 from rfl] at h4;simp only[Nat.zero_add] at h4;refine Eq.trans (h4 _) ?_;show _=some (((wL (G (uw (yK (n,mk u,s).2.2 a q) (nT n))),(YJ a (nT n) (uw (yK (n,mk u,s).2.2 a q) (nT n))).map wL),()),());generalize uw (yK (n,mk u,s).2.2 a q) (nT n)=k at*;unfold YJ;by_cases h0:k=0
 ·subst h0
  rw[decide_eq_false (show ¬((0:Nat):Int)>0 by omega),if_pos rfl];simp only[cond_false,List.nil_append];exact hj8 0 [] (by omega) (by simp)
 ·have hi:k-1<(nT n).length:=by omega
  obtain ⟨e,hl⟩:=zcQ F hF hs hr ha hi;rw[decide_eq_true (show (k:Int)>0 by omega),if_neg h0,zY (n:=(k:Int)-1) (by omega) (by omega),show (k:Int)-1=((k-1:Nat):Int) by omega,xX hi,Int.toNat_natCast];simp only[cond_true];rw[e,zg,show Nat.ble (([]:List zf.T).length+([wL (xR a (tF ((nT n).getD (k-1) (0,0))))]:List zf.T).length) vc=true from uV (by simp)];simp only[cond_true,List.nil_append];refine Eq.trans (hj8 k [wL (xR a (tF ((nT n).getD (k-1) (0,0))))] hcl (by simp)) ?_;simp
theorem R0:∀(ps:List PZ) (q n:Int) (k:Nat),YE ps->isAt (ps.map wP) q k->qD ps q n=(if k+1<ps.length then (if pF (ps.map wP) (k+1)<n then pF (ps.map wP) (k+1) else n) else n)
 | [],q,n,k,hc,h=>by have:=h.1; simp at this
 | [p],q,n,k,hc,h=>by
  have:k=0:=by have:=h.1; simp at this; exact this
  subst this; rfl
 | p::p'::r,q,n,k,hc,h=>by
  obtain ⟨h1,h2,h3⟩:=h;rw[XE];have hcb:=WU _ hc;cases k with
  | zero =>
   have:=h3 1 (by omega) (by simp);have:q<p'.1:=this;rw[decide_eq_false (show ¬p'.1<=q by omega),if_pos (show 0+1<(p::p'::r).length by simp only[List.length_cons]; omega)];rfl
  | succ k =>
   have hp:p'.1<=q:=by
    have h4:pF ((p::p'::r).map wP) 1=p'.1:=rfl;rcases Nat.eq_zero_or_pos k with hk | hk
    ·subst hk; rw[<-h4]; exact h2
    ·have:=UY hcb (i:=1) (j:=k+1) (by omega) h1
     omega
   rw[decide_eq_true hp];refine Eq.trans (R0 (p'::r) q n k hc.2 ⟨by simpa using h1,h2,fun j hj hl=>h3 (j+1) (by omega) (by simpa using hl)⟩) ?_;show (if k+1<(p'::r).length then _ else n)=if k+1+1<(p::p'::r).length then _ else n
   simp only[List.length_cons,Nat.add_lt_add_iff_right];rfl
def Kid (ps:List PZ):Prop:=ps≠[]/\ps.length<=256/\YE ps/\∀p,ps.head?=some p->p.1=0
theorem PG.kid {s M:Int} {V:Int->Int} {Q:LZ->Prop} {ps:List PZ} (h:PG s M V Q ps):Kid ps:=⟨h.ne,h.len,h.ch,h.hd⟩
theorem zeX (F:Nat) (hF:300<F) {R:Type} (k0:List (List zo.T)->Int->Int->Int->Int->Bool->za.T->List zo.T->List zf.T->Option R) {KS:List (List PZ)} (hK:∀ps∈KS,Kid ps) (hK16:KS.length<=16) {q:Int} (hq0:0<=q) (runs:Int) (m:za.T) (out:List zo.T) :
  ∀(ks:List (List PZ)) (i fu:Nat) (next:Int) (acc:List zf.T),KS.drop i=ks->i+ks.length=KS.length->acc.length<=i->ks.length<fu->
  zd.l8 F k0 fu (KS.map fun ps=>ps.map wP) q runs next (i:Int) m out acc=k0 (KS.map fun ps=>ps.map wP) q runs (ZB ks q next) (KS.length:Int) false m out (acc++ks.map fun ps=>wL (wz ps q))
 | ks,i,0,next,acc,h,hi,ha,hf=>by omega
 | [],i,fu+1,next,acc,h,hi,ha,hf=>by
  have hi:i=KS.length:=by simpa using hi
  subst hi;simp only[zd.l8,zd.l8.body,List.length_map];rw[decide_eq_false (show ¬(KS.length:Int)<(KS.length:Int) by omega)];simp only[cond_false,List.map_nil,List.append_nil];rfl
 | ps::ks,i,fu+1,next,acc,h,hi,ha,hf=>by
  have hlt:=ug h;simp only[List.length_cons] at hi;have hmem:ps∈KS:=by
   have:=List.mem_of_mem_drop (l:=KS) (i:=i) (a:=ps) (by rw[h]; simp);exact this
  obtain ⟨k1,k2,k3,k4⟩:=hK ps hmem;have hpos:0<ps.length:=List.length_pos_iff.2 k1;have hgk:get (.sl zo) (KS.map fun ps=>ps.map wP) i=ps.map wP:=by
   have hd:=congrArg (·[0]?) h
   simp at hd;unfold get;rw[List.getD_eq_getElem?_getD,List.getElem?_map,hd];rfl
  have h0:pF (ps.map wP) 0<=q:=by
   rw[pF_map _ 0 hpos];cases hp:ps with
   | nil=>exact absurd hp k1
   | cons p r=>have:=k4 p (by rw[hp]; rfl); show p.1<=q; omega
  obtain ⟨k,e,hk⟩:=find_eq F (by omega) (l:=ps.map wP) (by simpa using k2) (by simpa using hpos) (WU ps k3) h0;have hkl:k<ps.length:=by simpa using hk.1
  have hn:=R0 ps q next k k3 hk
  have hline:=R9 ps q k k3 hk;have IH:=zeX F hF k0 hK hK16 hq0 runs m out ks (i+1) fu (qD ps q next) (acc++[wL (wz ps q)]) (wX h) (by omega) (by simp; omega) (by simp at hf; omega);have e2:ZB (ps::ks) q next=ZB ks q (qD ps q next):=rfl
  rw[e2,List.map_cons];rw[List.append_assoc,List.singleton_append] at IH;have hw:i64.wrap ((i:Int)+1)=((i+1:Nat):Int):=by rw[zY (by omega) (by omega)]; omega
  have hw2:i64.wrap ((k:Int)+1)=((k+1:Nat):Int):=by rw[zY (by omega) (by omega)]; omega
  simp only[zd.l8,zd.l8.body,List.length_map];rw[decide_eq_true (show (i:Int)<(KS.length:Int) by omega),xX hlt,Int.toNat_natCast,hgk,e,zg];simp only[cond_true,List.length_map];rw[xX hkl,Int.toNat_natCast,hline,show Nat.ble (acc.length+([wL (wz ps q)]:List zf.T).length) vc=true from uV (by simp; omega),zY (n:=(ps.length:Int)-1) (by omega) (by omega),hw,hw2];simp only[cond_true];by_cases hk1:k+1<ps.length
  ·rw[decide_eq_true (show (k:Int)<(ps.length:Int)-1 by omega),xX hk1,Int.toNat_natCast]
   simp only[cond_true];rw[if_pos hk1] at hn;show (bif decide (pF (ps.map wP) (k+1)<next) then _ else _)=_;by_cases hlt2:pF (ps.map wP) (k+1)<next
   ·rw[decide_eq_true hlt2]
    rw[if_pos hlt2] at hn;rw[hn] at IH ⊢;exact IH
   ·rw[decide_eq_false hlt2]
    rw[if_neg hlt2] at hn;rw[hn] at IH ⊢;exact IH
  ·rw[decide_eq_false (show ¬(k:Int)<(ps.length:Int)-1 by omega)]
   rw[if_neg hk1] at hn;rw[hn] at IH ⊢;exact IH
theorem zcP (F:Nat) (hF:70<F) {R:Type} (k0:List (List zo.T)->Int->Int->Int->Int->Bool->za.T->(zf.T×List zf.T)->List zo.T->Option R) (kids:List (List zo.T)) (runs q:Int) (m:za.T) (l:zf.T) (out:List zo.T) (hq:td m.2.2 q=true) {T:List LZ} (hT:T.length<=16) (hsp:∀t∈T,yk m.2.2 t<=LIM) :
  ∀(ts:List LZ) (i fu:Nat) (next:Int),T.drop i=ts->i+ts.length=T.length->ts.length<fu->
  zd.l16 F k0 fu kids q runs next (i:Int) m (l,T.map wL) out=k0 kids q runs (Yy m.2.2 q ts next) (T.length:Int) false m (l,T.map wL) out
 | ts,i,0,next,h,hi,hf=>by omega
 | [],i,fu+1,next,h,hi,hf=>by
  have hi:i=T.length:=by simpa using hi
  subst hi;simp only[zd.l16,zd.l16.body,List.length_map];rw[decide_eq_false (show ¬(T.length:Int)<(T.length:Int) by omega)];rfl
 | t::ts,i,fu+1,next,h,hi,hf=>by
  have hlt:=ug h;simp only[List.length_cons] at hi;have hmem:t∈T:=List.mem_of_mem_drop (l:=T) (i:=i) (a:=t) (by rw[h]; simp);have hgk:get zf (T.map wL) i=wL t:=by
   have hd:=congrArg (·[0]?) h
   simp at hd;unfold get;rw[List.getD_eq_getElem?_getD,List.getElem?_map,hd];rfl
  obtain ⟨f,e,hfl⟩:=zf2 F (by omega) (hsp t hmem) hq;have IH:=zcP F hF k0 kids runs q m l out hq hT hsp ts (i+1) fu (if YS m.2.2 t q<next then YS m.2.2 t q else next) (wX h) (by omega) (by simp at hf; omega);have e2:Yy m.2.2 q (t::ts) next=Yy m.2.2 q ts (if YS m.2.2 t q<next then YS m.2.2 t q else next):=rfl
  rw[e2];rw[SQ hfl] at IH ⊢;have hw:i64.wrap ((i:Int)+1)=((i+1:Nat):Int):=by rw[zY (by omega) (by omega)]; omega
  simp only[zd.l16,zd.l16.body,List.length_map];rw[decide_eq_true (show (i:Int)<(T.length:Int) by omega),xX hlt,Int.toNat_natCast,hgk,e,zg,hw];simp only[cond_true];by_cases hfn:f<next
  ·rw[decide_eq_true hfn]
   rw[if_pos hfn] at IH ⊢;exact IH
  ·rw[decide_eq_false hfn]
   rw[if_neg hfn] at IH ⊢;exact IH
def zgI (F:Nat) (n:zx.T) (u:Int) (c:List LZ->Int->LZ×List LZ) (s:Int) (kids:List (List PZ)):Prop :=
 ∀q,0<=q->q<=1099511627776->xt.sh F (n,mk u,s) (kids.map fun ps=>wL (wz ps q)) q=some (((wL (c (kids.map fun ps=>wz ps q) q).1,(c (kids.map fun ps=>wz ps q) q).2.map wL),()),()) /\
  (∀t∈(c (kids.map fun ps=>wz ps q) q).2,yk s t<=LIM)/\(c (kids.map fun ps=>wz ps q) q).2.length<=16
theorem rmk_l4 (F:Nat) (hF:300<F) {R:Type} (k0:List zo.T->Bool->Option R) (k1:List zo.T->Option R) {n:zx.T} {u s:Int} {KS:List (List PZ)} (hK:∀ps∈KS,Kid ps) (hK16:KS.length<=16)
  (hs:1<=s) (hs2:s<=1000000000000) {c:List LZ->Int->LZ×List LZ} (hc:zgI F n u c s KS) (hnx:∀q,0<=q->q<=1099511627776->q<ZA c s KS q) :
  ∀(nn fu:Nat) (runs q:Int) (out:List PZ),runs=4096-(nn:Int)->nn<=4096->nn<fu->0<=q->out.length<=256->
   zd.l4 F k0 (fun _ _ _ _ _ out=>k1 out) fu (KS.map fun ps=>ps.map wP) q runs (n,mk u,s) (out.map wP) =
    match mdZ c s KS nn q out with | some res=>k1 (res.map wP) | none=>k0 [] false:=by
 intro nn fu;induction fu generalizing nn with
 | zero=>intro runs q out hr hn hf; omega
 | succ fu ih =>
  intro runs q out hr hn hf h0 ho;by_cases hq:q<=1099511627776
  ·obtain ⟨c1,c2,c3⟩:=hc q h0 hq
   have hfq:td s q=true:=wI.2 ⟨hs,hs2,h0,hq⟩;have hnx:=hnx q h0 hq;have hmd:mdZ c s KS nn q out=mdN c s KS nn q (Xz out q (c (KS.map fun ps=>wz ps q) q).1):=by
    cases nn with
    | zero=>simp only[mdZ,mdN,decide_eq_true hq,cond_true]
    | succ n=>simp only[mdZ,mdN,decide_eq_true hq,cond_true]
   have hnz:Yy s q (c (KS.map fun ps=>wz ps q) q).2 (ZB KS q 1099511627777)=ZA c s KS q:=rfl;generalize hL:(c (KS.map fun ps=>wz ps q) q).1=l at*;generalize hT:(c (KS.map fun ps=>wz ps q) q).2=tn at*;simp only[zd.l4,zd.l4.body];rw[decide_eq_true hq];simp only[cond_true];have b8:=fun k=>zeX F hF (R:=R) k hK hK16 h0 runs (n,mk u,s) (out.map wP) KS 0 F 1099511627777 [] rfl (Nat.zero_add _) (by simp) (by omega)
   rw[show ((0:Nat):Int)=0 from rfl] at b8;rw[b8,List.nil_append,c1,zg];have b16:=fun k=>zcP F (by omega) (R:=R) k (KS.map fun ps=>ps.map wP) runs q (n,mk u,s) (wL l) (out.map wP) hfq c3 c2 tn 0 F (ZB KS q 1099511627777) rfl (Nat.zero_add _) (by omega)
   rw[show ((0:Nat):Int)=0 from rfl] at b16;refine Eq.trans (b16 _) ?_;rw[show Yy (n,mk u,s).2.2 q tn (ZB KS q 1099511627777)=ZA c s KS q from hnz,hmd];have common:∀out':List PZ,(bif decide (i64.wrap (runs+1)>4096) then k0 [] false else bif decide (((out'.map wP).length:Int)>256) then k0 [] false
     else zd.l4 F k0 (fun _ _ _ _ _ out=>k1 out) fu (KS.map fun ps=>ps.map wP) (ZA c s KS q) (i64.wrap (runs+1)) (n,mk u,s) (out'.map wP)) =
     match mdN c s KS nn q out' with | some res=>k1 (res.map wP) | none=>k0 [] false:=by
    intro out';rw[zY (n:=runs+1) (by omega) (by omega)];cases nn with
    | zero=>rw[decide_eq_true (show runs+1>4096 by omega)]; rfl
    | succ n =>
     rw[decide_eq_false (show ¬runs+1>4096 by omega)];simp only[cond_false];by_cases ho:out'.length>256
     ·rw[decide_eq_true (show ((out'.map wP).length:Int)>256 by simp; omega)]
      simp only[mdN,if_pos ho,cond_true]
     ·rw[decide_eq_false (show ¬((out'.map wP).length:Int)>256 by simp; omega)]
      simp only[mdN,if_neg ho,cond_false];exact ih n (runs+1) (ZA c s KS q) out' (by omega) (by omega) (by omega) (by omega) (by omega)
   have hble:Nat.ble ((out.map wP).length+([(q,wL l)]:List zo.T).length) vc=true:=uV (by simp; omega);have hsn:out.map wP++([(q,wL l)]:List zo.T)=(out++[(q,l)]).map wP:=by rw[List.map_append]; rfl
   cases hout:out with
   | nil =>
    have c0:=common [(q,l)];rw[hout] at hble hsn;have hp:Xz [] q l=[(q,l)]:=by unfold Xz W3; rw[if_neg (by simp)]; rfl
    rw[hp];rw[show (((([]:List PZ).map wP).length:Int)==0)=true from rfl,hble,hsn];simp only[cond_true];exact c0
   | cons a r =>
    have hne:out≠[]:=by rw[hout]; simp
    obtain ⟨p,hp⟩:∃p,out.getLast?=some p:=⟨_,List.getLast?_eq_some_getLast hne⟩;have hlen:1<=out.length:=by rw[hout]; simp
    rw[<-hout];have hb:=V5 (x:=p.2) (y:=l);rw[show (((out.map wP).length:Int)==0)=false by simp; omega,hble,hsn,zY (n:=((out.map wP).length:Int)-1) (by simp; omega) (by simp; omega),
     show ((out.map wP).length:Int)-1=((out.length-1:Nat):Int) by simp; omega,xX (show out.length-1<(out.map wP).length by simp; omega),Int.toNat_natCast,zaY hp]
    simp only[cond_true,cond_false];show (bif !(Wk (wL p.2) (wL l)) then _ else _)=_;rw[hb];have hll:W3 out=some p.2:=by unfold W3; rw[hp]; rfl
    by_cases he:p.2=l
    ·rw[decide_eq_true he]
     have c0:=common out;have hpz:Xz out q l=out:=by unfold Xz; rw[if_pos (by rw[hll,he])]
     rw[hpz];simp only[Bool.not_true,Bool.not_false,cond_true,cond_false];exact c0
    ·rw[decide_eq_false he]
     have c0:=common (out++[(q,l)]);have hpz:Xz out q l=out++[(q,l)]:=by unfold Xz; rw[if_neg (by rw[hll]; simp; exact he)]
     rw[hpz];simp only[Bool.not_true,Bool.not_false,cond_true,cond_false];exact c0
  ·simp only[zd.l4,zd.l4.body]
   rw[decide_eq_false hq];have:mdZ c s KS nn q out=some out:=by
    cases nn<;>simp only[mdZ,decide_eq_false hq,cond_false]
   rw[this];rfl
theorem Xx (F:Nat) (hF:4200<F) {n:zx.T} {u s:Int} {KS:List (List PZ)} (hK:∀ps∈KS,Kid ps) (hK16:KS.length<=16) (hs:1<=s) (hs2:s<=1000000000000) {c:List LZ->Int->LZ×List LZ} (hc:zgI F n u c s KS) (hnx:∀q,0<=q->q<=1099511627776->q<ZA c s KS q) :
  zd.sh F (n,mk u,s) (KS.map fun ps=>ps.map wP)=some (mdR (mdZ c s KS 4096 0 [])):=by
 unfold zd.sh;refine (rmk_l4 F (by omega) (fun r46 r56=>(some ((r46,r56,()),()):Option zd.sg.R)) (fun out7=>zd.j27 F (fun r48 r58=>some ((r48,r58,()),())) out7) hK hK16 hs hs2 hc hnx 4096 F 0 0 [] (by omega) (by omega) (by omega) (by omega) (by simp)).trans ?_;unfold mdR;cases mdZ c s KS 4096 0 []<;>rfl
theorem rch1 (F:Nat) (hF:300<F) {u s:Int} (hu:1<=u) (hu2:inR u=true) {dims pile:Nat} (hd:dims<=4) {n:zx.T} (hn:tm dims n pile=0) (hk:nK n=5\/nK n=11\/nK n=12\/nK n=13\/nK n=14\/nK n=15)
  {a:LZ} {A:Int} (ha:yk s a<=A) (hA:0<=A) (hb:A<=BND) {D:List wV.T} (hfar:tC n (vz u D n [A])<=BND) (hoff:nK n=15->∃z,a=yO z 10000) {q:Int} (hq:td s q=true):Yc F n u s [a] q (chZ n u s [a] q):=by
 obtain ⟨g1,g2,g3,g4,g5,g6,g7,g8⟩:=uh hn;have hN2:=YP hd g3 g1;have hs:=(wI.1 hq).1;have hlim:=TY hb;have hBND:BND=1329227995784915872903807060280344576:=rfl;have hLIM:LIM=85070591730234615865843651857942052864:=rfl;have hsc:∀ts:List yp.T,Zq ts=true->uX u A ts<=BND->∀n,n<ts.length->yk s (yO (xR a (tF (ts.getD n (0,0)))) (tR (ts.getD n (0,0))))<=BND:=fun ts hr hf n hn=>by
  obtain ⟨l1,l2,l3⟩:=tN hr;obtain ⟨i1,i2,i3⟩:=ZZ (by omega) l3 hn;have hlf:=Zg ts (-1) (by omega) l3;have hr0:=(Xc ts 0).1;have hm0:=Int.mul_nonneg hr0 (show 0<=A+tg ts by omega);have hw0:=(ZH ts (-1) (by omega) l3).1;have h2:=tX hs a (tF (ts.getD n (0,0)));rw[qt i1] at h2;have h4:=Int.mul_le_mul (show yk s (xR a (tF (ts.getD n (0,0))))<=A+tg ts by omega) i3 (qA _) (by omega);rw[Int.mul_comm (A+tg ts)] at h4;unfold uX at hf;have hT:=QY hu (show 0<=qp 0 ts*(A+tg ts)+tT ts by omega);rw[uL];omega
 rcases hk with h | h | h | h | h | h
 ·have e:chZ n u s [a] q=(uc z0 a,[]):=by unfold chZ; rw[h]; rfl
  rw[e];exact rg_neg F (by omega) hs h (by omega) q
 ·have e:chZ n u s [a] q=((bif vE s (xR a (nN n)) q then xR a (nN n) else z0),[xR a (nN n)]):=by unfold chZ; rw[h]; rfl
  rw[e];exact rg_over F (by omega) h hq g2 hN2 (by omega)
 ·have e:chZ n u s [a] q=((bif vE s (xR a (nN n)) q then xD (nN n) else a),[xR a (nN n)]):=by unfold chZ; rw[h]; rfl
  rw[e];exact rg_upto F (by omega) h hq g2 hN2 (by omega)
 ·have hr:=g8 (by unfold th ZY; rw[h]; rfl)
  have e:chZ n u s [a] q=(Z8 u a (nT n) (uw (yK s a q) (nT n)),YJ a (nT n) (uw (yK s a q) (nT n))):=by unfold chZ; rw[h]; rfl
  have em:vz u D n [A]=uX u A (nT n):=by unfold vz; rw[h]; rfl
  have hf:uX u A (nT n)<=BND:=by rw[em] at hfar; unfold tC at hfar; rw[h] at hfar; exact hfar
  have hin:=(WG hs hu ha hA hr hf).2;have h14:(nK n==14)=false:=by rw[h]; rfl
  have ht:=Sh F (by omega) (n:=n) (u:=u) (s:=s) hu2 hq hr (a:=a) (by omega) (Z8 u a (nT n)) (fun h=>by rw[h14] at h; cases h) (fun _=>⟨fun i hi=>⟨hsc _ hr hf i hi,(hin i hi).2.1,(hin i hi).2.2⟩,fun i=>rfl⟩);rw[e];unfold Yc;have hne:=Zn h;generalize uw (yK s a q) (nT n)=k at*;generalize nT n=ts at*;rw[hne] at ht;rw[hne];refine Eq.trans (show _=(oB (ze.sh F ((13,n.2),mk u,s) (wL a) q) fun c=>some ((c.1.1,()),())) from rfl) ?_;rw[ht,zg]
 ·have hr:=g8 (by unfold th ZY; rw[h]; rfl)
  have e:chZ n u s [a] q=(X7 u a (nT n) (uw (yK s a q) (nT n)),YJ a (nT n) (uw (yK s a q) (nT n))):=by unfold chZ; rw[h]; rfl
  have em:vz u D n [A]=uX u A (nT n):=by unfold vz; rw[h]; rfl
  have hf:uX u A (nT n)<=BND:=by rw[em] at hfar; unfold tC at hfar; rw[h] at hfar; exact hfar
  have hin:=(WG hs hu ha hA hr hf).1;have h14:(nK n==14)=true:=by rw[h]; rfl
  have ht:=Sh F (by omega) (n:=n) (u:=u) (s:=s) hu2 hq hr (a:=a) (by omega) (X7 u a (nT n)) (fun _=>⟨fun i hi=>hin i hi,fun i=>rfl⟩) (fun h=>by rw[h14] at h; cases h);rw[e];unfold Yc;have hne:=Zn h;generalize uw (yK s a q) (nT n)=k at*;generalize nT n=ts at*;rw[hne] at ht;rw[hne];refine Eq.trans (show _=(oB (ze.sh F ((14,n.2),mk u,s) (wL a) q) fun c=>some ((c.1.1,()),())) from rfl) ?_;rw[ht,zg]
 ·have e:chZ n u s [a] q=(Tq (nN n) a,[]):=by unfold chZ; rw[h]; rfl
  have em:vz u D n [A]=A:=by unfold vz; rw[h]; rfl
  have hf:A*10000<=BND:=by rw[em] at hfar; unfold tC at hfar; rw[h] at hfar; exact hfar
  rw[Zm h] at g3;have g3:nN n<=10000:=g3;rw[e];exact rg_off F (by omega) hs h g2 g3 (by omega) (hoff h) q
theorem rch2 (F:Nat) (hF:300<F) {u s:Int} {n:zx.T} (hk:nK n=6\/nK n=7\/nK n=8) {a b:LZ} {A B:Int} (ha:yk s a<=A) (hb:yk s b<=B) (hA:A<=BND) (hB:B<=BND) {D:List wV.T} (hfar:tC n (vz u D n [A,B])<=BND) (hmul:nK n=8->a=xD a.1\/b=xD b.1) {q:Int} (hq:td s q=true) :
  Yc F n u s [a,b] q (chZ n u s [a,b] q):=by
 have hs:=(wI.1 hq).1;have hBND:BND=1329227995784915872903807060280344576:=rfl;have hLIM:LIM=85070591730234615865843651857942052864:=rfl;rcases hk with h | h | h
 ·have e:chZ n u s [a,b] q=(qJ a b,[]):=by unfold chZ; rw[h]; rfl
  have:=VK hs a b;rw[e];exact rg_add F (by omega) hs h (by omega) (by omega) (by omega) q
 ·have e:chZ n u s [a,b] q=(uc a b,[]):=by unfold chZ; rw[h]; rfl
  have:=Zd hs a b;rw[e];exact rg_sub F (by omega) hs h (by omega) (by omega) (by omega) q
 ·have e:chZ n u s [a,b] q=((if a=xD a.1 then yO b a.1 else yO a b.1),[]):=by unfold chZ; rw[h]; rfl
  have em:vz u D n [A,B]=A*B:=by unfold vz; rw[h]; rfl
  have hf:A*B<=BND:=by rw[em] at hfar; unfold tC at hfar; rw[h] at hfar; exact hfar
  have hg:=(zde hs ha hb (hmul h) q).1;rw[e];exact rg_mul F (by omega) hs h (by omega) (by omega) (show yk s (if a=xD a.1 then yO b a.1 else yO a b.1)<=LIM by simp only at hg; omega) q
theorem rch2m (F:Nat) (hF:300<F) {u s:Int} {n:zx.T} (hk:nK n=9\/nK n=10) {a b:LZ} {A B:Int} (ha:yk s a<=A) (hb:yk s b<=B) (hA:0<=A) (hB:0<=B) (hL:A+B<=BND) {q:Int} (hq:td s q=true):Yc F n u s [a,b] q (chZ n u s [a,b] q):=by
 have hs:=(wI.1 hq).1;have hBND:BND=1329227995784915872903807060280344576:=rfl;have hLIM:LIM=85070591730234615865843651857942052864:=rfl;have h1:=Zd hs a b;rcases hk with h | h
 ·have e:chZ n u s [a,b] q=((bif vE s (uc a b) q then b else a),[uc a b]):=by unfold chZ; rw[h]; rfl
  rw[e];exact rg_min F (by omega) h hq (by omega) (by omega) (by omega)
 ·have e:chZ n u s [a,b] q=((bif vE s (uc b a) q then b else a),[uc b a]):=by unfold chZ; rw[h]; rfl
  rw[e];exact rg_max F (by omega) h hq (by omega) (by omega) (by omega)
theorem rch3 (F:Nat) (hF:300<F) {u s:Int} {dims pile:Nat} (hd:dims<=4) {n:zx.T} (hn:tm dims n pile=0) (h:nK n=16) {a b c:LZ} {A:Int} (ha:yk s a<=A) (hL:A<=BND) {q:Int} (hq:td s q=true):Yc F n u s [a,b,c] q (chZ n u s [a,b,c] q):=by
 obtain ⟨g1,g2,g3,g4,g5,g6,g7,g8⟩:=uh hn;have hN2:=YP hd g3 g1;have hlim:=TY hL;have e:chZ n u s [a,b,c] q=((bif ZC (nO n) (yK s a q) (nN n) then b else c),[xR a (nN n),xR a (nN n-1)]):=by unfold chZ; rw[h]; rfl
 have ho:1<=nO n/\nO n<=6:=by
  unfold opB ZY at g5;rw[h] at g5;have g5:(decide (nO n>=1)&&decide (nO n<=6))=true:=g5;simp at g5;omega
 rw[e];exact rg_test F (by omega) h hq g2 hN2 ho.1 ho.2 b c (by omega)
theorem zf4 (F:Nat) (hF:4200<F) {u s:Int} (hs:1<=s) (hs2:s<=1000000000000) {n:zx.T} (hk:nK n=9\/nK n=10) {Q:LZ->Prop} {A B:Int} {VA VB:Int->Int} {p0 p1:List PZ} (g0:PG s A VA Q p0) (g1:PG s B VB Q p1) (hA:0<=A) (hB:0<=B) (hL:A+B<=BND) :
  zd.sh F (n,mk u,s) [p0.map wP,p1.map wP]=some (mdR (mdZ (chZ n u s) s [p0,p1] 4096 0 [])):=by
 obtain ⟨st,ca⟩:=mk2 (u:=u) (M:=A+B) (n:=n) (V:=fun x=>Zb n (VA x) (VB x)) (W:=fun _=>Zb n) (Q:=Q) hs hs2 g0 g1 (fun a b q ha hb qa qb hq=>by
  obtain ⟨h1,h2,h3⟩:=ch2m (u:=u) hk ha hb hA hB hL hq;exact ⟨by rcases h2 with h2 | h2<;>rw[h2]<;>assumption,h1,h3⟩) (fun x _ _=>rfl)
 exact Xx F hF (KS:=[p0,p1]) (by simp[g0.kid,g1.kid]) (by simp) hs hs2 (fun q q0 q1=>⟨rch2m F (by omega) hk (g0.at q).1 (g1.at q).1 hA hB hL (Y3 hs hs2 q0 q1),(ca F (by omega) q q0 q1).2⟩) (fun q q0 q1=>(Zf st q0 q1).1)
theorem zaF (F:Nat) (hF:4200<F) {u s:Int} (hs:1<=s) (hs2:s<=1000000000000) {n:zx.T} (hk:nK n=9\/nK n=10) {Q:LZ->Prop} {R:Type} (k0:List zo.T->Bool->Option R) (k1:List zo.T->Option R) (L:List (List zo.T)) (hLl:L.length<=16) :
  ∀(r:List (List PZ×Int×(Int->Int))) (i fu:Nat) (acc:List PZ) (A:Int) (VA:Int->Int),L.drop i=(r.map fun x=>x.1.map wP)->i+r.length=L.length->r.length<fu->PG s A VA Q acc->0<=A->A+(r.map fun x=>x.2.1).sum<=BND->(∀x∈r,0<=x.2.1/\PG s x.2.1 x.2.2 Q x.1)->
  zr.l5 F k0 (fun _ l _ _ _=>k1 l) fu L (acc.map wP) (i:Int) (n,mk u,s)=match YR n u s acc (r.map fun x=>x.1) with | some ps=>k1 (ps.map wP) | none=>k0 [] false
 | r,i,0,acc,A,VA,hd,hi,hf,g,hA,hL,hr=>by omega
 | [],i,fu+1,acc,A,VA,hd,hi,hf,g,hA,hL,hr=>by
  have hi:i=L.length:=by simpa using hi
  subst hi;simp only[zr.l5,zr.l5.body];rw[decide_eq_false (show ¬(L.length:Int)<(L.length:Int) by omega)];rfl
 | y::r,i,fu+1,acc,A,VA,hd,hi,hf,g,hA,hL,hr=>by
  obtain ⟨y0,gy⟩:=hr y (by simp);simp only[List.length_cons] at hi;have hsum:0<=(r.map fun x=>x.2.1).sum:=by
   have:∀(l:List (List PZ×Int×(Int->Int))),(∀x∈l,0<=x.2.1)->0<=(l.map fun x=>x.2.1).sum:=by
    intro l;induction l with
    | nil=>intro _; simp
    | cons z l ih=>intro h; have:=ih (fun x hx=>h x (List.mem_cons_of_mem _ hx)); have:=h z (by simp); simp only[List.map_cons,List.sum_cons]; omega
   exact this r (fun x hx=>(hr x (List.mem_cons_of_mem _ hx)).1)
  simp only[List.map_cons,List.sum_cons] at hL hd ⊢;have hlt:=ug hd;have hg:=uI (t:=.sl zo) hd;rw[Int.toNat_natCast] at hg;have e1:=zf4 F hF hs hs2 hk (u:=u) g gy hA y0 (by omega);obtain ⟨_,e2⟩:=zdw F hF hs hs2 hk (u:=u) g gy hA y0 (by omega);have hw:i64.wrap ((i:Int)+1)=((i+1:Nat):Int):=by rw[zY (by omega) (by omega)]; omega
  simp only[zr.l5,zr.l5.body];rw[decide_eq_true (show (i:Int)<(L.length:Int) by omega),xX hlt,Int.toNat_natCast,hg,e1,zg,hw];simp only[YR,cond_true];cases hm:mdZ (chZ n u s) s [acc,y.1] 4096 0 [] with
  | none=>rfl
  | some a =>
   exact zaF F hF hs hs2 hk (u:=u) k0 k1 L hLl r (i+1) fu a (A+y.2.1) (fun x=>Zb n (VA x) (y.2.2 x)) (wX hd) (by omega) (by simp at hf; omega) (e2 a hm) (by omega) (by omega) (fun x hx=>hr x (List.mem_cons_of_mem _ hx))
theorem zeU (F:Nat) (hF:4200<F) {u S:Int} (hS0:0<=S) (hu:u=10000^S.toNat) (hu1:1<=u) (hu2:u<=1000000000000000000000000) {d:wV.T} (hs:1<=dS d) (hs2:dS d<=1000000000000) {n:zx.T} {pile:Nat} (hn:tm 1 n pile=0) {ks:List Tree} (hl:ks.length=ar n) (ha:1<=ar n)
  (hty:tyE (.nd n ks)=0) (hm:tC n (mag u [d] (.nd n ks))<=BND) (hS:wT (.nd n ks)<=S) (hk:∀k∈ks,PT u S d k) :
  zr.sh F (n,mk u,dS d) (ks.map fun k=>(pcs u (dS d) k).map wP)=some (mdR (pc u (dS d) (.nd n ks))):=by
 obtain ⟨g1,g2,g3,g4,g5,g6,g7,g8⟩:=uh hn;have iu:inR u=true:=by rw[yR]; omega
 have hmag:=SB u [d] n ks;have hev:∀x,ev u [d] [x] (.nd n ks)=evN u [d] [x] n (ks.map (ev u [d] [x])):=fun x=>zfZ _ _ _ _ _
 have htn:=zeJ hty;have hnot:∀r:Option zr.sg.R,nK n≠9->nK n≠10->zd.sh F (n,mk u,dS d) (ks.map fun k=>(pcs u (dS d) k).map wP)=r->(∀x,r=some x->True)->zr.sh F (n,mk u,dS d) (ks.map fun k=>(pcs u (dS d) k).map wP)=r:=fun r h9 h10 e _=>by
  unfold zr.sh;rw[show ((n,mk u,dS d).1.1 != 9)=true by show (nK n != 9)=true; simpa using h9,show ((n,mk u,dS d).1.1 != 10)=true by show (nK n != 10)=true; simpa using h10];simp only[cond_true];rw[e];cases r<;>rfl
 rcases TQ g1 g4 with ⟨h,_⟩ | ⟨h,hkd⟩ | ⟨h,hkd⟩ | ⟨h,hkd⟩ | ⟨h,hkd⟩
 ·omega
 ·obtain ⟨k,rfl⟩:=List.length_eq_one_iff.1 (hl.trans h)
  have pk:=hk k (by simp);have hf:tC n (vz u [d] n [mag u [d] k])<=BND:=by rw[hmag] at hm; exact hm
  have hpc:pc u (dS d) (.nd n [k])=mdZ (chZ n u (dS d)) (dS d) [pcs u (dS d) k] 4096 0 []:=by
   rw[VU]; unfold pcN zah;rw[decide_eq_false (show ¬nK n<=4 by omega),show (nK n==9||nK n==10)=false by rcases hkd with h | h | h | h | h | h<;>rw[h]<;>rfl]
   rfl
  have hoff:∀a,QT S k a->nK n=15->∃z,a=yO z 10000:=fun a qa h15=>by
   obtain ⟨_,z,hz⟩:=QU h15 htn hS qa;exact ⟨yO z (10000^(S-wT (.nd n [k])).toNat),by rw[qd]; exact hz⟩
  obtain ⟨st,ca⟩:=mk1 (u:=u) (M:=vz u [d] n [mag u [d] k]) (n:=n) (V:=fun x=>ev u [d] [x] (.nd n [k])) (W:=fun x v=>evN u [d] [x] n [v]) (Q:=QT S (.nd n [k])) hs hs2 pk.pg (fun a q ha' qa hq=>by
   obtain ⟨h1,h2⟩:=ch1 hu1 iu (show 1<=4 by omega) hn hkd ha' pk.m0 pk.mb hf (hoff a qa) hq;exact ⟨q1 hS0 hu hkd hS htn qa _ _,h1,h2⟩) (fun x _ _=>hev x)
  rw[hpc];refine hnot _ (by omega) (by omega) ?_ (fun _ _=>trivial);exact Xx F hF (KS:=[pcs u (dS d) k]) (by simp[pk.pg.kid]) (by simp) hs hs2 (fun q q0 q1=>⟨rch1 F (by omega) hu1 iu (show 1<=4 by omega) hn hkd (pk.pg.at q).1 pk.m0 pk.mb hf (hoff _ (pk.pg.at q).2) (Y3 hs hs2 q0 q1),(ca F (by omega) q q0 q1).2⟩) (fun q q0 q1=>(Zf st q0 q1).1)
 ·obtain ⟨k,k',rfl⟩:=len2 (hl.trans h)
  have pk:=hk k (by simp);have pk':=hk k' (by simp);have hf:tC n (vz u [d] n [mag u [d] k,mag u [d] k'])<=BND:=by rw[hmag] at hm; exact hm
  have hpc:pc u (dS d) (.nd n [k,k'])=mdZ (chZ n u (dS d)) (dS d) [pcs u (dS d) k,pcs u (dS d) k'] 4096 0 []:=by
   rw[VU]; unfold pcN zah;rw[decide_eq_false (show ¬nK n<=4 by omega),show (nK n==9||nK n==10)=false by rcases hkd with h | h | h<;>rw[h]<;>rfl]
   rfl
  obtain ⟨st,ca⟩:=mk2 (u:=u) (M:=vz u [d] n [mag u [d] k,mag u [d] k']) (n:=n) (V:=fun x=>ev u [d] [x] (.nd n [k,k'])) (W:=fun x v w=>evN u [d] [x] n [v,w]) (Q:=QT S (.nd n [k,k'])) hs hs2 pk.pg pk'.pg (fun a b q ha' hb' qa qb hq=>by
   obtain ⟨h1,h2⟩:=ch2 (u:=u) (show 1<=4 by omega) hn hkd ha' hb' pk.mb pk'.mb hf (fun h8=>UM h8 hty qa qb) hq;exact ⟨q2 hkd hS qa qb _ _,h1,h2⟩) (fun x _ _=>hev x)
  rw[hpc];refine hnot _ (by omega) (by omega) ?_ (fun _ _=>trivial);exact Xx F hF (KS:=[pcs u (dS d) k,pcs u (dS d) k']) (by simp[pk.pg.kid,pk'.pg.kid]) (by simp) hs hs2 (fun q q0 q1=>⟨rch2 F (by omega) hkd (pk.pg.at q).1 (pk'.pg.at q).1 pk.mb pk'.mb hf (fun h8=>UM h8 hty (pk.pg.at q).2 (pk'.pg.at q).2) (Y3 hs hs2 q0 q1),(ca F (by omega) q q0 q1).2⟩) (fun q q0 q1=>(Zf st q0 q1).1)
 ·obtain ⟨k,r,rfl⟩:∃k r,ks=k::r:=by
   cases ks with
   | nil=>simp at hl; omega
   | cons k r=>exact ⟨k,r,rfl⟩
  have pk:=hk k (by simp);have em:vz u [d] n ((k::r).map (mag u [d]))=mag u [d] k+(r.map (mag u [d])).sum:=by
   unfold vz; rcases hkd with h | h<;>rw[h]<;>simp[qo]
  have hf:mag u [d] k+(r.map (mag u [d])).sum<=BND:=by
   rw[hmag,em] at hm; unfold tC at hm; rcases hkd with h | h<;>rw[h] at hm<;>exact hm
  have hpc:pc u (dS d) (.nd n (k::r))=YR n u (dS d) (pcs u (dS d) k) (r.map (pcs u (dS d))):=by
   rw[VU]; unfold pcN zah;rw[decide_eq_false (show ¬nK n<=4 by omega),show (nK n==9||nK n==10)=true by rcases hkd with h | h<;>rw[h]<;>rfl]
   simp only[cond_true,cond_false,List.map_map,List.map_cons,List.drop_succ_cons,List.drop_zero];rfl
  have hup:∀k'∈k::r,∀l,QT S k' l->QT S (.nd n (k::r)) l:=fun k' hk' l hq=>hq.up hk' hS (fun h1=>by
   have ho:Y2 ((k::r).map ty)=1:=by rw[<-h1,Y6]; unfold tyN; rcases hkd with h | h<;>rw[h]<;>rfl
   exact qU ho (ty k') (List.mem_map_of_mem hk'))
  have hweak:∀k'∈k::r,PG (dS d) (mag u [d] k') (fun x=>ev u [d] [x] k') (QT S (.nd n (k::r))) (pcs u (dS d) k'):=fun k' hk'=>by
   obtain ⟨a1,a2,a3,a4,a5,a6,a7⟩:=(hk k' hk').pg;exact ⟨a1,a2,a3,a4,a5,fun p hp=>hup k' hk' _ (a6 p hp),a7⟩
  have er:∀{β:Type} (f:List PZ×Int×(Int->Int)->β),(r.map fun k'=>((pcs u (dS d) k',mag u [d] k',fun x=>ev u [d] [x] k'):List PZ×Int×(Int->Int))).map f=r.map fun k'=>f (pcs u (dS d) k',mag u [d] k',fun x=>ev u [d] [x] k'):=fun f=>by rw[List.map_map]; rfl
  have hll:((k::r).map fun k=>(pcs u (dS d) k).map wP).length<=16:=by simp at hl ⊢; omega
  have f1:=zaF F hF hs hs2 hkd (u:=u) (Q:=QT S (.nd n (k::r))) (fun r65 r75=>(some ((r65,r75,()),()):Option zr.sg.R)) (fun made=>some ((made,true,()),())) ((k::r).map fun k=>(pcs u (dS d) k).map wP) hll
   (r.map fun k'=>(pcs u (dS d) k',mag u [d] k',fun x=>ev u [d] [x] k')) 1 F (pcs u (dS d) k) (mag u [d] k) (fun x=>ev u [d] [x] k) (by rw[er]; rfl) (by simp; omega) (by simp at hll ⊢; omega) (hweak k (by simp)) pk.m0 (by rw[er]; exact hf) (by
    intro x hx;obtain ⟨k',hk',rfl⟩:=List.mem_map.1 hx;exact ⟨(hk k' (by simp[hk'])).m0,hweak k' (by simp[hk'])⟩)
  rw[er] at f1;rw[show ((1:Nat):Int)=1 from rfl] at f1;rw[hpc];have hj:zr.j3 F (fun r65 r75=>some ((r65,r75,()),())) (fun r66 r76=>(some ((r66,r76,()),()):Option zr.sg.R)) ((k::r).map fun k=>(pcs u (dS d) k).map wP) (n,mk u,dS d)=some (mdR (YR n u (dS d) (pcs u (dS d) k) (r.map (pcs u (dS d))))):=by
   unfold zr.j3;rw[YK (by simp)];simp only[cond_true];refine f1.trans ?_;unfold mdR;cases YR n u (dS d) (pcs u (dS d) k) (r.map (pcs u (dS d)))<;>rfl
  unfold zr.sh;rcases hkd with h | h
  ·rw[show ((n,mk u,dS d).1.1 != 9)=false by show (nK n != 9)=false; rw[h]; rfl]
   exact hj
  ·rw[show ((n,mk u,dS d).1.1 != 9)=true by show (nK n != 9)=true; rw[h]; rfl,show ((n,mk u,dS d).1.1 != 10)=false by show (nK n != 10)=false; rw[h]; rfl]
   exact hj
 ·obtain ⟨k,k',k2,rfl⟩:=len3 (hl.trans h)
  have pk:=hk k (by simp);have pk':=hk k' (by simp);have pk2:=hk k2 (by simp);have hpc:pc u (dS d) (.nd n [k,k',k2])=mdZ (chZ n u (dS d)) (dS d) [pcs u (dS d) k,pcs u (dS d) k',pcs u (dS d) k2] 4096 0 []:=by
   rw[VU]; unfold pcN zah;rw[decide_eq_false (show ¬nK n<=4 by omega),show (nK n==9||nK n==10)=false by rw[hkd]; rfl]
   rfl
  have hone:ty (.nd n [k,k',k2])=1->ty k'=1/\ty k2=1:=fun h1=>by
   have hx0:ty (.nd n [k,k',k2])=(bif qH (ty k) then Y2 [ty k',ty k2] else -1):=by rw[Y6]; unfold tyN; rw[hkd]; rfl
   rw[hx0] at h1;cases hc:qH (ty k) with
   | false=>rw[hc] at h1; exact absurd (show (-1:Int)=1 from h1) (by decide)
   | true =>
    rw[hc] at h1;have h1:Y2 [ty k',ty k2]=1:=h1;exact ⟨qU h1 _ (by simp),qU h1 _ (by simp)⟩
  obtain ⟨st,ca⟩:=mk3 (u:=u) (M:=vz u [d] n [mag u [d] k,mag u [d] k',mag u [d] k2]) (n:=n) (V:=fun x=>ev u [d] [x] (.nd n [k,k',k2])) (W:=fun x v w z=>evN u [d] [x] n [v,w,z]) (Q:=QT S (.nd n [k,k',k2])) hs hs2 pk.pg pk'.pg pk2.pg (fun a b c q ha' hb' hc' qa qb qc hq=>by
   obtain ⟨h1,h2,h3⟩:=ch3 (u:=u) (show 1<=4 by omega) hn hkd ha' hb' hc' pk.m0 pk'.m0 pk2.m0 pk.mb (D:=[d]) hq;refine ⟨?_,h1,h3⟩;rcases h2 with h2 | h2<;>rw[h2]
   ·exact qb.up (by simp) hS (fun h=>(hone h).1)
   ·exact qc.up (by simp) hS (fun h=>(hone h).2)) (fun x _ _=>hev x)
  rw[hpc];refine hnot _ (by omega) (by omega) ?_ (fun _ _=>trivial);exact Xx F hF (KS:=[pcs u (dS d) k,pcs u (dS d) k',pcs u (dS d) k2]) (by simp[pk.pg.kid,pk'.pg.kid,pk2.pg.kid]) (by simp) hs hs2 (fun q q0 q1=>⟨rch3 F (by omega) (show 1<=4 by omega) hn hkd (pk.pg.at q).1 pk.mb (Y3 hs hs2 q0 q1),(ca F (by omega) q q0 q1).2⟩) (fun q q0 q1=>(Zf st q0 q1).1)
theorem zeY (F:Nat) (hF:20<F) {u:Int} (hu1:1<=u) (hu2:u<=1000000000000000000000000) {n:zx.T} {pile:Nat} (hn:tm 1 n pile=0) (hk:nK n=1\/nK n=2\/nK n=3\/nK n=4):wm.sh F n (mk u)=some (([wP (0,tQ u n)],()),()):=by
 obtain ⟨g1,g2,g3,g4,g5,g6,g7,g8⟩:=uh hn;have hN2:=YP (show 1<=4 by omega) g3 g1;have hof:zU.sh F (nN n)=some ((mk (nN n),()),()):=qO F (by omega) (by omega);have h1:zU.sh F 1=some ((mk 1,()),()):=qO F (by omega) (by omega);unfold wm.sh;rcases hk with h | h | h | h
 ·have e:tQ u n=xD (nN n):=by unfold tQ; rw[h]; rfl
  rw[e,show n.1=1 from h];simp only[beq_self_eq_true,cond_true];rw[hof,zg];rfl
 ·have e:tQ u n=xD (nN n*u):=by unfold tQ; rw[h]; rfl
  have hb:=ZR g2 hN2 (show 0<=u by omega) hu2;have iu:inR u=true:=by rw[yR]; omega
  have iN:inR (nN n)=true:=by rw[yR]; omega
  have im:inR (nN n*u)=true:=by rw[yR]; omega
  rw[e,show n.1=2 from h];simp only[Int.reduceBEq,cond_false,beq_self_eq_true,cond_true];rw[hof,zg,Z0 F hF (wj iN) (wj iu),zg,xv,xv,(uB im).1];rfl
 ·have e:tQ u n=(0,1,0):=by unfold tQ; rw[h]; rfl
  rw[e,show n.1=3 from h];simp only[Int.reduceBEq,cond_false,beq_self_eq_true,cond_true];rw[h1,zg];rfl
 ·have e:tQ u n=(0,0,1):=by unfold tQ; rw[h]; rfl
  rw[e,show n.1=4 from h];simp only[Int.reduceBEq,cond_false,beq_self_eq_true,cond_true];rw[h1,zg];rfl
theorem RN (F:Nat) (hF:4200<F) {u S:Int} (hS0:0<=S) (hu:u=10000^S.toNat) (hu1:1<=u) (hu2:u<=1000000000000000000000000) {d:wV.T} (hs:1<=dS d) (hs2:dS d<=1000000000000) {R:Type}
  (k0:Int->Int->wY.T->Option R) (k1:yr.T->wY.T->List (List zo.T)->Option R) (p:yr.T) (hp:p.2.1=[d]) (hL:p.2.2.2.length<=1024):∀(xs:List zx.T) (st:List Tree) (i fu:Nat),p.2.2.2.drop i=xs->i+xs.length=p.2.2.2.length->xs.length<fu->okS 1 st xs->(yn st).length+xs.length<=2048->(∀t∈st,PS u S d t)->(∀t∈uC st xs,tyE t=0/\Wj u [d] t=0/\wT t<=S)->
  zF.l8 F k0 (fun _ _ p r2 _ pile=>k1 p r2 pile) fu (i:Int) p (0,0,[]) (mk u) (st.map fun t=>(pcs u (dS d) t).map wP) =
   match ud (pcE u (dS d)) (uC st xs) i with | some x=>k0 (x.1:Int) 120 (0,0,[]) | none=>k1 p (0,0,[]) ((Zs st xs).map fun t=>(pcs u (dS d) t).map wP)
 | xs,st,i,0,hd,hi,hf,h,h2,h3,h4=>by omega
 | [],st,i,fu+1,hd,hi,hf,h,h2,h3,h4=>by
  have hi:i=p.2.2.2.length:=by simpa using hi
  subst hi;simp only[zF.l8,zF.l8.body];rw[decide_eq_false (show ¬(p.2.2.2.length:Int)<(p.2.2.2.length:Int) by omega)];rfl
 | n::xs,st,i,fu+1,hd,hi,hf,h,h2,h3,h4=>by
  obtain ⟨g1,g2,g3,g4,g5,g6,g7,g8⟩:=uh h.1;have hst:=qL st;have hfs:=congrArg List.length (uR st n);simp only[List.length_cons,List.length_append,List.length_nil] at h2 hfs hi;simp only[uC,Zs,ud] at h4 ⊢;obtain ⟨t1,t2,t3⟩:=h4 (ve st n) (by simp);obtain ⟨s1,s2,s3⟩:=zcM hS0 hu hu1 hu2 hs hs2 h.1 h3 t1 t2 t3;have hlt:=ug hd;have hg:=uI (t:=zx) hd;rw[Int.toNat_natCast] at hg;have hl:(st.map fun t=>(pcs u (dS d) t).map wP).length=st.length:=by simp
  have ew:=Yt g7 (by omega);have hb1:=Za (show st.length-ar n<=st.length by omega);have hb2:=ZD (show st.length-ar n<=st.length by omega);have htk:(st.map fun t=>(pcs u (dS d) t).map wP).take st.length=st.map fun t=>(pcs u (dS d) t).map wP:=List.take_of_length_le (by omega)
  have hbl2:∀y,Nat.ble (st.length-ar n+([y]:List (List zo.T)).length) vc=true:=fun y=>uV (by simp; omega)
  have hstep:(uo st n).map (fun t=>(pcs u (dS d) t).map wP)=(st.map fun t=>(pcs u (dS d) t).map wP).take (st.length-ar n)++[(pcs u (dS d) (ve st n)).map wP]:=by
   unfold uo; simp[List.map_take]
  have hdm:(st.map fun t=>(pcs u (dS d) t).map wP).drop (st.length-ar n)=(st.drop (st.length-ar n)).map fun t=>(pcs u (dS d) t).map wP:=by rw[<-List.map_drop]
  have hd0:(get wV p.2.1 0).2=dS d:=by rw[hp]; rfl
  have hi0:idx 0 p.2.1.length=true:=by rw[hp]; rfl
  have hw:i64.wrap ((i:Int)+1)=((i+1:Nat):Int):=by rw[zY (by omega) (by omega)]; omega
  have rest:pcE u (dS d) (ve st n)=0->_:=fun hE0=>RN F hF hS0 hu hu1 hu2 hs hs2 k0 k1 p hp hL xs (uo st n) (i+1) fu (wX hd) (by omega) (by simp at hf; omega) h.2 (by omega) (by
   intro t ht;rcases List.mem_append.1 ht with ht | ht
   ·exact h3 t (List.mem_of_mem_take ht)
   ·rw[List.mem_singleton.1 ht]; exact s1 hE0) (fun t ht=>h4 t (by simp[ht]))
  simp only[zF.l8,zF.l8.body];rw[decide_eq_true (show (i:Int)<(p.2.2.2.length:Int) by omega),xX hlt,Int.toNat_natCast,hg,Xb F g1 g4,zg,hi0,hd0,hw];simp only[cond_true];by_cases ha:ar n=0
  ·obtain ⟨k4,l1,_⟩:=s2 ha
   have hk4:nK n=1\/nK n=2\/nK n=3\/nK n=4:=by
    have:=ZV.1 g1;omega
   have hE0:pcE u (dS d) (ve st n)=0:=by unfold pcE; rw[l1]; rfl
   have IH:=rest hE0;rw[hE0];rw[hstep,ha,Nat.sub_zero,htk] at IH;have hpl:pcs u (dS d) (ve st n)=[(0,tQ u n)]:=by unfold pcs; rw[l1]; rfl
   rw[hpl] at IH;rw[show ((ar n:Int)==0)=true by rw[ha]; rfl];simp only[cond_true,bne_self_eq_false,cond_false];rw[zeY F (by omega) hu1 hu2 h.1 hk4,zg];have hbl1:Nat.ble ((st.map fun t=>(pcs u (dS d) t).map wP).length+([[wP (0,tQ u n)]]:List (List zo.T)).length) vc=true:=uV (by simp; omega);rw[hbl1];simp only[cond_true];exact IH
  ·have hfar:tC n (mag u [d] (ve st n))<=BND:=by
    unfold Wj at t2;rw[show (ve st n).root=n from rfl] at t2;cases hx:decide (tC n (mag u [d] (ve st n))>BND) with
    | true=>rw[hx] at t2; exact absurd (show (90:Int)=0 from t2) (by decide)
    | false=>have:=of_decide_eq_false hx; omega
   have m1:=zeU F hF hS0 hu hu1 hu2 hs hs2 h.1 (ks:=st.drop (st.length-ar n)) (by simp; omega) (by omega) t1 hfar t3 (fun k hk=>(h3 k (List.mem_of_mem_drop hk)).1);rw[show ((ar n:Int)==0)=false by simp; omega];simp only[cond_false];simp only[hl,ew,hb1,hb2,htk,cond_true,hdm];rw[m1,zg,show (Tree.nd n (st.drop (st.length-ar n)))=ve st n from rfl];cases hpc:pc u (dS d) (ve st n) with
   | none =>
    have hE0:pcE u (dS d) (ve st n)=120:=by unfold pcE; rw[hpc]; rfl
    rw[hE0];rfl
   | some ps =>
    have hE0:pcE u (dS d) (ve st n)=0:=by unfold pcE; rw[hpc]; rfl
    have IH:=rest hE0;have hpl:pcs u (dS d) (ve st n)=ps:=by unfold pcs; rw[hpc]; rfl
    rw[hstep,hpl] at IH;rw[hE0];simp only[mdR,Bool.not_true,cond_false,hbl2,cond_true,bne_self_eq_false];exact IH
theorem zbK (F:Nat) (hF:4200<F) {p:yr.T} {t:Tree} (h:Good p t) (hU:xN.sh F p=some (((uY p.2.1 t).1,(uY p.2.1 t).2.1,(uY p.2.1 t).2.2,()),())) :
  zF.sh F p=some (((tG p.2.1 t).1,(tG p.2.1 t).2.1,(tG p.2.1 t).2.2,()),()):=by
 unfold zF.sh tG;rw[hU,zg];cases hu:((uY p.2.1 t).2.2 != 0) with
 | true=>simp only[cond_true,hu]
 | false =>
  have hu':(uY p.2.1 t).2.2=0:=by simpa using hu
  obtain ⟨u1,u2,u3,u4,u5⟩:=QD h hu';have hh:=qW h.head;simp only[cond_false,hu];by_cases hD:(p.2.1.length:Int)=1
  ·have hD':p.2.1.length=1:=by omega
   obtain ⟨d,hd⟩:=List.length_eq_one_iff.1 hD';have hds:=Wq _ _ hh.2.2.1 d (by rw[hd]; simp);have hub:=VF u1;have hdp:=(qZ t).1;have hl:=h.len;have hok:=h.ok;rw[hD'] at hok;rw[decide_eq_false (show ¬(p.2.1.length:Int)>1 by omega),show ((p.2.1.length:Int) != 1)=false by rw[hD]; rfl,u5];simp only[cond_false];have hg:=RA h hu';rw[<-h.subs,hd] at hg;have r1:=RN F hF hdp (show tZ t=10000^(wT t).toNat from rfl) hub.1 hub.2 hds.1 hds.2 (fun r36 r46 r26=>(some ((r26,r36,r46,()),()):Option zF.sg.R)) (fun p7 r27 pile7=>zF.j19 F (fun r38 r48 r28=>some ((r28,r38,r48,()),())) pile7 p7 r27) p hd hl p.2.2.2 [] 0 F rfl (Nat.zero_add _) (by omega) hok (by simp[yn]; omega) (by simp) hg;have e0:p.2.1.getD 0 (ByteArray.empty,0)=d:=by rw[hd]; rfl
   rw[e0];unfold zaq;rw[h.subs] at r1;rw[h.eq] at r1;refine r1.trans ?_;cases hf:ud (pcE (tZ t) (dS d)) t.subs 0 with
   | some x=>rfl
   | none =>
    simp only;unfold zF.j19;rw[UB F (by omega) h,zg,hd];rfl
  ·rw[decide_eq_true (show (p.2.1.length:Int)>1 by omega),show ((p.2.1.length:Int) != 1)=true by simpa using hD]
   rfl
theorem zdY {p:yr.T} {t:Tree} (h:Good p t):zF.sh FU p=some (((tG p.2.1 t).1,(tG p.2.1 t).2.1,(tG p.2.1 t).2.2,()),()):=zbK FU (by decide) h (zf5 h)
theorem zbL {p:yr.T} (h:(um p).2≠0):zF.sh FU p=some (((0,0,[]),(um p).1,(um p).2,()),()):=by
 unfold zF.sh;rw[zdW h,zg];rw[show ((um p).2 != 0)=true by simpa using h];rfl
theorem zdC {p:yr.T} {t:Tree} (h:Good p t):(tG p.2.1 t).1.2.2.length<=256:=by
 by_cases he:(tG p.2.1 t).2.2=0
 ·obtain ⟨d,hd,hs,hs2,hps⟩:=zgF h he
  have hu:(uY p.2.1 t).2.2=0:=by
   cases hu:((uY p.2.1 t).2.2 != 0) with
   | false=>simpa using hu
   | true=>unfold tG at he; rw[hu] at he; have:(uY p.2.1 t).2.2=0:=he; exact this
  have e2:tG p.2.1 t=zaq d t:=by
   unfold tG; rw[hu,hd]; rfl
  rw[e2] at he ⊢;unfold zaq at he ⊢;cases hf:ud (pcE (tZ t) (dS d)) t.subs 0 with
  | none=>simpa using hps.1.pg.len
  | some x=>simp
 ·have:(tG p.2.1 t).1=(0,0,[]):=by
   unfold tG at he ⊢;cases hu:((uY p.2.1 t).2.2 != 0) with
   | true=>rfl
   | false =>
    rw[hu] at he;cases hD:((p.2.1.length:Int) != 1) with
    | true=>rfl
    | false =>
     rw[hD] at he;show (zaq (p.2.1.getD 0 (ByteArray.empty,0)) t).1=_;have he:(zaq (p.2.1.getD 0 (ByteArray.empty,0)) t).2.2≠0:=he;unfold zaq at he ⊢;cases hf:ud (pcE (tZ t) (dS (p.2.1.getD 0 (ByteArray.empty,0)))) t.subs 0 with
     | none=>rw[hf] at he; exact absurd rfl he
     | some x=>rfl
  rw[this]; simp
theorem T7 (F:Nat) (hF:300<F) (hA:xW.sh F=some ((true,()),())) {p:yr.T} {x:wY.T×Int×Int} (hl:x.1.2.2.length<=256) (h1:zQ.sh F p=some ((x.1,x.2.1,x.2.2,()),())) (h2:zF.sh F p=some ((x.1,x.2.1,x.2.2,()),())):yy.sh F p=some ((true,()),()):=by
 unfold yy.sh;rw[hA,zg];simp only[Bool.not_true,cond_false];rw[h1,zg,h2,zg];simp only[beq_self_eq_true,cond_true];rw[same12 F (by omega) _ hl,zg]
theorem zbv (p:yr.T):yy.sh FU p=some ((true,()),()):=by
 by_cases h:(um p).2=0
 ·obtain ⟨t,ht⟩:=zgl h
  exact T7 FU (by decide) zbl (x:=tG p.2.1 t) (zdC ht) (zgG ht) (zdY ht)
 ·exact T7 FU (by decide) zbl (x:=((0,0,[]),(um p).1,(um p).2)) (by simp) (zey h) (zbL h)
end Go.VS
