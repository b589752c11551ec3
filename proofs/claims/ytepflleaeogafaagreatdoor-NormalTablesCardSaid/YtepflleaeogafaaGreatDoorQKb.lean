/- Plain laws, joined from smaller texts. -/
import Derived.Test.YtepflleaeogafaaGreatDoorQKa
set_option linter.unusedVariables false
set_option linter.unusedSimpArgs false
set_option linter.unusedSectionVars false
set_option maxRecDepth 100000
namespace Go.VS
open Go IntKind
theorem zbX:∀(a b:List Int),lv (a++b)=lv a+65536^a.length*lv b
 | [],b=>by simp[lv]
 | x::r,b=>by
  simp only[List.cons_append,lv,zbX r b,List.length_cons,Int.pow_succ];rw[Int.mul_comm (65536^r.length) 65536,Int.mul_assoc,Int.mul_add];omega
theorem zbd (f:Nat) (a b:Int):ym.sh (f+20) a b =
  some (([(b.fdiv 1).tmod 65536,(b.fdiv 65536).tmod 65536,(b.fdiv 4294967296).tmod 65536,(b.fdiv 281474976710656).tmod 65536,(a.fdiv 1).tmod 65536,(a.fdiv 65536).tmod 65536,(a.fdiv 4294967296).tmod 65536,(a.fdiv 281474976710656).tmod 65536],()),()):=by kernel_rfl
theorem S4 (F:Nat) (hF:20<F) {hi lo:Int} (h1:0<=hi) (h2:hi<18446744073709551616) (h3:0<=lo) (h4:lo<18446744073709551616):∃l,ym.sh F hi lo=some ((l,()),())/\l.length=8/\DG l/\lv l=hi*18446744073709551616+lo:=by
 obtain ⟨fu,rfl⟩:∃f,F=f+20:=⟨F-20,by omega⟩;have hu:=four h3 h4;have hw:=four h1 h2;rw[zbd,hu.1,hu.2.1,hu.2.2.1,hu.2.2.2,hw.1,hw.2.1,hw.2.2.1,hw.2.2.2];exact ⟨_,rfl,rfl,DG.mk (by omega) (DG.mk (by omega) (DG.mk (by omega) (DG.mk (by omega) (DG.mk (by omega) (DG.mk (by omega) (DG.mk (by omega) (DG.mk (by omega) DG.nil))))))),by simp only[lv]; omega⟩
def Z6 (x:Int):Int->List Int->List Int->List Int×Int
 | c,p::ps,y::ys=>(((c+p+x*y)%65536)::(Z6 x ((c+p+x*y)/65536) ps ys).1,(Z6 x ((c+p+x*y)/65536) ps ys).2)
 | c,_,_=>([],c)
theorem zdn {x y:Int} (hx:0<=x/\x<65536) (hy:0<=y/\y<65536):0<=x*y/\x*y<=4294836225:=by
 have:=ZR hx.1 (show x<=65535 by omega) hy.1 (show y<=65535 by omega);omega
theorem zcZ {x:Int} (hx:0<=x/\x<65536):∀(ps ys:List Int) (c:Int),ps.length=ys.length->DG ps->DG ys->0<=c->c<65536->
  (Z6 x c ps ys).1.length=ps.length/\DG (Z6 x c ps ys).1/\0<=(Z6 x c ps ys).2/\(Z6 x c ps ys).2<65536/\lv (Z6 x c ps ys).1+65536^ps.length*(Z6 x c ps ys).2=c+lv ps+x*lv ys
 | [],[],c,h,_,_,h1,h2=>⟨rfl,DG.nil,h1,h2,by simp[Z6,lv]⟩
 | [],_::_,_,h,_,_,_,_=>by simp at h
 | _::_,[],_,h,_,_,_,_=>by simp at h
 | p::ps,y::ys,c,h,hp,hy,h1,h2=>by
  have ⟨hp0,hp⟩:=hp.cons;have ⟨hy0,hy⟩:=hy.cons;have hm:=zdn hx hy0;obtain ⟨i1,i2,i3,i4,i5⟩:=zcZ hx ps ys ((c+p+x*y)/65536) (by simpa using h) hp hy (by omega) (by omega);simp only[Z6,List.length_cons,lv,Int.pow_succ];refine ⟨by omega,DG.mk (by omega) i2,i3,i4,?_⟩;have e1:(65536:Int)^ps.length*65536*(Z6 x ((c+p+x*y)/65536) ps ys).2=65536*(65536^ps.length*(Z6 x ((c+p+x*y)/65536) ps ys).2):=by
   rw[Int.mul_comm (65536^ps.length) 65536,Int.mul_assoc]
  have e2:x*(y+65536*lv ys)=x*y+65536*(x*lv ys):=by rw[Int.mul_add,<-Int.mul_assoc,Int.mul_comm x 65536,Int.mul_assoc]
  rw[e1,e2];generalize (65536:Int)^ps.length*(Z6 x ((c+p+x*y)/65536) ps ys).2=A at*;generalize x*lv ys=B at*;generalize x*y=C at*;omega
theorem mul_l9 (F:Nat) {R:Type} (k:Int->Int->zh.T->zh.T->zh.T->List Int->List Int->List Int->Option R) (a b r4:zh.T) (X Y:List Int) (i:Nat) (x:Int) (hX:X.length=8) (hi:i<8) (hxi:X.getD i 0=x) (hx:0<=x/\x<65536) (hY:Y.length=8) :
  ∀(ys ps pre rest:List Int) (c:Int) (j fu:Nat),pre.length=i+j->j+ys.length=8->ps.length=ys.length->(pre++ps++rest).length=17->Y.drop j=ys->DG ps->DG ys->0<=c->c<65536->ys.length<fu->
  zi.l9 F (fun i c _ _ a b r x y p=>k i c a b r x y p) fu (i:Int) c (j:Int) a b r4 X Y (pre++ps++rest)=k (i:Int) (Z6 x c ps ys).2 a b r4 X Y (pre++(Z6 x c ps ys).1++rest):=by
 intro ys;induction ys with
 | nil =>
  intro ps pre rest c j fu hp hj hps hl hd _ _ _ _ hf;obtain ⟨fu,rfl⟩:∃j,fu=j+1:=⟨fu-1,by simp at hf; omega⟩;simp only[List.length_nil,Nat.add_zero] at hj hps;obtain rfl:=List.eq_nil_of_length_eq_zero hps;simp only[zi.l9,zi.l9.body,decide_eq_false (show ¬((j:Int)<8) by omega),cond_false,Z6]
 | cons y ys ih =>
  intro ps pre rest c j fu hp hj hps hl hd hdp hdy c1 c2 hf;obtain ⟨fu,rfl⟩:∃j,fu=j+1:=⟨fu-1,by simp at hf; omega⟩;simp only[List.length_cons] at hj hps hf;cases ps with
  | nil=>simp at hps
  | cons p ps =>
   simp only[List.length_cons] at hps;have ⟨hp0,hdp⟩:=hdp.cons;have ⟨hy0,hdy⟩:=hdy.cons;have hm:=zdn hx hy0;have hL:pre++p::ps++rest=pre++p::(ps++rest):=by simp
   rw[hL] at hl ⊢;have ew:i64.wrap ((i:Int)+(j:Int))=((i+j:Nat):Int):=by rw[zY (by omega) (by omega)]; omega
   have e1:=XI (show i+j<17 by simp at hl; omega) hl;have e2:=XI (show i<8 by omega) hX;have e3:=XI (show j<8 by omega) hY;have e4:(pre++p::(ps++rest)).getD (Int.toNat ((i+j:Nat):Int)) 0=p:=SM (by rw[Int.toNat_natCast]; exact hp);have e5:X.getD (Int.toNat (i:Int)) 0=x:=by rw[Int.toNat_natCast]; exact hxi
   have e6:Y.getD (Int.toNat (j:Int)) 0=y:=by rw[Int.toNat_natCast]; exact UT hd
   have e7:∀z,(pre++p::(ps++rest)).set (Int.toNat ((i+j:Nat):Int)) z=(pre++[z])++(ps++rest):=fun z=>TB (by rw[Int.toNat_natCast]; exact hp)
   simp only[zi.l9,zi.l9.body,decide_eq_true (show ((j:Int)<8) by omega),cond_true,ew,e1,e2,e3,e4,e5,e6,e7];rw[x8 (n:=c+p) (by omega) (by omega),x8 (n:=x*y) (by omega) (by omega),x8 (n:=c+p+x*y) (by omega) (by omega),Int.tdiv_eq_ediv_of_nonneg (by omega),Int.tmod_eq_emod_of_nonneg (by omega),x8 (n:=(c+p+x*y)/65536) (by omega) (by omega),zY (by omega) (by omega),<-vj,<-List.append_assoc];rw[ih ps (pre++[(c+p+x*y)%65536]) rest ((c+p+x*y)/65536) (j+1) fu (by simp; omega) (by omega) (by omega) (by simp at hl ⊢; omega) (wX hd) hdp hdy (by omega) (by omega) (by omega)];simp[Z6]
theorem mul_l5 (F:Nat) (hF:20<F) {R:Type} (k:zh.T->zh.T->zh.T->List Int->Option R) (a b r4:zh.T) (X Y:List Int) (hX:X.length=8) (hY:Y.length=8) (dY:DG Y) :
  ∀(xs q pre:List Int) (i fu:Nat),pre.length=i->i+xs.length=8->q.length=8->X.drop i=xs->DG xs->DG q->DG pre->xs.length<fu->
  ∃s,zi.l5 F (fun _ _ a b r _ _ p=>k a b r p) fu (i:Int) a b r4 X Y (pre++q++List.replicate (xs.length+1) 0)=k a b r4 (pre++s)/\DG s/\(pre++s).length=17/\lv s=lv q+lv xs*lv Y:=by
 intro xs;induction xs with
 | nil =>
  intro q pre i fu hp hi hq hd _ hdq hdp hf;obtain ⟨fu,rfl⟩:∃j,fu=j+1:=⟨fu-1,by simp at hf; omega⟩;simp only[List.length_nil,Nat.add_zero] at hi;refine ⟨q++[0],?_,?_,by simp; omega,?_⟩
  ·simp only[zi.l5,zi.l5.body,decide_eq_false (show ¬((i:Int)<8) by omega),cond_false]
   simp
  ·intro d hd'
   rcases List.mem_append.1 hd' with h | h
   ·exact hdq d h
   ·rw[List.mem_singleton.1 h]; decide
  ·rw[zbX]; simp[lv]
 | cons x xs ih =>
  intro q pre i fu hp hi hq hd hdx hdq hdp hf;obtain ⟨fu,rfl⟩:∃j,fu=j+1:=⟨fu-1,by simp at hf; omega⟩;simp only[List.length_cons] at hi hf;have ⟨hx0,hdx⟩:=hdx.cons;have hl:(pre++q++List.replicate (xs.length+1+1) 0).length=17:=by simp; omega
  have h9:=mul_l9 F (fun i5 c5 a5 b5 r45 x5 y5 p5=>bif (idx (i64.wrap (i5+8)) 17&&Nat.beq 17 p5.length) then zi.l5 F (fun _ _ a b r _ _ p=>k a b r p) fu (i64.wrap (i5+1)) a5 b5 r45 x5 y5 (p5.set ((i64.wrap (i5+8)).toNat) c5)
   else none) a b r4 X Y i x hX (by omega) (UT hd) hx0 hY Y q pre (List.replicate (xs.length+1+1) 0) 0 0 F (by omega) (by omega) (by omega) hl (by simp) hdq dY (by omega) (by omega) (by omega)
  obtain ⟨m1,m2,m3,m4,m5⟩:=zcZ hx0 q Y 0 (by omega) hdq dY (by omega) (by omega);rw[hq] at m1 m5;have ew:i64.wrap ((i:Int)+8)=((i+8:Nat):Int):=by rw[zY (by omega) (by omega)]; omega
  have hl2:(pre++(Z6 x 0 q Y).1++List.replicate (xs.length+1+1) 0).length=17:=by simp; omega
  have e1:=XI (show i+8<17 by omega) hl2;have e2:(pre++(Z6 x 0 q Y).1++List.replicate (xs.length+1+1) 0).set (Int.toNat ((i+8:Nat):Int)) (Z6 x 0 q Y).2=(pre++(Z6 x 0 q Y).1++[(Z6 x 0 q Y).2])++List.replicate (xs.length+1) 0:=by
   rw[List.replicate_succ];exact TB (by rw[Int.toNat_natCast]; simp; omega)
  simp only[zi.l5,zi.l5.body,decide_eq_true (show ((i:Int)<8) by omega),cond_true,List.length_cons];rw[show ((0:Nat):Int)=0 from rfl] at h9;rw[h9];simp only[ew,e1,e2,cond_true];rw[zY (by omega) (by omega),<-vj];cases hm:(Z6 x 0 q Y).1 with
  | nil=>rw[hm] at m1; simp at m1
  | cons q0 q' =>
   rw[hm] at m1 m2 m5;have ⟨hq0,dq'⟩:=m2.cons;simp only[List.length_cons] at m1;obtain ⟨s,s1,s2,s3,s4⟩:=ih (q'++[(Z6 x 0 q Y).2]) (pre++[q0]) (i+1) fu (by simp; omega) (by omega) (by simp; omega) (wX hd) hdx (by
    intro d hd';rcases List.mem_append.1 hd' with h | h
    ·exact dq' d h
    ·rw[List.mem_singleton.1 h]; exact ⟨m3,m4⟩) (by
    intro d hd';rcases List.mem_append.1 hd' with h | h
    ·exact hdp d h
    ·rw[List.mem_singleton.1 h]; exact hq0) (by omega)
   refine ⟨q0::s,?_,DG.mk hq0 s2,by simp at s3 ⊢; omega,?_⟩
   ·have:pre++q0::q'++[(Z6 x 0 q Y).2]++List.replicate (xs.length+1) 0=pre++[q0]++(q'++[(Z6 x 0 q Y).2])++List.replicate (xs.length+1) 0:=by simp
    rw[this,s1];simp
   ·rw[zbX] at s4
    simp only[lv] at m5 s4 ⊢;rw[s4,Int.add_mul,Int.mul_assoc];have hq':q'.length=7:=by omega
    rw[hq'] at*;have p7:(65536:Int)^7=5192296858534827628530496329220096:=by decide
    have p8:(65536:Int)^8=340282366920938463463374607431768211456:=by decide
    rw[p7];rw[p8] at m5;generalize lv xs*lv Y=A at*;generalize x*lv Y=B at*;omega
theorem len17 {l:List Int} (h:l.length=17):∃a b c d e f g i j k m n o p q r s,l=[a,b,c,d,e,f,g,i,j,k,m,n,o,p,q,r,s]:=by
 match l,h with
 | [a,b,c,d,e,f,g,i,j,k,m,n,o,p,q,r,s],_=>exact ⟨a,b,c,d,e,f,g,i,j,k,m,n,o,p,q,r,s,rfl⟩
theorem l16_raw (f:Nat) {R:Type} (k0:Int->zh.T->Option R) (k1:zh.T->zh.T->zh.T->List Int->Option R) (A B C:zh.T) (a b c d e f' g i j k m n o p q r s:Int):zi.l16 (f+20) k0 (fun _ _ a b r p=>k1 a b r p) (f+20) 8 A B C [a,b,c,d,e,f',g,i,j,k,m,n,o,p,q,r,s] =
  bif (j != 0) then k0 10 (0,0) else bif (k != 0) then k0 10 (0,0) else bif (m != 0) then k0 10 (0,0) else bif (n != 0) then k0 10 (0,0) else bif (o != 0) then k0 10 (0,0) else bif (p != 0) then k0 10 (0,0) else bif (q != 0) then k0 10 (0,0) else bif (r != 0) then k0 10 (0,0) else bif (s != 0) then k0 10 (0,0) else
   k1 A B C [a,b,c,d,e,f',g,i,j,k,m,n,o,p,q,r,s]:=by kernel_rfl
theorem l23_raw (f:Nat) {R:Type} (k1:Int->Int->zh.T->zh.T->zh.T->Option R) (A B C:zh.T) (a b c d e f' g i j k m n o p q r s:Int):zi.l23 (f+20) (fun hi lo _ _ a b r _=>k1 hi lo a b r) (f+20) 0 0 3 A B C [a,b,c,d,e,f',g,i,j,k,m,n,o,p,q,r,s] =
  k1 (u64.wrap (u64.wrap (u64.wrap (u64.wrap (u64.wrap (u64.wrap (u64.wrap (u64.wrap (0*65536)+i)*65536)+g)*65536)+f')*65536)+e)) (u64.wrap (u64.wrap (u64.wrap (u64.wrap (u64.wrap (u64.wrap (u64.wrap (u64.wrap (0*65536)+d)*65536)+c)*65536)+b)*65536)+a)) A B C:=by kernel_rfl
theorem Z0 (F:Nat) (hF:20<F) {a b:Int×Int} (ha:wfW a) (hb:wfW b):zi.sh F a b=some ((ue (val a*val b),vN (val a*val b),()),()):=by
 have pa:=Yf ha;have pb:=Yf hb;obtain ⟨X,eX,lX,dX,vX⟩:=S4 F hF (hi:=((val a).natAbs:Int)/18446744073709551616) (lo:=((val a).natAbs:Int)%18446744073709551616) (by omega) (by omega) (by omega) (by omega);obtain ⟨Y,eY,lY,dY,vY⟩:=S4 F hF (hi:=((val b).natAbs:Int)/18446744073709551616) (lo:=((val b).natAbs:Int)%18446744073709551616) (by omega) (by omega) (by omega) (by omega);rw[show ((val a).natAbs:Int)/18446744073709551616*18446744073709551616+((val a).natAbs:Int)%18446744073709551616=((val a).natAbs:Int) by omega] at vX;rw[show ((val b).natAbs:Int)/18446744073709551616*18446744073709551616+((val b).natAbs:Int)%18446744073709551616=((val b).natAbs:Int) by omega] at vY;unfold zi.sh;rw[WL F hF ha];simp only[zg];rw[eX];simp only[zg];rw[WL F hF hb];simp only[zg];rw[eY];simp only[zg];rw[lX,lY];simp only[List.length_replicate,Nat.beq_refl,Bool.and_true,cond_true];obtain ⟨s,s1,s2,s3,s4⟩:=mul_l5 F hF (fun a6 b6 r46 p6=>zi.l16 F (fun r57 r47=>(some ((r47,r57,()),()):Option zi.sg.R)) (fun i8 t628 a8 b8 r48 p8=>zi.l23 F (fun hi9 lo9 i9 t719 a9 b9 r49 p9=>oB (yd.sh F (!(decide (a9.1<0)==decide (b9.1<0))) hi9 lo9) fun c_10 =>
   some ((c_10.1.1,c_10.1.2.1,()),())) F 0 0 3 a8 b8 r48 p8) F 8 a6 b6 r46 p6) a b (0,0) X Y lX lY dY X (List.replicate 8 0) [] 0 F rfl (by omega) rfl (by simp) dX (by intro d hd; simp[List.replicate] at hd; omega) DG.nil (by omega)
 rw[lX] at s1;rw[show ([]:List Int)++List.replicate 8 0++List.replicate (8+1) 0=List.replicate 17 0 from rfl,show ((0:Nat):Int)=0 from rfl,List.nil_append] at s1;rw[s1];rw[List.nil_append] at s3;have hz:lv (List.replicate 8 0)=0:=by decide
 rw[hz,vX,vY,Int.zero_add] at s4;obtain ⟨fu,rfl⟩:∃f,F=f+20:=⟨F-20,by omega⟩;obtain ⟨A,B,C,D,E,G,H,I,J,K,M,N,O,P,Q,R',S,rfl⟩:=len17 s3;have b1:=s2 A (by simp);have b2:=s2 B (by simp);have b3:=s2 C (by simp);have b4:=s2 D (by simp);have b5:=s2 E (by simp);have b6:=s2 G (by simp);have b7:=s2 H (by simp);have b8:=s2 I (by simp);have b9:=s2 J (by simp);have b10:=s2 K (by simp);have b11:=s2 M (by simp);have b12:=s2 N (by simp);have b13:=s2 O (by simp);have b14:=s2 P (by simp);have b15:=s2 Q (by simp);have b16:=s2 R' (by simp);have b17:=s2 S (by simp);have hsign:=UC (x:=val a) (y:=val b) rfl rfl;have hb1:=Wm b1 b2 b3 b4;have hb2:=Wm b5 b6 b7 b8;obtain ⟨W,hW⟩:∃W,W=J+65536*(K+65536*(M+65536*(N+65536*(O+65536*(P+65536*(Q+65536*(R'+65536*S))))))):=⟨_,rfl⟩;have hs2:hor D C B A+18446744073709551616*hor I H G E+340282366920938463463374607431768211456*W=((val a).natAbs:Int)*((val b).natAbs:Int):=by
  rw[<-s4,hW];simp only[lv,hor];omega
 have l16:=l16_raw fu (fun r57 r47=>(some ((r47,r57,()),()):Option zi.sg.R)) (fun a8 b8 r48 p8=>zi.l23 (fu+20) (fun hi9 lo9 i9 t719 a9 b9 r49 p9=>oB (yd.sh (fu+20) (!(decide (a9.1<0)==decide (b9.1<0))) hi9 lo9) fun c_10 =>
   some ((c_10.1.1,c_10.1.2.1,()),())) (fu+20) 0 0 3 a8 b8 r48 p8) a b (0,0) A B C D E G H I J K M N O P Q R' S
 refine Eq.trans l16 ?_;have l23:=l23_raw fu (fun hi9 lo9 a9 b9 r49=>oB (yd.sh (fu+20) (!(decide (a9.1<0)==decide (b9.1<0))) hi9 lo9) fun c_10 =>
   (some ((c_10.1.1,c_10.1.2.1,()),()):Option zi.sg.R)) a b (0,0) A B C D E G H I J K M N O P Q R' S
 rw[US b1 b2 b3 b4,US b5 b6 b7 b8] at l23;rw[l23,qm ha,qm hb];by_cases ht:W=0
 ·have hz:J=0/\K=0/\M=0/\N=0/\O=0/\P=0/\Q=0/\R'=0/\S=0:=by omega
  obtain ⟨rfl,rfl,rfl,rfl,rfl,rfl,rfl,rfl,rfl⟩:=hz;simp only[bne_self_eq_false,cond_false];rw[ht] at hs2;rw[Sl (fu+20) hF (v:=val a*val b) hb2.1 hb2.2 hb1.1 hb1.2 (by
   rw[hsign];cases (!(decide (val a<0)==decide (val b<0)))<;>simp only[cond_true,cond_false]<;>omega)]
  rfl
 ·have hv:inR (val a*val b)=false:=by
   have hbig:340282366920938463463374607431768211456<=((val a).natAbs:Int)*((val b).natAbs:Int):=by omega
   rw[ZK,hsign];cases (!(decide (val a<0)==decide (val b<0)))<;>simp only[cond_true,cond_false]<;>omega
  have hres:(some ((ue (val a*val b),vN (val a*val b),()),()):Option zi.sg.R)=some (((0,0),10,()),()):=by
   unfold ue vN; rw[hv]; rfl
  rw[hres];have hnz:¬(J=0/\K=0/\M=0/\N=0/\O=0/\P=0/\Q=0/\R'=0/\S=0):=by
   rintro ⟨rfl,rfl,rfl,rfl,rfl,rfl,rfl,rfl,rfl⟩
   exact ht (by omega)
  cases h1:(J != 0) with
  | true=>rfl
  | false =>
  cases h2:(K != 0) with
  | true=>rfl
  | false =>
  cases h3:(M != 0) with
  | true=>rfl
  | false =>
  cases h4:(N != 0) with
  | true=>rfl
  | false =>
  cases h5:(O != 0) with
  | true=>rfl
  | false =>
  cases h6:(P != 0) with
  | true=>rfl
  | false =>
  cases h7:(Q != 0) with
  | true=>rfl
  | false =>
  cases h8:(R' != 0) with
  | true=>rfl
  | false =>
  cases h9:(S != 0) with
  | true=>rfl
  | false =>
   exact absurd ⟨by simpa using h1,by simpa using h2,by simpa using h3,by simpa using h4,by simpa using h5,by simpa using h6,by simpa using h7,by simpa using h8,by simpa using h9⟩ hnz
theorem zdN (F:Nat) (hF:20<F) {R:Type} (k:zh.T->Option R) (K:Nat) (hK:K<=9) (r2:zh.T):∀(m i fu:Nat),i+m=K->m<fu->
  yb.l7 F (fun _ _ _ _ p=>k p) fu (K:Int) (i:Int) r2 (mk (10000^i))=k (mk (10000^K)):=by
 intro m;induction m with
 | zero =>
  intro i fu hi hf;obtain ⟨fu,rfl⟩:∃j,fu=j+1:=⟨fu-1,by omega⟩;simp only[yb.l7,yb.l7.body,decide_eq_false (show ¬((i:Int)<(K:Int)) by omega),cond_false];rw[show i=K by omega]
 | succ m ih =>
  intro i fu hi hf;obtain ⟨fu,rfl⟩:∃j,fu=j+1:=⟨fu-1,by omega⟩;have hb:(0:Int)<=10000^i/\(10000:Int)^i*10000<=1000000000000000000000000000000000000:=by
   have:i=0\/i=1\/i=2\/i=3\/i=4\/i=5\/i=6\/i=7\/i=8:=by omega
   rcases this with rfl | rfl | rfl | rfl | rfl | rfl | rfl | rfl | rfl<;>decide
  simp only[yb.l7,yb.l7.body,decide_eq_true (show ((i:Int)<(K:Int)) by omega),cond_true];rw[qO F (v:=10000) (by omega) (by omega)];simp only[zg];rw[Z0 F hF (wj (by rw[yR]; omega)) (wj (by rw[yR]; omega))];simp only[zg,xv];rw[(uB (v:=10000^i*10000) (by rw[yR]; omega)).1,zY (by omega) (by omega),<-vj,<-Int.pow_succ];exact ih (i+1) fu (by omega) (by omega)
theorem RO (F:Nat) (hF:20<F) {k:Int} (h1:0<=k) (h2:k<=9):yb.sh F k=some ((mk (10000^k.toNat),0,()),()):=by
 unfold yb.sh;rw[decide_eq_false (show ¬k<0 by omega),decide_eq_false (show ¬k>9 by omega),qO F (v:=1) (by omega) (by omega)];simp only[zg,cond_false];have:=zdN F hF (fun p4=>(some ((p4,0,()),()):Option yb.sg.R)) k.toNat (by omega) (0,0) k.toNat 0 F (by omega) (by omega);rw[show ((k.toNat:Nat):Int)=k by omega,show ((0:Nat):Int)=0 from rfl,Int.pow_zero] at this;exact this
theorem Sk (F:Nat) (c:Int):xS.sh F c=some ((X6 c,()),()):=by
 unfold xS.sh X6;cases decide (c>=97)<;>rfl
theorem zdT (F:Nat) (c:Int):wq.sh F c=some ((zcq c,()),()):=by
 unfold wq.sh zcq;cases decide (c>=48)<;>rfl
def Xo:List (List UInt8):=[[112,108,97,110],[114,111,117,110,100],[98,121],[98,108,111,99,107,115],[109,105,110],[109,97,120],[111,118,101,114],[117,112,116,111],[103,114,97,100,117,97,116,101,100],[118,111,108,117,109,101],[111,102,102],[105,102],[102,108,111,111,114],[99,101,105,108],[122,101,114,111],[104,97,108,102],[101,118,101,110]]
def U4:List (List UInt8)->List UInt8
 | []=>[32]
 | w::r=>32::(w++U4 r)
theorem zbu:∀ws:List (List UInt8),∃z,U4 ws=32::z
 | []=>⟨[],rfl⟩
 | w::r=>⟨w++U4 r,rfl⟩
theorem Y4 (b:UInt8) (l sub:List UInt8):Lib.contains (b::l) sub=(sub.isPrefixOf (b::l)||Lib.contains l sub):=by
 have:=Lib.index_ge l sub;unfold Lib.contains;rw[Lib.index];cases h:sub.isPrefixOf (b::l) with
 | true=>rfl
 | false =>
  simp only[Bool.false_eq_true,if_false,Bool.false_or];by_cases h1:Lib.index l sub=-1
  ·rw[h1]; rfl
  ·rw[if_neg (by simpa using h1),decide_eq_true (by omega),decide_eq_true (by omega)]
theorem zaJ:∀(l w z:List UInt8),(∀c∈l,c≠32)->(∀c∈w,c≠32)->(l++[32]).isPrefixOf (w++32::z)=(l==w)
 | [],[],z,_,_=>rfl
 | [],c::w,z,_,h=>by
  have:=h c (by simp);simp[List.isPrefixOf,Ne.symm this]
 | a::l,[],z,h,_=>by
  have:=h a (by simp);simp[List.isPrefixOf,this]
 | a::l,c::w,z,h1,h2=>by
  have ih:=zaJ l w z (fun x hx=>h1 x (by simp[hx])) (fun x hx=>h2 x (by simp[hx]));simp only[List.cons_append,List.isPrefixOf,ih];rfl
theorem RK (sub:List UInt8) (hs:∃z,sub=32::z) (t:List UInt8):∀w:List UInt8,(∀c∈w,c≠32)->Lib.contains (w++t) sub=Lib.contains t sub
 | [],_=>rfl
 | c::w,h=>by
  obtain ⟨z,rfl⟩:=hs;have hc:=h c (by simp);rw[List.cons_append,Y4,RK (32::z) ⟨z,rfl⟩ t w (fun x hx=>h x (by simp[hx]))];have:List.isPrefixOf (32::z) (c::(w++t))=false:=by
   simp only[List.isPrefixOf];rw[show ((32:UInt8)==c)=false by simpa using (Ne.symm hc)];rfl
  rw[this,Bool.false_or]
theorem W6 (l:List UInt8) (hl:l≠[]) (h:∀c∈l,c≠32):∀ws:List (List UInt8),(∀w∈ws,∀c∈w,c≠32)->Lib.contains (U4 ws) ([32]++l++[32])=ws.any (fun w=>w==l)
 | [],_=>by
  cases l with
  | nil=>exact absurd rfl hl
  | cons a r =>
   rw[U4,Y4];have:Lib.contains [] ([32]++a::r++[32])=false:=by unfold Lib.contains; simp[Lib.index]
   rw[this];cases r<;>simp[List.isPrefixOf]
 | w::r,hw=>by
  have hww:=hw w (by simp);have ih:=W6 l hl h r (fun x hx=>hw x (by simp[hx]));rw[U4,Y4,RK _ ⟨l++[32],by simp⟩ _ w hww,ih];obtain ⟨z,hz⟩:=zbu r;have hp:=zaJ l w z h hww;have:([32]++l++[32]).isPrefixOf (32::(w++U4 r))=(w==l):=by
   rw[hz];simp only[List.cons_append,List.nil_append,List.append_assoc,List.isPrefixOf];rw[hp];simp only[beq_self_eq_true,Bool.true_and];cases hlw:(l==w) with
   | true=>rw[beq_iff_eq] at hlw; rw[hlw]; simp
   | false =>
    rw[beq_eq_false_iff_ne] at hlw;exact (beq_eq_false_iff_ne.2 (Ne.symm hlw)).symm
  rw[this];rfl
theorem zbr:zeE=U4 Xo:=by decide
theorem zaj:∀w∈Xo,(!w.isEmpty&&w.all (fun c=>X6 (cI c)))=true/\∀c∈w,c≠32:=by decide
theorem let_ne {c:UInt8} (h:X6 (cI c)=true):c≠32:=by
 rintro rfl
 exact absurd h (by decide)
theorem zeF (l:List UInt8):TZ l=Xo.any (fun w=>w==l):=by
 unfold TZ;cases he:(!l.isEmpty&&l.all (fun c=>X6 (cI c))) with
 | true =>
  have he2:=he;rw[Bool.and_eq_true] at he;have hl:l≠[]:=by intro h; rw[h] at he; exact absurd he.1 (by decide)
  have hc:∀c∈l,c≠32:=fun c hc=>let_ne (by have:=List.all_eq_true.1 he.2 c hc; exact this)
  rw[he.1,he.2,Bool.true_and,Bool.true_and,zbr];exact W6 l hl hc Xo (fun w hw=>(zaj w hw).2)
 | false =>
  have h1:Xo.any (fun w=>w==l)=false:=by
   rw[List.any_eq_false];intro w hw h;rw[beq_iff_eq] at h;subst h;rw[(zaj w hw).1] at he;cases he
  rw[h1,<-Bool.and_assoc,he,Bool.false_and]
def Xp:List ByteArray:=[(⟨#[112,108,97,110]⟩:ByteArray),(⟨#[114,111,117,110,100]⟩:ByteArray),(⟨#[98,121]⟩:ByteArray),(⟨#[98,108,111,99,107,115]⟩:ByteArray),(⟨#[109,105,110]⟩:ByteArray),(⟨#[109,97,120]⟩:ByteArray),(⟨#[111,118,101,114]⟩:ByteArray),(⟨#[117,112,116,111]⟩:ByteArray),(⟨#[103,114,97,100,117,97,116,101,100]⟩:ByteArray),(⟨#[118,111,108,117,109,101]⟩:ByteArray),(⟨#[111,102,102]⟩:ByteArray),(⟨#[105,102]⟩:ByteArray),(⟨#[102,108,111,111,114]⟩:ByteArray),(⟨#[99,101,105,108]⟩:ByteArray),(⟨#[122,101,114,111]⟩:ByteArray),(⟨#[104,97,108,102]⟩:ByteArray),(⟨#[101,118,101,110]⟩:ByteArray)]
theorem zax (F:Nat) {R:Type} (k0:Bool->Option R) (k1:Option R) (L:List ByteArray) (s:ByteArray):∀(xs:List ByteArray) (i:Int),zZ.l3.rg F k0 (fun _ _ _ _=>k1) L xs i s=bif xs.any (fun w=>w.toList==s.toList) then k0 true else k1
 | [],i=>rfl
 | x::r,i=>by
  rw[zZ.l3.rg,zax F k0 k1 L s r];simp only[List.any_cons];cases (x.toList==s.toList)<;>rfl
theorem zeQ (F:Nat) (hF:64<F) (s:ByteArray):zZ.sh F s=some ((TZ s.data.toList,()),()):=by
 unfold zZ.sh;rw[show wC.sh F=some ((Xp,()),()) from rfl];simp only[zg];have e1:=fun k0 k1=>zZ.l3.rg_eq (R:=zZ.sg.R) F k0 k1 Xp (by decide) Xp 0 F s (by simp) (by have:Xp.length=17:=rfl; omega)
 rw[show ((0:Nat):Int)=0 from rfl] at e1;rw[e1,zax F (fun r22=>(some ((r22,()),()):Option zZ.sg.R)) (some ((false,()),())) Xp s Xp 0,zeF];have:Xp.any (fun w=>w.toList==s.toList)=Xo.any (fun w=>w==s.data.toList):=by
  have h1:Xp.map (fun w=>w.toList)=Xo:=by
   unfold Xp Xo;simp only[List.map_cons,List.map_nil,Lib.toList_data]
  rw[Lib.toList_data s,<-h1,List.any_map];rfl
 rw[this];cases Xo.any (fun w=>w==s.data.toList)<;>rfl
theorem zeV (F:Nat) {R:Type} (k0:Bool->Option R) (k1:Option R) (s:ByteArray) (hs:s.size<=32):∀(xs:List UInt8) (i fu:Nat),s.data.toList.drop i=xs->xs.length<fu->
  yt.l4 F k0 (fun _ _ _=>k1) fu s (i:Int)=bif xs.all (fun c=>Tr (cI c)) then k1 else k0 false:=by
 intro xs;induction xs with
 | nil =>
  intro i fu h hf;obtain ⟨fu,rfl⟩:∃j,fu=j+1:=⟨fu-1,by simp at hf; omega⟩;have hn:s.size<=i:=by rw[tw]; simpa using h
  simp only[yt.l4,yt.l4.body,decide_eq_false (show ¬((i:Int)<(s.size:Int)) by omega),cond_false,List.all_nil,cond_true]
 | cons c xs ih =>
  intro i fu h hf;obtain ⟨fu,rfl⟩:∃j,fu=j+1:=⟨fu-1,by simp at hf; omega⟩;have hn:i<s.size:=by rw[tw]; exact ug h
  have ih:=ih (i+1) fu (wX h) (by simp at hf; omega);rw[vj] at ih;simp only[yt.l4,yt.l4.body,decide_eq_true (show ((i:Int)<(s.size:Int)) by omega),cond_true,xX hn,zdt h,zY (n:=(i:Int)+1) (by omega) (by omega),ih];rw[Sk,zdT];simp only[zg,List.all_cons,Tr];cases X6 (cI c) with
  | true=>rfl
  | false =>
   cases zcq (cI c) with
   | true=>rfl
   | false =>
    simp only[Bool.not_false,cond_true,Bool.false_or];cases hc:(cI c==95) with
    | true=>rw[show (cI c != 95)=false by simp only[bne,hc,Bool.not_true]]; rfl
    | false=>rw[show (cI c != 95)=true by simp only[bne,hc,Bool.not_false]]; rfl
theorem zaD (F:Nat) (hF:64<F) (s:ByteArray):yt.sh F s=some ((Xi s.data.toList,()),()):=by
 have hsz:=tw s;unfold yt.sh;cases hd:s.data.toList with
 | nil =>
  rw[hd] at hsz;simp only[List.length_nil] at hsz;rw[hsz];rfl
 | cons c r =>
  rw[hd] at hsz;simp only[List.length_cons] at hsz;rw[decide_eq_false (show ¬((s.size:Int)<1) by omega)];simp only[cond_false];unfold Xi;by_cases h32:r.length+1<=32
  ·rw[decide_eq_false (show ¬((s.size:Int)>32) by omega),YK (n:=s.size) (by omega)]
   have hb:=zdt (s:=s) (n:=0) (c:=c) (r:=r) (by rw[hd]; rfl);rw[show ((0:Nat):Int)=0 from rfl] at hb;rw[hb,Sk,zeQ F hF];simp only[zg,cond_true,cond_false];have e:=zeV F (fun r25=>(some ((r25,()),()):Option yt.sg.R)) (some ((true,()),())) s (by omega) r 1 F (by rw[hd]; rfl) (by omega);rw[show ((1:Nat):Int)=1 from rfl] at e;rw[e,hd];simp only[List.isEmpty_cons,Bool.not_false,Bool.true_and,List.length_cons,decide_eq_true h32,List.headD_cons,List.all_cons];cases hl:X6 (cI c) with
   | false=>rfl
   | true =>
    have:Tr (cI c)=true:=by unfold Tr; rw[hl]; rfl
    rw[this];simp only[Bool.not_true,cond_false,Bool.true_and];cases TZ (c::r) with
    | true=>simp only[cond_true,Bool.not_true,Bool.and_false]
    | false =>
     simp only[cond_false,Bool.not_false,Bool.and_true];cases r.all (fun c=>Tr (cI c))<;>rfl
  ·rw[decide_eq_true (show ((s.size:Int)>32) by omega)]
   simp only[cond_true,List.length_cons,decide_eq_false h32,Bool.false_and,Bool.and_false]
theorem zdR (F:Nat) {R:Type} (k0:Int->Option R) (k1:Int->yr.T->Option R) (p:yr.T) (i:Nat) (d:wV.T) (hi:i<p.2.1.length) (hd:get wV p.2.1 i=d) (hl:p.2.1.length<=32):∀(xs:List wV.T) (j fu:Nat),(p.2.1.take i).drop j=xs->xs.length<fu->
  zL.l11 F k0 (fun i _ _ p=>k1 i p) fu (i:Int) (j:Int) p=bif xs.any (fun e=>Yv e.1 d.1) then k0 61 else k1 (i:Int) p:=by
 intro xs;induction xs with
 | nil =>
  intro j fu h hf;obtain ⟨fu,rfl⟩:∃j,fu=j+1:=⟨fu-1,by simp at hf; omega⟩;have hn:i<=j:=by
   have:=congrArg List.length h;simp at this; omega
  simp only[zL.l11,zL.l11.body,decide_eq_false (show ¬((j:Int)<(i:Int)) by omega),cond_false,List.any_nil]
 | cons e xs ih =>
  intro j fu h hf;obtain ⟨fu,rfl⟩:∃j,fu=j+1:=⟨fu-1,by simp at hf; omega⟩;have hj:j<i:=by
   have:=ug h;simp at this; omega
  have he:get wV p.2.1 j=e:=by
   have h0:=congrArg (·[0]?) h
   simp[List.getElem?_take_of_lt hj] at h0;unfold get;rw[List.getD_eq_getElem?_getD,h0]; rfl
  have ih:=ih (j+1) fu (wX h) (by simp at hf; omega);rw[vj] at ih;simp only[zL.l11,zL.l11.body,decide_eq_true (show ((j:Int)<(i:Int)) by omega),cond_true,xX hi,xX (show j<p.2.1.length by omega),Int.toNat_natCast,hd,he,zY (n:=(j:Int)+1) (by omega) (by omega),ih,List.any_cons];rw[show (e.1.toList==d.1.toList)=Yv e.1 d.1 from rfl];cases Yv e.1 d.1<;>rfl
theorem zf0 (F:Nat) (hF:64<F) {R:Type} (k:Int->Option R) (k2:yr.T->Option R) (p:yr.T) (hL:p.2.1.length<=32):∀(xs:List wV.T) (i fu:Nat),p.2.1.drop i=xs->xs.length<fu->
  zL.l6 F k k k (fun _ _ p=>k2 p) fu (i:Int) p=bif dE (p.2.1.take i) xs != 0 then k (dE (p.2.1.take i) xs) else k2 p:=by
 intro xs;induction xs with
 | nil =>
  intro i fu h hf;obtain ⟨fu,rfl⟩:∃j,fu=j+1:=⟨fu-1,by simp at hf; omega⟩;have hn:p.2.1.length<=i:=by simpa using h
  simp only[zL.l6,zL.l6.body,decide_eq_false (show ¬((i:Int)<(p.2.1.length:Int)) by omega),cond_false,dE];rfl
 | cons d xs ih =>
  intro i fu h hf;obtain ⟨fu,rfl⟩:∃j,fu=j+1:=⟨fu-1,by simp at hf; omega⟩;have hi:=ug h;have hg:=uI (t:=wV) h;rw[Int.toNat_natCast] at hg;have hdd:p.2.1[i]?=some d:=by have:=congrArg (·[0]?) h; simpa using this
  have htake:p.2.1.take (i+1)=p.2.1.take i++[d]:=by rw[List.take_add_one,hdd]; rfl
  have ih:=ih (i+1) fu (wX h) (by simp at hf; omega);rw[vj,htake] at ih;have e11:=zdR F k (fun i4 p4=>bif idx i4 p4.2.1.length then bif decide ((get wV p4.2.1 i4.toNat).2<1) then k 50
    else bif idx i4 p4.2.1.length then bif decide ((get wV p4.2.1 i4.toNat).2>1000000000000) then k 50
     else zL.l6 F k k k (fun _ _ p=>k2 p) fu (i64.wrap (i4+1)) p4
    else none
   else none) p i d hi hg hL (p.2.1.take i) 0 F (by simp) (by simp; omega)
  rw[show ((0:Nat):Int)=0 from rfl] at e11;simp only[zL.l6,zL.l6.body,decide_eq_true (show ((i:Int)<(p.2.1.length:Int)) by omega),cond_true,xX hi,Int.toNat_natCast,hg];rw[zaD F hF];simp only[zg];rw[e11];simp only[xX hi,Int.toNat_natCast,hg,cond_true,zY (n:=(i:Int)+1) (by omega) (by omega),ih,dE];cases Xi d.1.data.toList with
  | false=>rfl
  | true =>
   simp only[Bool.not_true,cond_false];cases (p.2.1.take i).any (fun e=>Yv e.1 d.1) with
   | true=>rfl
   | false =>
    simp only[cond_false];cases decide (dS d<1) with
    | true=>rfl
    | false =>
     cases decide (dS d>1000000000000) with
     | true=>rfl
     | false=>rfl
theorem zf1 (F:Nat) (hF:64<F) (p:yr.T):zL.sh F p=some ((YC p.1 p.2.1 p.2.2.1,()),()):=by
 unfold zL.sh YC;rw[zaD F hF];simp only[zg];cases hn:Xi p.1.data.toList with
 | false=>rfl
 | true =>
  simp only[Bool.not_true,cond_false];by_cases h1:p.2.1.length<1
  ·rw[decide_eq_true (show ((p.2.1.length:Int)<1) by omega),show ((p.2.1.length:Int)==0)=true by rw[beq_iff_eq]; omega]; rfl
  ·rw[decide_eq_false (show ¬((p.2.1.length:Int)<1) by omega),show ((p.2.1.length:Int)==0)=false by rw[beq_eq_false_iff_ne]; omega]
   cases h2:decide ((p.2.1.length:Int)>4) with
   | true=>rfl
   | false =>
    have h2:=of_decide_eq_false h2;simp only[cond_false];have e:=zf0 F hF (fun r=>(some ((r,()),()):Option zL.sg.R)) (fun p=>bif decide (p.2.2.1<0) then some ((50,()),()) else bif decide (p.2.2.1>4) then some ((50,()),()) else some ((0,()),())) p (by omega) p.2.1 0 F (by simp) (by omega);rw[show ((0:Nat):Int)=0 from rfl,List.take_zero] at e;rw[e];cases (dE [] p.2.1 != 0) with
    | true=>rfl
    | false =>
     cases decide (p.2.2.1<0) with
     | true=>rfl
     | false=>cases decide (p.2.2.1>4)<;>rfl
theorem Uv (F:Nat) {n:zx.T} (hg:qw n=true):zv.sh F n=some ((bif decide (aK n>=0) then aK n else nC n,()),()):=by
 unfold zv.sh;have h16:=qP hg;have ha:∀k:Int,nK n=k->aK n=(get vg qu k.toNat).1:=fun k h=>by unfold aK ZY; rw[h]
 rcases h16 with h | h | h | h | h | h | h | h | h | h | h | h | h | h | h | h<;>rw[ha _ h,show n.1=_ from h]<;>rfl
theorem zbB (F:Nat) {n:zx.T} (hg:qw n=false):zv.sh F n=some ((-1,()),()):=by
 have hk:∀k:Int,1<=k->k<=16->(nK n==k)=false:=fun k h1 h2=>by
  rw[beq_eq_false_iff_ne];intro h;rw[ZV.2 (by omega)] at hg;cases hg
 unfold zv.sh zv.j6 zv.j13 zv.j17;simp only[show (n.1==1)=false from hk 1 (by decide) (by decide),show (n.1==2)=false from hk 2 (by decide) (by decide),show (n.1==3)=false from hk 3 (by decide) (by decide),show (n.1==4)=false from hk 4 (by decide) (by decide),show (n.1==5)=false from hk 5 (by decide) (by decide),show (n.1==6)=false from hk 6 (by decide) (by decide),show (n.1==7)=false from hk 7 (by decide) (by decide),show (n.1==8)=false from hk 8 (by decide) (by decide),show (n.1==9)=false from hk 9 (by decide) (by decide),show (n.1==10)=false from hk 10 (by decide) (by decide),show (n.1==11)=false from hk 11 (by decide) (by decide),show (n.1==12)=false from hk 12 (by decide) (by decide),show (n.1==13)=false from hk 13 (by decide) (by decide),show (n.1==14)=false from hk 14 (by decide) (by decide),show (n.1==15)=false from hk 15 (by decide) (by decide),show (n.1==16)=false from hk 16 (by decide) (by decide),cond_false]
theorem Xb (F:Nat) {n:zx.T} (hg:qw n=true) (hk:qf n=true):zv.sh F n=some (((ar n:Int),()),()):=by
 rw[Uv F hg];have:(bif decide (aK n>=0) then aK n else nC n)=(ar n:Int):=by
  unfold ar;unfold qf at hk;by_cases ha:aK n>=0
  ·rw[decide_eq_true ha]; simp only[cond_true]; omega
  ·rw[decide_eq_true (show aK n<0 by omega)] at hk
   simp at hk;rw[decide_eq_false ha]; simp only[cond_false]; omega
 rw[this]
theorem zeW (F:Nat) {n:zx.T} (hg:qw n=true) {dims:Nat} (hd:dims<=32):yG.sh F n.1 (dims:Int)=some ((Wg n dims,()),()):=by
 have hw:i64.wrap ((dims:Int)-1)=(dims:Int)-1:=zY (by omega) (by omega);unfold yG.sh yG.j7;rw[hw];rcases qP hg with h | h | h | h | h | h | h | h | h | h | h | h | h | h | h | h<;>rw[Zm h,show n.1=_ from h]<;>rfl
def XM (n:zx.T) (dims:Nat):Bool:=!decide (nN n<0)&&(!decide (nN n>Wg n dims)&&(opB n&&(qf n&&(th n||(((nT n).length:Int)==0)))))
theorem zdo {a b:Int}:decide (a<b)=!decide (a>=b):=by
 by_cases h:a<b
 ·rw[decide_eq_true h,decide_eq_false (by omega)]; rfl
 ·rw[decide_eq_false h,decide_eq_true (by omega)]; rfl
theorem zbe {a b:Int}:decide (a>b)=!decide (a<=b):=by
 by_cases h:a>b
 ·rw[decide_eq_true h,decide_eq_false (by omega)]; rfl
 ·rw[decide_eq_false h,decide_eq_true (by omega)]; rfl
theorem rf13 (F:Nat) {R:Type} (k:Bool->Option R) {n:zx.T} (hg:qw n=true):z7.j13 F k n=k (th n||(((nT n).length:Int)==0)):=by
 unfold z7.j13 th ZY;rcases qP hg with h | h | h | h | h | h | h | h | h | h | h | h | h | h | h | h<;>rw[h,show n.1=_ from h]<;>rfl
theorem rf8 (F:Nat) {R:Type} (k:Bool->Option R) {n:zx.T} (hg:qw n=true):z7.j8 F k k k n=k (qf n&&(th n||(((nT n).length:Int)==0))):=by
 unfold z7.j8;rw[rf13 F k hg];rw[show decide (n.2.2.2.1<2)=!decide (nC n>=2) from zdo (a:=nC n) (b:=2),show decide (n.2.2.2.1>16)=!decide (nC n<=16) from zbe (a:=nC n) (b:=16),show (n.2.2.2.1 != 0)=!(nC n==0) from rfl];rcases qP hg with h | h | h | h | h | h | h | h | h | h | h | h | h | h | h | h<;>rw[XG h,show n.1=_ from h] <;>
  first
  | (show (bif !(nC n==0) then k false else k (th n||(((nT n).length:Int)==0)))=k ((nC n==0)&&(th n||(((nT n).length:Int)==0))); cases (nC n==0)<;>rfl)
  | (show (bif !decide (nC n>=2) then k false else bif !decide (nC n<=16) then k false else k (th n||(((nT n).length:Int)==0)))=k ((decide (nC n>=2)&&decide (nC n<=16))&&(th n||(((nT n).length:Int)==0))); cases decide (nC n>=2)<;>cases decide (nC n<=16)<;>rfl)
theorem zbF (F:Nat) {n:zx.T} (hg:qw n=true) {dims:Nat} (hd:dims<=32):z7.sh F n (dims:Int)=some ((XM n dims,()),()):=by
 unfold z7.sh XM;rw[zeW F hg hd];simp only[zg];rw[rf8 F (fun r45=>(some ((r45,()),()):Option z7.sg.R)) hg];cases decide (nN n<0) with
 | true=>rfl
 | false =>
  cases decide (nN n>Wg n dims) with
  | true=>rfl
  | false =>
   simp only[cond_false,Bool.not_false,Bool.true_and];rw[show decide (n.2.2.1<1)=!decide (nO n>=1) from zdo (a:=nO n) (b:=1),show decide (n.2.2.1>6)=!decide (nO n<=6) from zbe (a:=nO n) (b:=6),show (n.2.2.1 != 0)=!(nO n==0) from rfl];generalize (qf n&&(th n||(((nT n).length:Int)==0)))=Z
   unfold opB ZY;rcases qP hg with h | h | h | h | h | h | h | h | h | h | h | h | h | h | h | h<;>rw[h,show n.1=_ from h] <;>
    first
    | (show (bif !(nO n==0) then (some ((false,()),()):Option z7.sg.R) else some ((Z,()),()))=some (((nO n==0)&&Z,()),()); cases (nO n==0)<;>rfl)
    | (show (bif !decide (nO n>=1) then (some ((false,()),()):Option z7.sg.R) else bif !decide (nO n<=6) then some ((false,()),()) else some ((Z,()),()))=some (((decide (nO n>=1)&&decide (nO n<=6))&&Z,()),()); cases decide (nO n>=1)<;>cases decide (nO n<=6)<;>rfl)
theorem zdJ (F:Nat) {R:Type} (k:Bool->Option R) (k1:Option R) (l:List yp.T) (hl:l.length<=32):∀(xs:List yp.T) (i fu:Nat),l.drop i=xs->xs.length<fu->
  zP.l4 F k k (fun _ _ _=>k1) fu l (i:Int)=bif qY l xs i then k1 else k false:=by
 intro xs;induction xs with
 | nil =>
  intro i fu h hf;obtain ⟨fu,rfl⟩:∃j,fu=j+1:=⟨fu-1,by simp at hf; omega⟩;have hn:l.length<=i:=by simpa using h
  simp only[zP.l4,zP.l4.body,decide_eq_false (show ¬((i:Int)<(l.length:Int)) by omega),cond_false,qY,cond_true]
 | cons x xs ih =>
  intro i fu h hf;obtain ⟨fu,rfl⟩:∃j,fu=j+1:=⟨fu-1,by simp at hf; omega⟩;have hi:=ug h;have hg:=uI (t:=yp) h;rw[Int.toNat_natCast] at hg;have ih:=ih (i+1) fu (wX h) (by simp at hf; omega);rw[vj] at ih;have hj8:zP.j8 F (fun r=>k r) (fun l2 i2 _=>zP.l4 F k k (fun _ _ _=>k1) fu l2 (i64.wrap (i2+1))) l (i:Int) =
    bif (!decide (tF x>1000000000000)&&(!decide (tR x < -1000000000000)&&!decide (tR x>1000000000000)))&&qY l xs (i+1) then k1 else k false:=by
   simp only[zP.j8,xX hi,cond_true,Int.toNat_natCast,hg,zY (n:=(i:Int)+1) (by omega) (by omega),ih];cases decide (tF x>1000000000000)<;>cases decide (tR x < -1000000000000)<;>cases decide (tR x>1000000000000)<;>rfl
  simp only[zP.l4,zP.l4.body,decide_eq_true (show ((i:Int)<(l.length:Int)) by omega),cond_true,qY,QR];by_cases h0:i=0
  ·subst h0
   rw[decide_eq_false (show ¬(((0:Nat):Int)>0) by omega)];simp only[cond_false,decide_true,Bool.true_or,Bool.true_and];exact hj8
  ·have e2:i64.wrap ((i:Int)-1)=((i-1:Nat):Int):=by rw[zY (by omega) (by omega)]; omega
   rw[decide_eq_true (show ((i:Int)>0) by omega),e2,xX (show i-1<l.length by omega),xX hi,decide_eq_false h0];simp only[cond_true,Int.toNat_natCast,hg,Bool.false_or];rw[show decide ((get yp l (i-1)).1>=x.1)=decide (tF x<=tF (l.getD (i-1) (0,0))) from rfl];cases decide (tF x<=tF (l.getD (i-1) (0,0))) with
   | true=>rfl
   | false =>
    simp only[cond_false,Bool.not_false,Bool.true_and];exact hj8
theorem zdK (F:Nat) (hF:64<F) (l:List yp.T):zP.sh F l=some ((Zq l,()),()):=by
 unfold zP.sh Zq;by_cases h1:1<=l.length
 ·rw[show ((l.length:Int)==0)=false by rw[beq_eq_false_iff_ne]; omega,decide_eq_true h1]
  by_cases h2:l.length<=16
  ·rw[decide_eq_false (show ¬((l.length:Int)>16) by omega),decide_eq_true h2,YK h1]
   simp only[cond_true,cond_false,Bool.true_and];rw[show ((get yp l 0).1 != 0)=!(tF (l.getD 0 (0,0))==0) from rfl];have e:=zdJ F (fun r=>(some ((r,()),()):Option zP.sg.R)) (some ((true,()),())) l (by omega) l 0 F (by simp) (by omega);rw[show ((0:Nat):Int)=0 from rfl] at e;rw[e];by_cases h3:tF (l.getD 0 (0,0))=0
   ·rw[show (tF (l.getD 0 (0,0))==0)=true by rw[beq_iff_eq]; exact h3,decide_eq_true h3]
    simp only[Bool.not_true,cond_false,Bool.true_and];cases qY l l 0<;>rfl
   ·rw[show (tF (l.getD 0 (0,0))==0)=false by rw[beq_eq_false_iff_ne]; exact h3,decide_eq_false h3]
    rfl
  ·rw[decide_eq_true (show ((l.length:Int)>16) by omega),decide_eq_false h2]
   rfl
 ·rw[show ((l.length:Int)==0)=true by rw[beq_iff_eq]; omega,decide_eq_false h1]
  rfl
theorem zbt {n:zx.T} (hg:qw n=true):th n=((nK n==13)||(nK n==14)):=by
 unfold th ZY;rcases qP hg with h | h | h | h | h | h | h | h | h | h | h | h | h | h | h | h<;>rw[h]<;>rfl
theorem QV {n:zx.T} (hg:qw n=true) (dims pile:Nat):tm dims n pile=bif !XM n dims then 50 else bif decide ((pile:Int)<(ar n:Int)) then 50 else bif th n&&!Zq (nT n) then 51 else 0:=by
 unfold tm XM;rw[hg];have hl:(((nT n).length:Int)==0)=!decide (((nT n).length:Int)>0):=by
  by_cases h:((nT n).length:Int)>0
  ·rw[decide_eq_true h,show (((nT n).length:Int)==0)=false by rw[beq_eq_false_iff_ne]; omega]; rfl
  ·rw[decide_eq_false h,show (((nT n).length:Int)==0)=true by rw[beq_iff_eq]; omega]; rfl
 rw[hl];cases decide (nN n<0)<;>cases decide (nN n>Wg n dims)<;>cases qf n<;>cases opB n<;>cases th n<;>cases decide (((nT n).length:Int)>0)<;>rfl
theorem zb5 {n:zx.T} {dims:Nat} (h:XM n dims=true):qf n=true:=by
 unfold XM at h;simp only[Bool.and_eq_true] at h;exact h.2.2.2.1
theorem zdV (F:Nat) (hF:64<F) {R:Type} (k0:Int->Int->Option R) (k1:Int->yr.T->Option R) (p:yr.T) (hp:p.2.1.length<=32) (hL:p.2.2.2.length<=2048):∀(xs:List zx.T) (i pile fu:Nat),p.2.2.2.drop i=xs->pile<=i->xs.length<fu->
  zX.l8 F k0 k0 (fun pile _ _ p=>k1 pile p) fu (pile:Int) (i:Int) p=match Vu p.2.1.length xs pile i with | some (j,e)=>k0 (j:Int) e | none=>k1 (UX xs pile:Int) p:=by
 intro xs;induction xs with
 | nil =>
  intro i pile fu h hpi hf;obtain ⟨fu,rfl⟩:∃j,fu=j+1:=⟨fu-1,by simp at hf; omega⟩;have hn:p.2.2.2.length<=i:=by simpa using h
  simp only[zX.l8,zX.l8.body,decide_eq_false (show ¬((i:Int)<(p.2.2.2.length:Int)) by omega),cond_false];rfl
 | cons n xs ih =>
  intro i pile fu h hpi hf;obtain ⟨fu,rfl⟩:∃j,fu=j+1:=⟨fu-1,by simp at hf; omega⟩;have hi:=ug h;have hg:=uI (t:=zx) h;rw[Int.toNat_natCast] at hg;simp only[zX.l8,zX.l8.body,decide_eq_true (show ((i:Int)<(p.2.2.2.length:Int)) by omega),cond_true,xX hi,Int.toNat_natCast,hg,Vu,UX];cases hgk:qw n with
  | false =>
   rw[zbB F hgk];have:tm p.2.1.length n pile=50:=by unfold tm; rw[hgk]; rfl
   rw[this];rfl
  | true =>
   rw[Uv F hgk,zbF F hgk hp,QV hgk];simp only[zg];cases hfi:XM n p.2.1.length with
   | false =>
    simp only[Bool.not_false,cond_true];cases decide ((bif decide (aK n>=0) then aK n else nC n)<0)<;>rfl
   | true =>
    have hk:=zb5 hfi;have ha:=W7 hgk hk;have hta:(bif decide (aK n>=0) then aK n else nC n)=(ar n:Int):=by
     have:=(Uv F hgk).symm.trans (Xb F hgk hk);simpa using this
    rw[hta,zdK F hF,decide_eq_false (show ¬((ar n:Int)<0) by omega)];simp only[Bool.not_true,cond_false,zg];cases hpa:decide ((pile:Int)<(ar n:Int)) with
    | true=>rfl
    | false =>
     have hpa:=of_decide_eq_false hpa;simp only[cond_false];rw[zY (n:=(pile:Int)-(ar n:Int)) (by omega) (by omega),zY (n:=(pile:Int)-(ar n:Int)+1) (by omega) (by omega),zY (n:=(i:Int)+1) (by omega) (by omega),show (pile:Int)-(ar n:Int)+1=((pile-ar n+1:Nat):Int) by omega];have ih:=ih (i+1) (pile-ar n+1) fu (wX h) (by omega) (by simp at hf; omega);rw[vj i] at ih;rw[ih,zbt hgk];cases (nK n==13)<;>cases (nK n==14)<;>cases Zq (nT n)<;>rfl
theorem WK (F:Nat) (hF:2048<F) (p:yr.T):zX.sh F p=some (((um p).1,(um p).2,()),()):=by
 unfold zX.sh um;rw[zf1 F (by omega)];simp only[zg];cases h:(YC p.1 p.2.1 p.2.2.1 != 0) with
 | true=>rfl
 | false =>
  have hh:=qW (show YC p.1 p.2.1 p.2.2.1=0 by simpa using h);cases h1:decide ((p.2.2.2.length:Int)>1024) with
  | true=>rfl
  | false =>
   have h1:=of_decide_eq_false h1;simp only[cond_false];have e:=zdV F (by omega) (fun r26 r36=>(some ((r26,r36,()),()):Option zX.sg.R)) (fun pile8 p8=>bif (pile8 != 1) then some (((p8.2.2.2.length:Int),50,()),()) else some ((0,0,()),())) p (by omega) (by omega) p.2.2.2 0 0 F (by simp) (by omega) (by omega);rw[show ((0:Nat):Int)=0 from rfl] at e;rw[e];cases Vu p.2.1.length p.2.2.2 0 0 with
   | some x=>rfl
   | none=>cases hc:((UX p.2.2.2 0:Int) != 1)<;>simp only[cond_true,cond_false,hc]
def TG (t:Tree):Prop:=∀s∈t.subs,qw s.root=true/\qf s.root=true/\ar s.root=s.kids.length
theorem TG.kids {n:zx.T} {ks:List Tree} (h:TG (.nd n ks)):∀k∈ks,TG k:=fun k hk s hs=>h s (by
 rw[Xr];refine List.mem_append.2 (.inl ?_);unfold tv;exact List.mem_flatten.2 ⟨k.subs,List.mem_map.2 ⟨k,hk,rfl⟩,hs⟩)
theorem TG.top {n:zx.T} {ks:List Tree} (h:TG (.nd n ks)):qw n=true/\qf n=true/\ar n=ks.length:=h (.nd n ks) (by rw[Xr]; simp)
theorem zcB {dims:Nat} {st:List Tree} {n:zx.T} (hst:∀t∈st,TG t) (h:tm dims n st.length=0):TG (ve st n):=by
 obtain ⟨g1,g2,g3,g4,g5,g6,g7,g8⟩:=uh h;intro s hs;unfold ve at hs;rw[Xr] at hs;rcases List.mem_append.1 hs with hs | hs
 ·unfold tv at hs
  obtain ⟨l,hl,hs⟩:=List.mem_flatten.1 hs;obtain ⟨k,hk,rfl⟩:=List.mem_map.1 hl;exact hst k (List.mem_of_mem_drop hk) s hs
 ·rw[List.mem_singleton.1 hs]
  exact ⟨g1,g4,by show ar n=(st.drop (st.length-ar n)).length; simp; omega⟩
theorem zai {dims:Nat} {st:List Tree} {n:zx.T} (hst:∀t∈st,TG t) (h:tm dims n st.length=0):∀t∈uo st n,TG t:=fun t ht=>by
 rcases List.mem_append.1 ht with ht | ht
 ·exact hst t (List.mem_of_mem_take ht)
 ·rw[List.mem_singleton.1 ht]; exact zcB hst h
theorem Rf {p:yr.T} {a post:List zx.T} {n:zx.T} {i:Nat} (h:p.2.2.2=a++n::post) (hi:i=a.length):idx (i:Int) p.2.2.2.length=true/\get zx p.2.2.2 i=n:=by
 subst hi;refine ⟨xX (by rw[h]; simp),?_⟩;unfold get;rw[h,List.getD_eq_getElem?_getD];simp
theorem ST (F:Nat) {R:Type} (k:Int->Option R) {p:yr.T} {a post:List zx.T} {n:zx.T} (h:p.2.2.2=a++n::post) (hg:qw n=true) (hk:qf n=true) {w:Nat} (hw:1<=w) (hw2:w<=100000) (hl:a.length<=100000) (fu:Nat) :
  zS.l3 F k (fu+1) (w:Int) (a.length:Int) p=bif ((w-1+ar n:Nat)==0) then k (a.length:Int) else zS.l3 F k fu ((w-1+ar n:Nat):Int) ((a.length:Int)-1) p:=by
 have ha:=W7 hg hk;obtain ⟨e1,e2⟩:=Rf h rfl;simp only[zS.l3,zS.l3.body,e1,cond_true,Int.toNat_natCast,e2];rw[Xb F hg hk];simp only[zg];rw[zY (n:=(w:Int)-1) (by omega) (by omega),zY (n:=(w:Int)-1+(ar n:Int)) (by omega) (by omega),zY (n:=(a.length:Int)-1) (by omega) (by omega),show (w:Int)-1+(ar n:Int)=((w-1+ar n:Nat):Int) by omega];have:(((w-1+ar n:Nat):Int)==0)=((w-1+ar n:Nat)==0):=by
  by_cases h:(w-1+ar n:Nat)=0
  ·rw[h]; rfl
  ·rw[beq_eq_false_iff_ne.2 h,beq_eq_false_iff_ne]; omega
 rw[this]
theorem Ub (F:Nat) {R:Type} (k:Int->Option R) (p:yr.T):∀(m:Nat) (ks:List Tree),ks.length=m->
  (∀t∈ks,∀(a post:List zx.T) (w fu:Nat),p.2.2.2=a++t.flat++post->1<=w->w+t.size<=50000->a.length+t.size<=50000->zS.l3 F k (fu+t.size) ((w+1:Nat):Int) ((a.length:Int)+(t.size:Int)-1) p=zS.l3 F k fu (w:Int) ((a.length:Int)-1) p)->
  ∀(a post:List zx.T) (w fu:Nat),p.2.2.2=a++yn ks++post->1<=w->w+(yn ks).length<=50000->a.length+(yn ks).length<=50000->
  zS.l3 F k (fu+(yn ks).length) ((w+ks.length:Nat):Int) ((a.length:Int)+((yn ks).length:Int)-1) p=zS.l3 F k fu (w:Int) ((a.length:Int)-1) p:=by
 intro m;induction m with
 | zero =>
  intro ks hm hA a post w fu h hw hw2 hl;obtain rfl:=List.eq_nil_of_length_eq_zero hm;simp[yn]
 | succ m ih =>
  intro ks hm hA a post w fu h hw hw2 hl;rcases List.eq_nil_or_concat ks with rfl | ⟨init,last,hks⟩
  ·simp at hm
  ·rw[List.concat_eq_append] at hks
   subst hks;have hil:=qL init;have hfl:yn (init++[last])=yn init++last.flat:=by rw[tc,qN]
   simp only[List.length_append,List.length_cons,List.length_nil] at hm;rw[hfl] at h hl hw2 ⊢;simp only[List.length_append] at hl hw2;have h1:=hA last (by simp) (a++yn init) post (w+init.length) (fu+(yn init).length) (by rw[h]; simp) (by omega) (by unfold Tree.size; omega) (by simp only[List.length_append,Tree.size]; omega);have h2:=ih init (by omega) (fun t ht=>hA t (by simp[ht])) a (last.flat++post) w fu (by rw[h]; simp) hw (by omega) (by omega);simp only[List.length_append,Tree.size] at h1;rw[<-h2];have e1:fu+(yn init++last.flat).length=fu+(yn init).length+last.flat.length:=by simp; omega
   have e2:((w+(init++[last]).length:Nat):Int)=((w+init.length+1:Nat):Int):=by simp; omega
   have e3:(a.length:Int)+((yn init++last.flat).length:Int)-1=(((a.length+(yn init).length:Nat)):Int)+(last.flat.length:Int)-1:=by simp; omega
   rw[e1,e2,e3,h1];congr 1
theorem first_A (F:Nat) {R:Type} (k:Int->Option R) (p:yr.T) (t:Tree):TG t->∀(a post:List zx.T) (w fu:Nat),p.2.2.2=a++t.flat++post->1<=w->w+t.size<=50000->a.length+t.size<=50000->
  zS.l3 F k (fu+t.size) ((w+1:Nat):Int) ((a.length:Int)+(t.size:Int)-1) p=zS.l3 F k fu (w:Int) ((a.length:Int)-1) p:=by
 refine Tree.ind (P:=fun t=>TG t->∀(a post:List zx.T) (w fu:Nat),p.2.2.2=a++t.flat++post->1<=w->w+t.size<=50000->a.length+t.size<=50000->
  zS.l3 F k (fu+t.size) ((w+1:Nat):Int) ((a.length:Int)+(t.size:Int)-1) p=zS.l3 F k fu (w:Int) ((a.length:Int)-1) p) (fun n ks ih hT a post w fu h hw hw2 hl=>?_) t
 obtain ⟨g1,g2,g3⟩:=hT.top;have ha:=W7 g1 g2;rw[Xv] at hl hw2 ⊢;rw[XL] at h;have hs:=ST F k (p:=p) (a:=a++yn ks) (n:=n) (post:=post) (by rw[h]; simp) g1 g2 (w:=w+1) (by omega) (by omega) (by simp only[List.length_append]; omega) (fu+(yn ks).length);have e1:(w+1-1+ar n:Nat)=w+ks.length:=by omega
 rw[e1] at hs;rw[show fu+((yn ks).length+1)=fu+(yn ks).length+1 by omega,show (a.length:Int)+(((yn ks).length+1:Nat):Int)-1=(((a++yn ks).length:Nat):Int) by simp; omega,hs];rw[show (w+ks.length==0)=false by rw[beq_eq_false_iff_ne]; omega];simp only[cond_false];have hf:=Ub F k p ks.length ks rfl (fun t ht=>ih t ht (hT.kids t ht)) a (n::post) w fu (by rw[h]; simp) hw (by omega) (by omega);rw[<-hf];congr 1
 simp
theorem first_B (F:Nat) {R:Type} (k:Int->Option R) (p:yr.T) (t:Tree):TG t->∀(a post:List zx.T) (fu:Nat),p.2.2.2=a++t.flat++post->a.length+t.size<=50000->
  zS.l3 F k (fu+t.size) 1 ((a.length:Int)+(t.size:Int)-1) p=k (a.length:Int):=by
 refine Tree.ind (P:=fun t=>TG t->∀(a post:List zx.T) (fu:Nat),p.2.2.2=a++t.flat++post->a.length+t.size<=50000->
  zS.l3 F k (fu+t.size) 1 ((a.length:Int)+(t.size:Int)-1) p=k (a.length:Int)) (fun n ks ih hT a post fu h hl=>?_) t
 obtain ⟨g1,g2,g3⟩:=hT.top;have ha:=W7 g1 g2;rw[Xv] at hl ⊢;rw[XL] at h;have hs:=ST F k (p:=p) (a:=a++yn ks) (n:=n) (post:=post) (by rw[h]; simp) g1 g2 (w:=1) (by omega) (by omega) (by simp only[List.length_append]; omega) (fu+(yn ks).length);have e1:(1-1+ar n:Nat)=ks.length:=by omega
 rw[e1] at hs;rw[show fu+((yn ks).length+1)=fu+(yn ks).length+1 by omega,show (a.length:Int)+(((yn ks).length+1:Nat):Int)-1=(((a++yn ks).length:Nat):Int) by simp; omega,show (1:Int)=((1:Nat):Int) from rfl,hs];cases ks with
 | nil=>simp[yn]
 | cons k0 rest =>
  rw[show ((k0::rest).length==0)=false from rfl];simp only[cond_false];rw[ZW] at h hl ⊢;simp only[List.length_append] at hl;have hlen:(k0::rest).length=1+rest.length:=by simp; omega
  have hlr:rest.length<=16:=by simp only[List.length_cons] at g3; omega
  have hf:=Ub F k p rest.length rest rfl (fun t ht=>first_A F k p t (hT.kids t (by simp[ht]))) (a++k0.flat) (n::post) 1 (fu+k0.size) (by rw[h]; simp) (by omega) (by omega) (by simp only[List.length_append]; omega);have hb:=ih k0 (by simp) (hT.kids k0 (by simp)) a (yn rest++n::post) fu (by rw[h]; simp) (by unfold Tree.size; omega);have e2:(((a++(k0.flat++yn rest)).length:Nat):Int)-1=(((a++k0.flat).length:Nat):Int)+((yn rest).length:Int)-1:=by simp; omega
  have e3:fu+(k0.flat++yn rest).length=fu+k0.size+(yn rest).length:=by simp[Tree.size]; omega
  rw[e2,e3,hlen,hf];rw[<-hb];congr 1
  simp[Tree.size]
theorem zbo (F:Nat) (hF:4096<F) {p:yr.T} {t:Tree} (hT:TG t) {a post:List zx.T} (h:p.2.2.2=a++t.flat++post) (hl:a.length+t.size<=2048):zS.sh F p ((a.length:Int)+(t.size:Int)-1)=some (((a.length:Int),()),()):=by
 unfold zS.sh;have:=first_B F (fun r42=>(some ((r42,()),()):Option zS.sg.R)) p t hT a post (F-t.size) h (by omega);rw[show F-t.size+t.size=F by omega] at this;exact this
theorem Qy (F:Nat) (hF:4096<F) {p:yr.T} {st:List Tree} {n:zx.T} {xs:List zx.T} (hT:TG (ve st n)) (h:p.2.2.2=yn st++n::xs) (hl:(yn st).length<2048) :
  zS.sh F p ((yn st).length:Int)=some ((((yn (st.take (st.length-ar n))).length:Int),()),()):=by
 have hts:=Y9 (st:=st) (n:=n);have:=zbo F hF hT (a:=yn (st.take (st.length-ar n))) (post:=xs) (by
  have e:yn st++[n]=yn (st.take (st.length-ar n))++(ve st n).flat:=by
   rw[<-uR]; unfold uo; rw[tc,qN]
  rw[<-e,h]; simp) (by omega)
 rw[<-this];congr 1
 omega
theorem zbI (F:Nat) {R:Type} (k0:Int->Bool->yr.T->List Bool->Option R) (p:yr.T) (out:List Bool) (i:Int):∀(seg a post:List zx.T) (b:Bool) (fu:Nat),p.2.2.2=a++seg++post->i=(a.length:Int)+(seg.length:Int)-1->a.length+seg.length<=50000->seg.length<fu->
  zl.l10 F (fun i is _ _ p out=>k0 i is p out) fu i b (a.length:Int) p out=k0 i (b&&seg.all fun n=>!isQ n) p out:=by
 intro seg;induction seg with
 | nil =>
  intro a post b fu h hi hl hf;obtain ⟨fu,rfl⟩:∃j,fu=j+1:=⟨fu-1,by simp at hf; omega⟩;simp only[List.length_nil] at hi;simp only[zl.l10,zl.l10.body,decide_eq_false (show ¬((a.length:Int)<=i) by omega),cond_false,List.all_nil,Bool.and_true]
 | cons n seg ih =>
  intro a post b fu h hi hl hf;obtain ⟨fu,rfl⟩:∃j,fu=j+1:=⟨fu-1,by simp at hf; omega⟩;simp only[List.length_cons] at hi hl hf;obtain ⟨e1,e2⟩:=Rf (p:=p) (a:=a) (n:=n) (post:=seg++post) (by rw[h]; simp) rfl;have IH:=fun b'=>ih (a++[n]) post b' fu (by rw[h]; simp) (by simp; omega) (by simp; omega) (by omega)
  simp only[List.length_append,List.length_cons,List.length_nil,Nat.zero_add] at IH;simp only[zl.l10,zl.l10.body,decide_eq_true (show ((a.length:Int)<=i) by omega),cond_true,e1,Int.toNat_natCast,e2,zY (n:=(a.length:Int)+1) (by omega) (by omega)];rw[<-vj,IH,IH];simp only[List.all_cons];unfold isQ;cases b with
  | false=>rfl
  | true =>
   rw[show (n.1 != 3)=!(nK n==3) from rfl,show (n.1 != 4)=!(nK n==4) from rfl];cases (nK n==3)<;>cases (nK n==4)<;>rfl
theorem zdU (F:Nat) (hF:4096<F) {R:Type} (dims:Nat) (k:List Bool->Option R) (p:yr.T) (hL:p.2.2.2.length<=1024):∀(xs:List zx.T) (st:List Tree) (out:List Bool) (fu:Nat),p.2.2.2=yn st++xs->okS dims st xs->(∀t∈st,TG t)->out.length<=(yn st).length->xs.length<fu->
  zl.l6 F (fun _ _ _ out=>k out) fu ((yn st).length:Int) p out=k (out++(uC st xs).map noQ):=by
 intro xs;induction xs with
 | nil =>
  intro st out fu h ho hT hout hf;obtain ⟨fu,rfl⟩:∃j,fu=j+1:=⟨fu-1,by simp at hf; omega⟩;have:p.2.2.2.length=(yn st).length:=by rw[h]; simp
  simp only[zl.l6,zl.l6.body,decide_eq_false (show ¬(((yn st).length:Int)<(p.2.2.2.length:Int)) by omega),cond_false,uC,List.map_nil,List.append_nil]
 | cons n xs ih =>
  intro st out fu h ho hT hout hf;obtain ⟨fu,rfl⟩:∃j,fu=j+1:=⟨fu-1,by simp at hf; omega⟩;have hlen:p.2.2.2.length=(yn st).length+(xs.length+1):=by rw[h]; simp
  have hTt:=zcB hT ho.1;have hfi:=Qy F hF hTt h (by omega);have hfs:=uR st n;have hfl:=congrArg List.length hfs;simp only[List.length_append,List.length_cons,List.length_nil] at hfl;have hts:=Y9 (st:=st) (n:=n);have hflat:p.2.2.2=yn (st.take (st.length-ar n))++(ve st n).flat++xs:=by
   have e:yn st++[n]=yn (st.take (st.length-ar n))++(ve st n).flat:=by
    rw[<-uR]; unfold uo; rw[tc,qN]
   rw[<-e,h]; simp
  have IH:=ih (uo st n) (out++[noQ (ve st n)]) fu (by rw[hfs,h]; simp) ho.2 (zai hT ho.1) (by simp; omega) (by simp at hf; omega);rw[hfl,show (((yn st).length+(0+1):Nat):Int)=((yn st).length:Int)+1 by omega] at IH;have e10:=zbI F (fun i3 is3 p3 out3=>bif Nat.ble (out3.length+([is3]:List Bool).length) vc then zl.l6 F (fun _ _ _ out=>k out) fu (i64.wrap (i3+1)) p3 (out3++([is3]:List Bool)) else none) p out ((yn st).length:Int)
   (ve st n).flat (yn (st.take (st.length-ar n))) xs true F hflat (by unfold Tree.size at hts; omega) (by unfold Tree.size at hts; omega) (by unfold Tree.size at hts; omega)
  simp only[zl.l6,zl.l6.body,decide_eq_true (show (((yn st).length:Int)<(p.2.2.2.length:Int)) by omega),cond_true];rw[hfi];simp only[zg];rw[e10,uV (by simp; omega),zY (by omega) (by omega)];simp only[cond_true,Bool.true_and];refine IH.trans ?_;simp[uC]
theorem QL (F:Nat) (hF:4096<F) {p:yr.T} {t:Tree} (h:Good p t):zl.sh F p=some ((t.subs.map noQ,0,()),()):=by
 unfold zl.sh;rw[WK F (by omega),h.check];simp only[zg,bne_self_eq_false,cond_false];have hl:=h.len;have e:=zdU F hF p.2.1.length (fun out4=>zl.j14 F (fun r25 r35=>(some ((r25,r35,()),()):Option zl.sg.R)) out4) p hl p.2.2.2 [] [] F (by simp[yn]) h.ok (by simp) (by simp) (by omega);rw[show ((yn []).length:Int)=0 from rfl,h.subs] at e;exact e
def Wd (n:zx.T):Int:=bif nK n==15 then 1 else 0
def S7:Tree->List Int:=Tree.fold (fun n ks=>(ks.flatten++[0]).map (fun x=>x+Wd n))
def u6 (st:List Tree):List Int:=(st.map S7).flatten
theorem TX (n:zx.T) (ks:List Tree):S7 (.nd n ks)=(u6 ks++[0]).map (fun x=>x+Wd n):=Tree.fold_nd _ n ks
theorem Qr (a b:List Tree):u6 (a++b)=u6 a++u6 b:=by simp[u6]
theorem Qp (t:Tree):u6 [t]=S7 t:=by simp[u6]
theorem zgh (t:Tree):(S7 t).length=t.size:=by
 refine Tree.ind (P:=fun t=>(S7 t).length=t.size) (fun n ks ih=>?_) t;rw[TX,Xv];simp only[List.length_map,List.length_append,List.length_cons,List.length_nil];have:(u6 ks).length=(yn ks).length:=by
  simp only[u6,yn,List.length_flatten,List.map_map];congr 1
  exact List.map_congr_left (fun k hk=>ih k hk)
 omega
theorem Qq (st:List Tree):(u6 st).length=(yn st).length:=by
 simp only[u6,yn,List.length_flatten,List.map_map];congr 1
 exact List.map_congr_left (fun k _=>zgh k)
theorem cnts_bd (t:Tree):∀x∈S7 t,0<=x/\x<=t.size:=by
 refine Tree.ind (P:=fun t=>∀x∈S7 t,0<=x/\x<=t.size) (fun n ks ih=>?_) t;intro x hx;rw[TX] at hx;obtain ⟨y,hy,rfl⟩:=List.mem_map.1 hx;rw[Xv];have ho:0<=Wd n/\Wd n<=1:=by unfold Wd; cases (nK n==15)<;>simp
 rcases List.mem_append.1 hy with hy | hy
 ·obtain ⟨l,hl,hy⟩:=List.mem_flatten.1 hy
  obtain ⟨k,hk,rfl⟩:=List.mem_map.1 hl;have h1:=ih k hk y hy;have h2:=SR hk;omega
 ·rw[List.mem_singleton.1 hy]; omega
theorem zgg {st:List Tree}:∀x∈u6 st,0<=x/\x<=(yn st).length:=by
 intro x hx;obtain ⟨l,hl,hy⟩:=List.mem_flatten.1 hx;obtain ⟨k,hk,rfl⟩:=List.mem_map.1 hl;have h1:=cnts_bd k x hy;have h2:=SR hk;omega
theorem Wh {b m:Int} {l:List Int}:ZE m l<=b↔m<=b/\∀x∈l,x<=b:=by
 have h:=V3 l m;constructor
 ·intro hb
  exact ⟨by omega,fun x hx=>by have:=h.2 x hx; omega⟩
 ·rintro ⟨h1,h2⟩
  exact QZ l m h1 h2
theorem zfG {x y:Int} (h:∀b,x<=b↔y<=b):x=y:=by
 have h1:=(h y).2 (Int.le_refl _);have h2:=(h x).1 (Int.le_refl _);omega
theorem zfA (m:Int) (a b:List Int):ZE m (a++b)=ZE (ZE m a) b:=by unfold ZE; rw[List.foldl_append]
theorem zeq (t:Tree):ZE 0 (S7 t)=wT t:=by
 refine Tree.ind (P:=fun t=>ZE 0 (S7 t)=wT t) (fun n ks ih=>?_) t;have ho:0<=Wd n/\Wd n<=1:=by unfold Wd; cases (nK n==15)<;>simp
 have hd:=WT n ks;rw[show (bif nK n==15 then (1:Int) else 0)=Wd n from rfl] at hd;have hk0:∀x∈ks.map wT,0<=x:=by
  intro x hx;obtain ⟨k,_,rfl⟩:=List.mem_map.1 hx;exact (qZ k).1
 have hm0:=(TJ hk0).1;refine zfG fun b=>?_
 rw[TX,hd,Wh];constructor
 ·rintro ⟨h1,h2⟩
  have hz:=h2 (0+Wd n) (List.mem_map.2 ⟨0,by simp,rfl⟩);have:X5 (ks.map wT)<=b-Wd n:=zd2 (by omega) (by
   intro x hx;obtain ⟨k,hk,rfl⟩:=List.mem_map.1 hx;rw[<-ih k hk,Wh];refine ⟨by omega,fun y hy=>?_⟩;have:=h2 (y+Wd n) (List.mem_map.2 ⟨y,List.mem_append.2 (.inl (List.mem_flatten.2 ⟨S7 k,List.mem_map.2 ⟨k,hk,rfl⟩,hy⟩)),rfl⟩);omega)
  omega
 ·intro h
  refine ⟨by omega,fun x hx=>?_⟩;obtain ⟨y,hy,rfl⟩:=List.mem_map.1 hx;rcases List.mem_append.1 hy with hy | hy
  ·obtain ⟨l,hl,hy⟩:=List.mem_flatten.1 hy
   obtain ⟨k,hk,rfl⟩:=List.mem_map.1 hl;have h1:=(V3 (S7 k) 0).2 y hy;rw[ih k hk] at h1;have h2:=(TJ hk0).2 (wT k) (List.mem_map.2 ⟨k,hk,rfl⟩);omega
  ·rw[List.mem_singleton.1 hy]; omega
theorem set_at {A Z:List Int} {x y:Int}:(A++x::Z).set A.length y=A++y::Z:=by simp
theorem zfS {A Z:List Int} {x:Int}:get (.int .i64) (A++x::Z) A.length=x:=by
 unfold get;rw[List.getD_eq_getElem?_getD]; simp
theorem zbC (F:Nat) {R:Type} (k0:Int->Int->yr.T->List Int->Option R) (p:yr.T) (i:Int):∀(seg A Z:List Int) (most:Int) (fu:Nat),i=(A.length:Int)+(seg.length:Int)-1->A.length+seg.length<=50000->(∀x∈seg,0<=x/\x<=50000)->seg.length<fu->
  zm.l15 F (fun most i _ _ p wT=>k0 most i p wT) fu most i (A.length:Int) p (A++seg++Z)=k0 (ZE most (seg.map (fun x=>x+1))) i p (A++seg.map (fun x=>x+1)++Z):=by
 intro seg;induction seg with
 | nil =>
  intro A Z most fu hi hl hb hf;obtain ⟨fu,rfl⟩:∃j,fu=j+1:=⟨fu-1,by simp at hf; omega⟩;simp only[List.length_nil] at hi;simp only[zm.l15,zm.l15.body,decide_eq_false (show ¬((A.length:Int)<=i) by omega),cond_false,List.map_nil];rfl
 | cons x seg ih =>
  intro A Z most fu hi hl hb hf;obtain ⟨fu,rfl⟩:∃j,fu=j+1:=⟨fu-1,by simp at hf; omega⟩;simp only[List.length_cons] at hi hl hf;have hx:=hb x (by simp);have hL:A++x::seg++Z=A++x::(seg++Z):=by simp
  rw[hL];have e1:idx (A.length:Int) (A++x::(seg++Z)).length=true:=xX (by simp);have e2:idx (A.length:Int) (A++(x+1)::(seg++Z)).length=true:=xX (by simp);have IH:=fun m=>ih (A++[x+1]) Z m fu (by simp; omega) (by simp; omega) (fun y hy=>hb y (by simp[hy])) (by omega)
  simp only[List.length_append,List.length_cons,List.length_nil,Nat.zero_add] at IH;have hA:A++[x+1]++seg++Z=A++(x+1)::(seg++Z):=by simp
  have hA2:A++[x+1]++seg.map (fun x=>x+1)++Z=A++(x::seg).map (fun x=>x+1)++Z:=by simp
  simp only[hA,hA2] at IH;simp only[zm.l15,zm.l15.body,decide_eq_true (show ((A.length:Int)<=i) by omega),cond_true,e1,Int.toNat_natCast,zfS,zY (n:=x+1) (by omega) (by omega),set_at,e2,zY (n:=(A.length:Int)+1) (by omega) (by omega)];rw[<-vj,IH,IH];have hm:ZE most ((x::seg).map (fun x=>x+1))=ZE (if x+1>most then x+1 else most) (seg.map (fun x=>x+1)):=rfl;rw[hm];by_cases hgt:x+1>most
  ·rw[decide_eq_true hgt,if_pos hgt]; rfl
  ·rw[decide_eq_false hgt,if_neg hgt]; rfl
theorem zdM (F:Nat) {R:Type} (k:yr.T->List Int->Option R) (p:yr.T) (hL:p.2.2.2.length<=2048):∀(m i fu:Nat),i+m=p.2.2.2.length->m<fu->
  zm.l6 F (fun _ _ p wT=>k p wT) fu (i:Int) p (List.replicate i 0)=k p (List.replicate p.2.2.2.length 0):=by
 intro m;induction m with
 | zero =>
  intro i fu hi hf;obtain ⟨fu,rfl⟩:∃j,fu=j+1:=⟨fu-1,by omega⟩;simp only[zm.l6,zm.l6.body,decide_eq_false (show ¬((i:Int)<(p.2.2.2.length:Int)) by omega),cond_false];rw[show i=p.2.2.2.length by omega]
 | succ m ih =>
  intro i fu hi hf;obtain ⟨fu,rfl⟩:∃j,fu=j+1:=⟨fu-1,by omega⟩;simp only[zm.l6,zm.l6.body,decide_eq_true (show ((i:Int)<(p.2.2.2.length:Int)) by omega),cond_true];rw[uV (by simp; omega),zY (by omega) (by omega),<-vj];simp only[cond_true];rw[<-List.replicate_succ'];exact ih (i+1) fu (by omega) (by omega)
theorem zbD (F:Nat) (hF:4096<F) {R:Type} (dims:Nat) (k:Int->Option R) (p:yr.T) (hL:p.2.2.2.length<=1024):∀(xs:List zx.T) (st:List Tree) (fu:Nat),p.2.2.2=yn st++xs->okS dims st xs->(∀t∈st,TG t)->xs.length<fu->
  zm.l11 F (fun most _ _ _ _=>k most) fu (ZE 0 (u6 st)) ((yn st).length:Int) p (u6 st++List.replicate xs.length 0)=k (ZE 0 (u6 (Zs st xs))):=by
 intro xs;induction xs with
 | nil =>
  intro st fu h ho hT hf;obtain ⟨fu,rfl⟩:∃j,fu=j+1:=⟨fu-1,by simp at hf; omega⟩;have:p.2.2.2.length=(yn st).length:=by rw[h]; simp
  simp only[zm.l11,zm.l11.body,decide_eq_false (show ¬(((yn st).length:Int)<(p.2.2.2.length:Int)) by omega),cond_false,Zs]
 | cons n xs ih =>
  intro st fu h ho hT hf;obtain ⟨fu,rfl⟩:∃j,fu=j+1:=⟨fu-1,by simp at hf; omega⟩;have hlen:p.2.2.2.length=(yn st).length+(xs.length+1):=by rw[h]; simp
  have hTt:=zcB hT ho.1;have hfi:=Qy F hF hTt h (by omega);have hfs:=uR st n;have hfl:=congrArg List.length hfs;simp only[List.length_append,List.length_cons,List.length_nil] at hfl;have hts:=Y9 (st:=st) (n:=n);have IH:=ih (uo st n) fu (by rw[hfs,h]; simp) ho.2 (zai hT ho.1) (by simp at hf; omega);rw[hfl,show (((yn st).length+(0+1):Nat):Int)=((yn st).length:Int)+1 by omega] at IH;obtain ⟨e1,e2⟩:=Rf h rfl;have hst:u6 st=u6 (st.take (st.length-ar n))++u6 (st.drop (st.length-ar n)):=by rw[<-Qr,List.take_append_drop]
  have hstep:u6 (uo st n)=u6 (st.take (st.length-ar n))++(u6 (st.drop (st.length-ar n))++[0]).map (fun x=>x+Wd n):=by
   unfold uo ve;rw[Qr,Qp,TX]
  simp only[zm.l11,zm.l11.body,decide_eq_true (show (((yn st).length:Int)<(p.2.2.2.length:Int)) by omega),cond_true,e1,Int.toNat_natCast,e2];rw[show (n.1 != 15)=!(nK n==15) from rfl,zY (n:=((yn st).length:Int)+1) (by omega) (by omega)];have hend:Zs st (n::xs)=Zs (uo st n) xs:=rfl;rw[hend];have hb0:∀x∈u6 (st.drop (st.length-ar n))++[0],0<=x/\x<=50000:=by
   intro x hx;rcases List.mem_append.1 hx with hx | hx
   ·have h1:=zgg x hx
    have:(yn (st.drop (st.length-ar n))).length<=(yn st).length:=by
     have e:=congrArg List.length (tc (st.take (st.length-ar n)) (st.drop (st.length-ar n)));rw[List.take_append_drop,List.length_append] at e;omega
    omega
   ·rw[List.mem_singleton.1 hx]; omega
  cases h15:(nK n==15) with
  | false =>
   have ho0:Wd n=0:=by unfold Wd; rw[h15]; rfl
   rw[ho0] at hstep;have hmap:(u6 (st.drop (st.length-ar n))++[0]).map (fun x:Int=>x+0)=u6 (st.drop (st.length-ar n))++[0]:=by simp
   rw[hmap,<-List.append_assoc,<-hst] at hstep;have hm:ZE 0 (u6 st++[0])=ZE 0 (u6 st):=by
    rw[zfA];have:=(V3 (u6 st) 0).1;show (if (0:Int)>ZE 0 (u6 st) then 0 else ZE 0 (u6 st))=_;rw[if_neg (by omega)]
   rw[hstep,hm,List.append_assoc] at IH;simp only[Bool.not_false,cond_true];exact IH
  | true =>
   have ho1:Wd n=1:=by unfold Wd; rw[h15]; rfl
   rw[ho1] at hstep;simp only[Bool.not_true,cond_false];rw[hfi];simp only[zg];have hcl:=Qq (st.take (st.length-ar n));have hcl2:=Qq (st.drop (st.length-ar n));have hfd:(yn (st.take (st.length-ar n))).length+(yn (st.drop (st.length-ar n))).length=(yn st).length:=by
    have e:=congrArg List.length (tc (st.take (st.length-ar n)) (st.drop (st.length-ar n)));rw[List.take_append_drop,List.length_append] at e;omega
   have e15:=zbC F (fun most4 i4 p4 deep4=>zm.l11 F (fun most _ _ _ _=>k most) fu most4 (i64.wrap (i4+1)) p4 deep4) p ((yn st).length:Int) (u6 (st.drop (st.length-ar n))++[0]) (u6 (st.take (st.length-ar n))) (List.replicate xs.length 0) (ZE 0 (u6 st)) F
    (by simp; omega) (by simp; omega) hb0 (by simp; omega)
   rw[hcl] at e15;have hdeep:u6 st++List.replicate (n::xs).length 0=u6 (st.take (st.length-ar n))++(u6 (st.drop (st.length-ar n))++[0])++List.replicate xs.length 0:=by
    rw[hst,List.length_cons,List.replicate_succ]; simp
   rw[hdeep];refine e15.trans ?_;rw[zY (n:=((yn st).length:Int)+1) (by omega) (by omega)];rw[hstep] at IH;have hmm:ZE (ZE 0 (u6 st)) ((u6 (st.drop (st.length-ar n))++[0]).map (fun x=>x+1))=ZE 0 (u6 (st.take (st.length-ar n))++(u6 (st.drop (st.length-ar n))++[0]).map (fun x=>x+1)):=by
    refine zfG fun b=>?_
    rw[Wh,Wh,Wh,hst];constructor
    ·rintro ⟨⟨h1,h2⟩,h3⟩
     refine ⟨h1,fun x hx=>?_⟩;rcases List.mem_append.1 hx with hx | hx
     ·exact h2 x (List.mem_append.2 (.inl hx))
     ·exact h3 x hx
    ·rintro ⟨h1,h2⟩
     refine ⟨⟨h1,fun x hx=>?_⟩,fun x hx=>h2 x (List.mem_append.2 (.inr hx))⟩;rcases List.mem_append.1 hx with hx | hx
     ·exact h2 x (List.mem_append.2 (.inl hx))
     ·have:=h2 (x+1) (List.mem_append.2 (.inr (List.mem_map.2 ⟨x,List.mem_append.2 (.inl hx),rfl⟩)))
      omega
   rw[hmm];exact IH
theorem UB (F:Nat) (hF:4096<F) {p:yr.T} {t:Tree} (h:Good p t):zm.sh F p=some ((wT t,0,()),()):=by
 unfold zm.sh;rw[WK F (by omega),h.check];simp only[zg,bne_self_eq_false,cond_false];have hl:=h.len;have e6:=zdM F (fun p2 deep2=>zm.l11 F (fun most5 i5 t335 p5 deep5=>(some ((most5,0,()),()):Option zm.sg.R)) F 0 0 p2 deep2) p (by omega) p.2.2.2.length 0 F (by omega) (by omega);rw[show ((0:Nat):Int)=0 from rfl,List.replicate_zero] at e6;rw[e6];have e:=zbD F hF p.2.1.length (fun most5=>(some ((most5,0,()),()):Option zm.sg.R)) p hl p.2.2.2 [] F (by simp[yn]) h.ok (by simp) (by omega);rw[h.eq,Qp,zeq] at e;exact e
theorem zaA (F:Nat) {R:Type} (k:Int->Option R) (k1:List Int->Option R) (L:List Int) (a:Int) (hL:1<=L.length) (ha:get (.int .i64) L 0=a):∀(xs:List Int) (i:Int),
  zz.l2.rg F k (fun l _ _=>k1 l) L xs i=bif xs.all (fun x=>x==a) then k1 L else k (-1)
 | [],i=>rfl
 | x::r,i=>by
  rw[zz.l2.rg,zaA F k k1 L a hL ha r,YK hL,ha];simp only[cond_true,List.all_cons];cases hx:(x==a) with
  | true=>simp only[bne,hx,Bool.not_true,cond_false,Bool.true_and]
  | false=>simp only[bne,hx,Bool.not_false,cond_true,Bool.false_and,cond_false]
theorem zaB (F:Nat) (hF:64<F) {l:List Int} (h:1<=l.length) (hl:l.length<=32):zz.sh F l=some ((Y2 l,()),()):=by
 unfold zz.sh;have e1:=fun k0 k1=>zz.l2.rg_eq (R:=zz.sg.R) F k0 k1 l (by omega) (l.drop 1) 1 F rfl (by simp; omega)
 rw[show ((1:Nat):Int)=1 from rfl] at e1;rw[e1,zaA F (fun r21=>(some ((r21,()),()):Option zz.sg.R)) (fun l2=>bif idx 0 l2.length then some ((get (.int .i64) l2 0,()),()) else none) l (get (.int .i64) l 0) h rfl];rw[YK h];cases l with
 | nil=>simp at h
 | cons a r =>
  show (bif r.all (fun x=>x==a) then _ else _)=some ((bif r.all (fun x=>x==a) then a else -1,()),());cases r.all (fun x=>x==a)<;>rfl
theorem zaC (F:Nat) (a b:Int):xh.sh F a b=some ((U9 a b,()),()):=by
 unfold xh.sh zB.sh U9 qH;simp only[zg];cases (a==0) with
 | true=>rfl
 | false =>
  cases (b==0) with
  | true=>rfl
  | false=>cases decide (a>=2)<;>cases decide (b>=2)<;>cases (a==1)<;>cases (b==1)<;>rfl
theorem zdI (F:Nat) (hF:64<F) {dims:Nat} (hd:dims<=4) {n:zx.T} {pile:Nat} (h:tm dims n pile=0) {l:List Int} (hl:l.length=ar n):yv.sh F n l=some ((tyN n l,()),()):=by
 obtain ⟨g1,g2,g3,g4,g5,g6,g7,g8⟩:=uh h;have ha:=W7 g1 g4;have same:∀k:Int,nK n=k->1<=l.length->(oB (zz.sh F l) fun c_1=>(some ((c_1.1.1,()),()):Option yv.sg.R))=some ((Y2 l,()),()):=fun k _ h1=>by
  rw[zaB F hF h1 (by omega)]; rfl
 have cnt:∀x:Int,zB.sh F x=some ((qH x,()),()):=fun x=>rfl
 have i0:1<=l.length->idx 0 l.length=true:=fun h=>YK h
 have kids:∀k:Int,nK n=k->(k=9\/k=10)->2<=ar n:=fun k h hk=>by
  have g4:=g4;rw[XG h] at g4;have g4:(decide (nC n>=2)&&decide (nC n<=16))=true:=by rcases hk with rfl | rfl<;>exact g4
  simp at g4;have:ar n=(nC n).toNat:=by rw[vq h]; rcases hk with rfl | rfl<;>rfl
  omega
 have hsame:∀k:Int,nK n=k->(k=5\/k=6\/k=7\/k=9\/k=10)->yv.sh F n l=some ((tyN n l,()),()):=fun k h hk=>by
  have h1:1<=l.length:=by
   rcases hk with rfl | rfl | rfl | rfl | rfl
   ·rw[hl,vq h]; first | exact (show (1:Nat)<=1 by decide) | exact (show (1:Nat)<=2 by decide) | exact (show (1:Nat)<=3 by decide)
   ·rw[hl,vq h]; first | exact (show (1:Nat)<=1 by decide) | exact (show (1:Nat)<=2 by decide) | exact (show (1:Nat)<=3 by decide)
   ·rw[hl,vq h]; first | exact (show (1:Nat)<=1 by decide) | exact (show (1:Nat)<=2 by decide) | exact (show (1:Nat)<=3 by decide)
   ·have:=kids 9 h (.inl rfl); omega
   ·have:=kids 10 h (.inr rfl); omega
  refine Eq.trans ?_ ((same k h h1).trans ?_)
  ·unfold yv.sh
   rw[show n.1=k from h];rcases hk with rfl | rfl | rfl | rfl | rfl<;>rfl
  ·unfold tyN
   rw[h];rcases hk with rfl | rfl | rfl | rfl | rfl<;>rfl
 rcases qP g1 with h | h | h | h | h | h | h | h | h | h | h | h | h | h | h | h
 ·unfold yv.sh tyN; rw[h,show n.1=_ from h]; rfl
 ·unfold yv.sh tyN; rw[h,show n.1=_ from h]; rfl
 ·rw[Zm h] at g3
  have g3:nN n<=(dims:Int)-1:=g3;unfold yv.sh tyN;rw[h,show n.1=_ from h,zY (n:=2*nN n) (by omega) (by omega),zY (n:=2+2*nN n) (by omega) (by omega)];rfl
 ·rw[Zm h] at g3
  have g3:nN n<=(dims:Int)-1:=g3;unfold yv.sh tyN;rw[h,show n.1=_ from h,zY (n:=2*nN n) (by omega) (by omega),zY (n:=3+2*nN n) (by omega) (by omega)];rfl
 ·exact hsame 5 h (by decide)
 ·exact hsame 6 h (by decide)
 ·exact hsame 7 h (by decide)
 ·have e:ar n=2:=by rw[vq h]; rfl
  refine Eq.trans (b:=bif idx 0 l.length then bif idx 1 l.length then oB (xh.sh F (get (.int .i64) l 0) (get (.int .i64) l 1)) fun c_2=>(some ((c_2.1.1,()),()):Option yv.sg.R) else none else none) ?_ ?_
  ·unfold yv.sh; rw[show n.1=_ from h]; rfl
  ·rw[YK (by omega),idx1 (by omega),zaC]
   unfold tyN; rw[h]; rfl
 ·exact hsame 9 h (by decide)
 ·exact hsame 10 h (by decide)
 all_goals
  have e1:1<=l.length:=by rw[hl,vq h]; first | exact (show (1:Nat)<=1 by decide) | exact (show (1:Nat)<=2 by decide) | exact (show (1:Nat)<=3 by decide)
  have e2:=YK e1
 ·refine Eq.trans (b:=bif idx 0 l.length then oB (zB.sh F (get (.int .i64) l 0)) fun c_3=>bif c_3.1.1 then bif idx 0 l.length then (some ((get (.int .i64) l 0,()),()):Option yv.sg.R) else none else some (((-1),()),()) else none) ?_ ?_
  ·unfold yv.sh; rw[show n.1=_ from h]; rfl
  ·rw[e2,cnt]
   unfold tyN; rw[h];show (bif qH (l.getD 0 0) then some ((l.getD 0 0,()),()) else some (((-1),()),()))=some ((bif qH (l.getD 0 0) then l.getD 0 0 else -1,()),());cases qH (l.getD 0 0)<;>rfl
 ·refine Eq.trans (b:=bif idx 0 l.length then oB (zB.sh F (get (.int .i64) l 0)) fun c_3=>bif c_3.1.1 then bif idx 0 l.length then (some ((get (.int .i64) l 0,()),()):Option yv.sg.R) else none else some (((-1),()),()) else none) ?_ ?_
  ·unfold yv.sh; rw[show n.1=_ from h]; rfl
  ·rw[e2,cnt]
   unfold tyN; rw[h];show (bif qH (l.getD 0 0) then some ((l.getD 0 0,()),()) else some (((-1),()),()))=some ((bif qH (l.getD 0 0) then l.getD 0 0 else -1,()),());cases qH (l.getD 0 0)<;>rfl
 ·refine Eq.trans (b:=bif idx 0 l.length then oB (zB.sh F (get (.int .i64) l 0)) fun c_3=>bif c_3.1.1 then (some ((1,()),()):Option yv.sg.R) else some (((-1),()),()) else none) ?_ ?_
  ·unfold yv.sh; rw[show n.1=_ from h]; rfl
  ·rw[e2,cnt]
   unfold tyN; rw[h];show (bif qH (l.getD 0 0) then some ((1,()),()) else some (((-1),()),()))=some ((bif qH (l.getD 0 0) then 1 else -1,()),());cases qH (l.getD 0 0)<;>rfl
 ·refine Eq.trans (b:=bif idx 0 l.length then oB (zB.sh F (get (.int .i64) l 0)) fun c_3=>bif c_3.1.1 then (some ((1,()),()):Option yv.sg.R) else some (((-1),()),()) else none) ?_ ?_
  ·unfold yv.sh; rw[show n.1=_ from h]; rfl
  ·rw[e2,cnt]
   unfold tyN; rw[h];show (bif qH (l.getD 0 0) then some ((1,()),()) else some (((-1),()),()))=some ((bif qH (l.getD 0 0) then 1 else -1,()),());cases qH (l.getD 0 0)<;>rfl
 ·refine Eq.trans (b:=bif idx 0 l.length then bif ((get (.int .i64) l 0)==1) then bif idx 0 l.length then (some ((get (.int .i64) l 0,()),()):Option yv.sg.R) else none else some (((-1),()),()) else none) ?_ ?_
  ·unfold yv.sh; rw[show n.1=_ from h]; rfl
  ·rw[e2]
   unfold tyN; rw[h];show (bif (l.getD 0 0==1) then some ((l.getD 0 0,()),()) else some (((-1),()),()))=some ((bif l.getD 0 0==1 then 1 else -1,()),());cases hh:(l.getD 0 0==1) with
   | true=>rw[beq_iff_eq] at hh; rw[hh]; rfl
   | false=>rfl
 ·have e3:ar n=3:=by rw[vq h]; rfl
  refine Eq.trans (b:=bif idx 0 l.length then oB (zB.sh F (get (.int .i64) l 0)) fun c_3=>bif c_3.1.1 then bif (zI l.length (some 1) none).1 then oB (zz.sh F ((l.take (zI l.length (some 1) none).2.2).drop (zI l.length (some 1) none).2.1)) fun c_6=>(some ((c_6.1.1,()),()):Option yv.sg.R) else none else some (((-1),()),()) else none) ?_ ?_
  ·unfold yv.sh; rw[show n.1=_ from h]; rfl
  ·have hb:=Za (n:=l.length) (i:=1) (by omega)
   rw[show ((1:Nat):Int)=1 from rfl] at hb;rw[e2,cnt,hb];simp only[List.take_length];rw[zaB F hF (l:=l.drop 1) (by simp; omega) (by simp; omega)];unfold tyN; rw[h];show (bif qH (l.getD 0 0) then some ((Y2 (l.drop 1),()),()) else some (((-1),()),()))=some ((bif qH (l.getD 0 0) then Y2 (l.drop 1) else -1,()),());cases qH (l.getD 0 0)<;>rfl
def Xj:Nat->List Tree->List Int
 | _,[]=>[]
 | b,t::r=>((b+t.size-1:Nat):Int)::Xj (b+t.size) r
theorem Qc:∀(a c:List Tree) (b:Nat),Xj b (a++c)=Xj b a++Xj (b+(yn a).length) c
 | [],c,b=>by simp[Xj,yn]
 | t::r,c,b=>by
  simp only[List.cons_append,Xj,Qc r c,ZW,List.length_append];rw[show b+t.size+(yn r).length=b+(t.flat.length+(yn r).length) by unfold Tree.size; omega]
theorem WD (l:List Tree):(tv l).length=(yn l).length:=by
 simp only[tv,yn,List.length_flatten,List.map_map];congr 1
 exact List.map_congr_left (fun k _=>Wa k)
theorem V8 {t:Ty} (f:Tree->t.T) (B C:List Tree) (x:Tree) (rest:List t.T):get t ((tv (B++x::C)).map f++rest) ((yn B).length+x.size-1)=f x:=by
 obtain ⟨l,hl⟩:=Rz x;have h1:=WD B;have h2:=Wa x;rw[hl] at h2;have e:tv (B++x::C)=tv B++l++x::tv C:=by
  rw[WE,show x::C=[x]++C from rfl,WE,Xa,hl]; simp
 unfold get;rw[e,List.getD_eq_getElem?_getD,List.map_append,List.map_cons,List.append_assoc];rw[List.getElem?_append_right (by simp only[List.length_map,List.length_append]; unfold Tree.size; simp at h2; omega)];have:(yn B).length+x.size-1-((tv B++l).map f).length=0:=by
  simp only[List.length_map,List.length_append]; unfold Tree.size; simp at h2; omega
 rw[this]; rfl
theorem zbA (F:Nat) (hF:4096<F) {R:Type} (K:List Bool->Int->List Int->yr.T->List Int->List Int->Option R) (p:yr.T) (fix:List Bool) (i:Int) (B:List Tree) (out:List Int):∀(m:Nat) (ks done:List Tree) (post:List zx.T) (wh:List Int) (fu:Nat),ks.length=m->(∀t∈ks,TG t)->p.2.2.2=yn (B++ks++done)++post->
  out=(tv (B++ks++done)).map ty->(yn (B++ks++done)).length<=2048->done.length<=2048->wh.length<=2048->ks.length<fu->ks.length+wh.length<=2048->ks.length+done.length<=2048->
  zn.l13 F (fun fix i kids _ _ _ p out wh=>K fix i kids p out wh) fu fix i (done.map ty) (((yn (B++ks)).length:Int)-1) (ks.length:Int) p out wh=K fix i (ks.map ty++done.map ty) p out (wh++(Xj (yn B).length ks).reverse):=by
 intro m;induction m with
 | zero =>
  intro ks done post wh fu hm hT h ho hl hdl hwl hf _ _;obtain rfl:=List.eq_nil_of_length_eq_zero hm;obtain ⟨fu,rfl⟩:∃j,fu=j+1:=⟨fu-1,by simp at hf; omega⟩;simp[zn.l13,zn.l13.body,Xj]
 | succ m ih =>
  intro ks done post wh fu hm hT h ho hl hdl hwl hf hkw hkd;obtain ⟨fu,rfl⟩:∃j,fu=j+1:=⟨fu-1,by omega⟩;rcases List.eq_nil_or_concat ks with rfl | ⟨init,last,hks⟩
  ·simp at hm
  ·rw[List.concat_eq_append] at hks
   subst hks;simp only[List.length_append,List.length_cons,List.length_nil] at hm hf hkw hkd;have hfl:yn (B++(init++[last]))=yn (B++init)++last.flat:=by rw[<-List.append_assoc,tc,qN]
   have hsz:(yn (B++(init++[last]))).length=(yn (B++init)).length+last.size:=by rw[hfl,List.length_append]; rfl
   have hpos:=ZI last;have hre:B++(init++[last])++done=(B++init)++last::done:=by simp
   have hre2:B++(init++[last])++done=B++init++([last]++done):=by simp
   rw[hre] at ho;have hfd:(yn (B++(init++[last])++done)).length=(yn (B++init)).length+last.size+(yn done).length:=by
    rw[tc,List.length_append,hsz]
   have hol:out.length=(yn (B++(init++[last])++done)).length:=by rw[ho,List.length_map,WD,hre]
   have epl:((yn (B++(init++[last]))).length:Int)-1=(((yn (B++init)).length+last.size-1:Nat):Int):=by omega
   have e1:idx (((yn (B++init)).length+last.size-1:Nat):Int) out.length=true:=xX (by omega);have e2:get (.int .i64) out ((yn (B++init)).length+last.size-1)=ty last:=by
    have:=V8 (t:=.int .i64) ty (B++init) done last [];rw[List.append_nil] at this;rw[ho]; exact this
   have efirst:=zbo F hF (hT last (by simp)) (p:=p) (a:=yn (B++init)) (post:=yn done++post) (by
    rw[h,hre,show last::done=[last]++done from rfl]; simp only[tc,qN]; simp) (by omega)
   rw[show ((yn (B++init)).length:Int)+(last.size:Int)-1=(((yn (B++init)).length+last.size-1:Nat):Int) by omega] at efirst;have IH:=ih init ([last]++done) post (wh++[(((yn (B++init)).length+last.size-1:Nat):Int)]) fu (by omega) (fun t ht=>hT t (by simp[ht])) (by rw[h,hre2]) (by rw[ho,<-hre,hre2]) (by rw[<-hre2]; exact hl) (by simp; omega) (by simp; omega) (by omega) (by simp; omega) (by simp; omega);simp only[zn.l13,zn.l13.body,List.length_append,List.length_cons,List.length_nil,decide_eq_true (show (((init.length+(0+1):Nat)):Int)>0 by omega),cond_true,epl,e1,Int.toNat_natCast,e2];rw[uV (show 0+1+(done.map ty).length<=4194304 by simp; omega),uV (show wh.length+(0+1)<=4194304 by omega),efirst];simp only[cond_true,zg];rw[zY (n:=((yn (B++init)).length:Int)-1) (by omega) (by omega),zY (n:=(((init.length+(0+1):Nat)):Int)-1) (by omega) (by omega),show (((init.length+(0+1):Nat)):Int)-1=(init.length:Int) by omega];rw[show ([ty last]:List Int)++done.map ty=([last]++done).map ty from rfl];refine IH.trans ?_;rw[Qc];simp only[Xj,List.reverse_append,List.reverse_cons,List.reverse_nil,List.nil_append,List.map_append,List.map_cons,List.map_nil,List.append_assoc,List.singleton_append];rw[tc,List.length_append]
theorem zdH (F:Nat) (hF:4096<F) {R:Type} {dims:Nat} (hd:dims<=4) (kE:List Int->Int->Int->Option R) (kO:List Int->Option R) (p:yr.T) (hL:p.2.2.2.length<=1024) (fix:List Bool):∀(xs:List zx.T) (st:List Tree) (rest:List Bool) (fu:Nat),p.2.2.2=yn st++xs->okS dims st xs->(∀t∈st,TG t)->fix=(tv st).map noQ++rest->rest.length=xs.length->rest=(uC st xs).map noQ->xs.length<fu->
  zn.l7 F kE kE (fun _ _ _ _ out=>kO out) fu fix ((yn st).length:Int) p ((tv st).map ty) =
   match ud tyE (uC st xs) (yn st).length with
   | some (j,e)=>kE [] (j:Int) e
   | none=>kO ((tv (Zs st xs)).map ty):=by
 intro xs;induction xs with
 | nil =>
  intro st rest fu h ho hT hfix hrl hre hf;obtain ⟨fu,rfl⟩:∃j,fu=j+1:=⟨fu-1,by simp at hf; omega⟩;have:p.2.2.2.length=(yn st).length:=by rw[h]; simp
  simp only[zn.l7,zn.l7.body,decide_eq_false (show ¬(((yn st).length:Int)<(p.2.2.2.length:Int)) by omega),cond_false,uC,ud,Zs]
 | cons n xs ih =>
  intro st rest fu h ho hT hfix hrl hre hf;obtain ⟨fu,rfl⟩:∃j,fu=j+1:=⟨fu-1,by simp at hf; omega⟩;have hlen:p.2.2.2.length=(yn st).length+(xs.length+1):=by rw[h]; simp
  obtain ⟨g1,g2,g3,g4,g5,g6,g7,g8⟩:=uh ho.1;have ha:=W7 g1 g4;have hst:=qL st;have hfs:=uR st n;have hfl:=congrArg List.length hfs;simp only[List.length_append,List.length_cons,List.length_nil] at hfl;have hsub:=T9 st n;have hnews:uC st (n::xs)=ve st n::uC (uo st n) xs:=rfl;rw[hnews] at hre;cases rest with
  | nil=>simp at hrl
  | cons r0 rest =>
  simp only[List.map_cons,List.cons.injEq] at hre;obtain ⟨hr0,hre⟩:=hre;subst hr0;have IH:=ih (uo st n) rest fu (by rw[hfs,h]; simp) ho.2 (zai hT ho.1) (by rw[hfix,hsub]; simp) (by simp at hrl; omega) hre (by simp at hf; omega);rw[hfl,show (((yn st).length+(0+1):Nat):Int)=((yn st).length:Int)+1 by omega,hsub] at IH;obtain ⟨e1,e2⟩:=Rf h rfl;have htd:st.take (st.length-ar n)++st.drop (st.length-ar n)=st:=List.take_append_drop _ _;have hkl:(st.drop (st.length-ar n)).length=ar n:=by simp; omega
  have e13:=zbA F hF (fun fix5 i5 kids5 p5 out5 where_5=>bif idx i5 p5.2.2.2.length then oB (yv.sh F (get zx p5.2.2.2 i5.toNat) kids5) fun c_6 =>
    bif (c_6.1.1==(-1)) then kE ([]) i5 80
    else bif idx i5 p5.2.2.2.length then bif ((get zx p5.2.2.2 i5.toNat).1==8) then bif idx 0 where_5.length then bif idx (get (.int .i64) where_5 0) fix5.length then bif !(get .bool fix5 ((get (.int .i64) where_5 0).toNat)) then bif idx 1 where_5.length then bif idx (get (.int .i64) where_5 1) fix5.length then bif !(get .bool fix5 ((get (.int .i64) where_5 1).toNat)) then kE ([]) i5 81
           else bif Nat.ble (out5.length+([c_6.1.1]:List Int).length) vc then zn.l7 F kE kE (fun _ _ _ _ out=>kO out) fu fix5 (i64.wrap (i5+1)) p5 (out5++([c_6.1.1]:List Int))
           else none
          else none
         else none
        else bif Nat.ble (out5.length+([c_6.1.1]:List Int).length) vc then zn.l7 F kE kE (fun _ _ _ _ out=>kO out) fu fix5 (i64.wrap (i5+1)) p5 (out5++([c_6.1.1]:List Int))
        else none
       else none
      else none
     else bif Nat.ble (out5.length+([c_6.1.1]:List Int).length) vc then zn.l7 F kE kE (fun _ _ _ _ out=>kO out) fu fix5 (i64.wrap (i5+1)) p5 (out5++([c_6.1.1]:List Int))
     else none
    else none
   else none) p fix ((yn st).length:Int) (st.take (st.length-ar n)) ((tv st).map ty) (ar n) (st.drop (st.length-ar n)) [] (n::xs) [] F hkl (fun t ht=>hT t (List.mem_of_mem_drop ht)) (by rw[List.append_nil,htd]; exact h) (by rw[List.append_nil,htd]) (by rw[List.append_nil,htd]; omega) (by simp) (by simp) (by omega) (by simp; omega) (by simp; omega)
  rw[hkl,htd] at e13;have ht:=zdI F (by omega) hd ho.1 (l:=(st.drop (st.length-ar n)).map ty) (by simp; omega);have hty:tyN n ((st.drop (st.length-ar n)).map ty)=ty (ve st n):=by unfold ve; rw[Y6]
  rw[hty] at ht;have hE:tyE (ve st n)=bif ty (ve st n) == -1 then 80 else bif zaX n ((st.drop (st.length-ar n)).map noQ) then 81 else 0:=rfl
  have hol:((tv st).map ty).length=(yn st).length:=by rw[List.length_map,WD]
  have hble:∀y,Nat.ble (((tv st).map ty).length+([y]:List Int).length) vc=true:=fun y=>uV (by rw[hol]; simp; omega)
  simp only[zn.l7,zn.l7.body,decide_eq_true (show (((yn st).length:Int)<(p.2.2.2.length:Int)) by omega),cond_true,e1,Int.toNat_natCast,e2];rw[Xb F g1 g4,zY (n:=((yn st).length:Int)-1) (by omega) (by omega)];simp only[zg];refine e13.trans ?_;simp only[List.nil_append,List.map_nil,List.append_nil,e1,e2,cond_true,Int.toNat_natCast];rw[ht];simp only[zg,hble,cond_true,zY (n:=((yn st).length:Int)+1) (show -9223372036854775808<=((yn st).length:Int)+1 by omega) (by omega),hnews,ud,hE];have hgo:zn.l7 F kE kE (fun _ _ _ _ out=>kO out) fu fix (((yn st).length:Int)+1) p ((tv st).map ty++[ty (ve st n)])=match ud tyE (uC (uo st n) xs) ((yn st).length+1) with
   | some (j,e)=>kE [] (j:Int) e
   | none=>kO ((tv (Zs st (n::xs))).map ty):=by
   have:=IH;rw[List.map_append] at this;exact this
  cases hn:(ty (ve st n) == -1) with
  | true=>rfl
  | false =>
   simp only[cond_false];rw[show (n.1==8)=(nK n==8) from rfl];unfold zaX;cases h8:(nK n==8) with
   | false=>exact hgo
   | true =>
    have ha2:ar n=2:=by rw[vq (by simpa using h8)]; rfl
    rw[ha2] at hkl htd ⊢;cases hks:st.drop (st.length-2) with
    | nil=>rw[hks] at hkl; simp at hkl
    | cons k0 l1 =>
    cases l1 with
    | nil=>rw[hks] at hkl; simp at hkl
    | cons k1 l2 =>
    cases l2 with
    | cons k2 l3=>rw[hks] at hkl; simp at hkl
    | nil =>
     rw[hks] at htd;generalize st.take (st.length-2)=B at*;have hp0:=ZI k0;have hp1:=ZI k1;have hfB:(yn st).length=(yn B).length+k0.size+k1.size:=by
      rw[<-htd,tc,ZW,qN]; simp[Tree.size]; omega
     have hfxl:fix.length=(yn st).length+(xs.length+1):=by
      rw[hfix]; simp only[List.length_append,List.length_map,WD,List.length_cons]; simp at hrl; omega
     have w0:get (.int .i64) ((Xj (yn B).length [k0,k1]).reverse) 0=(((yn B).length+k0.size+k1.size-1:Nat):Int):=rfl;have w1:get (.int .i64) ((Xj (yn B).length [k0,k1]).reverse) 1=(((yn B).length+k0.size-1:Nat):Int):=rfl;have f0:get .bool fix ((yn B).length+k0.size+k1.size-1)=noQ k1:=by
      have:=V8 (t:=.bool) noQ (B++[k0]) [] k1 (noQ (ve st n)::rest);rw[show B++[k0]++[k1]=st by rw[<-htd]; simp] at this;rw[show (yn (B++[k0])).length=(yn B).length+k0.size by rw[tc,qN]; simp[Tree.size]] at this;rw[hfix]; exact this
     have f1:get .bool fix ((yn B).length+k0.size-1)=noQ k0:=by
      have:=V8 (t:=.bool) noQ B [k1] k0 (noQ (ve st n)::rest);rw[htd] at this;rw[hfix]; exact this
     have i0:idx 0 (Xj (yn B).length [k0,k1]).reverse.length=true:=rfl;have i1:idx 1 (Xj (yn B).length [k0,k1]).reverse.length=true:=rfl;have i2:idx (((yn B).length+k0.size+k1.size-1:Nat):Int) fix.length=true:=xX (by omega);have i3:idx (((yn B).length+k0.size-1:Nat):Int) fix.length=true:=xX (by omega);simp only[i0,i1,w0,w1,i2,i3,Int.toNat_natCast,f0,f1,cond_true,List.map_cons,List.map_nil,Bool.true_and];rw[show ([noQ k0,noQ k1]:List Bool).getD 0 false=noQ k0 from rfl,show ([noQ k0,noQ k1]:List Bool).getD 1 false=noQ k1 from rfl];cases noQ k1 with
     | true=>cases noQ k0<;>exact hgo
     | false =>
      cases noQ k0 with
      | true=>exact hgo
      | false=>rfl
theorem zdX (F:Nat) (hF:4096<F) {p:yr.T} {t:Tree} (h:Good p t):zn.sh F p=some (((qB t).1,(qB t).2.1,(qB t).2.2,()),()):=by
 unfold zn.sh;rw[WK F (by omega),h.check,QL F hF h];simp only[zg,bne_self_eq_false,cond_false];have hl:=h.len;have hn:t.subs.length=p.2.2.2.length:=by rw[Wa,h.flat]
 have hs:t.size=p.2.2.2.length:=by rw[Tree.size,h.flat]
 have hp:=ZI t;have e:=zdH F hF (qW h.head).2.1 (fun r27 r37 r47=>(some ((r27,r37,r47,()),()):Option zn.sg.R)) (fun out9=>zn.j24 F (fun r210 r310 r410=>some ((r210,r310,r410,()),())) (fun r211 r311 r411=>some ((r211,r311,r411,()),())) out9) p hl (t.subs.map noQ) p.2.2.2 [] (t.subs.map noQ) F (by simp[yn]) h.ok (by simp) (by simp[tv]) (by simpa using hn) (by rw[h.subs]) (by omega);rw[h.subs,h.eq,show (yn []).length=0 from rfl,show ((0:Nat):Int)=0 from rfl] at e;refine Eq.trans e ?_;unfold qB;cases ud tyE t.subs 0 with
 | some x=>rfl
 | none =>
  simp only[];unfold zn.j24;obtain ⟨l,hsl⟩:=Rz t;have hll:(t.subs.map ty).length=t.size:=by rw[List.length_map,hn,hs]
  rw[Xa,hll,zY (n:=(t.size:Int)-1) (by omega) (by omega),show (t.size:Int)-1=((t.size-1:Nat):Int) by omega,xX (by omega),Int.toNat_natCast];have hg:get (.int .i64) (t.subs.map ty) (t.size-1)=ty t:=by
   have:=V8 (t:=.int .i64) ty [] [] t [];rw[List.append_nil,List.nil_append,Xa,show (yn []).length=0 from rfl,Nat.zero_add] at this;exact this
  rw[hg];cases (ty t != 1)<;>rfl
theorem zbJ (F:Nat) (hF:4096<F) {p:yr.T} (h:(um p).2≠0):zn.sh F p=some (([],(um p).1,(um p).2,()),()):=by
 unfold zn.sh;rw[WK F (by omega)];simp only[zg];rw[show ((um p).2 != 0)=true by simpa using h];rfl
def NR (r:zj.T) (v:Int):Prop:=0<=v/\wfW r.1/\((r.2=true/\170141183460469231731687303715884105728<=v)\/(r=(mk v,false)/\v<170141183460469231731687303715884105728))
theorem NR.ok {v:Int} (h1:0<=v) (h2:v<170141183460469231731687303715884105728):NR (mk v,false) v:=⟨h1,wj (by rw[yR]; omega),.inr ⟨rfl,h2⟩⟩
theorem NR.of {v:Int} (h:0<=v):NR (ue v,vN v != 0) v:=by
 refine ⟨h,YL v,?_⟩;rcases WQ h with ⟨i,b⟩ | ⟨i,b⟩
 ·rw[(uB i).1,(uB i).2]; exact .inr ⟨rfl,b⟩
 ·exact .inl ⟨WJ i,b⟩
theorem Yx (F:Nat) {v:Int} (h1:-9223372036854775808<=v) (h2:v<9223372036854775808):yu.sh F v=some (((mk v,false),()),()):=by
 unfold yu.sh;rw[qO F h1 h2];rfl
theorem UK (F:Nat) (hF:20<F) {x y:Int} (h1:0<=x) (h2:x<170141183460469231731687303715884105728) {b:zj.T} (hb:NR b y) (hx:1<=x\/b.2=false):∃r,yU.sh F (mk x,false) b=some ((r,()),())/\NR r (x*y):=by
 obtain ⟨b1,b2,b3⟩:=hb;have hxy:=Int.mul_nonneg h1 b1;unfold yU.sh;rw[Z0 F hF (wj (by rw[yR]; omega)) b2];simp only[zg,cond_false];rcases b3 with ⟨c1,c2⟩ | ⟨rfl,c2⟩
 ·rw[c1]
  refine ⟨_,rfl,hxy,YL _,.inl ⟨rfl,?_⟩⟩;rcases hx with hx | hx
  ·have:=QY hx b1; omega
  ·rw[c1] at hx; cases hx
 ·simp only[xv,cond_false]
  exact ⟨_,rfl,NR.of hxy⟩
theorem We (F:Nat) (hF:20<F) {x y:Int} {a b:zj.T} (ha:NR a x) (hb:NR b y):∃r,yE.sh F a b=some ((r,()),())/\NR r (x+y):=by
 obtain ⟨a1,a2,a3⟩:=ha;obtain ⟨b1,b2,b3⟩:=hb;unfold yE.sh;rw[YN F hF a2 b2];simp only[zg];rcases a3 with ⟨c1,c2⟩ | ⟨rfl,c2⟩
 ·rw[c1]
  exact ⟨_,rfl,by omega,YL _,.inl ⟨rfl,by omega⟩⟩
 ·rcases b3 with ⟨d1,d2⟩ | ⟨rfl,d2⟩
  ·rw[d1]
   exact ⟨_,rfl,by omega,YL _,.inl ⟨rfl,by omega⟩⟩
  ·simp only[xv,cond_false]
   exact ⟨_,rfl,NR.of (by omega)⟩
theorem NR.small {r:zj.T} {v:Int} (h:NR r v) (hv:v<170141183460469231731687303715884105728):r=(mk v,false):=by
 rcases h.2.2 with ⟨_,h⟩ | ⟨h,_⟩
 ·omega
 ·exact h
theorem nfar_eq (F:Nat) {v:Int} (h1:-1000000000000<=v) (h2:v<=1000000000000):xK.sh F v=some ((tW v,()),()):=by
 unfold xK.sh tW;rw[zY (n:=0-v) (by omega) (by omega)];by_cases h:v<0
 ·rw[decide_eq_true h,if_pos (by omega)]; rfl
 ·rw[decide_eq_false h,if_neg (by omega)]; rfl
theorem UG (F:Nat) (hF:20<F) {R:Type} (k:List yp.T->Int->zj.T->zj.T->zj.T->Option R) (L:List yp.T) (unit x r6:zj.T) (hL:L.length<=16):∀(xs:List yp.T) (i:Nat) (rate w lo:Int),L.drop i=xs->-1<=lo->W0 lo xs->0<=w->w+xs.length*1000000000000000000000000<=20000000000000000000000000->
  zD.l4.rg F (fun l r _ _ unit x _ w=>k l r unit x w) L xs (i:Int) rate unit x r6 (mk w,false)=k L (qp rate xs) unit x (mk (w+tT xs),false)
 | [],i,rate,w,lo,h,hlo,hi,hw,hw2=>by simp only[zD.l4.rg,qp,tT,List.foldl_nil,Int.add_zero]
 | a::r,i,rate,w,lo,h,hlo,hi,hw,hw2=>by
  have ⟨a1,a2,a3,a4,a5⟩:=hi;have h0:=ug h;simp only[List.length_cons] at hw2;push_cast at hw2;have hf:=TU (v:=tR a) (by omega) (by omega);have hlen:=congrArg List.length h;simp only[List.length_drop,List.length_cons] at hlen;simp only[zD.l4.rg];rw[show xK.sh F a.2=_ from nfar_eq F (v:=tR a) (by omega) (by omega),zY (n:=(L.length:Int)-1) (by omega) (by omega),zY (n:=(i:Int)+1) (by omega) (by omega)];simp only[zg,cond_true];have hfin:∀(w':Int),(∀rt,zD.l4.rg F (fun l r _ _ unit x _ w=>k l r unit x w) L r ((i:Int)+1) rt unit x r6 (mk w',false)=k L (qp rt r) unit x (mk (w+tT (a::r)),false))->
    (bif decide (tW (tR a)>rate) then zD.l4.rg F (fun l r _ _ unit x _ w=>k l r unit x w) L r ((i:Int)+1) (tW (tR a)) unit x r6 (mk w',false) else zD.l4.rg F (fun l r _ _ unit x _ w=>k l r unit x w) L r ((i:Int)+1) rate unit x r6 (mk w',false)) =
     k L (qp rate (a::r)) unit x (mk (w+tT (a::r)),false):=by
   intro w' hh;rw[hh,hh,show qp rate (a::r)=qp (if tW (tR a)>rate then tW (tR a) else rate) r from rfl];by_cases hr:tW (tR a)>rate
   ·rw[decide_eq_true hr,if_pos hr]; rfl
   ·rw[decide_eq_false hr,if_neg hr]; rfl
  cases r with
  | nil =>
   simp only[List.length_nil] at hlen;rw[decide_eq_false (show ¬((i:Int)<(L.length:Int)-1) by omega)];simp only[cond_false];refine hfin w (fun rt=>?_);have:=UG F hF k L unit x r6 hL [] (i+1) rt w (tF a) (wX h) (by omega) trivial hw (by simp; omega);rw[vj] at this;exact this
  | cons b r =>
   simp only[List.length_cons] at hlen;rw[decide_eq_true (show ((i:Int)<(L.length:Int)-1) by omega)];obtain ⟨b1,b2,b3,b4,b5⟩:=a5;have hg:get yp L (Int.toNat ((i:Int)+1))=b:=by
    rw[<-vj]; exact uI (wX h)
   have hid:idx ((i:Int)+1) L.length=true:=UR (by omega) (by omega);have hp:=ZR hf.1 hf.2 (show 0<=tF b-tF a by omega) (show tF b-tF a<=1000000000000 by omega);rw[show (1000000000000:Int)*1000000000000=1000000000000000000000000 by decide] at hp;simp only[cond_true];rw[Yx F (v:=tW (tR a)) (by omega) (by omega),hid,hg,show i64.wrap (b.1-a.1)=tF b-tF a from zY (n:=tF b-tF a) (by omega) (by omega),Yx F (v:=tF b-tF a) (by omega) (by omega)];simp only[zg,cond_true];obtain ⟨r1,q1,q2⟩:=UK F hF (x:=tW (tR a)) (y:=tF b-tF a) (by omega) (by omega) (NR.ok (by omega) (by omega)) (.inr rfl);obtain rfl:=q2.small (by omega);rw[q1];simp only[zg];obtain ⟨r2,q3,q4⟩:=We F hF (NR.ok hw (by omega)) (NR.ok (v:=tW (tR a)*(tF b-tF a)) (by omega) (by omega));obtain rfl:=q4.small (by omega);rw[q3];simp only[zg];refine hfin _ (fun rt=>?_);have:=UG F hF k L unit x r6 hL (b::r) (i+1) rt (w+tW (tR a)*(tF b-tF a)) (tF a) (wX h) (by omega) ⟨b1,b2,b3,b4,b5⟩ (by omega) (by simp only[List.length_cons]; push_cast; simp only[List.length_cons] at hw2; push_cast at hw2; omega);rw[vj] at this;rw[this,Int.add_assoc];rfl
theorem RX (F:Nat) (hF:64<F) {u x:Int} (hu:1<=u) (hu2:u<=1000000000000000000000000) (hx:0<=x) (hx2:x<=BND) {l:List yp.T} (hl:Zq l=true) :
  ∃r,zD.sh F (mk u,false) (mk x,false) l=some ((r,()),())/\NR r (uX u x l):=by
 obtain ⟨l1,l2,l3⟩:=tN hl;have hBND:BND=1329227995784915872903807060280344576:=rfl;have hlast:=Zg l (-1) (by omega) l3;have hrate:=Sn l 0 (-1) (by omega) (by omega) l3;have hways:=ZH l (-1) (by omega) l3;unfold zD.sh;rw[Yx F (v:=0) (by omega) (by omega)];simp only[zg];have e1:=fun k0=>zD.l4.rg_eq (R:=zD.sg.R) F k0 l (by omega) l 0 F 0 (mk u,false) (mk x,false) ((0,0),false) (mk 0,false) (by simp) (by omega)
 have e2:=UG F (by omega) (fun l14 r14 unit14 x14 w14=>oB (yu.sh F r14) fun c_15 =>
 bif idx (i64.wrap ((l14.length:Int)-1)) l14.length then oB (yu.sh F (get yp l14 ((i64.wrap ((l14.length:Int)-1)).toNat)).1) fun c_16 =>
  oB (yE.sh F x14 c_16.1.1) fun c_17 =>
  oB (yU.sh F c_15.1.1 c_17.1.1) fun c_18 =>
  oB (yE.sh F c_18.1.1 w14) fun c_19 =>
  oB (yU.sh F unit14 c_19.1.1) fun c_20 =>
  (some ((c_20.1.1,()),()):Option zD.sg.R)
 else none) l (mk u,false) (mk x,false) ((0,0),false) l2 l 0 0 0 (-1) (by simp) (by omega) l3 (by omega) (by omega)
 rw[show ((0:Nat):Int)=0 from rfl] at e1 e2;rw[e1,e2];rw[Yx F (v:=qp 0 l) (by omega) (by omega),zY (n:=(l.length:Int)-1) (by omega) (by omega),show ((l.length:Int)-1)=((l.length-1:Nat):Int) by omega,xX (by omega),Int.toNat_natCast,show (get yp l (l.length-1)).1=tg l from UQ l l1,Yx F (v:=tg l) (by omega) (by omega)];simp only[zg,cond_true,Int.zero_add];unfold uX;generalize tg l=lf at*;generalize qp 0 l=rt at*;generalize tT l=ws at*;obtain ⟨r1,q1,n1⟩:=We F (by omega) (NR.ok hx (by omega)) (NR.ok hlast.1 (by omega));rw[q1];simp only[zg];obtain rfl:=n1.small (by omega);obtain ⟨r2,q2,n2⟩:=UK F (by omega) (x:=rt) (y:=x+lf) (by omega) (by omega) n1 (.inr rfl);rw[q2];simp only[zg];obtain ⟨r3,q3,n3⟩:=We F (by omega) n2 (NR.ok hways.1 (by omega));rw[q3];simp only[zg];obtain ⟨r4,q4,n4⟩:=UK F (by omega) (x:=u) (by omega) (by omega) n3 (.inl hu);rw[q4];simp only[zg];exact ⟨_,rfl,n4⟩
theorem zcX (F:Nat) (hF:20<F) {R:Type} (k:List zj.T->zx.T->zj.T->Option R) (L:List zj.T) (n:zx.T) (r8:zj.T):∀(vs:List Int) (i:Int) (s:zj.T) (sv:Int),(∀v∈vs,0<=v/\v<=BND)->NR s sv->
  ∃s',zA.l20.rg F (fun l _ _ n _ s=>k l n s) L (vs.map fun v=>(mk v,false)) i n r8 s=k L n s'/\NR s' (sv+qo vs)
 | [],i,s,sv,h,hs=>⟨s,rfl,by simp only[qo,List.sum_nil,Int.add_zero]; exact hs⟩
 | v::r,i,s,sv,h,hs=>by
  have hv:=h v (by simp);rw[Zv] at hv;obtain ⟨s1,q1,n1⟩:=We F hF hs (NR.ok (v:=v) hv.1 (by omega));obtain ⟨s',q2,n2⟩:=zcX F hF k L n r8 r (i+1) s1 (sv+v) (fun y hy=>h y (by simp[hy])) n1;refine ⟨s',?_,?_⟩
  ·simp only[List.map_cons,zA.l20.rg]
   rw[q1];exact q2
  ·simp only[qo,List.sum_cons] at n2 ⊢
   rw[<-Int.add_assoc]; exact n2
theorem zfn (F:Nat) (hF:64<F) {n:zx.T} {vs:List Int} (hv:∀v∈vs,0<=v/\v<=BND) (hl:vs.length<=16) (hN:0<=nN n) (hN2:nN n<=1000000000000) :
  ∃r,zA.j18 F (fun r=>(some ((r,()),()):Option zA.sg.R)) (vs.map fun v=>(mk v,false)) n ((0,0),false)=some ((r,()),())/\NR r (bif nK n==11||(nK n==12||nK n==16) then qo vs+nN n else qo vs):=by
 unfold zA.j18;rw[Yx F (v:=0) (by omega) (by omega)];simp only[zg];have e1:=fun k0=>zA.l20.rg_eq (R:=zA.sg.R) F k0 (vs.map fun v=>(mk v,false)) (by simp; omega) (vs.map fun v=>(mk v,false)) 0 F n ((0,0),false) (mk 0,false) (by simp) (by simp; omega)
 rw[show ((0:Nat):Int)=0 from rfl] at e1;rw[e1];obtain ⟨s',q1,n1⟩:=zcX F (by omega) (fun l11 n11 s11=>bif (n11.1==11) then oB (yu.sh F n11.2.1) fun c_12 =>
  oB (yE.sh F s11 c_12.1.1) fun c_13 =>
  (some ((c_13.1.1,()),()):Option zA.sg.R)
 else bif (n11.1==12) then oB (yu.sh F n11.2.1) fun c_14 =>
  oB (yE.sh F s11 c_14.1.1) fun c_15 =>
  some ((c_15.1.1,()),())
 else bif (n11.1==16) then oB (yu.sh F n11.2.1) fun c_16 =>
  oB (yE.sh F s11 c_16.1.1) fun c_17 =>
  some ((c_17.1.1,()),())
 else some ((s11,()),())) (vs.map fun v=>(mk v,false)) n ((0,0),false) vs 0 (mk 0,false) 0 hv (NR.ok (by omega) (by omega))
 rw[Int.zero_add] at n1;obtain ⟨s2,q2,n2⟩:=We F (by omega) n1 (NR.ok (v:=nN n) hN (by omega));have hof:=Yx F (v:=nN n) (by omega) (by omega);have key:(oB (yu.sh F n.2.1) fun c_12=>oB (yE.sh F s' c_12.1.1) fun c_13=>(some ((c_13.1.1,()),()):Option zA.sg.R))=some ((s2,()),()):=by
  rw[show yu.sh F n.2.1=_ from hof];simp only[zg];rw[q2];rfl
 rw[q1];simp only[];rw[key];rw[show (n.1==11)=(nK n==11) from rfl,show (n.1==12)=(nK n==12) from rfl,show (n.1==16)=(nK n==16) from rfl];cases (nK n==11) with
 | true=>exact ⟨_,rfl,n2⟩
 | false =>
  cases (nK n==12) with
  | true=>exact ⟨_,rfl,n2⟩
  | false =>
   cases (nK n==16) with
   | true=>exact ⟨_,rfl,n2⟩
   | false=>exact ⟨_,rfl,n1⟩
theorem V9 {l:List Int} {i:Nat} (hi:i<l.length):get zj (l.map fun v=>(mk v,false)) i=(mk (l.getD i 0),false):=by
 unfold get;rw[List.getD_eq_getElem?_getD,List.getD_eq_getElem?_getD,List.getElem?_map,List.getElem?_eq_getElem hi];rfl
theorem zbS (F:Nat) {s:Int} (h1:1<=s) (h2:s<=1000000000000):yL.sh F 1099511627776 s=some ((xw 1099511627776 s,()),()):=by
 have hq1:0<=1099511627776/s:=Int.ediv_nonneg (by omega) (by omega);have hq2:1099511627776/s<=1099511627776:=Int.ediv_le_self _ (by omega);unfold yL.sh xw;rw[show (s != 0)=true from bne_iff_ne.2 (by omega),Int.tdiv_eq_ediv_of_nonneg (by omega),Int.tmod_eq_emod_of_nonneg (by omega),zY (n:=1099511627776/s) (by omega) (by omega),zY (n:=1099511627776/s+1) (by omega) (by omega)];simp only[cond_true];by_cases hz:1099511627776%s=0
 ·rw[hz,if_pos rfl,Int.add_zero]; rfl
 ·rw[show (1099511627776%s != 0)=true from bne_iff_ne.2 hz,if_neg hz]; rfl
theorem nmag_eq (F:Nat) (hF:64<F) {u:Int} (hu:1<=u) (hu2:u<=1000000000000000000000000) {p:yr.T} (hD:dE [] p.2.1=0) (hd4:p.2.1.length<=4) {n:zx.T} {pile:Nat} (hn:tm p.2.1.length n pile=0)
  {vs:List Int} (hl:vs.length=ar n) (hv:∀v∈vs,0<=v/\v<=BND):∃r,zA.sh F p n (mk u,false) (vs.map fun v=>(mk v,false))=some ((r,()),())/\NR r (vz u p.2.1 n vs):=by
 obtain ⟨g1,g2,g3,g4,g5,g6,g7,g8⟩:=uh hn;have ha:=W7 g1 g4;have hN2:=YP hd4 g3 g1;have hof:=Yx F (v:=nN n) (by omega) (by omega);have hsum:∀k:Int,nK n=k->(k=6\/k=7\/k=9\/k=10\/k=11\/k=12\/k=16)->∃r,zA.sh F p n (mk u,false) (vs.map fun v=>(mk v,false))=some ((r,()),())/\NR r (vz u p.2.1 n vs):=by
  intro k h hk;obtain ⟨r,q1,q2⟩:=zfn F hF (n:=n) hv (by omega) g2 hN2;have hm:vz u p.2.1 n vs=bif nK n==11||(nK n==12||nK n==16) then qo vs+nN n else qo vs:=by
   unfold vz;rw[h];rcases hk with rfl | rfl | rfl | rfl | rfl | rfl | rfl<;>rfl
  rw[<-hm] at q2;refine ⟨r,Eq.trans ?_ q1,q2⟩;unfold zA.sh;rw[show n.1=k from h];rcases hk with rfl | rfl | rfl | rfl | rfl | rfl | rfl<;>rfl
 rcases qP g1 with h | h | h | h | h | h | h | h | h | h | h | h | h | h | h | h
 ·refine ⟨_,?_,show NR (mk (nN n),false) _ from ?_⟩
  ·refine Eq.trans (b:=oB (yu.sh F (nN n)) fun c_1=>some ((c_1.1.1,()),())) ?_ (by rw[hof]; rfl)
   unfold zA.sh; rw[show n.1=_ from h]; rfl
  ·rw[show vz u p.2.1 n vs=nN n by unfold vz; rw[h]; rfl]
   exact NR.ok g2 (by omega)
 ·obtain ⟨r,q1,q2⟩:=UK F (by omega) (x:=nN n) (y:=u) g2 (by omega) (NR.ok (by omega) (by omega)) (.inr rfl)
  refine ⟨r,?_,by rw[show vz u p.2.1 n vs=nN n*u by unfold vz; rw[h]; rfl]; exact q2⟩;refine Eq.trans (b:=oB (yu.sh F (nN n)) fun c_2=>oB (yU.sh F c_2.1.1 (mk u,false)) fun c_3=>some ((c_3.1.1,()),())) ?_ (by rw[hof]; simp only[zg]; rw[q1]; rfl);unfold zA.sh; rw[show n.1=_ from h]; rfl
 ·refine ⟨_,?_,show NR (mk 1099511627776,false) _ from ?_⟩
  ·refine Eq.trans (b:=oB (yu.sh F 1099511627776) fun c_1=>some ((c_1.1.1,()),())) ?_ (by rw[Yx F (v:=1099511627776) (by omega) (by omega)]; rfl)
   unfold zA.sh; rw[show n.1=_ from h]; rfl
  ·rw[show vz u p.2.1 n vs=1099511627776 by unfold vz; rw[h]; rfl]
   exact NR.ok (by omega) (by omega)
 ·have hNd:nN n<=(p.2.1.length:Int)-1:=by have:=g3; rw[Zm h] at this; exact this
  have hi:(nN n).toNat<p.2.1.length:=by omega
  have hsz:1<=dS (p.2.1.getD (nN n).toNat (ByteArray.empty,0))/\dS (p.2.1.getD (nN n).toNat (ByteArray.empty,0))<=1000000000000:=by
   rw[List.getD_eq_getElem?_getD,List.getElem?_eq_getElem hi];exact Wq p.2.1 [] hD _ (List.getElem_mem _)
  have hc:=S9 hsz.1;have hid:idx (nN n) p.2.1.length=true:=UR (by omega) (by omega);refine ⟨_,?_,show NR (mk (xw 1099511627776 (dS (p.2.1.getD (nN n).toNat (ByteArray.empty,0)))),false) _ from ?_⟩
  ·refine Eq.trans (b:=bif idx (nN n) p.2.1.length then oB (yL.sh F 1099511627776 (dS (p.2.1.getD (nN n).toNat (ByteArray.empty,0)))) fun c_5=>oB (yu.sh F c_5.1.1) fun c_6=>some ((c_6.1.1,()),()) else none) ?_ (by
    rw[hid,zbS F hsz.1 hsz.2];simp only[zg,cond_true];rw[Yx F (by omega) (by omega)]; rfl)
   unfold zA.sh; rw[show n.1=_ from h]; rfl
  ·rw[show vz u p.2.1 n vs=xw 1099511627776 (dS (p.2.1.getD (nN n).toNat (ByteArray.empty,0))) by unfold vz; rw[h]; rfl]
   exact NR.ok hc.1 (by omega)
 ·have e1:ar n=1:=by rw[vq h]; rfl
  match vs,hl with
  | [v],_ =>
   have hv0:=hv v (by simp);rw[Zv] at hv0;refine ⟨(mk v,false),?_,?_⟩
   ·unfold zA.sh; rw[show n.1=_ from h]; rfl
   ·rw[show vz u p.2.1 n [v]=qo [v] by unfold vz; rw[h]; rfl,show qo [v]=v by simp[qo]]
    exact NR.ok hv0.1 (by omega)
  | [],hl=>rw[e1] at hl; simp at hl
  | _::_::_,hl=>rw[e1] at hl; simp at hl
 ·exact hsum 6 h (by decide)
 ·exact hsum 7 h (by decide)
 ·have e2:ar n=2:=by rw[vq h]; rfl
  have b0:=Zo hv (i:=0) (by omega);have b1:=Zo hv (i:=1) (by omega);rw[Zv] at b0 b1;obtain ⟨r,q1,q2⟩:=UK F (by omega) (x:=vs.getD 0 0) (y:=vs.getD 1 0) b0.1 (by omega) (NR.ok b1.1 (by omega)) (.inr rfl);refine ⟨r,?_,by rw[show vz u p.2.1 n vs=vs.getD 0 0*vs.getD 1 0 by unfold vz; rw[h]; rfl]; exact q2⟩;refine Eq.trans (b:=bif idx 0 (vs.map fun v=>(mk v,false)).length then bif idx 1 (vs.map fun v=>(mk v,false)).length then oB (yU.sh F (get zj (vs.map fun v=>(mk v,false)) 0) (get zj (vs.map fun v=>(mk v,false)) 1)) fun c_7=>some ((c_7.1.1,()),()) else none else none) ?_ (by
   rw[YK (n:=(vs.map fun v=>(mk v,false)).length) (by simp; omega),idx1 (n:=(vs.map fun v=>(mk v,false)).length) (by simp; omega),V9 (i:=0) (by omega),V9 (i:=1) (by omega)];simp only[cond_true];rw[q1]; rfl)
  unfold zA.sh; rw[show n.1=_ from h]; rfl
 ·exact hsum 9 h (by decide)
 ·exact hsum 10 h (by decide)
 ·exact hsum 11 h (by decide)
 ·exact hsum 12 h (by decide)
 ·have e1:ar n=1:=by rw[vq h]; rfl
  have b0:=Zo hv (i:=0) (by omega);have ht:th n=true:=by unfold th ZY; rw[h]; rfl
  obtain ⟨r,q1,q2⟩:=RX F hF hu hu2 b0.1 b0.2 (g8 ht);refine ⟨r,?_,by rw[show vz u p.2.1 n vs=uX u (vs.getD 0 0) (nT n) by unfold vz; rw[h]; rfl]; exact q2⟩;refine Eq.trans (b:=bif idx 0 (vs.map fun v=>(mk v,false)).length then oB (zD.sh F (mk u,false) (get zj (vs.map fun v=>(mk v,false)) 0) (nT n)) fun c_7=>some ((c_7.1.1,()),()) else none) ?_ (by
   rw[YK (n:=(vs.map fun v=>(mk v,false)).length) (by simp; omega),V9 (i:=0) (by omega)];simp only[cond_true];rw[q1]; rfl)
  unfold zA.sh; rw[show n.1=_ from h]; rfl
 ·have e1:ar n=1:=by rw[vq h]; rfl
  have b0:=Zo hv (i:=0) (by omega);have ht:th n=true:=by unfold th ZY; rw[h]; rfl
  obtain ⟨r,q1,q2⟩:=RX F hF hu hu2 b0.1 b0.2 (g8 ht);refine ⟨r,?_,by rw[show vz u p.2.1 n vs=uX u (vs.getD 0 0) (nT n) by unfold vz; rw[h]; rfl]; exact q2⟩;refine Eq.trans (b:=bif idx 0 (vs.map fun v=>(mk v,false)).length then oB (zD.sh F (mk u,false) (get zj (vs.map fun v=>(mk v,false)) 0) (nT n)) fun c_7=>some ((c_7.1.1,()),()) else none) ?_ (by
   rw[YK (n:=(vs.map fun v=>(mk v,false)).length) (by simp; omega),V9 (i:=0) (by omega)];simp only[cond_true];rw[q1]; rfl)
  unfold zA.sh; rw[show n.1=_ from h]; rfl
 ·have e1:ar n=1:=by rw[vq h]; rfl
  have b0:=Zo hv (i:=0) (by omega);rw[Zv] at b0;refine ⟨(mk (vs.getD 0 0),false),?_,by rw[show vz u p.2.1 n vs=vs.getD 0 0 by unfold vz; rw[h]; rfl]; exact NR.ok b0.1 (by omega)⟩;refine Eq.trans (b:=bif idx 0 (vs.map fun v=>(mk v,false)).length then (some (((get zj (vs.map fun v=>(mk v,false)) 0),()),()):Option zA.sg.R) else none) ?_ (by
   rw[YK (n:=(vs.map fun v=>(mk v,false)).length) (by simp; omega),V9 (i:=0) (by omega)]; rfl)
  unfold zA.sh; rw[show n.1=_ from h]; rfl
 ·exact hsum 16 h (by decide)
theorem zdq (F:Nat) (hF:20<F) {x:Int} (h1:0<=x) (h2:x<170141183460469231731687303715884105728):∃c,xu.sh F (mk x) (72057594037927936,0)=some ((c,()),())/\decide (c>0)=decide (x>BND):=by
 have hB:val (72057594037927936,0)=BND:=rfl;rw[QJ F hF (wj (by rw[yR]; omega)) (by simp[wfW])];refine ⟨_,rfl,?_⟩;rw[xv,hB];unfold Ye;rcases Int.lt_trichotomy x BND with h | h | h
 ·rw[if_pos h,decide_eq_false (show ¬((-1:Int)>0) by decide),decide_eq_false (show ¬(x>BND) by omega)]
 ·rw[if_neg (show ¬x<BND by omega),if_pos h,decide_eq_false (show ¬((0:Int)>0) by decide),decide_eq_false (show ¬(x>BND) by omega)]
 ·rw[if_neg (show ¬x<BND by omega),if_neg (show ¬x=BND by omega),decide_eq_true (show ((1:Int)>0) by decide),decide_eq_true (show (x>BND) by omega)]
theorem zdO (F:Nat) (hF:4096<F) {R:Type} {u:Int} (hu:1<=u) (hu2:u<=1000000000000000000000000) {p:yr.T} (hD:dE [] p.2.1=0) (hd4:p.2.1.length<=4) (hL:p.2.2.2.length<=1024) (kE:List zh.T->Int->Int->Option R) (kO:List zh.T->Option R):∀(xs:List zx.T) (st:List Tree) (out:List zh.T) (fu:Nat),p.2.2.2=yn st++xs->okS p.2.1.length st xs->out.length<=(yn st).length->(∀t∈st,0<=mag u p.2.1 t/\mag u p.2.1 t<=BND)->xs.length<fu->
  zK.l11 F kE (fun _ _ _ _ out _=>kO out) fu ((yn st).length:Int) p (mk u) out (st.map fun t=>(mk (mag u p.2.1 t),false)) =
   match ud (Wj u p.2.1) (uC st xs) (yn st).length with
   | some (j,e)=>kE [] (j:Int) 90
   | none=>kO (out++(uC st xs).map fun t=>mk (mag u p.2.1 t)):=by
 intro xs;induction xs with
 | nil =>
  intro st out fu h ho hout hb hf;obtain ⟨fu,rfl⟩:∃j,fu=j+1:=⟨fu-1,by simp at hf; omega⟩;have:p.2.2.2.length=(yn st).length:=by rw[h]; simp
  simp only[zK.l11,zK.l11.body,decide_eq_false (show ¬(((yn st).length:Int)<(p.2.2.2.length:Int)) by omega),cond_false,uC,ud,List.map_nil,List.append_nil]
 | cons n xs ih =>
  intro st out fu h ho hout hb hf;obtain ⟨fu,rfl⟩:∃j,fu=j+1:=⟨fu-1,by simp at hf; omega⟩;have hlen:p.2.2.2.length=(yn st).length+(xs.length+1):=by rw[h]; simp
  obtain ⟨g1,g2,g3,g4,g5,g6,g7,g8⟩:=uh ho.1;have hst:=qL st;have hfs:=uR st n;have hfl:=congrArg List.length hfs;simp only[List.length_append,List.length_cons,List.length_nil] at hfl;have hdr:∀t∈st.drop (st.length-ar n),0<=mag u p.2.1 t/\mag u p.2.1 t<=BND:=fun t ht=>hb t (List.mem_of_mem_drop ht)
  have hmm:mag u p.2.1 (ve st n)=vz u p.2.1 n ((st.drop (st.length-ar n)).map (mag u p.2.1)):=by unfold ve; rw[SB]
  obtain ⟨r,q1,q2⟩:=nmag_eq F (by omega) hu hu2 hD hd4 ho.1 (vs:=(st.drop (st.length-ar n)).map (mag u p.2.1)) (by simp; omega) (by
   intro v hv;obtain ⟨t,ht,rfl⟩:=List.mem_map.1 hv;exact hdr t ht)
  rw[<-hmm] at q2;have hl:(st.map fun t=>(mk (mag u p.2.1 t),false)).length=st.length:=by simp
  have hE:Wj u p.2.1 (ve st n)=bif decide (tC n (mag u p.2.1 (ve st n))>BND) then 90 else 0:=rfl
  have hdm:(st.map fun t=>(mk (mag u p.2.1 t),false)).drop (st.length-ar n)=((st.drop (st.length-ar n)).map (mag u p.2.1)).map fun v=>(mk v,false):=by
   rw[<-List.map_drop,List.map_map]; rfl
  have ew:=Yt g7 (by omega);have hb1:=Za (show st.length-ar n<=st.length by omega);have hb2:=ZD (show st.length-ar n<=st.length by omega);have htk:(st.map fun t=>(mk (mag u p.2.1 t),false)).take st.length=st.map fun t=>(mk (mag u p.2.1 t),false):=List.take_of_length_le (by omega)
  have hbl1:∀y,Nat.ble (out.length+([y]:List zh.T).length) vc=true:=fun y=>uV (by simp; omega)
  have hbl2:∀y,Nat.ble (st.length-ar n+([y]:List zj.T).length) vc=true:=fun y=>uV (by simp; omega)
  obtain ⟨e1,e2⟩:=Rf h rfl;have ewi:i64.wrap (((yn st).length:Int)+1)=((yn st).length:Int)+1:=zY (by omega) (by omega);have hgo:∀v,v=mag u p.2.1 (ve st n)->0<=v->tC n v<=BND->zK.l11 F kE (fun _ _ _ _ out _=>kO out) fu (((yn st).length:Int)+1) p (mk u) (out++[mk v]) ((st.map fun t=>(mk (mag u p.2.1 t),false)).take (st.length-ar n)++[(mk v,false)]) =
    match ud (Wj u p.2.1) (uC (uo st n) xs) ((yn st).length+1) with
    | some (j,e)=>kE [] (j:Int) 90
    | none=>kO (out++(uC st (n::xs)).map fun t=>mk (mag u p.2.1 t)):=by
   rintro v rfl h0 hfar
   have hle:mag u p.2.1 (ve st n)<=BND:=by
    unfold tC at hfar;cases h15:(nK n==15) with
    | true=>rw[h15] at hfar; simp only[cond_true] at hfar; omega
    | false=>rw[h15] at hfar; exact hfar
   have hstep:(uo st n).map (fun t=>(mk (mag u p.2.1 t),false))=(st.map fun t=>(mk (mag u p.2.1 t),false)).take (st.length-ar n)++[(mk (mag u p.2.1 (ve st n)),false)]:=by
    unfold uo; simp[List.map_take]
   have IH:=ih (uo st n) (out++[mk (mag u p.2.1 (ve st n))]) fu (by rw[hfs,h]; simp) ho.2 (by simp; omega) (by
    intro t ht;rcases List.mem_append.1 ht with ht | ht
    ·exact hb t (List.mem_of_mem_take ht)
    ·rw[List.mem_singleton.1 ht]; exact ⟨h0,hle⟩) (by simp at hf; omega)
   rw[hstep,hfl,show (((yn st).length+(0+1):Nat):Int)=((yn st).length:Int)+1 by omega] at IH;refine IH.trans ?_;simp only[List.append_assoc,List.singleton_append,uC,List.map_cons]
  simp only[zK.l11,zK.l11.body,decide_eq_true (show (((yn st).length:Int)<(p.2.2.2.length:Int)) by omega),cond_true,e1,Int.toNat_natCast,e2];rw[Xb F g1 g4];simp only[zg,hl,ew,hb1,hb2,htk,cond_true,hdm,ewi];rw[q1];simp only[zg,hbl1,hbl2,cond_true];rw[show uC st (n::xs)=ve st n::uC (uo st n) xs from rfl] at hgo ⊢;simp only[ud,hE];rw[show (n.1==15)=(nK n==15) from rfl];rw[Yx F (v:=10000) (by omega) (by omega)];simp only[zg];rw[show xV.sh F=some (((72057594037927936,0),()),()) from rfl];simp only[zg];cases h15:(nK n==15) with
  | true =>
   have hsm:mag u p.2.1 (ve st n)<=BND:=by
    have ea:ar n=1:=by rw[vq (show nK n=15 by simpa using h15)]; rfl
    rw[hmm,show ∀vs,vz u p.2.1 n vs=vs.getD 0 0 from fun vs=>by unfold vz; rw[show nK n=15 by simpa using h15]; rfl];exact (Zo (b:=BND) (l:=(st.drop (st.length-ar n)).map (mag u p.2.1)) (by
     intro v hv;obtain ⟨t,ht,rfl⟩:=List.mem_map.1 hv;exact hdr t ht) (i:=0) (by simp; omega)).2
   rw[Zv] at hsm;have h0:=q2.1;obtain rfl:=q2.small (by omega);obtain ⟨r2,q3,q4⟩:=UK F (by omega) (x:=mag u p.2.1 (ve st n)) (y:=10000) h0 (by omega) (NR.ok (by omega) (by omega)) (.inr rfl);rw[q3];simp only[zg,cond_true];have hfarE:tC n (mag u p.2.1 (ve st n))=mag u p.2.1 (ve st n)*10000:=by unfold tC; rw[h15]; rfl
   rcases q4.2.2 with ⟨c1,c2⟩ | ⟨rfl,c2⟩
   ·rw[c1,hfarE,decide_eq_true (show mag u p.2.1 (ve st n)*10000>BND by rw[Zv]; omega)]
    rfl
   ·obtain ⟨c,d1,d2⟩:=zdq F (by omega) (x:=mag u p.2.1 (ve st n)*10000) (by omega) c2
    rw[d1];simp only[zg,d2,cond_false];rw[<-hfarE];cases hfar:decide (tC n (mag u p.2.1 (ve st n))>BND) with
    | true=>rfl
    | false =>
     have hfar:=of_decide_eq_false hfar;exact hgo _ rfl h0 (by omega)
  | false =>
   simp only[cond_false];have hfarE:tC n (mag u p.2.1 (ve st n))=mag u p.2.1 (ve st n):=by unfold tC; rw[h15]; rfl
   have h0:=q2.1;rcases q2.2.2 with ⟨c1,c2⟩ | ⟨rfl,c2⟩
   ·rw[c1,hfarE,decide_eq_true (show mag u p.2.1 (ve st n)>BND by rw[Zv]; omega)]
    rfl
   ·obtain ⟨c,d1,d2⟩:=zdq F (by omega) (x:=mag u p.2.1 (ve st n)) h0 c2
    rw[d1];simp only[zg,d2,cond_false];rw[hfarE];cases hfar:decide (mag u p.2.1 (ve st n)>BND) with
    | true=>rfl
    | false =>
     have hfar:=of_decide_eq_false hfar;exact hgo _ rfl h0 (by rw[hfarE]; omega)
theorem zf6 {p:yr.T} {t:Tree} (h:Good p t):zK.sh FU p=some (((Te p.2.1 t).1,(Te p.2.1 t).2.1,(Te p.2.1 t).2.2,()),()):=by
 have hl:=h.len;have hs:t.size=p.2.2.2.length:=by rw[Tree.size,h.flat]
 have hp:=ZI t;have hFU:FU=4194304:=rfl;unfold zK.sh;rw[zdX FU XY h];simp only[zg];unfold Te uY;cases h1:((qB t).2.2 != 0) with
 | true=>simp only[cond_true,h1]
 | false =>
  simp only[cond_false];rw[UB FU XY h];simp only[zg];rw[<-hs,zY (n:=(t.size:Int)-1) (by omega) (by omega)];cases h2:decide (wT t>6) with
  | true=>rfl
  | false =>
   have h2:=of_decide_eq_false h2;have hd:=(qZ t).1;have hu:=VF (t:=t) (by omega);have hh:=qW h.head;simp only[cond_false];rw[RO FU (by decide) hd (by omega)];simp only[zg];have e:=zdO FU XY hu.1 hu.2 hh.2.2.1 hh.2.1 hl (fun r212 r312 r412=>(some ((r212,r312,r412,()),()):Option zK.sg.R)) (fun out13=>zK.j22 FU (fun r214 r314 r414=>some ((r214,r314,r414,()),())) out13) p.2.2.2 [] [] FU (by simp[yn]) h.ok (by simp) (by simp) (by rw[hFU]; omega);rw[show (yn []).length=0 from rfl,show ((0:Nat):Int)=0 from rfl,h.subs] at e;rw[show (10000:Int)^(wT t).toNat=tZ t from rfl];refine Eq.trans e ?_;unfold YQ;cases ud (Wj (tZ t) p.2.1) t.subs 0 with
   | some x =>
    obtain ⟨j,e⟩:=x;simp only[];rw[decide_eq_true (show (j:Int)>=0 by omega)];rfl
   | none =>
    simp only[List.nil_append];rw[decide_eq_false (show ¬((-1:Int))>=0 by omega)];rfl
theorem zdZ {p:yr.T} (h:(um p).2≠0):zK.sh FU p=some (([],(um p).1,(um p).2,()),()):=by
 unfold zK.sh;rw[zbJ FU XY h];simp only[zg];rw[show ((um p).2 != 0)=true by simpa using h];rfl
theorem zf5 {p:yr.T} {t:Tree} (h:Good p t):xN.sh FU p=some (((uY p.2.1 t).1,(uY p.2.1 t).2.1,(uY p.2.1 t).2.2,()),()):=by
 unfold xN.sh;rw[zf6 h];simp only[zg];cases h1:((uY p.2.1 t).2.2 != 0) with
 | true =>
  have hm:Te p.2.1 t=([],(uY p.2.1 t).2.1,(uY p.2.1 t).2.2):=by unfold Te; rw[h1]; rfl
  rw[hm];simp only[h1,cond_true];have hz:(uY p.2.1 t).1=(0,0):=by
   unfold uY at h1 ⊢;cases a1:((qB t).2.2 != 0) with
   | true=>rfl
   | false =>
    rw[a1] at h1;cases a2:decide (wT t>6) with
    | true=>rfl
    | false =>
     rw[a2] at h1;cases a3:decide ((YQ (tZ t) p.2.1 t).2>=0) with
     | true=>rfl
     | false=>rw[a3] at h1; exact absurd (show ((0:Int) != 0)=true from h1) (by decide)
  rw[hz]
 | false =>
  have h1:(uY p.2.1 t).2.2=0:=by simpa using h1
  obtain ⟨a1,a2,a3,a4⟩:=zal h1;have hm:(Te p.2.1 t).2.2=0:=by unfold Te; rw[h1]; rfl
  have hd:=(qZ t).1;rw[hm];simp only[bne_self_eq_false,cond_false];rw[UB FU XY h];simp only[zg];rw[RO FU (by decide) hd (by omega),a4];rfl
theorem zdW {p:yr.T} (h:(um p).2≠0):xN.sh FU p=some (((0,0),(um p).1,(um p).2,()),()):=by
 unfold xN.sh;rw[zdZ h];simp only[zg];rw[show ((um p).2 != 0)=true by simpa using h];rfl
theorem TC (F:Nat) (hF:20<F) {a b:Int×Int} (ha:wfW a) (hb:wfW b):xO.sh F a b=some ((ue (val a-val b),vN (val a-val b),()),()):=by
 obtain ⟨la,da,ra⟩:=Ym F hF ha;obtain ⟨lb,db,rb⟩:=Ym F hF hb;obtain ⟨lt,dt,rt⟩:=Y7 F hF rb;obtain ⟨l,dl,rl⟩:=TD F hF ra rt;have h1:=Xq ha;have h2:=Xq hb;unfold xO.sh;rw[da,zg,db,zg,dt,zg,dl,zg,VH F hF rl (by omega) (by omega),zg,show val a+-val b=val a-val b by omega]
theorem Uu (F:Nat) {V c:Int} (h0:0<=V) (hc:c=0\/c=1) (h1:2*V+c<340282366920938463463374607431768211456) :
  yS.sh F (V/18446744073709551616) (V%18446744073709551616) c=some (((2*V+c)/18446744073709551616,(2*V+c)%18446744073709551616,()),()):=by
 unfold yS.sh;rw[zeL (by omega)];simp only[vM];exact RJ (by omega) (by omega)
theorem U8 (F:Nat) {V bh bl:Int} (h2:0<=bl) (h3:bl<18446744073709551616):yT.sh F (V/18446744073709551616) (V%18446744073709551616) bh bl=some ((decide (bh*18446744073709551616+bl<=V),()),()):=by
 unfold yT.sh;by_cases g:V/18446744073709551616>bh
 ·rw[decide_eq_true g,decide_eq_true (show bh*18446744073709551616+bl<=V by omega)]; rfl
 ·rw[decide_eq_false g]
  by_cases e:V/18446744073709551616=bh
  ·rw[show (V/18446744073709551616==bh)=true by rw[beq_iff_eq]; exact e]
   simp only[cond_true,cond_false];rw[show decide (V%18446744073709551616>=bl)=decide (bh*18446744073709551616+bl<=V) from decide_eq_decide.2 (by omega)]
  ·rw[show (V/18446744073709551616==bh)=false by rw[beq_eq_false_iff_ne]; exact e,decide_eq_false (show ¬bh*18446744073709551616+bl<=V by omega)]; rfl
theorem zaE (F:Nat) {V bh bl:Int} (h0:0<=V) (h1:V<340282366920938463463374607431768211456) (hb:0<=bh) (h2:0<=bl) (h3:bl<18446744073709551616) (hle:bh*18446744073709551616+bl<=V) :
  xG.sh F (V/18446744073709551616) (V%18446744073709551616) bh bl=some (((V-(bh*18446744073709551616+bl))/18446744073709551616,(V-(bh*18446744073709551616+bl))%18446744073709551616,()),()):=by
 unfold xG.sh;simp only[vM];by_cases g:V%18446744073709551616<bl
 ·rw[decide_eq_true g]
  simp only[cond_true];exact RJ (by omega) (by omega)
 ·rw[decide_eq_false g]
  simp only[cond_false];exact RJ (by omega) (by omega)
theorem rstep (F:Nat) {R:Type} (rec:Int->Int->Int->Int->Option R) {q r B bh bl c:Int} (hc:c=0\/c=1) (hb:0<=bh) (h2:0<=bl) (h3:bl<18446744073709551616) (hB:B=bh*18446744073709551616+bl) (hB2:B<=170141183460469231731687303715884105728)
  (hr1:0<=r) (hr2:r<B) (hq1:0<=q) (hq2:2*q+1<340282366920938463463374607431768211456) :
  (oB (yS.sh F (r/18446744073709551616) (r%18446744073709551616) c) fun c_3=>oB (yT.sh F c_3.1.1 c_3.1.2.1 bh bl) fun c_4 =>
   bif c_4.1.1 then oB (xG.sh F c_3.1.1 c_3.1.2.1 bh bl) fun c_5=>oB (yS.sh F (q/18446744073709551616) (q%18446744073709551616) 1) fun c_6=>rec c_6.1.1 c_6.1.2.1 c_5.1.1 c_5.1.2.1
   else oB (yS.sh F (q/18446744073709551616) (q%18446744073709551616) 0) fun c_7=>rec c_7.1.1 c_7.1.2.1 c_3.1.1 c_3.1.2.1) =
  if B<=2*r+c then rec ((2*q+1)/18446744073709551616) ((2*q+1)%18446744073709551616) ((2*r+c-B)/18446744073709551616) ((2*r+c-B)%18446744073709551616)
  else rec (2*q/18446744073709551616) (2*q%18446744073709551616) ((2*r+c)/18446744073709551616) ((2*r+c)%18446744073709551616):=by
 have hR:2*r+c<340282366920938463463374607431768211456:=by omega
 rw[Uu F hr1 hc hR,zg,U8 F h2 h3,zg,<-hB];by_cases hle:B<=2*r+c
 ·rw[if_pos hle,decide_eq_true hle]
  simp only[cond_true];rw[zaE F (by omega) hR hb h2 h3 (by omega),zg,Uu F hq1 (.inr rfl) hq2,zg,<-hB]
 ·rw[if_neg hle,decide_eq_false hle]
  simp only[cond_false];rw[Uu F hq1 (.inl rfl) (by omega),zg,Int.add_zero]
theorem bit_hi {ah al:Int} (ha:0<=al) (ha2:al<18446744073709551616) (m:Nat):(ah*18446744073709551616+al)/2^(64+m)=2*((ah*18446744073709551616+al)/2^(64+m+1))+ah/2^m%2:=by
 have hP:(0:Int)<2^m:=Int.pow_pos (by decide);have e0:(ah*18446744073709551616+al)/2^(64+m)=ah/2^m:=by
  rw[Int.pow_add,show (2:Int)^64=18446744073709551616 from rfl,<-Int.ediv_ediv_of_nonneg (by omega)];congr 1; omega
 have e1:(ah*18446744073709551616+al)/2^(64+m+1)=ah/2^m/2:=by
  rw[Int.pow_succ,<-Int.ediv_ediv_of_nonneg (Int.le_of_lt (Int.pow_pos (by decide))),e0]
 rw[e0,e1];generalize ah/2^m=x;omega
theorem Si (F:Nat) {R:Type} (k:Int->Int->Int->Int->zh.T->zh.T->Option R) (a b r4 r5:zh.T) {ah al bh bl B:Int} (h0:0<=ah) (ha1:0<=al) (ha2:al<18446744073709551616) (hb1:0<=bh) (hl1:0<=bl) (hl2:bl<18446744073709551616)
  (hB:B=bh*18446744073709551616+bl) (hB2:B<=170141183460469231731687303715884105728):∀(n fu:Nat) (q r:Int),n<fu->n<=128->0<=q->q*2^n+2^n<=340282366920938463463374607431768211456->0<=r->r<B->
  (ah*18446744073709551616+al)/2^n=q*B+r->
  zG.l10 F (fun _ _ _ _ qh ql rh rl _ _ a b _ _=>k qh ql rh rl a b) fu ah al bh bl (q/18446744073709551616) (q%18446744073709551616) (r/18446744073709551616) (r%18446744073709551616) ((n:Int)-1) a b r4 r5 =
   k ((ah*18446744073709551616+al)/B/18446744073709551616) ((ah*18446744073709551616+al)/B%18446744073709551616) ((ah*18446744073709551616+al)%B/18446744073709551616) ((ah*18446744073709551616+al)%B%18446744073709551616) a b
 | 0,fu,q,r,hf,hn,hq1,hq2,hr1,hr2,he=>by
  obtain ⟨fu,rfl⟩:∃j,fu=j+1:=⟨fu-1,by omega⟩;simp only[Int.pow_zero,Int.ediv_one] at he;obtain ⟨f1,f2⟩:=Xy (M:=ah*18446744073709551616+al) (y:=B) (Q:=q) (R':=r) (by omega) he hr1 hr2;rw[f1,f2];simp only[zG.l10,zG.l10.body];rw[decide_eq_false (show ¬(((0:Nat):Int)-1)>=0 by omega)];simp only[cond_false]
 | n+1,fu,q,r,hf,hn,hq1,hq2,hr1,hr2,he=>by
  obtain ⟨fu,rfl⟩:∃j,fu=j+1:=⟨fu-1,by omega⟩;have hP:(0:Int)<2^n:=Int.pow_pos (by decide);have hP2:(2:Int)^(n+1)=2*2^n:=by rw[Int.pow_succ,Int.mul_comm]
  have hq3:q*2^(n+1)=2*(q*2^n):=by rw[hP2,Int.mul_left_comm]
  have hq4:2*q*2^n=2*(q*2^n):=by rw[Int.mul_assoc]
  have hqq:q<=q*2^n:=by
   have:=Int.mul_le_mul_of_nonneg_left (show (1:Int)<=2^n by omega) hq1;omega
  have wmod:u64.wrap (((n:Nat):Int).tmod 64)=((n%64:Nat):Int):=by
   rw[Int.tmod_eq_emod_of_nonneg (by omega),x8 (by omega) (by omega)]; omega
  have hmin:min (n%64) IntKind.u64.bits=n%64:=Nat.min_eq_left (by show n%64<=64; omega);obtain ⟨c,hc,hbit,hstep⟩:∃c:Int,(c=0\/c=1)/\(ah*18446744073709551616+al)/2^n=2*(q*B+r)+c /\
    ∀(rec:Int->Int->Int->Int->Int->Int->Int->Int->Int->zh.T->zh.T->zh.T->zh.T->Option R) (k0:Int->Int->Int->Int->Int->Int->Int->Int->Int->Bool->zh.T->zh.T->zh.T->zh.T->Option R),
     zG.l10.body F k0 rec ah al bh bl (q/18446744073709551616) (q%18446744073709551616) (r/18446744073709551616) (r%18446744073709551616) (n:Int) a b r4 r5 =
     (oB (yS.sh F (r/18446744073709551616) (r%18446744073709551616) c) fun c_3=>oB (yT.sh F c_3.1.1 c_3.1.2.1 bh bl) fun c_4 =>
   bif c_4.1.1 then oB (xG.sh F c_3.1.1 c_3.1.2.1 bh bl) fun c_5=>oB (yS.sh F (q/18446744073709551616) (q%18446744073709551616) 1) fun c_6=>rec ah al bh bl c_6.1.1 c_6.1.2.1 c_5.1.1 c_5.1.2.1 (i64.wrap ((n:Int)-1)) a b r4 r5
   else oB (yS.sh F (q/18446744073709551616) (q%18446744073709551616) 0) fun c_7=>rec ah al bh bl c_7.1.1 c_7.1.2.1 c_3.1.1 c_3.1.2.1 (i64.wrap ((n:Int)-1)) a b r4 r5):=by
   by_cases hn64:n<64
   ·refine ⟨al/2^n%2,by omega,by rw[<-he]; exact zgv ha1 hn64,fun rec k0=>?_⟩
    unfold zG.l10.body;rw[decide_eq_true (show (n:Int)>=0 by omega),wmod,decide_eq_true (show (0:Int)<=((n%64:Nat):Int) by omega),decide_eq_false (show ¬(n:Int)>=64 by omega),Int.toNat_natCast,hmin,show n%64=n by omega,
     Int.fdiv_eq_ediv_of_nonneg al (Int.le_of_lt hP),Int.tmod_eq_emod_of_nonneg (Int.ediv_nonneg ha1 (Int.le_of_lt hP))]
    simp only[cond_true,cond_false]
   ·have hP6:(0:Int)<2^(n-64):=Int.pow_pos (by decide)
    refine ⟨ah/2^(n-64)%2,by omega,?_,fun rec k0=>?_⟩
    ·have:=bit_hi (ah:=ah) ha1 ha2 (n-64)
     rw[show 64+(n-64)=n by omega] at this;rw[<-he]; exact this
    ·unfold zG.l10.body
     rw[decide_eq_true (show (n:Int)>=0 by omega),wmod,decide_eq_true (show (0:Int)<=((n%64:Nat):Int) by omega),decide_eq_true (show (n:Int)>=64 by omega),Int.toNat_natCast,hmin,show n%64=n-64 by omega,
      Int.fdiv_eq_ediv_of_nonneg ah (Int.le_of_lt hP6),Int.tmod_eq_emod_of_nonneg (Int.ediv_nonneg h0 (Int.le_of_lt hP6))]
     simp only[cond_true,cond_false]
  simp only[zG.l10];rw[show ((n+1:Nat):Int)-1=((n:Nat):Int) by omega,hstep,zY (n:=(n:Int)-1) (by omega) (by omega)];have hs:=rstep F (fun qh ql rh rl=>zG.l10 F (fun _ _ _ _ qh ql rh rl _ _ a b _ _=>k qh ql rh rl a b) fu ah al bh bl qh ql rh rl ((n:Int)-1) a b r4 r5) (q:=q) (r:=r) hc hb1 hl1 hl2 hB hB2 hr1 hr2 hq1 (by omega);refine hs.trans ?_;split
  ·refine Si F k a b r4 r5 h0 ha1 ha2 hb1 hl1 hl2 hB hB2 n fu _ _ (by omega) (by omega) (by omega) ?_ (by omega) (by omega) ?_
   ·rw[Int.add_mul,Int.one_mul,hq4]; omega
   ·rw[hbit,Int.add_mul,Int.one_mul,Int.mul_assoc]; omega
  ·refine Si F k a b r4 r5 h0 ha1 ha2 hb1 hl1 hl2 hB hB2 n fu _ _ (by omega) (by omega) (by omega) ?_ (by omega) (by omega) ?_
   ·rw[hq4]; omega
   ·rw[hbit,Int.mul_assoc]; omega
theorem zbE (F:Nat) (hF:150<F) {a b:Int×Int} (ha:wfW a) (hb:wfW b) (h0:val b≠0) :
  zG.sh F a b=some ((bif inR (tq (val a) (val b)) then mk (tq (val a) (val b)) else (0,0),bif inR (tq (val a) (val b)) then mk (tr (val a) (val b)) else (0,0),vN (tq (val a) (val b)),()),()):=by
 have ba:=Yf ha;have bb:=Yf hb;have hq:=aQR (a:=val a) h0;have hneg:(!(decide (a.1<0)==decide (b.1<0)))=dsg (val a) (val b):=by rw[qm ha,qm hb]; rfl
 have e1:((val a).natAbs:Int)/18446744073709551616*18446744073709551616+((val a).natAbs:Int)%18446744073709551616=(val a).natAbs:=by omega
 have e2:((val b).natAbs:Int)/18446744073709551616*18446744073709551616+((val b).natAbs:Int)%18446744073709551616=(val b).natAbs:=by omega
 have main:zG.j3 F (fun r616 r416 r516=>some ((r416,r516,r616,()),())) (fun r617 r417 r517=>(some ((r417,r517,r617,()),()):Option zG.sg.R)) a b (0,0) (0,0) =
   some ((bif inR (tq (val a) (val b)) then mk (tq (val a) (val b)) else (0,0),bif inR (tq (val a) (val b)) then mk (tr (val a) (val b)) else (0,0),vN (tq (val a) (val b)),()),()):=by
  unfold zG.j3;rw[WL F (by omega) ha,zg,WL F (by omega) hb,zg];have hl:=Si F (fun qh13 ql13 rh13 rl13 a13 b13=>oB (yd.sh F (!(decide (a13.1<0)==decide (b13.1<0))) qh13 ql13) fun c_14 =>
 bif (c_14.1.2.1 != 0) then (some (((0,0),(0,0),c_14.1.2.1,()),()):Option zG.sg.R)
 else oB (yd.sh F (decide (a13.1<0)) rh13 rl13) fun c_15 =>
 some ((c_14.1.1,c_15.1.1,0,()),())) a b (0,0) (0,0) (ah:=((val a).natAbs:Int)/18446744073709551616) (al:=((val a).natAbs:Int)%18446744073709551616) (bh:=((val b).natAbs:Int)/18446744073709551616) (bl:=((val b).natAbs:Int)%18446744073709551616)
   (B:=(val b).natAbs) (by omega) (by omega) (by omega) (by omega) (by omega) (by omega) (by omega) (by omega) 128 F 0 0 (by omega) (by omega) (by omega) (by decide) (by omega) (by omega) (by
    rw[e1,show (2:Int)^128=340282366920938463463374607431768211456 from rfl]; omega)
  rw[e1,show (0:Int)/18446744073709551616=0 from rfl,show (0:Int)%18446744073709551616=0 from rfl,show ((128:Nat):Int)-1=127 from rfl] at hl;refine hl.trans ?_;rw[hneg,show ((val a).natAbs:Int)/((val b).natAbs:Int)=aQ (val a) (val b) from rfl,show ((val a).natAbs:Int)%((val b).natAbs:Int)=aR (val a) (val b) from rfl];rw[Sl F (by omega) (v:=tq (val a) (val b)) (by omega) (by omega) (by omega) (by omega) (by
   unfold tq;rw[show aQ (val a) (val b)/18446744073709551616*18446744073709551616+aQ (val a) (val b)%18446744073709551616=aQ (val a) (val b) by omega]),zg]
  cases hi:inR (tq (val a) (val b)) with
  | false=>simp only[ue,vN,hi,cond_false]; rfl
  | true =>
   simp only[ue,vN,hi,cond_true,bne_self_eq_false,cond_false];rw[qm ha];rw[Sl F (by omega) (v:=tr (val a) (val b)) (by omega) (by omega) (by omega) (by omega) (by
    unfold tr;rw[show aR (val a) (val b)/18446744073709551616*18446744073709551616+aR (val a) (val b)%18446744073709551616=aR (val a) (val b) by omega]),zg]
   have hi2:inR (tr (val a) (val b))=true:=by
    rw[yR]; unfold tr;cases decide (val a<0)<;>simp only[cond_true,cond_false]<;>omega
   simp only[ue,vN,hi2,cond_true]
 unfold zG.sh;have hz:=zak hb;rw[decide_eq_false h0] at hz;cases h1:(b.1==0) with
 | false=>simp only[cond_false]; exact main
 | true =>
  rw[h1] at hz;simp only[Bool.true_and,Bool.and_true] at hz;rw[hz];simp only[cond_true,cond_false];exact main
theorem Sj (F:Nat) (hF:150<F) {q r b:Int×Int} (hq:wfW q) (hr:wfW r) (hb:wfW b) (m:Int) (hm:m=3\/m=4) (hlt:((val r).natAbs:Int)<(val b).natAbs) :
  xC.sh F q r b m=some ((awB m (val q) (val r) (val b),()),()):=by
 have br:=Yf hr;have bb:=Yf hb;have hq2:q.2.tmod 2=val q%2:=by
  rw[Int.tmod_eq_emod_of_nonneg hq.2.2.1];simp only[val]; omega
 have haw:awB m (val q) (val r) (val b)=(decide (((val b).natAbs:Int)<2*(val r).natAbs)||(decide (2*((val r).natAbs:Int)=(val b).natAbs)&&(m==3||decide (val q%2=1)))):=by
  rcases hm with rfl | rfl<;>rfl
 rw[haw];unfold xC.sh;rw[hq2];have A:=WL F (by omega) hr;have B:=WL F (by omega) hb;generalize ((val r).natAbs:Int)=x at*;generalize ((val b).natAbs:Int)=y at*;have hless:=zaE F (V:=y) (bh:=x/18446744073709551616) (bl:=x%18446744073709551616) (by omega) (by omega) (by omega) (by omega) (by omega) (by omega);rw[show x/18446744073709551616*18446744073709551616+x%18446744073709551616=x by omega] at hless;have hat:=U8 F (V:=x) (bh:=(y-x)/18446744073709551616) (bl:=(y-x)%18446744073709551616) (by omega) (by omega);rw[show (y-x)/18446744073709551616*18446744073709551616+(y-x)%18446744073709551616=y-x by omega] at hat;rw[A,zg,B,zg,hless,zg];by_cases g2:x/18446744073709551616=(y-x)/18446744073709551616
 ·rw[show (x/18446744073709551616==(y-x)/18446744073709551616)=true by rw[beq_iff_eq]; exact g2]
  simp only[cond_true];by_cases g4:x%18446744073709551616=(y-x)%18446744073709551616
  ·rw[show (x%18446744073709551616==(y-x)%18446744073709551616)=true by rw[beq_iff_eq]; exact g4,decide_eq_true (aw6 g2 g4),decide_eq_false (show ¬y<2*x by have:=aw6 g2 g4; omega)]
   rw[show (val q%2==1)=decide (val q%2=1) by
    by_cases g5:val q%2=1
    ·rw[g5]; rfl
    ·rw[decide_eq_false g5,beq_eq_false_iff_ne]; exact g5]
   cases (m==3)<;>simp only[cond_true,cond_false,Bool.true_or,Bool.false_or,Bool.true_and]
  ·rw[show (x%18446744073709551616==(y-x)%18446744073709551616)=false by rw[beq_eq_false_iff_ne]; exact g4,decide_eq_false (aw7 g4)]
   simp only[cond_false];rw[hat,zg,show decide (y-x<=x)=decide (y<2*x) from decide_eq_decide.2 (by have:=aw7 g4; omega)];simp only[Bool.false_and,Bool.or_false]
 ·rw[show (x/18446744073709551616==(y-x)/18446744073709551616)=false by rw[beq_eq_false_iff_ne]; exact g2,decide_eq_false (aw9 g2)]
  simp only[cond_false];rw[hat,zg,show decide (y-x<=x)=decide (y<2*x) from decide_eq_decide.2 (by have:=aw9 g2; omega)];simp only[Bool.false_and,Bool.or_false]
theorem dsg_tr {a b:Int} (hb:b≠0) (h:tr a b≠0):dsg (tr a b) b=dsg a b:=by
 have:=aQR (a:=a) hb;unfold dsg;have:decide (tr a b<0)=decide (a<0):=by
  unfold tr at*;cases ha:decide (a<0) with
  | true=>rw[ha] at h; simp only[cond_true] at h ⊢; exact decide_eq_true (by omega)
  | false=>simp only[cond_false]; exact decide_eq_false (by omega)
 rw[this]
theorem rdiv_eq (F:Nat) (hF:150<F) {a b m:Int} (ha:inR a=true) (hb:inR b=true) (h0:b≠0) (hq:inR (tq a b)=true) (m0:0<=m) (m4:m<=4):yl.sh F (mk a) (mk b) m=some ((mk (ZX m a b),0,()),()):=by
 have qr:=aQR (a:=a) h0;have ha':=yR.1 ha;have hb':=yR.1 hb;have hr:inR (tr a b)=true:=by
  rw[yR]; unfold tr;cases decide (a<0)<;>simp only[cond_true,cond_false]<;>omega
 have hw:(!(decide ((mk a).1<0)==decide ((mk b).1<0)))=dsg a b:=by rw[qm (wj ha),qm (wj hb),xv,xv]; rfl
 have hz:=VZ (v:=tr a b);have tail:∀fur:Bool,tr a b≠0->yl.j18 F (fun r76 r66=>some ((r66,r76,()),())) (fun r77 r67=>some ((r67,r77,()),())) (fun r78 r68=>(some ((r68,r78,()),()):Option yl.sg.R)) (dsg a b) fur (0,0) (mk (tq a b)) =
   some ((mk (bif !fur then tq a b else bif dsg a b then tq a b-1 else tq a b+1),0,()),()):=by
  intro fur hz;unfold yl.j18;cases fur with
  | false=>rfl
  | true =>
   have hr0:aR a b≠0:=fun h=>hz (by unfold tr; rw[h]; cases decide (a<0)<;>rfl)
   have hb2:(2:Int)<=b.natAbs:=by omega
   have hq2:2*aQ a b<=a.natAbs:=by
    have:=Int.mul_le_mul_of_nonneg_right hb2 qr.1;omega
   rw[qO F (by omega) (by omega)];simp only[Bool.not_true,cond_false];cases hd:dsg a b with
   | true =>
    have i:inR (tq a b-1)=true:=by rw[yR]; unfold tq; rw[hd]; simp only[cond_true]; omega
    simp only[cond_true];rw[zg,TC F (by omega) (wj hq) (wj (by rw[yR]; omega)),zg,xv,xv];simp only[ue,vN,i,cond_true]
   | false =>
    have i:inR (tq a b+1)=true:=by rw[yR]; unfold tq; rw[hd]; simp only[cond_false]; omega
    simp only[cond_false];rw[zg,YN F (by omega) (wj hq) (wj (by rw[yR]; omega)),zg,xv,xv];simp only[ue,vN,i,cond_true]
 have main:tr a b≠0->yl.j8 F (fun r76 r66=>some ((r66,r76,()),())) (fun r77 r67=>some ((r67,r77,()),())) (fun r78 r68=>(some ((r68,r78,()),()):Option yl.sg.R)) m (mk a) (mk b) (0,0) (mk (tq a b)) (mk (tr a b))=some ((mk (ZX m a b),0,()),()):=by
  intro hz;have hdm:ZX m a b=bif !awB m (tq a b) (tr a b) b then tq a b else bif dsg a b then tq a b-1 else tq a b+1:=by unfold ZX; rw[decide_eq_false hz]; rfl
  have hds:=dsg_tr h0 hz;rw[hdm];unfold yl.j8;rw[hw];have m5:m=0\/m=1\/m=2\/m=3\/m=4:=by omega
  rcases m5 with rfl | rfl | rfl | rfl | rfl
  ·rw[show awB 0 (tq a b) (tr a b) b=dsg a b by unfold awB; rw[hds]; rfl]
   exact tail (dsg a b) hz
  ·rw[show awB 1 (tq a b) (tr a b) b=!dsg a b by unfold awB; rw[hds]; rfl]
   exact tail (!dsg a b) hz
  ·rw[show awB 2 (tq a b) (tr a b) b=false from rfl]
   exact tail false hz
  ·have hn:=Sj F hF (wj hq) (wj hr) (wj hb) 3 (.inl rfl) (by rw[xv,xv,zbs a b h0]; omega)
   rw[xv,xv,xv] at hn;rw[hn];exact tail _ hz
  ·have hn:=Sj F hF (wj hq) (wj hr) (wj hb) 4 (.inr rfl) (by rw[xv,xv,zbs a b h0]; omega)
   rw[xv,xv,xv] at hn;rw[hn];exact tail _ hz
 unfold yl.sh;rw[decide_eq_false (show ¬m<0 by omega),decide_eq_false (show ¬m>4 by omega),zbE F hF (wj ha) (wj hb) (by rw[xv]; exact h0)];simp only[xv,hq,cond_true,cond_false,zg,vN,bne_self_eq_false];by_cases hz0:tr a b=0
 ·rw[hz0]
  unfold ZX;rw[hz0];rfl
 ·rw[decide_eq_false hz0] at hz
  cases h1:((mk (tr a b)).1==0) with
  | false=>simp only[cond_false]; exact main hz0
  | true =>
   rw[h1] at hz;simp only[Bool.true_and,Bool.and_true] at hz;rw[hz];simp only[cond_true,cond_false];exact main hz0
def wfL (l:zf.T):Prop:=wfW l.1/\wfW l.2.1/\wfW l.2.2
def lA (l:zf.T):Int:=val l.1
def lB (l:zf.T):Int:=val l.2.1
def lC (l:zf.T):Int:=val l.2.2
def td (s q:Int):Bool:=decide (s>=1)&&(decide (s<=1000000000000)&&(decide (q>=0)&&decide (q<=1099511627776)))
theorem zc9 (F:Nat) (s q:Int):ui.sh F s q=some ((td s q,()),()):=by
 unfold ui.sh td;cases decide (s>=1)<;>cases decide (s<=1000000000000)<;>cases decide (q>=0)<;>rfl
theorem wI {s q:Int}:td s q=true↔1<=s/\s<=1000000000000/\0<=q/\q<=1099511627776:=by
 simp[td]
theorem zad {q s:Int} (h:td s q=true):0<=xw q s/\xw q s<=1099511627777:=by
 obtain ⟨h1,h2,h3,h4⟩:=wI.1 h;have a1:0<=q/s:=Int.ediv_nonneg h3 (by omega);have a2:q/s<=q:=Int.ediv_le_self _ h3;unfold xw;split<;>omega
theorem Vm (F:Nat) {s q:Int} (h:td s q=true):vo.sh F q s=some ((xw q s,()),()):=by
 obtain ⟨h1,h2,h3,h4⟩:=wI.1 h;have a1:0<=q/s:=Int.ediv_nonneg h3 (by omega);have a2:q/s<=q:=Int.ediv_le_self _ h3;have a3:0<=q%s:=Int.emod_nonneg _ (by omega);have a4:q%s<s:=Int.emod_lt_of_pos _ (by omega);unfold vo.sh xw;rw[show (s != 0)=true from bne_iff_ne.2 (by omega),Int.tdiv_eq_ediv_of_nonneg h3,Int.tmod_eq_emod_of_nonneg h3,zY (n:=q/s) (by omega) (by omega)];simp only[cond_true];by_cases hz:q%s=0
 ·rw[hz,if_pos rfl,if_neg (by omega),zY (by omega) (by omega)]
 ·have:(if 1<q%s then (1:Int) else q%s)=1:=by split<;>omega
  rw[this,if_neg hz,zY (by omega) (by omega)]
def W9 (a b c s q:Int):Int×Int :=
 bif !td s q then (0,1)
 else bif !inR (b*q) then (0,10)
 else bif !inR (c*xw q s) then (0,10)
 else bif !inR (a+b*q) then (0,10)
 else bif !inR (a+b*q+c*xw q s) then (0,10)
 else (a+b*q+c*xw q s,0)
theorem R8 (F:Nat) {l:zf.T} (hl:wfL l) (s q:Int):wS.sh F l s q=some ((mk (W9 (lA l) (lB l) (lC l) s q).1,(W9 (lA l) (lB l) (lC l) s q).2,()),()):=by
 unfold wS.sh W9;rw[zc9,zg];cases hf:td s q with
 | false=>rfl
 | true =>
  obtain ⟨h1,h2,h3,h4⟩:=wI.1 hf;obtain ⟨b1,b2⟩:=zad hf;have iq:inR q=true:=qn (by omega) (by omega);have ib:inR (xw q s)=true:=qn (by omega) (by omega);simp only[Bool.not_true,cond_false];rw[tK F (v:=q) (by omega) (by omega),zg,ZG F hl.2.1 (wj iq),zg,xv,show val l.2.1=lB l from rfl];cases hB:inR (lB l*q) with
  | false =>
   have:vN (lB l*q)=10:=by unfold vN; rw[hB]; rfl
   simp only[this];rfl
  | true =>
   have e1:vN (lB l*q)=0:=by unfold vN; rw[hB]; rfl
   have e2:ue (lB l*q)=mk (lB l*q):=by unfold ue; rw[hB]; rfl
   simp only[e1,bne_self_eq_false,Bool.not_true,cond_false];rw[Vm F hf,zg,tK F (v:=xw q s) (by omega) (by omega),zg,ZG F hl.2.2 (wj ib),zg,xv,show val l.2.2=lC l from rfl];cases hC:inR (lC l*xw q s) with
   | false =>
    have:vN (lC l*xw q s)=10:=by unfold vN; rw[hC]; rfl
    simp only[this];rfl
   | true =>
    have e3:vN (lC l*xw q s)=0:=by unfold vN; rw[hC]; rfl
    have e4:ue (lC l*xw q s)=mk (lC l*xw q s):=by unfold ue; rw[hC]; rfl
    simp only[e3,bne_self_eq_false,Bool.not_true,cond_false];rw[e2,e4,YG F hl.1 (wj hB),zg,xv,show val l.1=lA l from rfl];cases hA:inR (lA l+lB l*q) with
    | false =>
     have:vN (lA l+lB l*q)=10:=by unfold vN; rw[hA]; rfl
     simp only[this];rfl
    | true =>
     have e5:vN (lA l+lB l*q)=0:=by unfold vN; rw[hA]; rfl
     have e6:ue (lA l+lB l*q)=mk (lA l+lB l*q):=by unfold ue; rw[hA]; rfl
     simp only[e5,bne_self_eq_false,Bool.not_true,cond_false];rw[e6,YG F (wj hA) (wj hC),zg,xv,xv];unfold ue vN;cases hD:inR (lA l+lB l*q+lC l*xw q s)<;>rfl
abbrev LZ:=Int×Int×Int
def wL (z:LZ):zf.T:=(mk z.1,mk z.2.1,mk z.2.2)
def kM (s:Int):Int:=xw 1099511627776 s
def nA (v:Int):Int:=(v.natAbs:Int)
theorem qA (v:Int):0<=nA v:=by unfold nA; omega
theorem UL (a b:Int):nA (a*b)=nA a*nA b:=by unfold nA; rw[Int.natAbs_mul]; push_cast; rfl
theorem Vi (a b:Int):nA (a+b)<=nA a+nA b:=by unfold nA; omega
theorem zbU (a b:Int):nA (a-b)<=nA a+nA b:=by unfold nA; omega
theorem qt {a:Int} (h:0<=a):nA a=a:=by unfold nA; omega
def yk (s:Int) (z:LZ):Int:=nA z.1+nA z.2.1*1099511627776+nA z.2.2*kM s
def yK (s:Int) (z:LZ) (q:Int):Int:=z.1+z.2.1*q+z.2.2*xw q s
def LIM:Int:=85070591730234615865843651857942052864
theorem V6 {s:Int} (h:1<=s):1<=kM s/\kM s<=1099511627777:=by
 refine ⟨?_,(S9 h).2⟩;have hq:0<=1099511627776/s:=Int.ediv_nonneg (by omega) (by omega);have e:=Int.mul_ediv_add_emod 1099511627776 s;unfold kM xw;by_cases h0:1099511627776/s=0
 ·rw[h0] at e
  rw[if_neg (by omega)];omega
 ·split<;>omega
theorem R4 {a k:Int} (h:1<=k):nA a<=nA a*k:=by
 have:=Int.mul_le_mul_of_nonneg_left h (qA a);omega
theorem Xt {s:Int} (h:1<=s) (z:LZ):0<=yk s z:=by
 unfold yk;have h1:=qA z.1;have h2:=qA z.2.1;have h3:=Int.mul_nonneg (qA z.2.2) (show 0<=kM s by have:=V6 h; omega);omega
theorem uq {s:Int} (h:1<=s) (z:LZ):nA z.1<=yk s z/\nA z.2.1<=yk s z/\nA z.2.2<=yk s z/\nA z.2.1*1099511627776<=yk s z/\nA z.2.2*kM s<=yk s z:=by
 unfold yk;have h1:=qA z.1;have h2:=qA z.2.1;have h4:=qA z.2.2;have h3:=R4 (a:=z.2.2) (V6 h).1;omega
theorem v6 {v:Int} (h:nA v<=LIM):inR v=true:=by
 unfold nA LIM at h;rw[yR]; omega
theorem uS {a b m:Int} (h1:nA a<=b) (h2:b<=m):nA a<=m:=Int.le_trans h1 h2
theorem XZ {s:Int} (h:1<=s) {z:LZ} (hz:yk s z<=LIM):wfL (wL z):=by
 obtain ⟨h1,h2,h3,_,_⟩:=uq h z;exact ⟨wj (v6 (uS h1 hz)),wj (v6 (uS h2 hz)),wj (v6 (uS h3 hz))⟩
theorem Rv {s q:Int} (h:td s q=true) (z:LZ):nA (z.2.1*q)<=nA z.2.1*1099511627776/\nA (z.2.2*xw q s)<=nA z.2.2*kM s:=by
 obtain ⟨h1,h2,h3,h4⟩:=wI.1 h;obtain ⟨b1,b2⟩:=zgo h3 h4 h1;rw[UL,UL,qt h3,qt b1];exact ⟨Int.mul_le_mul_of_nonneg_left h4 (qA _),Int.mul_le_mul_of_nonneg_left b2 (qA _)⟩
theorem Y5 {s q:Int} (h:td s q=true) (z:LZ):nA (yK s z q)<=yk s z:=by
 obtain ⟨p1,p2⟩:=Rv h z;unfold yK yk;have e1:=Vi (z.1+z.2.1*q) (z.2.2*xw q s);have e2:=Vi z.1 (z.2.1*q);omega
theorem Um (F:Nat) {s q:Int} (h:td s q=true) {z:LZ} (hz:yk s z<=LIM):wS.sh F (wL z) s q=some ((mk (yK s z q),0,()),()):=by
 have h1:=(wI.1 h).1;rw[R8 F (XZ h1 hz) s q];obtain ⟨p1,p2⟩:=Rv h z;obtain ⟨s1,s2,s3,s4,s5⟩:=uq h1 z;have e2:=Vi z.1 (z.2.1*q);have v0:=Y5 h z;have ev:lA (wL z)=z.1:=xv;have eb:lB (wL z)=z.2.1:=xv;have ec:lC (wL z)=z.2.2:=xv;have hs:nA z.1+nA z.2.1*1099511627776<=yk s z:=by
  unfold yk;have:=Int.mul_nonneg (qA z.2.2) (show 0<=kM s by have:=V6 h1; omega);omega
 have i1:inR (z.2.1*q)=true:=v6 (by omega);have i2:inR (z.2.2*xw q s)=true:=v6 (by omega);have i3:inR (z.1+z.2.1*q)=true:=v6 (by omega);have i4:inR (z.1+z.2.1*q+z.2.2*xw q s)=true:=v6 (by unfold yK at v0; omega);unfold W9;rw[ev,eb,ec,h,i1,i2,i3,i4];rfl
def qJ (x y:LZ):LZ:=(x.1+y.1,x.2.1+y.2.1,x.2.2+y.2.2)
def uc (x y:LZ):LZ:=(x.1-y.1,x.2.1-y.2.1,x.2.2-y.2.2)
def yO (x:LZ) (k:Int):LZ:=(x.1*k,x.2.1*k,x.2.2*k)
def xD (v:Int):LZ:=(v,0,0)
theorem zcG (s:Int) (x y:LZ) (q:Int):yK s (qJ x y) q=yK s x q+yK s y q:=by
 simp only[yK,qJ,Int.add_mul]; omega
theorem VE (s:Int) (x y:LZ) (q:Int):yK s (uc x y) q=yK s x q-yK s y q:=by
 simp only[yK,uc,Int.sub_mul]; omega
theorem Zw (s:Int) (x:LZ) (k q:Int):yK s (yO x k) q=yK s x q*k:=by
 simp only[yK,yO,Int.add_mul];rw[Int.mul_right_comm x.2.1,Int.mul_right_comm x.2.2]
theorem Yo (s v q:Int):yK s (xD v) q=v:=by simp[yK,xD]
theorem tB {s:Int} (v:Int):yk s (xD v)=nA v:=by
 have:nA 0=0:=rfl;simp[yk,xD,this]
theorem VK {s:Int} (h:1<=s) (x y:LZ):yk s (qJ x y)<=yk s x+yk s y:=by
 have h3:=Int.mul_le_mul_of_nonneg_right (Vi x.2.2 y.2.2) (show 0<=kM s by have:=V6 h; omega);have h1:=Vi x.1 y.1;have h2:=Vi x.2.1 y.2.1;rw[Int.add_mul] at h3;simp only[yk,qJ];omega
theorem Zd {s:Int} (h:1<=s) (x y:LZ):yk s (uc x y)<=yk s x+yk s y:=by
 have h3:=Int.mul_le_mul_of_nonneg_right (zbU x.2.2 y.2.2) (show 0<=kM s by have:=V6 h; omega);have h1:=zbU x.1 y.1;have h2:=zbU x.2.1 y.2.1;rw[Int.add_mul] at h3;simp only[yk,uc];omega
theorem uL (s:Int) (x:LZ) (k:Int):yk s (yO x k)=yk s x*nA k:=by
 simp only[yk,yO,UL,Int.add_mul];rw[Int.mul_right_comm (nA x.2.1),Int.mul_right_comm (nA x.2.2)]
theorem Qz:mk 0=(0,0):=rfl
theorem Yq (F:Nat) (v:Int):y7.sh F (mk v)=some ((wL (xD v),()),()):=by
 unfold y7.sh wL xD;simp only[Qz]
theorem zd8 (F:Nat) {s:Int} (h:1<=s) {x y:LZ} (hx:yk s x<=LIM) (hy:yk s y<=LIM) (hxy:yk s (qJ x y)<=LIM):vv.sh F (wL x) (wL y)=some ((wL (qJ x y),()),()):=by
 obtain ⟨a1,a2,a3⟩:=XZ h hx;obtain ⟨b1,b2,b3⟩:=XZ h hy;obtain ⟨c1,c2,c3,_,_⟩:=uq h (qJ x y);have i1:inR (x.1+y.1)=true:=v6 (uS c1 hxy);have i2:inR (x.2.1+y.2.1)=true:=v6 (uS c2 hxy);have i3:inR (x.2.2+y.2.2)=true:=v6 (uS c3 hxy);unfold vv.sh uK.sh;rw[YG F a1 b1,zg,YG F a2 b2,zg,YG F a3 b3,zg];simp only[wL,xv];unfold ue vN;rw[i1,i2,i3];rfl
theorem XF (F:Nat) {s:Int} (h:1<=s) {x y:LZ} (hx:yk s x<=LIM) (hy:yk s y<=LIM) (hxy:yk s (uc x y)<=LIM):xP.sh F (wL x) (wL y)=some ((wL (uc x y),()),()):=by
 obtain ⟨a1,a2,a3⟩:=XZ h hx;obtain ⟨b1,b2,b3⟩:=XZ h hy;obtain ⟨c1,c2,c3,_,_⟩:=uq h (uc x y);have i1:inR (x.1-y.1)=true:=v6 (uS c1 hxy);have i2:inR (x.2.1-y.2.1)=true:=v6 (uS c2 hxy);have i3:inR (x.2.2-y.2.2)=true:=v6 (uS c3 hxy);unfold xP.sh uJ.sh;rw[Sa F a1 b1,zg,Sa F a2 b2,zg,Sa F a3 b3,zg];simp only[wL,xv];unfold ue vN;rw[i1,i2,i3];rfl
theorem UO (F:Nat) {s:Int} (h:1<=s) {x:LZ} {k:Int} (hx:yk s x<=LIM) (hk:inR k=true) (hxy:yk s (yO x k)<=LIM):vk.sh F (wL x) (mk k)=some ((wL (yO x k),()),()):=by
 obtain ⟨a1,a2,a3⟩:=XZ h hx;obtain ⟨c1,c2,c3,_,_⟩:=uq h (yO x k);have i1:inR (x.1*k)=true:=v6 (uS c1 hxy);have i2:inR (x.2.1*k)=true:=v6 (uS c2 hxy);have i3:inR (x.2.2*k)=true:=v6 (uS c3 hxy);unfold vk.sh vQ.sh;rw[ZG F a1 (wj hk),zg,ZG F a2 (wj hk),zg,ZG F a3 (wj hk),zg];simp only[wL,xv];unfold ue vN;rw[i1,i2,i3];rfl
theorem wL_inj {s:Int} (h:1<=s) {x y:LZ} (e:wL x=wL y):x=y:=by
 have h1:=congrArg (fun l:zf.T=>val l.1) e;have h2:=congrArg (fun l:zf.T=>val l.2.1) e;have h3:=congrArg (fun l:zf.T=>val l.2.2) e;simp only[wL,xv] at h1 h2 h3;obtain ⟨x1,x2,x3⟩:=x;obtain ⟨y1,y2,y3⟩:=y;simp only at h1 h2 h3;subst h1 h2 h3;rfl
theorem zbV {v:Int}:decide ((mk v).1<0)=decide (v<0):=by
 apply decide_eq_decide.2;simp only[mk]; omega
theorem VL (F:Nat) {v:Int}:∃k,vp.sh F (mk v)=some ((k,()),())/\decide (k>0)=decide (v>0)/\decide (k>=0)=decide (v>=0)/\decide (k<=0)=decide (v<=0):=by
 unfold vp.sh;rw[zbV,VZ];by_cases h:v<0
 ·rw[decide_eq_true h]
  exact ⟨-1,rfl,by simp; omega,by simp; omega,by simp; omega⟩
 ·rw[decide_eq_false h]
  by_cases h0:v=0
  ·rw[decide_eq_true h0]
   exact ⟨0,rfl,by simp; omega,by simp; omega,by simp; omega⟩
  ·rw[decide_eq_false h0]
   exact ⟨1,rfl,by simp; omega,by simp; omega,by simp; omega⟩
def vE (s:Int) (z:LZ) (q:Int):Bool:=decide (yK s z q>0)
theorem ZQ (F:Nat) {m:za.T} {q:Int} (h:td m.2.2 q=true) {z:LZ} (hz:yk m.2.2 z<=LIM):yx.sh F m (wL z) q=some ((vE m.2.2 z q,()),()):=by
 unfold yx.sh vE;rw[Um F h hz,zg];obtain ⟨k,e,e1,_⟩:=VL F (v:=yK m.2.2 z q);rw[e,zg,e1]
theorem zeh {a b:Int} (ha:0<=a) (hb:0<b):ZX 0 a b*b<=a/\a<(ZX 0 a b+1)*b/\0<=ZX 0 a b/\ZX 0 a b<=a:=by
 obtain ⟨q0,q1,q2,q3,q4⟩:=aQR (a:=a) (b:=b) (by omega);have e:ZX 0 a b=aQ a b:=by
  unfold ZX tq tr awB dsg;rw[decide_eq_false (show ¬a<0 by omega),decide_eq_false (show ¬b<0 by omega)];simp only[beq_self_eq_true,Bool.not_true,cond_false,cond_true];rw[decide_eq_false (show ¬aR a b<0 by omega)];simp
 rw[e];have n1:(b.natAbs:Int)=b:=by omega
 have n2:(a.natAbs:Int)=a:=by omega
 rw[n1] at q2 q3;rw[n2] at q3 q4;rw[Int.add_mul,Int.mul_comm (aQ a b) b];omega
theorem zgn {a b:Int} (ha:a<0) (hb:b<0):ZX 1 a b*b<=a/\a<(ZX 1 a b-1)*b/\1<=ZX 1 a b/\ZX 1 a b<=-a:=by
 obtain ⟨q0,q1,q2,q3,q4⟩:=aQR (a:=a) (b:=b) (by omega);have n1:(b.natAbs:Int)=-b:=by omega
 have n2:(a.natAbs:Int)=-a:=by omega
 have e:ZX 1 a b=if aR a b=0 then aQ a b else aQ a b+1:=by
  unfold ZX tq tr awB dsg;rw[decide_eq_true ha,decide_eq_true hb];simp only[beq_self_eq_true,Bool.not_true,cond_false,cond_true];by_cases hr:aR a b=0
  ·rw[hr]; rfl
  ·rw[decide_eq_false (show ¬-aR a b=0 by omega),decide_eq_true (show -aR a b<0 by omega),if_neg hr]
   rfl
 rw[n1] at q2 q3;rw[n2] at q3 q4;rw[Int.neg_mul,Int.mul_comm] at q3;rw[e];have hb1:aQ a b<=aQ a b*(-b):=by
  have:=Int.mul_le_mul_of_nonneg_left (show 1<=-b by omega) q0;omega
 rw[Int.mul_neg] at hb1;split
 ·rename_i hr
  rw[Int.sub_mul];by_cases h0:aQ a b=0
  ·rw[h0] at q3; omega
  ·omega
 ·rename_i hr
  rw[show aQ a b+1-1=aQ a b by omega,Int.add_mul];omega
def tnB (was:Bool) (v:Int):Bool:=!(decide (v>0)==was)
theorem T3 {a b:Int} (hb:b≠0) (ha:nA a<=LIM):inR (tq a b)=true:=by
 have:=tq_bd (a:=a) (b:=b) hb;unfold nA LIM at ha;rw[yR]; omega
theorem RH (F:Nat) {n most:Int} (hn:inR n=true):∃k:Int,(oB (uA.sh F (mk n)) fun c_7=>bif c_7.1.2.1 then (some ((c_7.1.1,decide (c_7.1.1<=most),()),()):Option yo.sg.R) else some ((c_7.1.1,false,()),())) =
  some ((k,decide (-9223372036854775808<=n)&&decide (n<9223372036854775808)&&decide (n<=most),()),())/\((decide (-9223372036854775808<=n)&&decide (n<9223372036854775808))=true->k=n):=by
 rw[int_eq F hn,zg];cases h:(decide (-9223372036854775808<=n)&&decide (n<9223372036854775808)) with
 | false=>exact ⟨0,rfl,fun h=>by cases h⟩
 | true=>exact ⟨n,rfl,fun _=>rfl⟩
theorem Sb (F:Nat) (hF:70<F) (l:zf.T) (s:Int) (was:Bool) {v d most:Int} (hv:nA v<=LIM) (hd:nA d<=LIM) (hm:0<=most) (hm2:most<9223372036854775808) :
  ∃(n:Int) (ok:Bool),yo.sh F (l,s,was) (mk v) (mk d) most=some ((n,ok,()),())/\(ok=true->0<=n/\n<=most/\tnB was (v+n*d)=true/\∀j,0<=j->j<n->tnB was (v+j*d)=false) /\
  (ok=false->∀j,0<=j->j<=most->tnB was (v+j*d)=false):=by
 have iv:=v6 hv;have id:=v6 hd;have hL:LIM=85070591730234615865843651857942052864:=rfl;unfold yo.sh;obtain ⟨k,e,e1,e2,e3⟩:=VL F (v:=v);obtain ⟨k',e',e1',e2',e3'⟩:=VL F (v:=d);rw[e,zg,e1];cases ht:(!(decide (v>0)==was)) with
 | true=>exact ⟨0,true,rfl,fun _=>⟨by omega,hm,by unfold tnB; rw[Int.zero_mul,Int.add_zero]; exact ht,fun j h1 h2=>by omega⟩,fun h=>by cases h⟩
 | false =>
  have hs:decide (v>0)=was:=by simpa using ht
  simp only[cond_false];rw[e',zg,zg,e2',e3'];have ineg:inR (-v)=true:=by unfold nA at hv; rw[yR]; omega
  have rneg:ue (-v)=mk (-v):=by unfold ue; rw[ineg]; rfl
  have nneg:nA (-v)<=LIM:=by unfold nA at*; omega
  cases was with
  | true =>
   have hv0:v>0:=of_decide_eq_true hs;simp only[cond_true,Bool.not_true,cond_false];by_cases hd0:d>=0
   ·rw[decide_eq_true hd0]
    refine ⟨0,false,rfl,(fun h=>by cases h),fun _ j h1 h2=>?_⟩;unfold tnB;have:=Int.mul_nonneg h1 hd0;rw[decide_eq_true (show v+j*d>0 by omega)];rfl
   ·rw[decide_eq_false hd0]
    simp only[cond_false,yo.j5,cond_true,yo.j10];rw[QW F (wj iv),zg,xv,rneg,za7 F hF ineg id (by omega) (T3 (by omega) nneg) (by omega) (by omega),zg,za7 F hF ineg id (by omega) (T3 (by omega) nneg) (by omega) (by omega),zg];obtain ⟨c1,c2,c3,c4⟩:=zgn (a:=-v) (b:=d) (by omega) (by omega);generalize ZX 1 (-v) d=n at*;have hn:inR n=true:=by unfold nA at hv; rw[yR]; omega
    obtain ⟨k,ek,hk⟩:=RH F (n:=n) (most:=most) hn;have hlow:∀j,0<=j->j<n->tnB true (v+j*d)=false:=fun j h1 h2=>by
     have:=Int.mul_le_mul_of_nonpos_right (show j<=n-1 by omega) (show d<=0 by omega);unfold tnB;rw[decide_eq_true (show v+j*d>0 by omega)];rfl
    refine ⟨k,_,ek,fun h=>?_,fun h j h1 h2=>?_⟩
    ·rw[Bool.and_eq_true] at h
     have:=hk h.1;subst this;refine ⟨by omega,of_decide_eq_true h.2,?_,hlow⟩;unfold tnB;rw[decide_eq_false (show ¬v+k*d>0 by omega)];rfl
    ·refine hlow j h1 ?_
     rw[decide_eq_true (show -9223372036854775808<=n by omega),Bool.true_and] at h;by_cases hm3:n<=most
     ·rw[decide_eq_true hm3,decide_eq_true (show n<9223372036854775808 by omega)] at h; cases h
     ·omega
  | false =>
   have hv0:¬v>0:=of_decide_eq_false hs;simp only[cond_true,Bool.not_false,cond_false];by_cases hd0:d<=0
   ·rw[decide_eq_true hd0]
    refine ⟨0,false,rfl,(fun h=>by cases h),fun _ j h1 h2=>?_⟩;unfold tnB;have:=Int.mul_le_mul_of_nonneg_left hd0 h1;rw[Int.mul_zero] at this;rw[decide_eq_false (show ¬v+j*d>0 by omega)];rfl
   ·rw[decide_eq_false hd0]
    simp only[cond_false,yo.j5,cond_true,yo.j10];rw[QW F (wj iv),zg,xv,rneg,za7 F hF ineg id (by omega) (T3 (by omega) nneg) (by omega) (by omega),zg];obtain ⟨c1,c2,c3,c4⟩:=zeh (a:=-v) (b:=d) (by omega) (by omega);generalize ZX 0 (-v) d=n at*;have hn:inR n=true:=by unfold nA at hv; rw[yR]; omega
    have hn1:inR (n+1)=true:=by unfold nA at hv; rw[yR]; omega
    rw[tK F (v:=1) (by omega) (by omega),zg,YG F (wj hn) (wj (by decide)),zg,xv,xv,show ue (n+1)=mk (n+1) by unfold ue; rw[hn1]; rfl];obtain ⟨k,ek,hk⟩:=RH F (n:=n+1) (most:=most) hn1;have hlow:∀j,0<=j->j<n+1->tnB false (v+j*d)=false:=fun j h1 h2=>by
     have:=Int.mul_le_mul_of_nonneg_right (show j<=n by omega) (show 0<=d by omega);unfold tnB;rw[decide_eq_false (show ¬v+j*d>0 by omega)];rfl
    refine ⟨k,_,ek,fun h=>?_,fun h j h1 h2=>?_⟩
    ·rw[Bool.and_eq_true] at h
     have:=hk h.1;subst this;refine ⟨by omega,of_decide_eq_true h.2,?_,hlow⟩;unfold tnB;rw[decide_eq_true (show v+(n+1)*d>0 by omega)];rfl
    ·refine hlow j h1 ?_
     rw[decide_eq_true (show -9223372036854775808<=n+1 by omega),Bool.true_and] at h;by_cases hm3:n+1<=most
     ·rw[decide_eq_true hm3,decide_eq_true (show n+1<9223372036854775808 by omega)] at h; cases h
     ·omega
theorem YW {q s k:Int} (hs:1<=s) (h1:(k-1)*s<q) (h2:q<=k*s):xw q s=k:=by
 have e:=Int.mul_ediv_add_emod q s;have r1:=Int.emod_nonneg q (show s≠0 by omega);have r2:=Int.emod_lt_of_pos q (show 0<s by omega);rw[Int.mul_comm] at e;unfold xw;generalize q/s=d at*;have hd1:d<=k:=by
  rcases Int.lt_or_le k d with h | h
  ·have:=Int.mul_le_mul_of_nonneg_right (show k+1<=d by omega) (show 0<=s by omega)
   rw[Int.add_mul] at this; omega
  ·exact h
 have hd2:k-1<=d:=by
  rcases Int.lt_or_le d (k-1) with h | h
  ·have:=Int.mul_le_mul_of_nonneg_right (show d+1<=k-1 by omega) (show 0<=s by omega)
   rw[Int.add_mul] at this; omega
  ·exact h
 split
 ·rename_i h0
  rw[h0] at e;rcases Int.lt_or_le d k with h | h
  ·have:d=k-1:=by omega
   subst this;omega
  ·omega
 ·rename_i h0
  rcases Int.lt_or_le d k with h | h
  ·omega
  ·have:d=k:=by omega
   subst this;omega
theorem Yn {q s:Int} (hs:1<=s):(xw q s-1)*s<q/\q<=xw q s*s:=by
 have e:=Int.mul_ediv_add_emod q s;have r1:=Int.emod_nonneg q (show s≠0 by omega);have r2:=Int.emod_lt_of_pos q (show 0<s by omega);rw[Int.mul_comm] at e;unfold xw;generalize q/s=d at*;split
 ·rw[Int.add_zero,Int.sub_mul]; omega
 ·rw[show d+1-1=d by omega,Int.add_mul]; omega
def vS (was:Bool) (s:Int) (z:LZ) (q:Int):Bool:=tnB was (yK s z q)
theorem T0 {s:Int} {z:LZ} {x y k:Int} (hx:xw x s=k) (hy:xw y s=k):yK s z y=yK s z x+(y-x)*z.2.1:=by
 unfold yK;rw[hx,hy];grind
theorem VG {was:Bool} {s:Int} {z:LZ} {lo hi x k:Int} (h1:lo<=x) (h2:x<=hi) (hlo:xw lo s=k) (hx:xw x s=k) (hhi:xw hi s=k) (t1:vS was s z lo=false) (t2:vS was s z hi=false):vS was s z x=false:=by
 have e1:=T0 (z:=z) hlo hx;have e2:=T0 (z:=z) hx hhi;have p1:z.2.1>=0->0<=(x-lo)*z.2.1/\0<=(hi-x)*z.2.1:=fun h=>⟨Int.mul_nonneg (by omega) h,Int.mul_nonneg (by omega) h⟩
 have p2:z.2.1<=0->(x-lo)*z.2.1<=0/\(hi-x)*z.2.1<=0:=fun h=>⟨Int.mul_nonpos_of_nonneg_of_nonpos (by omega) h,Int.mul_nonpos_of_nonneg_of_nonpos (by omega) h⟩
 unfold vS tnB at*;generalize yK s z x=vx at*;generalize yK s z lo=vl at*;generalize yK s z hi=vh at*;generalize (x-lo)*z.2.1=d1 at*;generalize (hi-x)*z.2.1=d2 at*;generalize z.2.1=b at*;cases was with
 | true =>
  have t1:vl>0:=by simpa using t1
  have t2:vh>0:=by simpa using t2
  rw[decide_eq_true (show vx>0 by rcases Int.le_total 0 b with h | h<;>first | (have:=p1 h; omega) | (have:=p2 h; omega))]
  rfl
 | false =>
  have t1:¬vl>0:=by simpa using t1
  have t2:¬vh>0:=by simpa using t2
  rw[decide_eq_false (show ¬vx>0 by rcases Int.le_total 0 b with h | h<;>first | (have:=p1 h; omega) | (have:=p2 h; omega))]
  rfl
theorem Tz (F:Nat) {s q:Int} (h:td s q=true) {z:LZ} (hz:yk s z<=LIM) (was:Bool):wH.sh F (wL z,s,was) q=some ((mk (yK s z q),()),()):=by
 unfold wH.sh;rw[Um F h hz,zg]
theorem Ru (F:Nat) (hF:70<F) {s:Int} {z:LZ} (hz:yk s z<=LIM) (hs:1<=s) (hs2:s<=1000000000000) (was:Bool) {lo hi k:Int} (h0:0<=lo) (h1:hi<=1099511627776) (hk:∀x,lo<=x->x<=hi->xw x s=k) :
  ∃(f:Int) (ok:Bool),xZ.sh F (wL z,s,was) lo hi=some ((f,ok,()),())/\(ok=true->lo<=f/\f<=hi/\vS was s z f=true/\∀x,lo<=x->x<f->vS was s z x=false) /\
  (ok=false->∀x,lo<=x->x<=hi->vS was s z x=false):=by
 unfold xZ.sh;by_cases hlt:lo>hi
 ·rw[decide_eq_true hlt]
  exact ⟨0,false,rfl,(fun h=>by cases h),fun _ x a b=>by omega⟩
 ·rw[decide_eq_false hlt]
  simp only[cond_false];have hf:td s lo=true:=wI.2 ⟨hs,hs2,h0,by omega⟩;obtain ⟨_,sb,_⟩:=uq hs z;rw[Tz F hf hz,zg,zY (n:=hi-lo) (by omega) (by omega)];obtain ⟨n,ok,e,a1,a2⟩:=Sb F hF (wL z) s was (v:=yK s z lo) (d:=z.2.1) (most:=hi-lo) (uS (Y5 hf z) hz) (uS sb hz) (by omega) (by omega);have e':yo.sh F (wL z,s,was) (mk (yK s z lo)) (wL z).2.1 (hi-lo)=some ((n,ok,()),()):=e;show ∃(f:Int) (ok:Bool),(oB (yo.sh F (wL z,s,was) (mk (yK s z lo)) (wL z).2.1 (hi-lo)) fun c_2=>_)=_/\_;rw[e',zg];have hv:∀j,0<=j->j<=hi-lo->yK s z lo+j*z.2.1=yK s z (lo+j):=fun j b1 b2=>by
   rw[T0 (z:=z) (hk lo (by omega) (by omega)) (hk (lo+j) (by omega) (by omega)),show lo+j-lo=j by omega]
  refine ⟨_,ok,rfl,fun h=>?_,fun h x b1 b2=>?_⟩
  ·obtain ⟨b1,b2,b3,b4⟩:=a1 h
   rw[zY (n:=lo+n) (by omega) (by omega)];refine ⟨by omega,by omega,?_,fun x d1 d2=>?_⟩
   ·unfold vS; rw[<-hv n b1 b2]; exact b3
   ·have:=b4 (x-lo) (by omega) (by omega)
    rw[hv (x-lo) (by omega) (by omega),show lo+(x-lo)=x by omega] at this;exact this
  ·have:=a2 h (x-lo) (by omega) (by omega)
   rw[hv (x-lo) (by omega) (by omega),show lo+(x-lo)=x by omega] at this;exact this
def bLo (s k:Int):Int:=(k-1)*s+1
def bHi (s k:Int):Int:=k*s
theorem zd3 (s:Int) (hs:1<=s) (z:LZ) {k i:Int}:yK s z (bLo s i)=yK s z (bLo s k)+(i-k)*(z.2.1*s+z.2.2):=by
 have h:∀j,xw (bLo s j) s=j:=fun j=>YW hs (by unfold bLo; omega) (by unfold bLo; rw[Int.sub_mul]; omega)
 unfold yK;rw[h,h];unfold bLo;grind
theorem zdc (s:Int) (hs:1<=s) (z:LZ) {k i:Int}:yK s z (bHi s i)=yK s z (bHi s k)+(i-k)*(z.2.1*s+z.2.2):=by
 have h:∀j,xw (bHi s j) s=j:=fun j=>YW hs (by unfold bHi; rw[Int.sub_mul]; omega) (by unfold bHi; omega)
 unfold yK;rw[h,h];unfold bHi;grind
theorem zg6 {s:Int} (hs:1<=s) (hs2:s<=1000000000000) (z:LZ):nA (z.2.1*s)<=yk s z/\nA (z.2.1*s+z.2.2)<=yk s z:=by
 have h1:=Vi (z.2.1*s) z.2.2;have h2:nA (z.2.1*s)<=nA z.2.1*1099511627776:=by
  rw[UL,qt (show 0<=s by omega)];exact Int.mul_le_mul_of_nonneg_left (by omega) (qA _)
 have h3:=R4 (a:=z.2.2) (V6 hs).1;have h4:=qA z.1;have h5:=Int.mul_nonneg (qA z.2.2) (show 0<=kM s by have:=V6 hs; omega);unfold yk;omega
theorem zbj (F:Nat) (l:zf.T) {s k:Int} (was:Bool) (hs:1<=s) (hs2:s<=1000000000000) (hk:1<=k) (hk2:(k-1)*s<=1099511627776):xY.sh F (l,s,was) k=some ((bLo s k,(if 1099511627776<bHi s k then 1099511627776 else bHi s k),()),()):=by
 unfold xY.sh bLo bHi;have h0:=Int.mul_nonneg (show 0<=k-1 by omega) (show 0<=s by omega);have hks:k-1<=(k-1)*s:=by
  have:=Int.mul_le_mul_of_nonneg_left hs (show 0<=k-1 by omega);omega
 have e:k*s=(k-1)*s+s:=by rw[Int.sub_mul]; omega
 rw[zY (n:=k-1) (by omega) (by omega),zY (n:=(k-1)*s) (by omega) (by omega),zY (n:=(k-1)*s+1) (by omega) (by omega),zY (n:=k*s) (by omega) (by omega)]
theorem lo_fit {s k:Int} (hs:1<=s) (hs2:s<=1000000000000) (hk:1<=k) (hk2:k*s<=1099511627776):td s (bLo s k)=true/\td s (bHi s k)=true:=by
 have h0:=Int.mul_nonneg (show 0<=k-1 by omega) (show 0<=s by omega);have e:k*s=(k-1)*s+s:=by rw[Int.sub_mul]; omega
 exact ⟨wI.2 ⟨hs,hs2,by unfold bLo; omega,by unfold bLo; omega⟩,wI.2 ⟨hs,hs2,by unfold bHi; omega,by unfold bHi; omega⟩⟩
theorem zgA (F:Nat) (hF:70<F) {s:Int} {z:LZ} (hz:yk s z<=LIM) (hs:1<=s) (hs2:s<=1000000000000) (was:Bool) {k most:Int} (hk:1<=k) (hmost:most*s<=1099511627776) :
  ∃(j:Int) (ok:Bool),wG.sh F (wL z,s,was) k most=some ((j,ok,()),()) /\
  (ok=true->k<=j/\j<=most/\(vS was s z (bLo s j)=true\/vS was s z (bHi s j)=true)/\∀i,k<=i->i<j->vS was s z (bLo s i)=false/\vS was s z (bHi s i)=false) /\
  (ok=false->∀i,k<=i->i<=most->vS was s z (bLo s i)=false/\vS was s z (bHi s i)=false):=by
 unfold wG.sh;by_cases hlt:k>most
 ·rw[decide_eq_true hlt]
  exact ⟨0,false,rfl,(fun h=>by cases h),fun _ x a b=>by omega⟩
 ·rw[decide_eq_false hlt]
  simp only[cond_false];have hks:k*s<=1099511627776:=by
   have:=Int.mul_le_mul_of_nonneg_right (show k<=most by omega) (show 0<=s by omega);omega
  have hms:most<=most*s:=by
   have:=Int.mul_le_mul_of_nonneg_left hs (show 0<=most by omega);omega
  have e:k*s=(k-1)*s+s:=by rw[Int.sub_mul]; omega
  obtain ⟨f1,f2⟩:=lo_fit hs hs2 hk hks;obtain ⟨_,sb,sc,_⟩:=uq hs z;obtain ⟨d1,d2⟩:=zg6 hs hs2 z;have i1:inR (z.2.1*s)=true:=v6 (uS d1 hz);have i2:inR (z.2.1*s+z.2.2)=true:=v6 (uS d2 hz);have is:inR s=true:=qn (by omega) (by omega);rw[tK F (v:=s) (by omega) (by omega),zg,show (wL z).2.1=mk z.2.1 from rfl,show (wL z).2.2=mk z.2.2 from rfl,ZG F (wj (v6 (uS sb hz))) (wj is),zg,xv,xv,
   show ue (z.2.1*s)=mk (z.2.1*s) by unfold ue; rw[i1]; rfl,YG F (wj i1) (wj (v6 (uS sc hz))),zg,xv,xv,show ue (z.2.1*s+z.2.2)=mk (z.2.1*s+z.2.2) by unfold ue; rw[i2]; rfl,
   zbj F (wL z) was hs hs2 hk (by omega),zg]
  have hh:¬1099511627776<bHi s k:=by unfold bHi; omega
  rw[if_neg hh,Tz F f1 hz,zg,zY (n:=most-k) (by omega) (by omega)];obtain ⟨a,isA,ea,a1,a2⟩:=Sb F hF (wL z) s was (v:=yK s z (bLo s k)) (d:=z.2.1*s+z.2.2) (most:=most-k) (uS (Y5 f1 z) hz) (uS d2 hz) (by omega) (by omega);obtain ⟨b,isB,eb,b1,b2⟩:=Sb F hF (wL z) s was (v:=yK s z (bHi s k)) (d:=z.2.1*s+z.2.2) (most:=most-k) (uS (Y5 f2 z) hz) (uS d2 hz) (by omega) (by omega);rw[ea,zg,Tz F f2 hz,zg,eb,zg];have va:∀j,yK s z (bLo s k)+j*(z.2.1*s+z.2.2)=yK s z (bLo s (k+j)):=fun j=>by
   rw[zd3 s hs z (k:=k) (i:=k+j),show k+j-k=j by omega]
  have vb:∀j,yK s z (bHi s k)+j*(z.2.1*s+z.2.2)=yK s z (bHi s (k+j)):=fun j=>by
   rw[zdc s hs z (k:=k) (i:=k+j),show k+j-k=j by omega]
  have A1:isA=true->0<=a/\a<=most-k/\vS was s z (bLo s (k+a))=true/\∀i,k<=i->i<k+a->vS was s z (bLo s i)=false:=fun h=>by
   obtain ⟨c1,c2,c3,c4⟩:=a1 h;refine ⟨c1,c2,?_,fun i g1 g2=>?_⟩
   ·unfold vS; rw[<-va]; exact c3
   ·have:=c4 (i-k) (by omega) (by omega)
    rw[va,show k+(i-k)=i by omega] at this;exact this
  have B1:isB=true->0<=b/\b<=most-k/\vS was s z (bHi s (k+b))=true/\∀i,k<=i->i<k+b->vS was s z (bHi s i)=false:=fun h=>by
   obtain ⟨c1,c2,c3,c4⟩:=b1 h;refine ⟨c1,c2,?_,fun i g1 g2=>?_⟩
   ·unfold vS; rw[<-vb]; exact c3
   ·have:=c4 (i-k) (by omega) (by omega)
    rw[vb,show k+(i-k)=i by omega] at this;exact this
  have A2:isA=false->∀i,k<=i->i<=most->vS was s z (bLo s i)=false:=fun h i g1 g2=>by
   have:=a2 h (i-k) (by omega) (by omega);rw[va,show k+(i-k)=i by omega] at this;exact this
  have B2:isB=false->∀i,k<=i->i<=most->vS was s z (bHi s i)=false:=fun h i g1 g2=>by
   have:=b2 h (i-k) (by omega) (by omega);rw[vb,show k+(i-k)=i by omega] at this;exact this
  clear a1 a2 b1 b2 va vb ea eb;cases isA with
  | true =>
   obtain ⟨c1,c2,c3,c4⟩:=A1 rfl;cases isB with
   | true =>
    obtain ⟨g1,g2,g3,g4⟩:=B1 rfl;by_cases hab:b<a
    ·refine ⟨k+b,true,?_,fun _=>⟨by omega,by omega,.inr g3,fun i h1 h2=>⟨c4 i h1 (by omega),g4 i h1 h2⟩⟩,fun h=>by cases h⟩
     simp only[cond_true];rw[if_pos hab,zY (n:=k+b) (by omega) (by omega)]
    ·refine ⟨k+a,true,?_,fun _=>⟨by omega,by omega,.inl c3,fun i h1 h2=>⟨c4 i h1 h2,g4 i h1 (by omega)⟩⟩,fun h=>by cases h⟩
     simp only[cond_true];rw[if_neg hab,zY (n:=k+a) (by omega) (by omega)]
   | false =>
    refine ⟨k+a,true,?_,fun _=>⟨by omega,by omega,.inl c3,fun i h1 h2=>⟨c4 i h1 h2,B2 rfl i h1 (by omega)⟩⟩,fun h=>by cases h⟩;simp only[cond_true,cond_false];rw[zY (n:=k+a) (by omega) (by omega)]
  | false =>
   simp only[cond_false];refine ⟨_,isB,rfl,fun h=>?_,fun h i h1 h2=>⟨A2 rfl i h1 h2,B2 h i h1 h2⟩⟩;obtain ⟨g1,g2,g3,g4⟩:=B1 h;rw[zY (n:=k+b) (by omega) (by omega)];exact ⟨by omega,by omega,.inr g3,fun i h1 h2=>⟨A2 rfl i h1 (by omega),g4 i h1 h2⟩⟩
def ZT (s:Int) (z:LZ) (q f:Int):Prop:=q<f/\f<=1099511627777/\(∀x,q<x->x<f->vE s z x=vE s z q)/\(f<=1099511627776->vE s z f≠vE s z q)
theorem zc1 {s:Int} {z:LZ} {q f g:Int} (hf:ZT s z q f) (hg:ZT s z q g):f=g:=by
 obtain ⟨a1,a2,a3,a4⟩:=hf;obtain ⟨b1,b2,b3,b4⟩:=hg;rcases Int.lt_trichotomy f g with h | h | h
 ·exact absurd (b3 f a1 h) (a4 (by omega))
 ·exact h
 ·exact absurd (a3 g b1 h) (b4 (by omega))
theorem qR {s:Int} {z:LZ} {q x:Int}:vS (vE s z q) s z x=false↔vE s z x=vE s z q:=by
 unfold vS tnB vE;simp only[Bool.not_eq_false',beq_iff_eq]
theorem Y8 {s:Int} {z:LZ} {q x:Int}:vS (vE s z q) s z x=true↔vE s z x≠vE s z q:=by
 rw[<-Bool.not_eq_false,ne_eq,qR]
theorem zfC (F:Nat) {s:Int} (hs:1<=s) (hs2:s<=1000000000000) {z:LZ} (hz:yk s z<=LIM):uj.sh F (wL z) s=some ((mk (yk s z),0,()),()):=by
 have hL:LIM=85070591730234615865843651857942052864:=rfl;have hfar:∀v,nA v<=LIM->uv.sh F (mk v)=some ((mk (nA v),0,()),()):=fun v hv=>by
  have iv:=v6 hv;unfold uv.sh;rw[zbV];by_cases h:v<0
  ·rw[decide_eq_true h,cond_true,QW F (wj iv),zg,xv,show -v=nA v by unfold nA; omega]
   have:inR (nA v)=true:=by rw[yR]; have:=qA v; omega
   unfold ue vN;rw[this]; rfl
  ·rw[decide_eq_false h,cond_false,show nA v=v by unfold nA; omega]
 obtain ⟨s1,s2,s3,_⟩:=uq hs z;unfold uj.sh;rw[zc9,zg,wI.2 ⟨hs,hs2,by omega,by omega⟩];simp only[Bool.not_true,cond_false];rw[show (wL z).1=mk z.1 from rfl,show (wL z).2.1=mk z.2.1 from rfl,show (wL z).2.2=mk z.2.2 from rfl,hfar _ (uS s1 hz),zg,hfar _ (uS s2 hz),zg,hfar _ (uS s3 hz),zg];simp only[bne_self_eq_false,cond_false];have hab:∀v,nA (nA v)=nA v:=fun v=>qt (qA v)
 have e1:yk s (nA z.1,nA z.2.1,nA z.2.2)=yk s z:=by
  unfold yk;rw[hab,hab,hab]
 have e2:yK s (nA z.1,nA z.2.1,nA z.2.2) 1099511627776=yk s z:=rfl;have:=Um F (s:=s) (q:=1099511627776) (wI.2 ⟨hs,hs2,by omega,by omega⟩) (z:=(nA z.1,nA z.2.1,nA z.2.2)) (by rw[e1]; exact hz);rw[show ((mk (nA z.1),mk (nA z.2.1),mk (nA z.2.2)):zf.T)=wL (nA z.1,nA z.2.1,nA z.2.2) from rfl,this,zg,e2]
theorem cmp_lim (F:Nat) {v:Int} (h0:0<=v) (h:v<=LIM):∃k,v8.sh F (mk v) (4611686018427387904,0)=some ((k,()),())/\decide (k>0)=false:=by
 have hL:LIM=85070591730234615865843651857942052864:=rfl;have e:((4611686018427387904,0):Int×Int)=mk LIM:=by rw[hL]; rfl
 rw[e,zcw F (wj (by rw[yR]; omega)) (wj (by rw[yR]; omega)),xv,xv];exact ⟨_,rfl,by rw[S8]; exact decide_eq_false (by omega)⟩
theorem Qt {s x y:Int} (hs:1<=s) (h:x<=y):xw x s<=xw y s:=by
 obtain ⟨a1,a2⟩:=Yn (q:=x) hs;obtain ⟨b1,b2⟩:=Yn (q:=y) hs;rcases Int.lt_or_le (xw y s) (xw x s) with h' | h'
 ·have:=Int.mul_le_mul_of_nonneg_right (show xw y s<=xw x s-1 by omega) (show 0<=s by omega)
  omega
 ·exact h'
theorem Q3 {s k:Int} (hs:1<=s):xw (bLo s k) s=k/\xw (bHi s k) s=k :=
 ⟨YW hs (by unfold bLo; omega) (by unfold bLo; rw[Int.sub_mul]; omega),YW hs (by unfold bHi; rw[Int.sub_mul]; omega) (by unfold bHi; omega)⟩
theorem lo_hi {s k:Int} (hs:1<=s):bLo s k<=bHi s k:=by unfold bLo bHi; rw[Int.sub_mul]; omega
theorem WM {was:Bool} {s:Int} {z:LZ} {q j:Int} (hs:1<=s) (h1:∀x,q<x->x<=xw q s*s->x<=1099511627776->vS was s z x=false)
  (h2:∀i,xw q s+1<=i->i<j->vS was s z (bLo s i)=false/\vS was s z (bHi s i)=false):∀x,q<x->x<bLo s j->x<=1099511627776->vS was s z x=false:=by
 intro x hx hxj hx2;by_cases hk:x<=xw q s*s
 ·exact h1 x hx hk hx2
 ·obtain ⟨a1,a2⟩:=Yn (q:=x) hs
  have hlo:xw q s+1<=xw x s:=by
   rcases Int.lt_or_le (xw q s) (xw x s) with h | h
   ·omega
   ·have:=Int.mul_le_mul_of_nonneg_right h (show 0<=s by omega)
    omega
  have hhi:xw x s<j:=by
   rcases Int.lt_or_le (xw x s) j with h | h
   ·exact h
   ·have:=Int.mul_le_mul_of_nonneg_right (show j-1<=xw x s-1 by omega) (show 0<=s by omega)
    unfold bLo at hxj;omega
  obtain ⟨t1,t2⟩:=h2 _ hlo hhi;obtain ⟨l1,l2⟩:=Q3 (s:=s) (k:=xw x s) hs;exact VG (show bLo s (xw x s)<=x by unfold bLo; omega) (show x<=bHi s (xw x s) from a2) l1 rfl l2 t1 t2
theorem zb4 (F:Nat) (hF:70<F) {s q:Int} {z:LZ} (hz:yk s z<=LIM) (hs:1<=s) (hs2:s<=1000000000000) (hq:0<=q) (j:Int) (hj1:1<=j) (hjq:q<bLo s j) (hj:j<=kM s)
  (hn:∀x,q<x->x<bLo s j->x<=1099511627776->vS (vE s z q) s z x=false)
  (hend:j<kM s->(vS (vE s z q) s z (bLo s j)=true\/vS (vE s z q) s z (bHi s j)=true)) (k0 k1 k2:Int->Int->Option wJ.sg.R)
  (e1:k1=k2):∃f:Int,wJ.j15 F k0 k1 k2 (kM s) j (wL z,s,vE s z q)=k1 f 0/\ZT s z q f:=by
 obtain ⟨m1,m2⟩:=Yn (q:=1099511627776) hs;have hjs:(j-1)*s<1099511627776:=by
  have:=Int.mul_le_mul_of_nonneg_right (show j-1<=kM s-1 by omega) (show 0<=s by omega);unfold kM at this;omega
 obtain ⟨l1,l2⟩:=Q3 (s:=s) (k:=j) hs;have hll:=lo_hi (s:=s) (k:=j) hs;have h0:=Int.mul_nonneg (show 0<=j-1 by omega) (show 0<=s by omega);unfold wJ.j15;rw[decide_eq_false (show ¬j>kM s by omega)];simp only[cond_false];rw[zbj F (wL z) (vE s z q) hs hs2 hj1 (by omega),zg];obtain ⟨hi,ehi,h1,h2,h3⟩:∃hi:Int,(if 1099511627776<bHi s j then (1099511627776:Int) else bHi s j)=hi/\hi<=1099511627776/\hi<=bHi s j/\bLo s j<=hi:=by
  refine ⟨_,rfl,?_,?_,?_⟩<;>split<;>unfold bLo at*<;> omega
 simp only[ehi];obtain ⟨f,ok,e,a1,a2⟩:=Ru F hF hz hs hs2 (vE s z q) (lo:=bLo s j) (hi:=hi) (k:=j) (by unfold bLo; omega) h1 (fun x g1 g2=>YW hs (by unfold bLo at g1; omega) (by unfold bHi at h2; omega));rw[e,zg];cases ok with
 | true =>
  obtain ⟨c1,c2,c3,c4⟩:=a1 rfl;refine ⟨f,rfl,by omega,by omega,fun x g1 g2=>qR.1 ?_,fun _=>Y8.1 c3⟩;rcases Int.lt_or_le x (bLo s j) with h | h
  ·exact hn x g1 h (by omega)
  ·exact c4 x h g2
 | false =>
  have a2:=a2 rfl;refine ⟨1099511627777,by rw[e1]; rfl,by unfold bLo at*; omega,by omega,fun x g1 g2=>qR.1 ?_,fun h=>by omega⟩;rcases Int.lt_or_le x (bLo s j) with h | h
  ·exact hn x g1 h (by omega)
  ·by_cases hjk:j<kM s
   ·have hbs:bHi s j<=1099511627776:=by
     have:=Int.mul_le_mul_of_nonneg_right (show j<=kM s-1 by omega) (show 0<=s by omega);unfold kM at this;unfold bHi;omega
    rw[if_neg (by omega)] at ehi;subst ehi;rcases hend hjk with t | t
    ·rw[a2 _ (by omega) (by omega)] at t; cases t
    ·rw[a2 _ (by omega) (by omega)] at t; cases t
   ·have hjk:j=kM s:=by omega
    have hbs:1099511627776<=bHi s j:=by rw[hjk]; exact m2
    refine a2 x h ?_;by_cases hlt:1099511627776<bHi s j
    ·rw[if_pos hlt] at ehi; omega
    ·rw[if_neg hlt] at ehi; omega
theorem zdi (F:Nat) (hF:70<F) {s q:Int} {z:LZ} (hz:yk s z<=LIM) (h:td s q=true):∃f:Int,wJ.sh F (wL z) s q=some ((f,0,()),())/\ZT s z q f:=by
 obtain ⟨hs,hs2,hq,hq2⟩:=wI.1 h;obtain ⟨k,ek,hk⟩:=cmp_lim F (Xt hs z) hz;unfold wJ.sh;rw[zc9,zg,h];simp only[Bool.not_true,cond_false];rw[zfC F hs hs2 hz,zg];simp only[bne_self_eq_false,cond_false];rw[ek,zg,hk];simp only[cond_false];rw[Tz F h hz,zg];obtain ⟨g,eg,hg,_⟩:=VL F (v:=yK s z q);rw[eg,zg,Vm F h,zg,Vm F (wI.2 ⟨hs,hs2,by omega,by omega⟩),zg,hg,show decide (yK s z q>0)=vE s z q from rfl,show xw 1099511627776 s=kM s from rfl];obtain ⟨m1,m2⟩:=Yn (q:=1099511627776) hs;obtain ⟨n1,n2⟩:=Yn (q:=q) hs;have hkM:xw 1099511627776 s=kM s:=rfl;rw[hkM] at m1 m2;have hkq:=Qt (x:=q) (y:=1099511627776) hs hq2;rw[hkM] at hkq;have hk0:=(zad h).1;have hk1:=V6 hs;have hks:xw q s*s<=2099511627776:=by
  rw[Int.sub_mul] at n1; omega
 have hks0:=Int.mul_nonneg hk0 (show 0<=s by omega);rw[zY (n:=q+1) (by omega) (by omega),zY (n:=xw q s*s) (by omega) (by omega),zY (n:=xw q s+1) (by omega) (by omega),zY (n:=kM s-1) (by omega) (by omega)];obtain ⟨hi,ehi,h1,h2,h3⟩:∃hi:Int,(if 1099511627776<xw q s*s then (1099511627776:Int) else xw q s*s)=hi/\hi<=1099511627776/\hi<=xw q s*s/\∀x,x<=xw q s*s->x<=1099511627776->x<=hi:=by
  refine ⟨_,rfl,?_,?_,?_⟩
  ·split<;>omega
  ·split<;>omega
  ·intro x g1 g2
   split<;>omega
 simp only[ehi];obtain ⟨f,ok,e,a1,a2⟩:=Ru F hF hz hs hs2 (vE s z q) (lo:=q+1) (hi:=hi) (k:=xw q s) (by omega) h1 (fun x g1 g2=>YW hs (by omega) (by omega));rw[e,zg];cases ok with
 | true =>
  obtain ⟨c1,c2,c3,c4⟩:=a1 rfl;exact ⟨f,rfl,by omega,by omega,fun x g1 g2=>qR.1 (c4 x (by omega) g2),fun _=>Y8.1 c3⟩
 | false =>
  have a2:∀x,q<x->x<=xw q s*s->x<=1099511627776->vS (vE s z q) s z x=false:=fun x g1 g2 g3=>a2 rfl x (by omega) (h3 x g2 g3)
  simp only[cond_false];obtain ⟨j,ok,e,b1,b2⟩:=zgA F hF hz hs hs2 (vE s z q) (k:=xw q s+1) (most:=kM s-1) (by omega) (by omega);rw[e,zg];have hlo:∀j,xw q s+1<=j->q<bLo s j:=fun j hj=>by
   have:=Int.mul_le_mul_of_nonneg_right (show xw q s<=j-1 by omega) (show 0<=s by omega);unfold bLo;omega
  cases ok with
  | true =>
   obtain ⟨c1,c2,c3,c4⟩:=b1 rfl;simp only[Bool.not_true,cond_false];exact zb4 F hF hz hs hs2 hq j (by omega) (hlo j c1) (by omega) (WM hs a2 c4) (fun _=>c3) _ _ _ rfl
  | false =>
   have b2:=b2 rfl;simp only[Bool.not_false,cond_true];by_cases hlast:xw q s+1>kM s
   ·rw[if_pos hlast]
    have hkk:xw q s=kM s:=by omega
    unfold wJ.j15;rw[decide_eq_true hlast];refine ⟨1099511627777,rfl,by omega,by omega,fun x g1 g2=>qR.1 (a2 x g1 ?_ (by omega)),fun g=>by omega⟩;rw[hkk]; omega
   ·rw[if_neg hlast]
    exact zb4 F hF hz hs hs2 hq (kM s) (by omega) (hlo _ (by omega)) (by omega) (WM hs a2 (fun i g1 g2=>b2 i g1 (by omega))) (fun g=>by omega) _ _ _ rfl
abbrev PZ:=Int×LZ
def wP (p:PZ):zo.T:=(p.1,wL p.2)
def wz:List PZ->Int->LZ
 | [],_=>(0,0,0)
 | p::r,q=>match r with
  | []=>p.2
  | p'::_=>bif decide (p'.1<=q) then wz r q else p.2
def qD:List PZ->Int->Int->Int
 | [],_,n=>n
 | p::r,q,n=>match r with
  | []=>n
  | p'::_=>bif decide (p'.1<=q) then qD r q n else if p'.1<n then p'.1 else n
theorem tP (p p':PZ) (r:List PZ) (q:Int):wz (p::p'::r) q=bif decide (p'.1<=q) then wz (p'::r) q else p.2:=rfl
theorem XE (p p':PZ) (r:List PZ) (q n:Int):qD (p::p'::r) q n=bif decide (p'.1<=q) then qD (p'::r) q n else if p'.1<n then p'.1 else n:=rfl
theorem R2:∀(ps:List PZ) (q n:Int),qD ps q n<=n/\(q<n->q<qD ps q n)/\∀x,q<=x->x<qD ps q n->wz ps x=wz ps q
 | [],q,n=>⟨Int.le_refl _,fun h=>h,fun x _ _=>rfl⟩
 | [p],q,n=>⟨Int.le_refl _,fun h=>h,fun x _ _=>rfl⟩
 | p::p'::r,q,n=>by
  have ih:=R2 (p'::r) q n;rw[XE];by_cases h:p'.1<=q
  ·rw[decide_eq_true h]
   simp only[cond_true];refine ⟨ih.1,ih.2.1,fun x h1 h2=>?_⟩;rw[tP,tP,decide_eq_true h,decide_eq_true (show p'.1<=x by omega)];exact ih.2.2 x h1 h2
  ·rw[decide_eq_false h]
   simp only[cond_false];refine ⟨by split<;>omega,fun h'=>by split<;>omega,fun x h1 h2=>?_⟩;rw[tP,tP,decide_eq_false h,decide_eq_false (show ¬p'.1<=x by split at h2<;>omega)];rfl
theorem SD:∀(ps:List PZ) (q:Int),ps≠[]->∃p∈ps,wz ps q=p.2
 | [],q,h=>absurd rfl h
 | [p],q,h=>⟨p,by simp,rfl⟩
 | p::p'::r,q,h=>by
  obtain ⟨x,hx,e⟩:=SD (p'::r) q (by simp);rw[tP];cases decide (p'.1<=q) with
  | true=>exact ⟨x,List.mem_cons_of_mem _ hx,e⟩
  | false=>exact ⟨p,by simp,rfl⟩
def ZB (kids:List (List PZ)) (q n:Int):Int:=kids.foldl (fun n ps=>qD ps q n) n
theorem zaR:∀(kids:List (List PZ)) (q n:Int),ZB kids q n<=n/\(q<n->q<ZB kids q n)/\∀x,q<=x->x<ZB kids q n->kids.map (fun ps=>wz ps x)=kids.map fun ps=>wz ps q
 | [],q,n=>⟨Int.le_refl _,fun h=>h,fun x _ _=>rfl⟩
 | ps::r,q,n=>by
  have a:=R2 ps q n;have ih:=zaR r q (qD ps q n);have e:ZB (ps::r) q n=ZB r q (qD ps q n):=rfl;rw[e];refine ⟨by omega,fun h=>ih.2.1 (a.2.1 h),fun x h1 h2=>?_⟩;rw[List.map_cons,List.map_cons,ih.2.2 x h1 h2,a.2.2 x h1 (by omega)]
open Classical in
noncomputable def YS (s:Int) (z:LZ) (q:Int):Int:=if h:∃f,ZT s z q f then Classical.choose h else 0
theorem SQ {s:Int} {z:LZ} {q f:Int} (h:ZT s z q f):YS s z q=f:=by
 unfold YS;rw[dif_pos ⟨f,h⟩];exact zc1 (Classical.choose_spec (⟨f,h⟩:∃f,ZT s z q f)) h
noncomputable def Yy (s q:Int) (turn:List LZ) (n:Int):Int:=turn.foldl (fun n t=>if YS s t q<n then YS s t q else n) n
theorem zaQ (s q:Int):∀(turn:List LZ) (n:Int),(∀t∈turn,∃f,ZT s t q f)->Yy s q turn n<=n/\(q<n->q<Yy s q turn n)/\∀x,q<=x->x<Yy s q turn n->∀t∈turn,vE s t x=vE s t q
 | [],n,h=>⟨Int.le_refl _,fun h=>h,fun x _ _ t ht=>by simp at ht⟩
 | t::r,n,h=>by
  obtain ⟨f,hf⟩:=h t (by simp);have ef:=SQ hf;have ih:=zaQ s q r (if YS s t q<n then YS s t q else n) (fun x hx=>h x (List.mem_cons_of_mem _ hx));have e:Yy s q (t::r) n=Yy s q r (if YS s t q<n then YS s t q else n):=rfl;rw[e];rw[ef] at ih ⊢;obtain ⟨f1,f2,f3,f4⟩:=hf;obtain ⟨m,em,m1,m2,m3⟩:∃m:Int,(if f<n then f else n)=m/\m<=n/\m<=f/\(m=f\/m=n):=by
   refine ⟨_,rfl,?_,?_,?_⟩<;>split<;>omega
  rw[em] at ih ⊢;refine ⟨by omega,fun hn=>ih.2.1 (by omega),fun x h1 h2 y hy=>?_⟩;rcases List.mem_cons.1 hy with rfl | hy
  ·rcases Int.lt_or_le q x with hx | hx
   ·exact f3 x hx (by omega)
   ·rw[show x=q by omega]
  ·exact ih.2.2 x h1 h2 y hy
def W3 (out:List PZ):Option LZ:=out.getLast?.map (·.2)
def Xz (out:List PZ) (q:Int) (l:LZ):List PZ:=if W3 out=some l then out else out++[(q,l)]
noncomputable def ZA (c:List LZ->Int->LZ×List LZ) (s:Int) (kids:List (List PZ)) (q:Int):Int :=
 Yy s q (c (kids.map fun ps=>wz ps q) q).2 (ZB kids q 1099511627777)
noncomputable def mdZ (c:List LZ->Int->LZ×List LZ) (s:Int) (kids:List (List PZ)):Nat->Int->List PZ->Option (List PZ)
 | 0,q,out=>bif decide (q<=1099511627776) then none else some out
 | fu+1,q,out=>bif decide (q<=1099511627776) then
   (if (Xz out q (c (kids.map fun ps=>wz ps q) q).1).length>256 then none
   else mdZ c s kids fu (ZA c s kids q) (Xz out q (c (kids.map fun ps=>wz ps q) q).1))
  else some out
def YE:List PZ->Prop
 | []=>True
 | p::r=>(match r with | []=>True | p'::_=>p.1<p'.1/\p'.1<=1099511627776/\p.2≠p'.2)/\YE r
structure PG (s M:Int) (V:Int->Int) (Q:LZ->Prop) (ps:List PZ):Prop where
 ne:ps≠[]
 len:ps.length<=256
 hd:∀p,ps.head?=some p->p.1=0
 ch:YE ps
 sp:∀p∈ps,yk s p.2<=M
 pr:∀p∈ps,Q p.2
 vl:∀q,0<=q->q<=1099511627776->yK s (wz ps q) q=V q
theorem Tk:∀(out:List PZ) (q:Int) (l:LZ),YE out->(∀p,out.getLast?=some p->p.1<q/\p.2≠l)->q<=1099511627776->YE (out++[(q,l)])
 | [],q,l,h,h1,h2=>⟨trivial,trivial⟩
 | [p],q,l,h,h1,h2=>by
  have:=h1 p rfl;exact ⟨⟨this.1,h2,this.2⟩,trivial,trivial⟩
 | p::p'::r,q,l,h,h1,h2=>by
  have ih:=Tk (p'::r) q l h.2 (fun x hx=>h1 x (by rw[List.getLast?_cons_cons]; exact hx)) h2;exact ⟨h.1,ih⟩
def Z9:List PZ->Int->Bool
 | [],_=>true
 | p::r,x=>match r with
  | []=>true
  | p'::_=>decide (p'.1<=x)&&Z9 r x
theorem Tf:∀(out:List PZ) (q:Int) (l:LZ) (x:Int),out≠[]->wz (out++[(q,l)]) x=(bif decide (q<=x)&&Z9 out x then l else wz out x)
 | [],q,l,x,h=>absurd rfl h
 | [p],q,l,x,h=>by
  show (bif decide (q<=x) then _ else _)=_;cases decide (q<=x)<;>rfl
 | p::p'::r,q,l,x,h=>by
  have ih:=Tf (p'::r) q l x (by simp);show wz (p::p'::(r++[(q,l)])) x=_;rw[tP,show p'::(r++[(q,l)])=(p'::r)++[(q,l)] from rfl,ih,tP];show _=bif decide (q<=x)&&(decide (p'.1<=x)&&Z9 (p'::r) x) then _ else _
  cases decide (p'.1<=x)<;>cases decide (q<=x)<;>cases Z9 (p'::r) x<;>rfl
theorem Wr:∀(out:List PZ) (x:Int),YE out->(∀p,out.getLast?=some p->p.1<=x)->Z9 out x=true
 | [],x,h,h1=>rfl
 | [p],x,h,h1=>rfl
 | p::p'::r,x,h,h1=>by
  have hl:∀y,(p'::r).getLast?=some y->y.1<=x:=fun y hy=>h1 y (by rw[List.getLast?_cons_cons]; exact hy)
  have ih:=Wr (p'::r) x h.2 hl;show (decide (p'.1<=x)&&Z9 (p'::r) x)=true;rw[ih,Bool.and_true,decide_eq_true_eq];exact le_last (p'::r) h.2 x hl p' rfl
where le_last:∀(out:List PZ),YE out->∀(x:Int),(∀p,out.getLast?=some p->p.1<=x)->∀p,out.head?=some p->p.1<=x
 | [],h,x,h1,p,hp=>by cases hp
 | [a],h,x,h1,p,hp=>h1 p hp
 | a::b::r,h,x,h1,p,hp=>by
  have:=le_last (b::r) h.2 x (fun y hy=>h1 y (by rw[List.getLast?_cons_cons]; exact hy)) b rfl;have hp:a=p:=by simpa using hp
  subst hp;have:=h.1.1;omega
theorem Tg:∀(out:List PZ) (x:Int) (p:PZ),Z9 out x=true->out.getLast?=some p->wz out x=p.2
 | [],x,p,h,h1=>by cases h1
 | [a],x,p,h,h1=>by
  have h1:a=p:=by simpa using h1
  subst h1; rfl
 | a::b::r,x,p,h,h1=>by
  have h:(decide (b.1<=x)&&Z9 (b::r) x)=true:=h;rw[Bool.and_eq_true] at h;rw[tP,h.1,cond_true];exact Tg (b::r) x p h.2 (by rw[<-h1,List.getLast?_cons_cons])
structure Pre (s M:Int) (V:Int->Int) (Q:LZ->Prop) (q:Int) (out:List PZ):Prop where
 q0:q=0->out=[]
 q1:0<q->out≠[]
 len:out.length<=256
 hd:∀p,out.head?=some p->p.1=0
 ch:YE out
 la:∀p,out.getLast?=some p->p.1<q
 sp:∀p∈out,yk s p.2<=M
 pr:∀p∈out,Q p.2
 vl:∀x,0<=x->x<q->x<=1099511627776->yK s (wz out x) x=V x
def zcC (s M:Int) (V:Int->Int) (Q:LZ->Prop) (c:List LZ->Int->LZ×List LZ) (kids:List (List PZ)):Prop :=
 ∀q,0<=q->q<=1099511627776->yk s (c (kids.map fun ps=>wz ps q) q).1<=M/\Q (c (kids.map fun ps=>wz ps q) q).1 /\
  (∀t∈(c (kids.map fun ps=>wz ps q) q).2,∃f,ZT s t q f) /\
  ∀x,q<=x->x<=1099511627776->(kids.map fun ps=>wz ps x)=(kids.map fun ps=>wz ps q)->(∀t∈(c (kids.map fun ps=>wz ps q) q).2,vE s t x=vE s t q)->
   yK s (c (kids.map fun ps=>wz ps q) q).1 x=V x
theorem Zf {s M:Int} {V:Int->Int} {Q:LZ->Prop} {c:List LZ->Int->LZ×List LZ} {kids:List (List PZ)} (hs:zcC s M V Q c kids) {q:Int} (h0:0<=q) (h1:q<=1099511627776) :
  q<ZA c s kids q/\ZA c s kids q<=1099511627777/\∀x,q<=x->x<ZA c s kids q->yK s (c (kids.map fun ps=>wz ps q) q).1 x=V x:=by
 obtain ⟨_,_,a3,a4⟩:=hs q h0 h1;have hK:=zaR kids q 1099511627777;have hT:=zaQ s q (c (kids.map fun ps=>wz ps q) q).2 (ZB kids q 1099511627777) a3;refine ⟨hT.2.1 (hK.2.1 (by omega)),Int.le_trans hT.1 hK.1,fun x g1 g2=>?_⟩;unfold ZA at g2;exact a4 x g1 (by omega) (hK.2.2 x g1 (by omega)) (hT.2.2 x g1 g2)
theorem zf8 {s M:Int} {V:Int->Int} {Q:LZ->Prop} {c:List LZ->Int->LZ×List LZ} {kids:List (List PZ)} (hs:zcC s M V Q c kids) {q:Int} (h0:0<=q) (h1:q<=1099511627776) {out:List PZ} (hp:Pre s M V Q q out)
  (hl:¬(Xz out q (c (kids.map fun ps=>wz ps q) q).1).length>256):Pre s M V Q (ZA c s kids q) (Xz out q (c (kids.map fun ps=>wz ps q) q).1):=by
 obtain ⟨n1,n2,n3⟩:=Zf hs h0 h1;obtain ⟨a1,a2,_,_⟩:=hs q h0 h1;generalize (c (kids.map fun ps=>wz ps q) q).1=l at*;generalize ZA c s kids q=n at*;unfold Xz at*;by_cases he:W3 out=some l
 ·rw[if_pos he] at hl ⊢
  obtain ⟨p,hp1,hp2⟩:∃p,out.getLast?=some p/\p.2=l:=by
   unfold W3 at he;cases hx:out.getLast? with
   | none=>rw[hx] at he; cases he
   | some p=>rw[hx] at he; exact ⟨p,rfl,by simpa using he⟩
  have hla:=hp.la p hp1;refine ⟨fun h=>by omega,fun _ h=>(by rw[h] at hp1; cases hp1),hp.len,hp.hd,hp.ch,fun p' h=>by have:=hp.la p' h; omega,hp.sp,hp.pr,fun x x1 x2 x3=>?_⟩;rcases Int.lt_or_le x q with hx | hx
  ·exact hp.vl x x1 hx x3
  ·rw[Tg out x p (Wr out x hp.ch (fun y hy=>by have:=hp.la y hy; omega)) hp1,hp2]
   exact n3 x hx x2
 ·rw[if_neg he] at hl ⊢
  refine ⟨fun h=>by omega,fun _ h=>by simp at h,by omega,?_,?_,?_,?_,?_,?_⟩
  ·intro p h
   rcases Int.lt_or_le 0 q with hq | hq
   ·have hne:=hp.q1 hq
    cases out with
    | nil=>exact absurd rfl hne
    | cons a r=>exact hp.hd p (by simpa using h)
   ·have:=hp.q0 (by omega)
    subst this;have h:(q,l)=p:=by simpa using h
    rw[<-h]; show q=0; omega
  ·refine Tk out q l hp.ch (fun p hp1=>⟨hp.la p hp1,fun e=>he ?_⟩) h1
   unfold W3;rw[hp1,<-e]; rfl
  ·intro p h
   have h:(q,l)=p:=by simpa using h
   rw[<-h]; exact n1
  ·intro p h
   rcases List.mem_append.1 h with h | h
   ·exact hp.sp p h
   ·rw[List.mem_singleton.1 h]; exact a1
  ·intro p h
   rcases List.mem_append.1 h with h | h
   ·exact hp.pr p h
   ·rw[List.mem_singleton.1 h]; exact a2
  ·intro x x1 x2 x3
   by_cases hne:out=[]
   ·subst hne
    have hq:q=0:=by
     rcases Int.lt_or_le 0 q with hq | hq
     ·exact absurd rfl (hp.q1 hq)
     ·omega
    exact n3 x (by omega) x2
   ·rw[Tf out q l x hne]
    rcases Int.lt_or_le x q with hx | hx
    ·rw[decide_eq_false (show ¬q<=x by omega)]
     exact hp.vl x x1 hx x3
    ·rw[decide_eq_true hx,Wr out x hp.ch (fun y hy=>by have:=hp.la y hy; omega)]
     exact n3 x hx x2
theorem mdZ_PG {s M:Int} {V:Int->Int} {Q:LZ->Prop} {c:List LZ->Int->LZ×List LZ} {kids:List (List PZ)} (hs:zcC s M V Q c kids):∀(fu:Nat) (q:Int) (out:List PZ),0<=q->q<=1099511627777->Pre s M V Q q out->
  ∀res,mdZ c s kids fu q out=some res->PG s M V Q res:=by
 have fin:∀(q:Int) (out:List PZ),¬q<=1099511627776->Pre s M V Q q out->PG s M V Q out:=fun q out h hp =>
  ⟨hp.q1 (by omega),hp.len,hp.hd,hp.ch,hp.sp,hp.pr,fun x x1 x2=>hp.vl x x1 (by omega) x2⟩
 intro fu;induction fu with
 | zero =>
  intro q out h0 h1 hp res h;unfold mdZ at h;by_cases hq:q<=1099511627776
  ·rw[decide_eq_true hq] at h; cases h
  ·rw[decide_eq_false hq] at h
   have h:out=res:=by simpa using h
   subst h;exact fin q out hq hp
 | succ fu ih =>
  intro q out h0 h1 hp res h;unfold mdZ at h;by_cases hq:q<=1099511627776
  ·rw[decide_eq_true hq,cond_true] at h
   split at h
   ·cases h
   ·rename_i hl
    obtain ⟨n1,n2,_⟩:=Zf hs h0 hq;exact ih _ _ (by omega) n2 (zf8 hs h0 hq hp hl) res h
  ·rw[decide_eq_false hq] at h
   have h:out=res:=by simpa using h
   subst h;exact fin q out hq hp
theorem TN {s M:Int} {V:Int->Int} {Q:LZ->Prop} {c:List LZ->Int->LZ×List LZ} {kids:List (List PZ)} (hs:zcC s M V Q c kids) {res:List PZ} (h:mdZ c s kids 4096 0 []=some res):PG s M V Q res :=
 mdZ_PG hs 4096 0 [] (by omega) (by omega) ⟨fun _=>rfl,fun h=>absurd h (by decide),by simp,(fun p h=>by cases h),trivial,(fun p h=>by cases h),(fun p h=>by simp at h),(fun p h=>by simp at h),fun x x1 x2 _=>by omega⟩ res h
theorem Ve (F:Nat) {x s:Int} (h0:0<=x) (h:x<=1099511627776) (h1:1<=s):yL.sh F x s=some ((xw x s,()),()):=by
 have hq1:0<=x/s:=Int.ediv_nonneg h0 (by omega);have hq2:x/s<=x:=Int.ediv_le_self _ h0;unfold yL.sh xw;rw[show (s != 0)=true from bne_iff_ne.2 (by omega),Int.tdiv_eq_ediv_of_nonneg h0,Int.tmod_eq_emod_of_nonneg h0,zY (n:=x/s) (by omega) (by omega),zY (n:=x/s+1) (by omega) (by omega)];simp only[cond_true];by_cases hz:x%s=0
 ·rw[hz,if_pos rfl,Int.add_zero]; rfl
 ·rw[show (x%s != 0)=true from bne_iff_ne.2 hz,if_neg hz]; rfl
theorem Q8 (F:Nat) (s q:Int):xF.sh F s q=some ((td s q,()),()):=by
 unfold xF.sh td;cases decide (s>=1)<;>cases decide (s<=1000000000000)<;>cases decide (q>=0)<;>rfl
theorem zdF (F:Nat) (hF:20<F) {l:zf.T} (hl:wfL l) (s q:Int):xf.sh F l s q=some ((mk (W9 (lA l) (lB l) (lC l) s q).1,(W9 (lA l) (lB l) (lC l) s q).2,()),()):=by
 unfold xf.sh W9;rw[Q8,zg];cases hf:td s q with
 | false=>rfl
 | true =>
  obtain ⟨h1,h2,h3,h4⟩:=wI.1 hf;obtain ⟨b1,b2⟩:=zad hf;have iq:inR q=true:=qn (by omega) (by omega);have ib:inR (xw q s)=true:=qn (by omega) (by omega);simp only[Bool.not_true,cond_false];rw[qO F (v:=q) (by omega) (by omega),zg,Z0 F hF hl.2.1 (wj iq),zg,xv,show val l.2.1=lB l from rfl];rw[Ve F h3 h4 h1,zg,qO F (v:=xw q s) (by omega) (by omega),zg,Z0 F hF hl.2.2 (wj ib),zg,xv,show val l.2.2=lC l from rfl];cases hB:inR (lB l*q) with
  | false =>
   have:vN (lB l*q)=10:=by unfold vN; rw[hB]; rfl
   simp only[this];rfl
  | true =>
   have e1:vN (lB l*q)=0:=by unfold vN; rw[hB]; rfl
   have e2:ue (lB l*q)=mk (lB l*q):=by unfold ue; rw[hB]; rfl
   simp only[e1,bne_self_eq_false,Bool.not_true,cond_false];cases hC:inR (lC l*xw q s) with
   | false =>
    have:vN (lC l*xw q s)=10:=by unfold vN; rw[hC]; rfl
    simp only[this];rfl
   | true =>
    have e3:vN (lC l*xw q s)=0:=by unfold vN; rw[hC]; rfl
    have e4:ue (lC l*xw q s)=mk (lC l*xw q s):=by unfold ue; rw[hC]; rfl
    simp only[e3,bne_self_eq_false,Bool.not_true,cond_false];rw[e2,e4,YN F hF hl.1 (wj hB),zg,xv,show val l.1=lA l from rfl];cases hA:inR (lA l+lB l*q) with
    | false =>
     have:vN (lA l+lB l*q)=10:=by unfold vN; rw[hA]; rfl
     simp only[this];rfl
    | true =>
     have e5:vN (lA l+lB l*q)=0:=by unfold vN; rw[hA]; rfl
     have e6:ue (lA l+lB l*q)=mk (lA l+lB l*q):=by unfold ue; rw[hA]; rfl
     simp only[e5,bne_self_eq_false,Bool.not_true,cond_false];rw[e6,YN F hF (wj hA) (wj hC),zg,xv,xv];unfold ue vN;cases hD:inR (lA l+lB l*q+lC l*xw q s)<;>rfl
def Wk (l m:zf.T):Bool:=(l.1.1==m.1.1)&&((l.1.2==m.1.2)&&((l.2.1.1==m.2.1.1)&&((l.2.1.2==m.2.1.2)&&((l.2.2.1==m.2.2.1)&&((l.2.2.2==m.2.2.2)&&true)))))
theorem Qa {l m:zf.T}:Wk l m=true↔l=m:=by
 obtain ⟨⟨a,b⟩,⟨c,d⟩,e,f⟩:=l;obtain ⟨⟨a',b'⟩,⟨c',d'⟩,e',f'⟩:=m;unfold Wk;simp only[Bool.and_eq_true,beq_iff_eq,Bool.and_true,Prod.mk.injEq];constructor
 ·rintro ⟨h1,h2,h3,h4,h5,h6⟩; exact ⟨⟨h1,h2⟩,⟨h3,h4⟩,h5,h6⟩
 ·rintro ⟨⟨h1,h2⟩,⟨h3,h4⟩,h5,h6⟩; exact ⟨h1,h2,h3,h4,h5,h6⟩
def RS (a b:zo.T):Bool:=!decide (a.1>=b.1)&&(!decide (b.1>1099511627776)&&!Wk a.2 b.2)
def XP:List zo.T->Bool
 | []=>true
 | a::r=>(match r with | []=>true | b::_=>RS a b)&&XP r
def pF (l:List zo.T) (i:Nat):Int:=(get zo l i).1
theorem zcV (a:zo.T) (l:List zo.T) (i:Nat):pF (a::l) (i+1)=pF l i:=rfl
theorem zfb {a b:zo.T} (h:RS a b=true):a.1<b.1:=by
 unfold RS at h;simp only[Bool.and_eq_true,Bool.not_eq_true',decide_eq_false_iff_not] at h;exact Int.not_le.1 h.1
theorem Vv:∀{l:List zo.T},XP l=true->∀i,i+1<l.length->pF l i<pF l (i+1)
 | [],h,i,hi=>by simp at hi
 | [a],h,i,hi=>by simp at hi
 | a::b::r,h,i,hi=>by
  have h':(RS a b&&XP (b::r))=true:=h;rw[Bool.and_eq_true] at h';cases i with
  | zero=>exact zfb h'.1
  | succ i=>rw[zcV,zcV]; exact Vv h'.2 i (by simpa using hi)
theorem zbh {l:List zo.T} (h:XP l=true) (i:Nat):∀(d:Nat),i+(d+1)<l.length->pF l i<pF l (i+(d+1))
 | 0,hi=>Vv h i hi
 | d+1,hi=>Int.lt_trans (zbh h i d (by omega)) (Vv h (i+(d+1)) hi)
theorem UY {l:List zo.T} (h:XP l=true) {i j:Nat} (hij:i<j) (hj:j<l.length):pF l i<pF l j:=by
 have:=zbh h i (j-i-1) (by omega);rwa [show i+(j-i-1+1)=j by omega] at this
def isAt (l:List zo.T) (q:Int) (i:Nat):Prop:=i<l.length/\pF l i<=q/\∀j,i<j->j<l.length->q<pF l j
theorem zdj (F:Nat) {R:Type} (kk:Int->Option R) {l:List zo.T} (hn:l.length<=256) (hc:XP l=true) {q:Int}:∀(n i fu:Nat),i+n+1=l.length->n<fu->pF l i<=q->
  ∃k:Nat,yw.l2 F (fun _ _ i _=>kk i) fu l q (i:Int)=kk (k:Int)/\isAt l q k
 | n,i,0,h,hf,hi=>by omega
 | 0,i,fu+1,h,hf,hi=>by
  refine ⟨i,?_,by omega,hi,fun j h1 h2=>by omega⟩;simp only[yw.l2,yw.l2.body];rw[zY (n:=(l.length:Int)-1) (by omega) (by omega),decide_eq_false (show ¬(i:Int)<(l.length:Int)-1 by omega)];rfl
 | n+1,i,fu+1,h,hf,hi=>by
  have w:i64.wrap ((i:Int)+1)=((i+1:Nat):Int):=by rw[zY (by omega) (by omega)]; simp
  simp only[yw.l2,yw.l2.body];rw[zY (n:=(l.length:Int)-1) (by omega) (by omega),decide_eq_true (show (i:Int)<(l.length:Int)-1 by omega),w,xX (show i+1<l.length by omega),Int.toNat_natCast];simp only[cond_true];show ∃k,(bif decide (pF l (i+1)<=q) then _ else _)=_/\_;by_cases hq:pF l (i+1)<=q
  ·obtain ⟨k,e,hk⟩:=zdj F kk hn hc n (i+1) fu (by omega) (by omega) hq
   exact ⟨k,by rw[decide_eq_true hq]; exact e,hk⟩
  ·refine ⟨i,by rw[decide_eq_false hq]; rfl,by omega,hi,fun j h1 h2=>?_⟩
   rcases Nat.lt_or_ge (i+1) j with h' | h'
   ·have:=UY hc h' h2; omega
   ·have:j=i+1:=by omega
    subst this; omega
theorem find_eq (F:Nat) (hF:256<F) {l:List zo.T} (hn:l.length<=256) (h0:0<l.length) (hc:XP l=true) {q:Int} (hq:pF l 0<=q):∃k:Nat,yw.sh F l q=some (((k:Int),()),())/\isAt l q k:=by
 unfold yw.sh;exact zdj F (fun i=>(some ((i,()),()):Option yw.sg.R)) hn hc (l.length-1) 0 F (by omega) (by omega) hq
theorem zc7 {l:List Int} {i:Nat} {v:Int} (h:i<l.length):get (.int .i64) (l.set i v) i=v:=by
 unfold get;rw[List.getD_eq_getElem?_getD,List.getElem?_set_self h];rfl
theorem zc6 {l:List Int} {i j:Nat} {v:Int} (h:j≠i):get (.int .i64) (l.set i v) j=get (.int .i64) l j:=by
 unfold get;rw[List.getD_eq_getElem?_getD,List.getD_eq_getElem?_getD,List.getElem?_set_ne (Ne.symm h)]
theorem SA {ps:List PZ} {a:Nat} {p:PZ} {r:List PZ} (h:ps.drop a=p::r):(ps.map wP).drop a=wP p::r.map wP:=by
 rw[<-List.map_drop,h]; rfl
theorem zfy (F:Nat)
  (of:Nat×za.T) (kids:List (List zo.T)) (runs q next:Int) (t30:List (List zo.T)) (t31 t32:Int) (m:za.T) (out:List zo.T) (lines:List zf.T) {ps:List PZ} (hps:ps.length<=256) (i:Nat) :
  ∀(r:List PZ) (p:PZ) (a fu:Nat) (at_:List Int),ps.drop a=p::r->i<at_.length->get (.int .i64) at_ i=(a:Int)->r.length<fu->
  ∃(a':Nat) (p':PZ) (r':List PZ) (b:Bool) (at':List Int),ps.drop a'=p'::r'/\(∀x,q<=x->wz (p'::r') x=wz (p::r) x)/\(∀x n,q<=x->qD (p'::r') x n=qD (p::r) x n)/\(∀y r2,r'=y::r2->q<y.1) /\
   at'.length=at_.length/\get (.int .i64) at' i=(a':Int)/\(∀j,j≠i->get (.int .i64) at' j=get (.int .i64) at_ j) /\
   ∀{R:Type} (k0:(Nat×za.T)->(List (List zo.T))->Int->Int->Int->Int->(List zo.T)->(List (List zo.T))->Int->Int->Bool->za.T->(List zo.T)->(List Int)->(List zf.T)->Option R),zb.l11 F k0 fu of kids runs q next (i:Int) (ps.map wP) t30 t31 t32 m out at_ lines=k0 of kids runs q next (i:Int) (ps.map wP) t30 t31 t32 b m out at' lines
 | r,p,a,0,at_,h,hi,hg,hf=>by omega
 | [],p,a,fu+1,at_,h,hi,hg,hf=>by
  have hl:=congrArg List.length h;simp only[List.length_drop,List.length_cons,List.length_nil] at hl;refine ⟨a,p,[],false,at_,h,fun _ _=>rfl,fun _ _ _=>rfl,(fun y r2 e=>by cases e),rfl,hg,fun _ _=>rfl,fun k0=>?_⟩;simp only[zb.l11,zb.l11.body,xX hi,Int.toNat_natCast,hg,List.length_map];rw[zY (n:=(a:Int)+1) (by omega) (by omega),decide_eq_false (show ¬(a:Int)+1<(ps.length:Int) by omega)];rfl
 | y::r,p,a,fu+1,at_,h,hi,hg,hf=>by
  have hl:=congrArg List.length h;simp only[List.length_drop,List.length_cons] at hl;have h2:=wX h;have g2:=uI (t:=zo) (SA h2);have w:i64.wrap ((a:Int)+1)=((a+1:Nat):Int):=by rw[zY (by omega) (by omega)]; simp
  by_cases hq:y.1<=q
  ·obtain ⟨a',p',r',b,at',e1,e2,e3,e4,e5,e6,e7,e8⟩:=zfy F of kids runs q next t30 t31 t32 m out lines hps i r y (a+1) fu (at_.set i ((a+1:Nat):Int)) h2 (by simpa using hi) (zc7 hi) (by simp at hf; omega)
   refine ⟨a',p',r',b,at',e1,fun x hx=>?_,fun x n hx=>?_,e4,by simpa using e5,e6,fun j hj=>(by rw[e7 j hj,zc6 hj]),?_⟩
   ·rw[e2 x hx,tP,decide_eq_true (show y.1<=x by omega)]; rfl
   ·rw[e3 x n hx,XE,decide_eq_true (show y.1<=x by omega)]; rfl
   ·intro R k0
    rw[<-e8 k0];simp only[zb.l11,zb.l11.body,xX hi,Int.toNat_natCast,hg,List.length_map,w];rw[decide_eq_true (show ((a+1:Nat):Int)<(ps.length:Int) by omega),xX (show a+1<ps.length by omega),show get zo (ps.map wP) (a+1)=wP y from g2];simp only[cond_true];rw[show decide ((wP y).1<=q)=true from decide_eq_true hq];rfl
  ·refine ⟨a,p,y::r,false,at_,h,fun _ _=>rfl,fun _ _ _=>rfl,(fun z r2 e=>?_),rfl,hg,fun _ _=>rfl,?_⟩
   ·have e:y=z:=by injection e
    rw[<-e]; omega
   ·intro R k0
    simp only[zb.l11,zb.l11.body,xX hi,Int.toNat_natCast,hg,List.length_map,w];rw[decide_eq_true (show ((a+1:Nat):Int)<(ps.length:Int) by omega),xX (show a+1<ps.length by omega),show get zo (ps.map wP) (a+1)=wP y from g2];simp only[cond_true];rw[show decide ((wP y).1<=q)=false from decide_eq_false hq];rfl
def atOK (q:Int) (ps:List PZ) (v:Int):Prop:=∃(a:Nat) (p:PZ) (r:List PZ),v=(a:Int)/\ps.drop a=p::r/\(∀x,q<=x->wz (p::r) x=wz ps x)/\∀x n,q<=x->qD (p::r) x n=qD ps x n
theorem atOK.mono {q q':Int} {ps:List PZ} {v:Int} (h:atOK q ps v) (hq:q<=q'):atOK q' ps v:=by
 obtain ⟨a,p,r,h1,h2,h3,h4⟩:=h;exact ⟨a,p,r,h1,h2,fun x hx=>h3 x (by omega),fun x n hx=>h4 x n (by omega)⟩
theorem at_zero {q:Int} {ps:List PZ} (h:ps≠[]):atOK q ps 0:=by
 cases ps with
 | nil=>exact absurd rfl h
 | cons p r=>exact ⟨0,p,r,rfl,rfl,fun _ _=>rfl,fun _ _ _=>rfl⟩
def nxOf (r:List PZ) (n:Int):Int:=match r with | []=>n | y::_=>if y.1<n then y.1 else n
theorem zfo {q n:Int} {p:PZ} {r:List PZ} (h:∀y r2,r=y::r2->q<y.1):wz (p::r) q=p.2/\qD (p::r) q n=nxOf r n:=by
 cases r with
 | nil=>exact ⟨rfl,rfl⟩
 | cons y r =>
  have:=h y r rfl;rw[tP,XE,decide_eq_false (show ¬y.1<=q by omega)];exact ⟨rfl,rfl⟩
theorem md_l9 (F:Nat) (hF:300<F)
  (of:Nat×za.T) (kids:List (List zo.T)) (runs q:Int) (m:za.T) (out:List zo.T) {KS:List (List PZ)} (hK:∀ps∈KS,ps.length<=256) (hK16:KS.length<=16) :
  ∀(ks:List (List PZ)) (i fu:Nat) (next:Int) (at_:List Int) (lines:List zf.T),KS.drop i=ks->at_.length=KS.length->(∀j,j<KS.length->atOK q (KS.getD j []) (get (.int .i64) at_ j))->lines.length=KS.length->ks.length<fu->
  ∃(at':List Int) (x:Int),at'.length=KS.length/\(∀j,j<KS.length->atOK q (KS.getD j []) (get (.int .i64) at' j)) /\
   ∀{R:Type} (k0:(Nat×za.T)->(List (List zo.T))->Int->Int->Int->(List (List zo.T))->Int->Int->Bool->za.T->(List zo.T)->(List Int)->(List zf.T)->Option R),zb.l9 F k0 fu of kids runs q next (KS.map fun ps=>ps.map wP) (KS.length:Int) (i:Int) m out at_ lines =
   k0 of kids runs q (ZB ks q next) (KS.map fun ps=>ps.map wP) (KS.length:Int) x false m out at' (lines.take i++ks.map fun ps=>wL (wz ps q))
 | ks,i,0,next,at_,lines,h,ha,hat,hl,hf=>by omega
 | [],i,fu+1,next,at_,lines,h,ha,hat,hl,hf=>by
  have:=tO h;refine ⟨at_,(i:Int),ha,hat,fun k0=>?_⟩;simp only[zb.l9,zb.l9.body];rw[decide_eq_false (show ¬(i:Int)<(KS.length:Int) by omega),List.take_of_length_le (by omega)];simp[ZB]
 | ps::ks,i,fu+1,next,at_,lines,h,ha,hat,hl,hf=>by
  have hlt:=ug h;have hps:KS.getD i []=ps:=by
   have:=congrArg (·[0]?) h
   rw[List.getD_eq_getElem?_getD];simp at this;rw[this]; rfl
  have hmem:ps∈KS:=by
   rw[<-hps,List.getD_eq_getElem?_getD,List.getElem?_eq_getElem hlt];exact List.getElem_mem _
  have hp256:=hK ps hmem;have hgk:get (.sl zo) (KS.map fun ps=>ps.map wP) i=ps.map wP:=by
   unfold get;rw[List.getD_eq_getElem?_getD,List.getElem?_map,List.getElem?_eq_getElem hlt];rw[List.getD_eq_getElem?_getD,List.getElem?_eq_getElem hlt] at hps;have hps:KS[i]=ps:=hps;rw[<-hps]; rfl
  have hai:=hat i hlt;rw[hps] at hai;obtain ⟨a,p,r,v1,v2,v3,v4⟩:=hai;have hd:=congrArg List.length v2;simp only[List.length_drop,List.length_cons] at hd;obtain ⟨a',p',r',b,at',e1,e2,e3,e4,e5,e6,e7,e8⟩:=zfy F of kids runs q next (KS.map fun ps=>ps.map wP) (KS.length:Int) (i:Int) m out lines hp256 i r p a F at_ v2 (by omega) v1 (by omega)
  have hl2:=congrArg List.length e1;simp only[List.length_drop,List.length_cons] at hl2;have w:i64.wrap ((a':Int)+1)=((a'+1:Nat):Int):=by rw[zY (by omega) (by omega)]; simp
  have wi:i64.wrap ((i:Int)+1)=((i+1:Nat):Int):=by rw[zY (by omega) (by omega)]; simp
  have gp:=uI (t:=zo) (SA e1);rw[Int.toNat_natCast] at gp;have hnow:=zfo (n:=next) (p:=p') e4;have el:wz ps q=p'.2:=by rw[<-v3 q (Int.le_refl _),<-e2 q (Int.le_refl _)]; exact hnow.1
  have en:qD ps q next=nxOf r' next:=by rw[<-v4 q next (Int.le_refl _),<-e3 q next (Int.le_refl _)]; exact hnow.2
  have hat':∀j,j<KS.length->atOK q (KS.getD j []) (get (.int .i64) at' j):=fun j hj=>by
   by_cases hji:j=i
   ·subst hji
    rw[hps,e6];exact ⟨a',p',r',rfl,e1,fun x hx=>by rw[e2 x hx,v3 x hx],fun x n hx=>by rw[e3 x n hx,v4 x n hx]⟩
   ·rw[e7 j hji]; exact hat j hj
  have hset:∀v:zf.T,(lines.set i v).take (i+1)=lines.take i++[v]:=fun v=>by
   rw[List.take_set,List.take_add_one,List.getElem?_eq_getElem (by omega)];have:(lines.take i).length=i:=by simp; omega
   rw[Option.toList_some,List.set_append_right _ _ (by omega),this,Nat.sub_self];rfl
  have hstart:∀{R:Type} (k0:(Nat×za.T)->(List (List zo.T))->Int->Int->Int->(List (List zo.T))->Int->Int->Bool->za.T->(List zo.T)->(List Int)->(List zf.T)->Option R),
    zb.l9 F k0 (fu+1) of kids runs q next (KS.map fun ps=>ps.map wP) (KS.length:Int) (i:Int) m out at_ lines =
    zb.l9 F k0 fu of kids runs q (nxOf r' next) (KS.map fun ps=>ps.map wP) (KS.length:Int) ((i+1:Nat):Int) m out at' (lines.set i (wP p').2):=by
   intro R k0;simp only[zb.l9,zb.l9.body];rw[decide_eq_true (show (i:Int)<(KS.length:Int) by omega),xX (show i<(KS.map fun ps=>ps.map wP).length by simpa using hlt),Int.toNat_natCast,hgk,e8];rw[xX (show i<at'.length by omega),xX (show i<lines.length by omega),Int.toNat_natCast,e6,w,wi,xX (show a'<(ps.map wP).length by simp; omega),Int.toNat_natCast,Int.toNat_natCast,gp,List.length_map];cases r' with
   | nil =>
    simp only[List.length_nil] at hl2;rw[decide_eq_false (show ¬((a'+1:Nat):Int)<(ps.length:Int) by omega)];rfl
   | cons y r2 =>
    simp only[List.length_cons] at hl2;have gy:=uI (t:=zo) (SA (wX e1));rw[Int.toNat_natCast] at gy;rw[decide_eq_true (show ((a'+1:Nat):Int)<(ps.length:Int) by omega),xX (show a'+1<ps.length by omega),gy];rfl
  obtain ⟨at2,x,f1,f2,f3⟩:=md_l9 F hF of kids runs q m out hK hK16 ks (i+1) fu (nxOf r' next) at' (lines.set i (wP p').2) (wX h) (by omega) hat' (by simpa using hl) (by simp at hf; omega);refine ⟨at2,x,f1,f2,fun k0=>(hstart k0).trans ((f3 k0).trans ?_)⟩;rw[hset,show ZB (ps::ks) q next=ZB ks q (qD ps q next) from rfl,en,List.map_cons,el,List.append_assoc];rfl
theorem zfx (F:Nat) (hF:70<F)
  (T:List zf.T) (N:Int) (of:Nat×za.T) (kids:List (List zo.T)) (runs q:Int) (m:za.T) (l:zf.T) (out:List zo.T) (at_:List Int) (lines:List zf.T) (hq:td m.2.2 q=true) :
  ∀(ts:List LZ) (i next:Int),(∀t∈ts,yk m.2.2 t<=LIM)->∃i':Int,∀{R:Type} (k0:(Nat×za.T)->(List (List zo.T))->Int->Int->Int->(List zf.T)->Int->Int->Bool->za.T->zf.T->(List zo.T)->(List Int)->(List zf.T)->Option R),zb.l19.rg F k0 T N (ts.map wL) i of kids runs q next m l out at_ lines=k0 of kids runs q (Yy m.2.2 q ts next) T N i' (decide (i'<N)) m l out at_ lines
 | [],i,next,h=>⟨i,fun k0=>rfl⟩
 | t::ts,i,next,h=>by
  obtain ⟨f,e,hf⟩:=zdi F hF (h t (by simp)) hq;obtain ⟨i',ih⟩:=zfx F hF T N of kids runs q m l out at_ lines hq ts (i+1) (if f<next then f else next) (fun x hx=>h x (List.mem_cons_of_mem _ hx));refine ⟨i',fun k0=>?_⟩;rw[List.map_cons,zb.l19.rg,e,zg];show zb.l19.rg F k0 T N (ts.map wL) (i+1) of kids runs q (if f<next then f else next) m l out at_ lines=_;rw[ih];have e2:Yy m.2.2 q (t::ts) next=Yy m.2.2 q ts (if YS m.2.2 t q<next then YS m.2.2 t q else next):=rfl
  rw[e2,SQ hf]
theorem V5 {x y:LZ}:Wk (wL x) (wL y)=decide (x=y):=by
 by_cases h:x=y
 ·rw[decide_eq_true h,h]; exact Qa.2 rfl
 ·rw[decide_eq_false h]
  cases hb:Wk (wL x) (wL y) with
  | false=>rfl
  | true=>exact absurd (wL_inj (s:=1) (by omega) (Qa.1 hb)) h
theorem zaY {out:List PZ} {p:PZ} (h:out.getLast?=some p):get zo (out.map wP) (out.length-1)=wP p:=by
 unfold get;rw[List.getD_eq_getElem?_getD,List.getElem?_map];rw[List.getLast?_eq_getElem?] at h;rw[h]; rfl
def Calls (F:Nat) (of:Nat×za.T) (c:List LZ->Int->LZ×List LZ) (s:Int) (kids:List (List PZ)):Prop :=
 ∀q,0<=q->q<=1099511627776->zb.d99 F of.1 (of.2,(kids.map fun ps=>wL (wz ps q)),q,())=some ((wL (c (kids.map fun ps=>wz ps q) q).1,(c (kids.map fun ps=>wz ps q) q).2.map wL,()),()) /\
  (∀t∈(c (kids.map fun ps=>wz ps q) q).2,yk s t<=LIM)/\(c (kids.map fun ps=>wz ps q) q).2.length<=16
noncomputable def mdN (c:List LZ->Int->LZ×List LZ) (s:Int) (kids:List (List PZ)) (n:Nat) (q:Int) (out:List PZ):Option (List PZ) :=
 match n with | 0=>none | n+1=>(if out.length>256 then none else mdZ c s kids n (ZA c s kids q) out)
theorem md_l6 (F:Nat) (hF:300<F) {R:Type} (k0:(List zo.T)->Bool->Option R) (k1:List zo.T->Option R) (of:Nat×za.T) {KS:List (List PZ)} (hK:∀ps∈KS,ps.length<=256) (hK16:KS.length<=16)
  (m:za.T) (hs:1<=m.2.2) (hs2:m.2.2<=1000000000000) {c:List LZ->Int->LZ×List LZ} (hc:Calls F of c m.2.2 KS) (hnx:∀q,0<=q->q<=1099511627776->q<ZA c m.2.2 KS q) :
  ∀(n fu:Nat) (runs q:Int) (out:List PZ) (at_:List Int) (lines:List zf.T),runs=4096-(n:Int)->n<=4096->n<fu->0<=q->out.length<=256->at_.length=KS.length->(∀j,j<KS.length->atOK q (KS.getD j []) (get (.int .i64) at_ j))->lines.length=KS.length->
   zb.l6 F k0 (fun _ _ _ _ _ _ out _ _=>k1 out) fu of (KS.map fun ps=>ps.map wP) runs q m (out.map wP) at_ lines =
    match mdZ c m.2.2 KS n q out with | some res=>k1 (res.map wP) | none=>k0 [] false:=by
 intro n fu;induction fu generalizing n with
 | zero=>intro runs q out at_ lines hr hn hf; omega
 | succ fu ih =>
  intro runs q out at_ lines hr hn hf h0 ho ha hat hl;by_cases hq:q<=1099511627776
  ·obtain ⟨c1,c2,c3⟩:=hc q h0 hq
   have hfq:td m.2.2 q=true:=wI.2 ⟨hs,hs2,h0,hq⟩;obtain ⟨at',x,b1,b2,b3⟩:=md_l9 F hF of (KS.map fun ps=>ps.map wP) runs q m (out.map wP) hK hK16 KS 0 F 1099511627777 at_ lines rfl ha hat hl (by omega);have hnx:=hnx q h0 hq;have hmd:mdZ c m.2.2 KS n q out=mdN c m.2.2 KS n q (Xz out q (c (KS.map fun ps=>wz ps q) q).1):=by
    cases n with
    | zero=>simp only[mdZ,mdN,decide_eq_true hq,cond_true]
    | succ n=>simp only[mdZ,mdN,decide_eq_true hq,cond_true]
   have hnz:Yy m.2.2 q (c (KS.map fun ps=>wz ps q) q).2 (ZB KS q 1099511627777)=ZA c m.2.2 KS q:=rfl;generalize hL:(c (KS.map fun ps=>wz ps q) q).1=l at*;generalize hT:(c (KS.map fun ps=>wz ps q) q).2=tn at*;simp only[zb.l6,zb.l6.body];rw[decide_eq_true hq,show ((KS.map fun ps=>ps.map wP).length:Int)=(KS.length:Int) by simp];simp only[cond_true];have b3':=@b3 R;rw[show ((0:Nat):Int)=0 from rfl] at b3';rw[b3',List.take_zero,List.nil_append,c1,zg];have hrg:=fun k=>zb.l19.rg_eq (R:=R) F k (tn.map wL) ((tn.map wL).length:Int) rfl (by simp; omega) (tn.map wL) 0 F of (KS.map fun ps=>ps.map wP) runs q (ZB KS q 1099511627777) m (wL l) (out.map wP) at' (KS.map fun ps=>wL (wz ps q)) rfl (by simp; omega)
   rw[show ((0:Nat):Int)=0 from rfl] at hrg;rw[hrg];obtain ⟨i',e19⟩:=zfx F (by omega) (tn.map wL) ((tn.map wL).length:Int) of (KS.map fun ps=>ps.map wP) runs q m (wL l) (out.map wP) at' (KS.map fun ps=>wL (wz ps q)) hfq tn 0 (ZB KS q 1099511627777) c2;rw[e19,hnz,hmd];have hl5:(KS.map fun ps=>wL (wz ps q)).length=KS.length:=by simp
   have hat5:∀j,j<KS.length->atOK (ZA c m.2.2 KS q) (KS.getD j []) (get (.int .i64) at' j):=fun j hj=>(b2 j hj).mono (by omega)
   have common:∀out':List PZ,(bif decide (i64.wrap (runs+1)>4096) then k0 [] false else bif decide (((out'.map wP).length:Int)>256) then k0 [] false
     else zb.l6 F k0 (fun _ _ _ _ _ _ out _ _=>k1 out) fu of (KS.map fun ps=>ps.map wP) (i64.wrap (runs+1)) (ZA c m.2.2 KS q) m (out'.map wP) at' (KS.map fun ps=>wL (wz ps q))) =
     match mdN c m.2.2 KS n q out' with | some res=>k1 (res.map wP) | none=>k0 [] false:=by
    intro out';rw[zY (n:=runs+1) (by omega) (by omega)];cases n with
    | zero=>rw[decide_eq_true (show runs+1>4096 by omega)]; rfl
    | succ n =>
     rw[decide_eq_false (show ¬runs+1>4096 by omega)];simp only[cond_false];by_cases ho:out'.length>256
     ·rw[decide_eq_true (show ((out'.map wP).length:Int)>256 by simp; omega)]
      simp only[mdN,if_pos ho,cond_true]
     ·rw[decide_eq_false (show ¬((out'.map wP).length:Int)>256 by simp; omega)]
      simp only[mdN,if_neg ho,cond_false];exact ih n (runs+1) (ZA c m.2.2 KS q) out' at' (KS.map fun ps=>wL (wz ps q)) (by omega) (by omega) (by omega) (by omega) (by omega) b1 hat5 hl5
   have hble:Nat.ble ((out.map wP).length+([(q,wL l)]:List zo.T).length) vc=true:=uV (by simp; omega);have hsn:out.map wP++([(q,wL l)]:List zo.T)=(out++[(q,l)]).map wP:=by rw[List.map_append]; rfl
   cases hout:out with
   | nil =>
    have c0:=common [(q,l)];rw[hout] at hble hsn;have hp:Xz [] q l=[(q,l)]:=by unfold Xz W3; rw[if_neg (by simp)]; rfl
    rw[hp];rw[show (((([]:List PZ).map wP).length:Int)==0)=true from rfl,hble,hsn];simp only[cond_true];exact c0
   | cons a r =>
    have hne:out≠[]:=by rw[hout]; simp
    obtain ⟨p,hp⟩:∃p,out.getLast?=some p:=⟨_,List.getLast?_eq_some_getLast hne⟩;have hlen:1<=out.length:=by rw[hout]; simp
    rw[<-hout];have hb:=V5 (x:=p.2) (y:=l);rw[show (((out.map wP).length:Int)==0)=false by simp; omega,hble,hsn,zY (n:=((out.map wP).length:Int)-1) (by simp; omega) (by simp; omega),
     show ((out.map wP).length:Int)-1=((out.length-1:Nat):Int) by simp; omega,xX (show out.length-1<(out.map wP).length by simp; omega),Int.toNat_natCast,zaY hp]
    simp only[cond_true,cond_false];show (bif !(Wk (wL p.2) (wL l)) then _ else _)=_;rw[hb];have hll:W3 out=some p.2:=by unfold W3; rw[hp]; rfl
    by_cases he:p.2=l
    ·rw[decide_eq_true he]
     have c0:=common out;have hpz:Xz out q l=out:=by unfold Xz; rw[if_pos (by rw[hll,he])]
     rw[hpz];simp only[Bool.not_true,Bool.not_false,cond_true,cond_false];exact c0
    ·rw[decide_eq_false he]
     have c0:=common (out++[(q,l)]);have hpz:Xz out q l=out++[(q,l)]:=by unfold Xz; rw[if_neg (by rw[hll]; simp; exact he)]
     rw[hpz];simp only[Bool.not_true,Bool.not_false,cond_true,cond_false];exact c0
  ·simp only[zb.l6,zb.l6.body]
   rw[decide_eq_false hq];have:mdZ c m.2.2 KS n q out=some out:=by
    cases n<;>simp only[mdZ,decide_eq_false hq,cond_false]
   rw[this];rfl
def mdR (r:Option (List PZ)):zb.sg.R:=match r with | some res=>((res.map wP,true,()),()) | none=>(([],false,()),())
theorem TM (F:Nat) (hF:4200<F) (of:Nat×za.T) {KS:List (List PZ)} (hK:∀ps∈KS,ps.length<=256) (hK16:KS.length<=16) (hne:∀ps∈KS,ps≠[])
  (m:za.T) (hs:1<=m.2.2) (hs2:m.2.2<=1000000000000) {c:List LZ->Int->LZ×List LZ} (hc:Calls F of c m.2.2 KS) (hnx:∀q,0<=q->q<=1099511627776->q<ZA c m.2.2 KS q) :
  zb.sh F m of (KS.map fun ps=>ps.map wP)=some (mdR (mdZ c m.2.2 KS 4096 0 [])):=by
 unfold zb.sh;have hz:∀j,get (.int .i64) (Z3 (.int .i64) KS.length) j=0:=fun j=>by
  unfold get Z3;rw[List.getD_eq_getElem?_getD,List.getElem?_replicate];split<;>rfl
 have hlen:(KS.map fun ps=>ps.map wP).length=KS.length:=by simp
 have hmx:(vc:Int)>=16:=by decide
 rw[hlen,decide_eq_true (show (0:Int)<=(KS.length:Int) by omega),decide_eq_true (show (KS.length:Int)<=(KS.length:Int) by omega),decide_eq_true (show (KS.length:Int)<=(vc:Int) by omega),Int.toNat_natCast];simp only[Bool.and_true,cond_true];have:=md_l6 F (by omega) (fun r66 r76=>(some ((r66,r76,()),()):Option zb.sg.R)) (fun out7=>zb.j30 F (fun r68 r78=>some ((r68,r78,()),())) out7) of hK hK16 m hs hs2 hc hnx 4096 F 0 0 [] (Z3 (.int .i64) KS.length) (Z3 zf KS.length) (by omega) (by omega) (by omega) (by omega) (by simp) (by simp[Z3])
  (fun j hj=>by
   rw[hz];refine at_zero (hne _ ?_);rw[List.getD_eq_getElem?_getD,List.getElem?_eq_getElem hj];exact List.getElem_mem _) (by simp[Z3])
 refine this.trans ?_;unfold mdR;cases mdZ c m.2.2 KS 4096 0 []<;>rfl
end Go.VS
