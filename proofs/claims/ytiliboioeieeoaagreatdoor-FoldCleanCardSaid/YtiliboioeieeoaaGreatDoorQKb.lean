import Derived.Test.YtiliboioeieeoaaGreatDoorQKa
set_option linter.all false
set_option maxRecDepth 100000
namespace Go.VS
open Go IntKind List
variable {R:Type} {n:za.T} {l q pre xs A Z vs r:List Int} {p:zO.T} {dims pile i w:Nat} {ks st:List Tree} {v a b x y S u c d e k m V bh bl hi lo ah al X s:Int} {t:Tree} {D:List xB.T} {name:ByteArray} (F:Nat)
def Dv (S u:Int) (D:List xB.T) (q:List Int) (t:Tree):Prop:=ty t=1->∃c,ev u D q t=c*10000^(S-deep t).toNat
theorem VB {k:Tree} (hk:k∈ks):0<=deep k/\deep k<=uZ (ks.map deep):=by
 have h0:∀x∈ks.map deep,0<=x:=by simp only[mem_map]; rintro x ⟨k,hk,rfl⟩; exact (tc k).1
 exact ⟨(tc k).1,(Vn h0).2 _ (mem_map_of_mem hk)⟩
theorem zb8 (n:za.T) (ks:List Tree):uZ (ks.map deep)<=deep (.nd n ks):=by
 rw[tV];cases nK n==15<;>simp only[cond_true,cond_false]<;>omega
theorem Dv.mul (h:Dv S u D q t) (ht:ty t=1) (h1:deep t<=e) (h2:e<=S):∃c,ev u D q t=c*10000^(S-e).toNat:=by
 obtain ⟨c,hc⟩:=h ht;have h0:=(tc t).1;refine ⟨c*10000^(e-deep t).toNat,?_⟩;rw[hc,Int.mul_assoc,<-Int.pow_add,show (e-deep t).toNat+(S-e).toNat=(S-deep t).toNat by omega]
theorem qI (h:qk l=1):∀x∈l,x=1:=by
 cases l with
 | nil=>simp
 | cons a r =>
  simp only[qk] at h;cases hr:r.all (fun x=>x==a) with
  | false=>rw[hr] at h; exact absurd (show (-1:Int)=1 from h) (by decide)
  | true =>
   rw[hr] at h;have h:a=1:=h;intro x hx;rcases mem_cons.1 hx with rfl | hx
   ·exact h
   ·have:=List.all_eq_true.1 hr x hx
    rw[<-h]; simpa using this
theorem zdV (h:Yz a b=1):a=1\/b=1:=by
 unfold Yz at h;cases h1:(a==0) with
 | true=>rw[h1] at h; exact .inr h
 | false =>
  rw[h1] at h;cases h2:(b==0) with
  | true=>rw[h2] at h; exact .inl h
  | false =>
   rw[h2] at h;cases h3:(vS a&&b==1) with
   | true=>simp at h3; exact .inr h3.2
   | false =>
    rw[h3] at h;cases h4:(vS b&&a==1) with
    | true=>simp at h4; exact .inl h4.2
    | false=>rw[h4] at h; exact absurd (show (-1:Int)=1 from h) (by decide)
theorem zcI (hS0:0<=S) (hu:u=10000^S.toNat) (hn:vA dims n pile=0) (hl:ks.length=ar n) (hd:deep (.nd n ks)<=S) (hk:∀k∈ks,Dv S u D q k):Dv S u D q (.nd n ks):=by
 intro ht;obtain ⟨g1,g2,g3,g4,g5,g6,g7,g8⟩:=wD hn;have hdt:=zb8 n ks;have hd0:=(tc (.nd n ks)).1;have K1:∀k∈ks,ty k=1->∃c,ev u D q k=c*10000^(S-deep (.nd n ks)).toNat:=fun k hkm h1=>(hk k hkm).mul h1 (by have:=(VB hkm).2; omega) hd
 have hup:u=10000^(deep (.nd n ks)).toNat*10000^(S-deep (.nd n ks)).toNat:=by
  rw[hu,<-Int.pow_add]; congr 1; omega
 have htn:tyN n (ks.map ty)=1:=by rw[<-qR]; exact ht
 rw[tU];have hdn:=tV n ks;generalize hP:(10000:Int)^(S-deep (.nd n ks)).toNat=P at*;rcases ug g1 with h | h | h | h | h | h | h | h | h | h | h | h | h | h | h | h
 ·have:tyN n (ks.map ty)=0:=by unfold tyN; rw[h]; rfl
  omega
 ·have e:evN u D q n (ks.map (ev u D q))=nN n*u:=by unfold evN; rw[h]; rfl
  rw[e,hup];exact ⟨nN n*10000^(deep (.nd n ks)).toNat,by rw[Int.mul_assoc]⟩
 ·have:tyN n (ks.map ty)=2+2*nN n:=by unfold tyN; rw[h]; rfl
  omega
 ·have:tyN n (ks.map ty)=3+2*nN n:=by unfold tyN; rw[h]; rfl
  omega
 ·have hl1:ks.length=1:=by rw[hl,yI h]; rfl
  obtain ⟨a,rfl⟩:=length_eq_one_iff.1 hl1;have e:evN u D q n ([a].map (ev u D q))=0-ev u D q a:=by unfold evN; rw[h]; rfl
  have ho:qk ([a].map ty)=1:=by rw[<-htn]; unfold tyN; rw[h]; rfl
  obtain ⟨c,hc⟩:=K1 a (by simp) (qI ho (ty a) (by simp));exact ⟨-c,by rw[e,hc,Int.neg_mul]; omega⟩
 ·have hl1:ks.length=2:=by rw[hl,yI h]; rfl
  obtain ⟨a,b,rfl⟩:=ZY hl1;have e:evN u D q n ([a,b].map (ev u D q))=ev u D q a+ev u D q b:=by unfold evN; rw[h]; rfl
  have ho:qk ([a,b].map ty)=1:=by rw[<-htn]; unfold tyN; rw[h]; rfl
  obtain ⟨c,hc⟩:=K1 a (by simp) (qI ho (ty a) (by simp));obtain ⟨c',hc'⟩:=K1 b (by simp) (qI ho (ty b) (by simp));exact ⟨c+c',by rw[e,hc,hc',Int.add_mul]⟩
 ·have hl1:ks.length=2:=by rw[hl,yI h]; rfl
  obtain ⟨a,b,rfl⟩:=ZY hl1;have e:evN u D q n ([a,b].map (ev u D q))=ev u D q a-ev u D q b:=by unfold evN; rw[h]; rfl
  have ho:qk ([a,b].map ty)=1:=by rw[<-htn]; unfold tyN; rw[h]; rfl
  obtain ⟨c,hc⟩:=K1 a (by simp) (qI ho (ty a) (by simp));obtain ⟨c',hc'⟩:=K1 b (by simp) (qI ho (ty b) (by simp));exact ⟨c-c',by rw[e,hc,hc',Int.sub_mul]⟩
 ·have hl1:ks.length=2:=by rw[hl,yI h]; rfl
  obtain ⟨a,b,rfl⟩:=ZY hl1;have e:evN u D q n ([a,b].map (ev u D q))=ev u D q a*ev u D q b:=by unfold evN; rw[h]; rfl
  have ho:Yz (ty a) (ty b)=1:=by rw[<-htn]; unfold tyN; rw[h]; rfl
  rcases zdV ho with h1 | h1
  ·obtain ⟨c,hc⟩:=K1 a (by simp) h1
   exact ⟨c*ev u D q b,by rw[e,hc,Int.mul_right_comm]⟩
  ·obtain ⟨c,hc⟩:=K1 b (by simp) h1
   exact ⟨ev u D q a*c,by rw[e,hc,Int.mul_assoc]⟩
 ·have e:evN u D q n (ks.map (ev u D q))=Zl (ks.map (ev u D q)):=by unfold evN; rw[h]; rfl
  have ho:qk (ks.map ty)=1:=by rw[<-htn]; unfold tyN; rw[h]; rfl
  rw[tC h] at g4;have g4:(decide (nC n>=2)&&decide (nC n<=16))=true:=g4;simp at g4;have hln:1<=ks.length:=by rw[hl,yI h]; show 1<=(nC n).toNat; omega
  obtain ⟨k,hkm,hkv⟩:=mem_map.1 (XL (l:=ks.map (ev u D q)) (by simp; omega));rw[e,<-hkv];exact K1 k hkm (qI ho (ty k) (mem_map_of_mem hkm))
 ·have e:evN u D q n (ks.map (ev u D q))=uZ (ks.map (ev u D q)):=by unfold evN; rw[h]; rfl
  have ho:qk (ks.map ty)=1:=by rw[<-htn]; unfold tyN; rw[h]; rfl
  rw[tC h] at g4;have g4:(decide (nC n>=2)&&decide (nC n<=16))=true:=g4;simp at g4;have hln:1<=ks.length:=by rw[hl,yI h]; show 1<=(nC n).toNat; omega
  obtain ⟨k,hkm,hkv⟩:=mem_map.1 (XM (l:=ks.map (ev u D q)) (by simp; omega));rw[e,<-hkv];exact K1 k hkm (qI ho (ty k) (mem_map_of_mem hkm))
 ·have:tyN n (ks.map ty)=bif vS ((ks.map ty).getD 0 0) then (ks.map ty).getD 0 0 else -1:=by unfold tyN; rw[h]; rfl
  rw[this] at htn;cases hc:vS ((ks.map ty).getD 0 0) with
  | false=>rw[hc] at htn; exact absurd (show (-1:Int)=1 from htn) (by decide)
  | true=>rw[hc] at htn; unfold vS at hc; have:=of_decide_eq_true hc; simp only[cond_true] at htn; omega
 ·have:tyN n (ks.map ty)=bif vS ((ks.map ty).getD 0 0) then (ks.map ty).getD 0 0 else -1:=by unfold tyN; rw[h]; rfl
  rw[this] at htn;cases hc:vS ((ks.map ty).getD 0 0) with
  | false=>rw[hc] at htn; exact absurd (show (-1:Int)=1 from htn) (by decide)
  | true=>rw[hc] at htn; unfold vS at hc; have:=of_decide_eq_true hc; simp only[cond_true] at htn; omega
 ·have e:evN u D q n (ks.map (ev u D q))=u*T3 ((ks.map (ev u D q)).getD 0 0) (nT n):=by unfold evN; rw[h]; rfl
  rw[e];generalize T3 ((ks.map (ev u D q)).getD 0 0) (nT n)=z;rw[hup];exact ⟨10000^(deep (.nd n ks)).toNat*z,by rw[Int.mul_right_comm]⟩
 ·have e:evN u D q n (ks.map (ev u D q))=u*vol ((ks.map (ev u D q)).getD 0 0) (nT n):=by unfold evN; rw[h]; rfl
  rw[e];generalize vol ((ks.map (ev u D q)).getD 0 0) (nT n)=z;rw[hup];exact ⟨10000^(deep (.nd n ks)).toNat*z,by rw[Int.mul_right_comm]⟩
 ·have hl1:ks.length=1:=by rw[hl,yI h]; rfl
  obtain ⟨a,rfl⟩:=length_eq_one_iff.1 hl1;have e:evN u D q n ([a].map (ev u D q))=Ye 2 (ev u D q a*(10000-nN n)) 10000:=by unfold evN; rw[h]; rfl
  have hx0:tyN n ([a].map ty)=(bif ty a==1 then (1:Int) else -1):=by unfold tyN; rw[h]; rfl
  have ho:(bif ty a==1 then (1:Int) else -1)=1:=by rw[<-hx0]; exact htn
  have h1:ty a=1:=by
   cases hta:(ty a==1) with
   | true=>simpa using hta
   | false=>rw[hta] at ho; exact absurd (show (-1:Int)=1 from ho) (by decide)
  rw[h] at hdn;have hdn:deep (.nd n [a])=deep a+1:=by rw[hdn]; rfl
  obtain ⟨c,hc⟩:=(hk a (by simp)).mul h1 (e:=deep (.nd n [a])-1) (by omega) (by omega);have hpp:(10000:Int)^(S-(deep (.nd n [a])-1)).toNat=P*10000:=by
   rw[<-hP,show (S-(deep (.nd n [a])-1)).toNat=(S-deep (.nd n [a])).toNat+1 by omega,Int.pow_succ]
  rw[hpp] at hc;have hx:ev u D q a*(10000-nN n)=(c*P*(10000-nN n))*10000:=by rw[hc,<-Int.mul_assoc,Int.mul_right_comm]
  rw[e,hx,Z5 (by decide)];exact ⟨c*(10000-nN n),by rw[Int.mul_right_comm]⟩
 ·have hl1:ks.length=3:=by rw[hl,yI h]; rfl
  obtain ⟨a,b,c,rfl⟩:=len3 hl1;have e:evN u D q n ([a,b,c].map (ev u D q))=bif Z2 (nO n) (ev u D q a) (nN n) then ev u D q b else ev u D q c:=by unfold evN; rw[h]; rfl
  have hx0:tyN n ([a,b,c].map ty)=(bif vS (ty a) then qk [ty b,ty c] else -1):=by unfold tyN; rw[h]; rfl
  have ho:(bif vS (ty a) then qk [ty b,ty c] else -1)=1:=by rw[<-hx0]; exact htn
  have ho1:qk [ty b,ty c]=1:=by
   cases hc:vS (ty a) with
   | false=>rw[hc] at ho; exact absurd (show (-1:Int)=1 from ho) (by decide)
   | true=>rw[hc] at ho; exact ho
  rw[e];cases Z2 (nO n) (ev u D q a) (nN n) with
  | true=>exact K1 b (by simp) (qI ho1 (ty b) (by simp))
  | false=>exact K1 c (by simp) (qI ho1 (ty c) (by simp))
theorem RP (t:Tree):∀s∈t.subs,deep s<=deep t:=by
 refine Tree.ind (P:=fun t=>∀s∈t.subs,deep s<=deep t) (fun n ks ih=>?_) t;intro s hs;rw[q9] at hs;rcases mem_append.1 hs with hs | hs
 ·unfold vW at hs
  obtain ⟨l,hl,hsl⟩:=mem_flatten.1 hs;obtain ⟨k,hk,rfl⟩:=mem_map.1 hl;have h1:=ih k hk s hsl;have h2:=(VB hk).2;have h3:=zb8 n ks;omega
 ·rw[mem_singleton.1 hs]; exact Int.le_refl _
def lv:List Int->Int
 | []=>0
 | d::r=>d+65536*lv r
def DG (l:List Int):Prop:=∀d∈l,0<=d/\d<65536
def Rep (l:List Int) (v:Int):Prop:=l.length=12/\DG l/\∃k:Int,lv l=v+6277101735386680763835789423207666416102355444464034512896*k
theorem DG.cons (h:DG (d::r)):(0<=d/\d<65536)/\DG r:=⟨h d (by simp),fun x hx=>h x (by simp[hx])⟩
theorem DG.mk (h:0<=d/\d<65536) (hr:DG r):DG (d::r):=fun x hx=>by
 rcases mem_cons.1 hx with rfl | hx
 ·exact h
 ·exact hr x hx
theorem DG.nil:DG []:=fun x hx=>by simp at hx
theorem len12 (h:l.length=12):∃a b c d e f g i j k m n,l=[a,b,c,d,e,f,g,i,j,k,m,n]:=by
 match l,h with
 | [a,b,c,d,e,f,g,i,j,k,m,n],_=>exact ⟨a,b,c,d,e,f,g,i,j,k,m,n,rfl⟩
theorem UZ (h:pre.length=i):(pre++x::xs).set i y=(pre++[y])++xs:=by
 subst h; simp
theorem T5 (h:pre.length=i):(pre++x::xs).getD i 0=x:=by
 subst h; simp[getD_eq_getElem?_getD]
theorem Ug (h:l.drop i=x::xs):l.getD i 0=x:=by
 have:=congrArg (·[0]?) h
 rw[getD_eq_getElem?_getD];simp at this;rw[this]; rfl
theorem Y5 {i n:Nat} (h:i<n) (hl:l.length=n):(idx (i:Int) n&&Nat.beq n l.length)=true:=by
 rw[xS h,hl]; simp
def W0:Int->List Int->List Int->List Int
 | c,x::xs,y::ys=>((c+x+y)%65536)::W0 ((c+x+y)/65536) xs ys
 | _,_,_=>[]
theorem SI:∀(xs ys:List Int) (c:Int),xs.length=ys.length->(W0 c xs ys).length=xs.length
 | [],[],c,h=>rfl
 | x::xs,y::ys,c,h=>by simp only[W0,length_cons,SI xs ys _ (by simpa using h)]
 | [],_::_,_,h=>by simp at h
 | _::_,[],_,h=>by simp at h
theorem zdu:∀(xs ys:List Int) (c:Int),DG (W0 c xs ys)
 | [],ys,c=>by simp only[W0]; exact DG.nil
 | x::xs,[],c=>by simp only[W0]; exact DG.nil
 | x::xs,y::ys,c=>by simp only[W0]; exact DG.mk (by omega) (zdu xs ys _)
theorem zdt:∀(xs ys:List Int) (c:Int),xs.length=ys.length->DG xs->DG ys->0<=c->c<=1->∃k:Int,0<=k/\k<=1/\lv (W0 c xs ys)+65536^xs.length*k=c+lv xs+lv ys
 | [],[],c,h,_,_,h1,h2=>⟨c,h1,h2,by simp[W0,lv]⟩
 | [],_::_,_,h,_,_,_,_=>by simp at h
 | _::_,[],_,h,_,_,_,_=>by simp at h
 | x::xs,y::ys,c,h,hx,hy,h1,h2=>by
  have ⟨⟨x1,x2⟩,hx⟩:=hx.cons;have ⟨⟨y1,y2⟩,hy⟩:=hy.cons;obtain ⟨k,k1,k2,hk⟩:=zdt xs ys ((c+x+y)/65536) (by simpa using h) hx hy (by omega) (by omega);refine ⟨k,k1,k2,?_⟩;simp only[W0,lv,length_cons,Int.pow_succ];have:(65536:Int)^xs.length*65536*k=65536*(65536^xs.length*k):=by
   rw[Int.mul_comm (65536^xs.length) 65536,Int.mul_assoc]
  rw[this];generalize (65536:Int)^xs.length*k=q at*;omega
theorem plus_l3 (k:List Int->List Int->Option R) (b r4:List Int) (hb:b.length=12):∀(xs pre ys:List Int) (c:Int) (i fu:Nat),pre.length=i->i+xs.length=12->b.drop i=ys->DG xs->DG ys->0<=c->c<=1->xs.length<fu->
  z6.l3 F (fun _ _ _ a _ r=>k a r) fu c (i:Int) (pre++xs) b r4=k (pre++W0 c xs ys) r4:=by
 intro xs;induction xs with
 | nil =>
  intro pre ys c i fu hp hi hy _ _ _ _ hf;obtain ⟨fu,rfl⟩:∃j,fu=j+1:=⟨fu-1,by simp at hf; omega⟩;simp only[length_nil,Nat.add_zero] at hi;simp only[z6.l3,z6.l3.y,decide_eq_false (show ¬((i:Int)<12) by omega),cond_false,W0]
 | cons x xs ih =>
  intro pre ys c i fu hp hi hy hx hys c1 c2 hf;obtain ⟨fu,rfl⟩:∃j,fu=j+1:=⟨fu-1,by simp at hf; omega⟩;simp only[length_cons] at hi hf;have ⟨⟨x1,x2⟩,hx⟩:=hx.cons;have hyl:=congrArg List.length hy;simp only[length_drop] at hyl;cases ys with
  | nil=>simp only[length_nil] at hyl; omega
  | cons y ys =>
   have ⟨⟨y1,y2⟩,hys⟩:=hys.cons;have hal:(pre++x::xs).length=12:=by simp; omega
   have e1:=Y5 (show i<12 by omega) hal;have e2:=Y5 (show i<12 by omega) hb;have e3:(pre++x::xs).getD (Int.toNat (i:Int)) 0=x:=T5 (by rw[Int.toNat_natCast]; exact hp);have e4:b.getD (Int.toNat (i:Int)) 0=y:=by rw[Int.toNat_natCast]; exact Ug hy
   have e5:∀z,(pre++x::xs).set (Int.toNat (i:Int)) z=(pre++[z])++xs:=fun z=>UZ (by rw[Int.toNat_natCast]; exact hp)
   simp only[z6.l3,z6.l3.y,decide_eq_true (show ((i:Int)<12) by omega),cond_true,e1,e2,e3,e4,e5];rw[xP (n:=c+x) (by omega) (by omega),xP (n:=c+x+y) (by omega) (by omega),Int.tdiv_eq_ediv_of_nonneg (by omega),Int.tmod_eq_emod_of_nonneg (by omega),xP (n:=(c+x+y)/65536) (by omega) (by omega),yz (by omega) (by omega),<-wd];rw[ih (pre++[(c+x+y)%65536]) ys ((c+x+y)/65536) (i+1) fu (by simp; omega) (by omega) (wz hy) hx hys (by omega) (by omega) (by omega)];simp[W0]
theorem pow12:(65536:Int)^12=6277101735386680763835789423207666416102355444464034512896:=by decide
theorem U0 (hF:20<F) {a b:List Int} (ha:Rep a x) (hb:Rep b y):∃l,z6.sh F a b=some ((l,()),())/\Rep l (x+y):=by
 obtain ⟨a1,a2,k1,a3⟩:=ha;obtain ⟨b1,b2,k2,b3⟩:=hb;refine ⟨W0 0 a b,?_,by rw[SI _ _ _ (by omega)]; exact a1,zdu _ _ _,?_⟩
 ·unfold z6.sh
  have:=plus_l3 F (fun a1 r41=>bif Nat.beq 12 a1.length then bif (Nat.beq a1.length r41.length&&Nat.beq 12 r41.length) then bif (Nat.beq 12 a1.length&&true) then (some ((a1,()),()):Option z6.sg.R)
   else none
  else none
 else none) b (List.replicate 12 0) b1 a [] b 0 0 F rfl (by omega) (by simp) a2 b2 (by omega) (by omega) (by omega)
  rw[nil_append,show ((0:Nat):Int)=0 from rfl] at this;rw[this];have hl:(W0 0 a b).length=12:=by rw[SI _ _ _ (by omega)]; exact a1
  rw[nil_append,hl];rfl
 ·obtain ⟨k,_,_,hk⟩:=zdt a b 0 (by omega) a2 b2 (by omega) (by omega)
  rw[a1,pow12] at hk;refine ⟨k1+k2-k,?_⟩;rw[Int.mul_sub,Int.mul_add];omega
theorem zdw (k:List Int->List Int->Option R) (r2:List Int):∀(xs pre:List Int) (i fu:Nat),pre.length=i->i+xs.length=12->DG xs->xs.length<fu->
  zR.l2 F (fun _ _ a r=>k a r) fu (i:Int) (pre++xs) r2=k (pre++xs.map (fun d=>65535-d)) r2:=by
 intro xs;induction xs with
 | nil =>
  intro pre i fu hp hi _ hf;obtain ⟨fu,rfl⟩:∃j,fu=j+1:=⟨fu-1,by simp at hf; omega⟩;simp only[length_nil,Nat.add_zero] at hi;simp only[zR.l2,zR.l2.y,decide_eq_false (show ¬((i:Int)<12) by omega),cond_false,map_nil]
 | cons x xs ih =>
  intro pre i fu hp hi hx hf;obtain ⟨fu,rfl⟩:∃j,fu=j+1:=⟨fu-1,by simp at hf; omega⟩;simp only[length_cons] at hi hf;have ⟨⟨x1,x2⟩,hx⟩:=hx.cons;have hal:(pre++x::xs).length=12:=by simp; omega
  have e1:=Y5 (show i<12 by omega) hal;have e3:(pre++x::xs).getD (Int.toNat (i:Int)) 0=x:=T5 (by rw[Int.toNat_natCast]; exact hp);have e5:∀z,(pre++x::xs).set (Int.toNat (i:Int)) z=(pre++[z])++xs:=fun z=>UZ (by rw[Int.toNat_natCast]; exact hp)
  simp only[zR.l2,zR.l2.y,decide_eq_true (show ((i:Int)<12) by omega),cond_true,e1,e3,e5];rw[xP (n:=65535-x) (by omega) (by omega),yz (by omega) (by omega),<-wd];rw[ih (pre++[65535-x]) (i+1) fu (by simp; omega) (by omega) hx (by omega)];simp
theorem zfh:∀(xs:List Int),lv (xs.map (fun d=>65535-d))+lv xs+1=65536^xs.length
 | []=>by simp[lv]
 | x::xs=>by
  have:=zfh xs;simp only[map_cons,lv,length_cons,Int.pow_succ];generalize (65536:Int)^xs.length=q at*;omega
theorem opp_dg (h:DG xs):DG (xs.map (fun d=>65535-d)):=fun d hd=>by
 obtain ⟨x,hx,rfl⟩:=mem_map.1 hd;have:=h x hx;omega
theorem Wd (hF:20<F) {a:List Int} (ha:Rep a x):∃l,zR.sh F a=some ((l,()),())/\Rep l (-x):=by
 obtain ⟨a1,a2,k1,a3⟩:=ha;have h1:Rep (a.map (fun d=>65535-d)) (-x-1):=by
  refine ⟨by simpa using a1,opp_dg a2,1-k1,?_⟩;have:=zfh a;rw[a1,pow12] at this;rw[Int.mul_sub];omega
 have h2:Rep ((List.replicate 12 0).set 0 1) 1:=⟨rfl,by
  intro d hd;simp[List.replicate] at hd;omega,0,by rfl⟩
 obtain ⟨l,hl,hr⟩:=U0 F hF h1 h2;refine ⟨l,?_,by rw[show -x=-x-1+1 by omega]; exact hr⟩;unfold zR.sh;have:=zdw F (fun a1 r21=>bif Nat.beq 12 a1.length then oB (z6.sh F a1 ((List.replicate 12 0).set 0 1)) fun c_2 =>
  bif (Nat.beq c_2.1.1.length r21.length&&Nat.beq 12 r21.length) then bif (Nat.beq 12 c_2.1.1.length&&true) then (some ((c_2.1.1,()),()):Option zR.sg.R)
   else none
  else none
 else none) (List.replicate 12 0) a [] 0 F rfl (by omega) a2 (by omega)
 rw[nil_append,show ((0:Nat):Int)=0 from rfl] at this;rw[this,nil_append,hl];have e1:(a.map (fun d=>65535-d)).length=12:=by simpa using a1
 have e2:l.length=12:=hr.1;rw[e1];simp only[zh,e2];rfl
theorem zcn (f:Nat) (a b:Int):zD.sh (f+20) (a,b)=bif decide (a<0) then
  some (([(b.fdiv 1).tmod 65536,(b.fdiv 65536).tmod 65536,(b.fdiv 4294967296).tmod 65536,(b.fdiv 281474976710656).tmod 65536,((u64.wrap a).fdiv 1).tmod 65536,((u64.wrap a).fdiv 65536).tmod 65536,((u64.wrap a).fdiv 4294967296).tmod 65536,((u64.wrap a).fdiv 281474976710656).tmod 65536,65535,65535,65535,65535],()),())
 else some (([(b.fdiv 1).tmod 65536,(b.fdiv 65536).tmod 65536,(b.fdiv 4294967296).tmod 65536,(b.fdiv 281474976710656).tmod 65536,((u64.wrap a).fdiv 1).tmod 65536,((u64.wrap a).fdiv 65536).tmod 65536,((u64.wrap a).fdiv 4294967296).tmod 65536,((u64.wrap a).fdiv 281474976710656).tmod 65536,0,0,0,0],()),()):=by kernel_rfl
theorem four (h1:0<=b) (h2:b<18446744073709551616):(b.fdiv 1).tmod 65536=b%65536/\(b.fdiv 65536).tmod 65536=b/65536%65536/\(b.fdiv 4294967296).tmod 65536=b/4294967296%65536/\(b.fdiv 281474976710656).tmod 65536=b/281474976710656%65536:=by
 rw[Int.fdiv_eq_ediv_of_nonneg _ (by omega),Int.fdiv_eq_ediv_of_nonneg _ (by omega),Int.fdiv_eq_ediv_of_nonneg _ (by omega),Int.fdiv_eq_ediv_of_nonneg _ (by omega),Int.tmod_eq_emod_of_nonneg (by omega),Int.tmod_eq_emod_of_nonneg (by omega),Int.tmod_eq_emod_of_nonneg (by omega),Int.tmod_eq_emod_of_nonneg (by omega)];exact ⟨by omega,rfl,rfl,rfl⟩
theorem Rep.of12 {a b c d e f g i j k m n v q:Int} (h1:0<=a/\a<65536) (h2:0<=b/\b<65536) (h3:0<=c/\c<65536) (h4:0<=d/\d<65536) (h5:0<=e/\e<65536) (h6:0<=f/\f<65536) (h7:0<=g/\g<65536) (h8:0<=i/\i<65536)
  (h9:0<=j/\j<65536) (h10:0<=k/\k<65536) (h11:0<=m/\m<65536) (h12:0<=n/\n<65536) (h:lv [a,b,c,d,e,f,g,i,j,k,m,n]=v+6277101735386680763835789423207666416102355444464034512896*q):Rep [a,b,c,d,e,f,g,i,j,k,m,n] v :=
 ⟨rfl,DG.mk h1 (DG.mk h2 (DG.mk h3 (DG.mk h4 (DG.mk h5 (DG.mk h6 (DG.mk h7 (DG.mk h8 (DG.mk h9 (DG.mk h10 (DG.mk h11 (DG.mk h12 DG.nil))))))))))),q,h⟩
theorem Xd (hF:20<F) {w:Int×Int} (hw:wfW w):∃l,zD.sh F w=some ((l,()),())/\Rep l (val w):=by
 obtain ⟨f,rfl⟩:∃f,F=f+20:=⟨F-20,by omega⟩;obtain ⟨a,b⟩:=w;obtain ⟨h1,h2,h3,h4⟩:=hw;simp only at h1 h2 h3 h4;rw[zcn];have hu:=four h3 h4;have hA1:0<=u64.wrap a:=by rw[wX]; omega
 have hA2:u64.wrap a<18446744073709551616:=by rw[wX]; omega
 have hv:=four hA1 hA2;rw[hu.1,hu.2.1,hu.2.2.1,hu.2.2.2,hv.1,hv.2.1,hv.2.2.1,hv.2.2.2];by_cases hn:a<0
 ·rw[decide_eq_true hn]
  have hA:u64.wrap a=a+18446744073709551616:=by rw[wX]; omega
  rw[hA];refine ⟨_,rfl,Rep.of12 (q:=1) (by omega) (by omega) (by omega) (by omega) (by omega) (by omega) (by omega) (by omega) (by omega) (by omega) (by omega) (by omega) ?_⟩;simp only[lv,val];omega
 ·rw[decide_eq_false hn]
  have hA:u64.wrap a=a:=by rw[wX]; omega
  rw[hA];refine ⟨_,rfl,Rep.of12 (q:=0) (by omega) (by omega) (by omega) (by omega) (by omega) (by omega) (by omega) (by omega) (by omega) (by omega) (by omega) (by omega) ?_⟩;simp only[lv,val];omega
theorem Rep.open (h:Rep l v):∃a b c d e f g i j k m n q:Int,l=[a,b,c,d,e,f,g,i,j,k,m,n]/\(0<=a/\a<65536)/\(0<=b/\b<65536)/\(0<=c/\c<65536)/\(0<=d/\d<65536)/\(0<=e/\e<65536)/\(0<=f/\f<65536)/\(0<=g/\g<65536)/\(0<=i/\i<65536) /\
  (0<=j/\j<65536)/\(0<=k/\k<65536)/\(0<=m/\m<65536)/\(0<=n/\n<65536) /\
  a+65536*b+4294967296*c+281474976710656*d+18446744073709551616*e+1208925819614629174706176*f+79228162514264337593543950336*g+5192296858534827628530496329220096*i+340282366920938463463374607431768211456*j+22300745198530623141535718272648361505980416*k+1461501637330902918203684832716283019655932542976*m+95780971304118053647396689196894323976171195136475136*n=v+6277101735386680763835789423207666416102355444464034512896*q:=by
 obtain ⟨h1,h2,q,h3⟩:=h;obtain ⟨a,b,c,d,e,f,g,i,j,k,m,n,rfl⟩:=len12 h1;refine ⟨a,b,c,d,e,f,g,i,j,k,m,n,q,rfl,h2 a (by simp),h2 b (by simp),h2 c (by simp),h2 d (by simp),h2 e (by simp),h2 f (by simp),h2 g (by simp),h2 i (by simp),h2 j (by simp),h2 k (by simp),h2 m (by simp),h2 n (by simp),?_⟩;simp only[lv] at h3;omega
theorem zbp (h:Rep l v) (h1:-3138550867693340381917894711603833208051177722232017256448<=v) (h2:v<3138550867693340381917894711603833208051177722232017256448):xl.sh F l=some ((decide (v<0),()),()):=by
 obtain ⟨a,b,c,d,e,f,g,i,j,k,m,n,q,rfl,b1,b2,b3,b4,b5,b6,b7,b8,b9,b10,b11,b12,hs⟩:=h.open;unfold xl.sh;have hd:decide (([a,b,c,d,e,f,g,i,j,k,m,n].getD 11 0)>=32768)=decide (v<0):=by
  show decide (n>=32768)=decide (v<0);by_cases hv:v<0
  ·rw[decide_eq_true hv,decide_eq_true (by omega)]
  ·rw[decide_eq_false hv,decide_eq_false (by omega)]
 rw[hd];rfl
def hor (d c b a:Int):Int:=a+65536*b+4294967296*c+281474976710656*d
theorem XV (h1:0<=a/\a<65536) (h2:0<=b/\b<65536) (h3:0<=c/\c<65536) (h4:0<=d/\d<65536):0<=hor d c b a/\hor d c b a<18446744073709551616:=by unfold hor; omega
theorem Ue (h1:0<=a/\a<65536) (h2:0<=b/\b<65536) (h3:0<=c/\c<65536) (h4:0<=d/\d<65536) :
  u64.wrap (u64.wrap (u64.wrap (u64.wrap (u64.wrap (u64.wrap (u64.wrap (u64.wrap (0*65536)+d)*65536)+c)*65536)+b)*65536)+a)=hor d c b a:=by
 unfold hor;rw[xP (n:=0*65536) (by omega) (by omega),xP (n:=0*65536+d) (by omega) (by omega),xP (n:=(0*65536+d)*65536) (by omega) (by omega),xP (n:=(0*65536+d)*65536+c) (by omega) (by omega),
  xP (n:=((0*65536+d)*65536+c)*65536) (by omega) (by omega),xP (n:=((0*65536+d)*65536+c)*65536+b) (by omega) (by omega),xP (n:=(((0*65536+d)*65536+c)*65536+b)*65536) (by omega) (by omega),xP (by omega) (by omega)]
 omega
theorem zeC (f:Nat) (a b c d e f' g i j k m n:Int):zH.sh (f+20) [a,b,c,d,e,f',g,i,j,k,m,n]=bif decide (i>=32768) then
  (bif (j != 65535) then some (((0,0),false,()),()) else bif (k != 65535) then some (((0,0),false,()),()) else bif (m != 65535) then some (((0,0),false,()),()) else bif (n != 65535) then some (((0,0),false,()),()) else
   some (((i64.wrap (u64.wrap (u64.wrap (u64.wrap (u64.wrap (u64.wrap (u64.wrap (u64.wrap (u64.wrap (0*65536)+i)*65536)+g)*65536)+f')*65536)+e)),u64.wrap (u64.wrap (u64.wrap (u64.wrap (u64.wrap (u64.wrap (u64.wrap (u64.wrap (0*65536)+d)*65536)+c)*65536)+b)*65536)+a)),true,()),()))
 else (bif (j != 0) then some (((0,0),false,()),()) else bif (k != 0) then some (((0,0),false,()),()) else bif (m != 0) then some (((0,0),false,()),()) else bif (n != 0) then some (((0,0),false,()),()) else
   some (((i64.wrap (u64.wrap (u64.wrap (u64.wrap (u64.wrap (u64.wrap (u64.wrap (u64.wrap (u64.wrap (0*65536)+i)*65536)+g)*65536)+f')*65536)+e)),u64.wrap (u64.wrap (u64.wrap (u64.wrap (u64.wrap (u64.wrap (u64.wrap (u64.wrap (0*65536)+d)*65536)+c)*65536)+b)*65536)+a)),true,()),())):=by kernel_rfl
theorem zcE (hl:l.length=12) (hv:inR v=false) (h:zH.sh F l=some (((0,0),false,()),())):yM.sh F l=some ((uA v,ui v,()),()):=by
 unfold yM.sh uA ui;rw[hl,h,hv];rfl
theorem za8 (hl:l.length=12) (hv:inR v=true) (h:zH.sh F l=some ((mk v,true,()),())):yM.sh F l=some ((uA v,ui v,()),()):=by
 unfold yM.sh uA ui;rw[hl,h,hv];rfl
theorem zff {w:Int×Int} (h1:a=w.1) (h2:b=w.2):(some (((a,b),true,()),()):Option ((((Int×Int))×Bool×Unit)×Unit))=some ((w,true,()),()):=by
 rw[h1,h2]
theorem UX (hF:20<F) (h:Rep l v) (h1:-3138550867693340381917894711603833208051177722232017256448<=v) (h2:v<3138550867693340381917894711603833208051177722232017256448):yM.sh F l=some ((uA v,ui v,()),()):=by
 obtain ⟨fu,rfl⟩:∃f,F=f+20:=⟨F-20,by omega⟩;have hl:=h.1;obtain ⟨a,b,c,d,e,f,g,i,j,k,m,n,q,rfl,b1,b2,b3,b4,b5,b6,b7,b8,b9,b10,b11,b12,hs⟩:=h.open;have hw:=zeC fu a b c d e f g i j k m n;rw[Ue b1 b2 b3 b4,Ue b5 b6 b7 b8] at hw;have hb1:=XV b1 b2 b3 b4;have hb2:=XV b5 b6 b7 b8;have hs2:hor d c b a+18446744073709551616*hor i g f e+340282366920938463463374607431768211456*(hor n m k j)=v+6277101735386680763835789423207666416102355444464034512896*q:=by unfold hor; omega
 have hi8:decide (i>=32768)=decide (hor i g f e>=9223372036854775808):=by
  by_cases hi:i>=32768
  ·rw[decide_eq_true hi,decide_eq_true (by unfold hor; omega)]
  ·rw[decide_eq_false hi,decide_eq_false (by unfold hor; omega)]
 have htop:=XV b9 b10 b11 b12;by_cases hi:i>=32768
 ·rw[decide_eq_true hi] at hw hi8
  have hi9:=of_decide_eq_true hi8.symm;simp only[cond_true] at hw;by_cases ht:j=65535/\k=65535/\m=65535/\n=65535
  ·obtain ⟨rfl,rfl,rfl,rfl⟩:=ht
   simp only[bne_self_eq_false,cond_false] at hw;have htt:hor 65535 65535 65535 65535=18446744073709551615:=by decide
   rw[htt] at hs2;have hv:inR v=true:=by rw[yB]; omega
   refine za8 _ hl hv (hw.trans ?_);have e1:i64.wrap (hor i g f e)=hor i g f e-18446744073709551616:=by rw[ZD]; split<;>omega
   rw[e1];exact zff (by simp only[mk]; omega) (by simp only[mk]; omega)
  ·have hv:inR v=false:=by
    have:hor n m k j<18446744073709551615:=by unfold hor; omega
    rw[qK]; omega
   refine zcE _ hl hv (hw.trans ?_);by_cases h1:j=65535
   ·by_cases h2:k=65535
    ·by_cases h3:m=65535
     ·have h4:n≠65535:=fun h4=>ht ⟨h1,h2,h3,h4⟩
      rw[show (n != 65535)=true by simpa using h4];cases (j != 65535)<;>cases (k != 65535)<;>cases (m != 65535)<;>rfl
     ·rw[show (m != 65535)=true by simpa using h3]
      cases (j != 65535)<;>cases (k != 65535)<;>rfl
    ·rw[show (k != 65535)=true by simpa using h2]
     cases (j != 65535)<;>rfl
   ·rw[show (j != 65535)=true by simpa using h1]
    rfl
 ·rw[decide_eq_false hi] at hw hi8
  have hi9:=of_decide_eq_false hi8.symm;simp only[cond_false] at hw;by_cases ht:j=0/\k=0/\m=0/\n=0
  ·obtain ⟨rfl,rfl,rfl,rfl⟩:=ht
   simp only[bne_self_eq_false,cond_false] at hw;have htt:hor 0 0 0 0=0:=by decide
   rw[htt] at hs2;have hv:inR v=true:=by rw[yB]; omega
   refine za8 _ hl hv (hw.trans ?_);have e1:i64.wrap (hor i g f e)=hor i g f e:=by rw[ZD]; split<;>omega
   rw[e1];exact zff (by simp only[mk]; omega) (by simp only[mk]; omega)
  ·have hv:inR v=false:=by
    have:0<hor n m k j:=by unfold hor; omega
    rw[qK]; omega
   refine zcE _ hl hv (hw.trans ?_);by_cases h1:j=0
   ·by_cases h2:k=0
    ·by_cases h3:m=0
     ·have h4:n≠0:=fun h4=>ht ⟨h1,h2,h3,h4⟩
      rw[show (n != 0)=true by simpa using h4];cases (j != 0)<;>cases (k != 0)<;>cases (m != 0)<;>rfl
     ·rw[show (m != 0)=true by simpa using h3]
      cases (j != 0)<;>cases (k != 0)<;>rfl
    ·rw[show (k != 0)=true by simpa using h2]
     cases (j != 0)<;>rfl
   ·rw[show (j != 0)=true by simpa using h1]
    rfl
theorem WG {w:Int×Int} (h:wfW w):-170141183460469231731687303715884105728<=val w/\val w<170141183460469231731687303715884105728:=by
 have:=yB.1 (QG h); exact this
theorem Ql (hF:20<F) {a b:Int×Int} (ha:wfW a) (hb:wfW b):xy.sh F a b=some ((uA (val a+val b),ui (val a+val b),()),()):=by
 obtain ⟨la,da,ra⟩:=Xd F hF ha;obtain ⟨lb,db,rb⟩:=Xd F hF hb;obtain ⟨l,dl,rl⟩:=U0 F hF ra rb;have h1:=WG ha;have h2:=WG hb;unfold xy.sh;rw[da,db];simp only[zh];rw[dl];simp only[zh];rw[UX F hF rl (by omega) (by omega)];rfl
theorem zf7 (h:Rep l v) (h1:-3138550867693340381917894711603833208051177722232017256448<=v) (h2:v<3138550867693340381917894711603833208051177722232017256448):(l==List.replicate 12 0)=decide (v=0):=by
 obtain ⟨a,b,c,d,e,f,g,i,j,k,m,n,q,rfl,b1,b2,b3,b4,b5,b6,b7,b8,b9,b10,b11,b12,hs⟩:=h.open;by_cases hv:v=0
 ·subst hv
  rw[decide_eq_true rfl];have e:a=0/\b=0/\c=0/\d=0/\e=0/\f=0/\g=0/\i=0/\j=0/\k=0/\m=0/\n=0:=by
   have:q=0:=by omega
   subst this;omega
  obtain ⟨rfl,rfl,rfl,rfl,rfl,rfl,rfl,rfl,rfl,rfl,rfl,rfl⟩:=e;rfl
 ·rw[decide_eq_false hv]
  have:¬(a=0/\b=0/\c=0/\d=0/\e=0/\f=0/\g=0/\i=0/\j=0/\k=0/\m=0/\n=0):=by
   rintro ⟨rfl,rfl,rfl,rfl,rfl,rfl,rfl,rfl,rfl,rfl,rfl,rfl⟩
   omega
  rw[beq_eq_false_iff_ne];intro h;simp only[List.replicate,List.cons.injEq,and_true] at h;exact this h
theorem zcP (hF:20<F) {a b:Int×Int} (ha:wfW a) (hb:wfW b):yO.sh F a b=some ((qA (val a) (val b),()),()):=by
 obtain ⟨la,da,ra⟩:=Xd F hF ha;obtain ⟨lb,db,rb⟩:=Xd F hF hb;obtain ⟨lt,dt,rt⟩:=Wd F hF rb;obtain ⟨l,dl,rl⟩:=U0 F hF ra rt;have h1:=WG ha;have h2:=WG hb;unfold yO.sh;rw[da,db];simp only[zh];rw[dt];simp only[zh];rw[dl];simp only[zh];have e1:=rl.1;rw[zbp F rl (by omega) (by omega),e1,zf7 rl (by omega) (by omega)];simp only[zh];rcases Int.lt_trichotomy (val a) (val b) with h | h | h
 ·rw[VC h,decide_eq_true (show val a+-val b<0 by omega)]; rfl
 ·rw[Tc h,decide_eq_false (show ¬(val a+-val b<0) by omega),decide_eq_true (show val a+-val b=0 by omega)]; rfl
 ·rw[VE h,decide_eq_false (show ¬(val a+-val b<0) by omega),decide_eq_false (show ¬val a+-val b=0 by omega)]; rfl
theorem abs_raw (f:Nat) (k0:Int->Int->Option zV.sg.R) (a b c d e f' g i j k m n:Int):zV.j4 (f+20) k0 [a,b,c,d,e,f',g,i,j,k,m,n] =
  k0 (u64.wrap (u64.wrap (u64.wrap (u64.wrap (u64.wrap (u64.wrap (u64.wrap (u64.wrap (0*65536)+i)*65536)+g)*65536)+f')*65536)+e)) (u64.wrap (u64.wrap (u64.wrap (u64.wrap (u64.wrap (u64.wrap (u64.wrap (u64.wrap (0*65536)+d)*65536)+c)*65536)+b)*65536)+a)):=by kernel_rfl
theorem zgF (hF:20<F) (h:Rep l v) (h1:0<=v) (h2:v<340282366920938463463374607431768211456) (k0:Int->Int->Option zV.sg.R) :
  zV.j4 F k0 l=k0 (v/18446744073709551616) (v%18446744073709551616):=by
 obtain ⟨fu,rfl⟩:∃f,F=f+20:=⟨F-20,by omega⟩;obtain ⟨a,b,c,d,e,f,g,i,j,k,m,n,q,rfl,b1,b2,b3,b4,b5,b6,b7,b8,b9,b10,b11,b12,hs⟩:=h.open;rw[abs_raw,Ue b1 b2 b3 b4,Ue b5 b6 b7 b8];have hb1:=XV b1 b2 b3 b4;have hb2:=XV b5 b6 b7 b8;have hs2:hor d c b a+18446744073709551616*hor i g f e+340282366920938463463374607431768211456*(hor n m k j)=v+6277101735386680763835789423207666416102355444464034512896*q:=by unfold hor; omega
 have htop:=XV b9 b10 b11 b12;have hq:hor n m k j=0/\q=0:=by omega
 rw[hq.1,hq.2] at hs2;congr 1<;>omega
theorem Wg (hF:20<F) {a:Int×Int} (ha:wfW a):zV.sh F a=some ((((val a).natAbs:Int)/18446744073709551616,((val a).natAbs:Int)%18446744073709551616,()),()):=by
 obtain ⟨la,da,ra⟩:=Xd F hF ha;obtain ⟨lt,dt,rt⟩:=Wd F hF ra;have h1:=WG ha;unfold zV.sh;rw[da];simp only[zh];rw[zbp F ra (by omega) (by omega),dt,ra.1];simp only[zh];rw[rt.1];by_cases hn:val a<0
 ·rw[decide_eq_true hn,show ((val a).natAbs:Int)=- val a by omega]
  exact zgF F hF rt (by omega) (by omega) (fun r25 r35=>some ((r25,r35,()),()))
 ·rw[decide_eq_false hn,show ((val a).natAbs:Int)=val a by omega]
  exact zgF F hF ra (by omega) (by omega) (fun r25 r35=>some ((r25,r35,()),()))
theorem zfO (f:Nat) (k0:Bool->zd.T->List Int->Option R) (below:Bool) (a b:Int):yg.l3 (f+20) (fun bl _ _ _ _ r l=>k0 bl r l) (f+20) below a b 0 (0,0) (List.replicate 12 0) =
  k0 below (0,0) [(b.fdiv 1).tmod 65536,(b.fdiv 65536).tmod 65536,(b.fdiv 4294967296).tmod 65536,(b.fdiv 281474976710656).tmod 65536,(a.fdiv 1).tmod 65536,(a.fdiv 65536).tmod 65536,(a.fdiv 4294967296).tmod 65536,(a.fdiv 281474976710656).tmod 65536,0,0,0,0]:=by kernel_rfl
theorem Tu (hF:20<F) {b:Bool} (h1:0<=hi) (h2:hi<18446744073709551616) (h3:0<=lo) (h4:lo<18446744073709551616) (hv:v=bif b then -(hi*18446744073709551616+lo) else hi*18446744073709551616+lo) :
  yg.sh F b hi lo=some ((uA v,ui v,()),()):=by
 obtain ⟨fu,rfl⟩:∃f,F=f+20:=⟨F-20,by omega⟩;have hu:=four h3 h4;have hw:=four h1 h2;have e:=zfO fu (fun bl r l=>bif bl then bif Nat.beq 12 l.length then oB (zR.sh (fu+20) l) fun c_2 =>
   bif (Nat.beq c_2.1.1.length l.length&&Nat.beq 12 l.length) then bif Nat.beq 12 c_2.1.1.length then oB (yM.sh (fu+20) c_2.1.1) fun c_3 =>
     (some ((c_3.1.1,c_3.1.2.1,()),()):Option yg.sg.R)
    else none
   else none
  else none
 else bif Nat.beq 12 l.length then oB (yM.sh (fu+20) l) fun c_4 =>
  some ((c_4.1.1,c_4.1.2.1,()),())
 else none) b hi lo
 rw[hu.1,hu.2.1,hu.2.2.1,hu.2.2.2,hw.1,hw.2.1,hw.2.2.1,hw.2.2.2] at e;have hr:Rep [lo%65536,lo/65536%65536,lo/4294967296%65536,lo/281474976710656%65536,hi%65536,hi/65536%65536,hi/4294967296%65536,hi/281474976710656%65536,0,0,0,0] (hi*18446744073709551616+lo) :=
  Rep.of12 (q:=0) (by omega) (by omega) (by omega) (by omega) (by omega) (by omega) (by omega) (by omega) (by omega) (by omega) (by omega) (by omega) (by simp only[lv]; omega)
 generalize ([lo%65536,lo/65536%65536,lo/4294967296%65536,lo/281474976710656%65536,hi%65536,hi/65536%65536,hi/4294967296%65536,hi/281474976710656%65536,0,0,0,0]:List Int)=l at*;obtain ⟨lt,dt,rt⟩:=Wd (fu+20) hF hr;unfold yg.sh;refine Eq.trans e ?_;simp only[dt,hr.1,rt.1,zh];cases b with
 | true =>
  simp only[cond_true] at hv ⊢;rw[hv,UX _ hF rt (by omega) (by omega)];rfl
 | false =>
  simp only[cond_false] at hv ⊢;rw[hv,UX _ hF hr (by omega) (by omega)];rfl
theorem uW (h1:-9223372036854775808<=v) (h2:v<9223372036854775808):yf.sh F v=some ((mk v,()),()):=by
 unfold yf.sh;rw[wX];by_cases h:v<0
 ·rw[decide_eq_true h,show mk v=(-1,v%18446744073709551616) by simp only[mk]; exact zcR (by omega) rfl]; rfl
 ·rw[decide_eq_false h,show mk v=(0,v%18446744073709551616) by simp only[mk]; exact zcR (by omega) rfl]; rfl
theorem zbX:∀(a b:List Int),lv (a++b)=lv a+65536^a.length*lv b
 | [],b=>by simp[lv]
 | x::r,b=>by
  simp only[cons_append,lv,zbX r b,length_cons,Int.pow_succ];rw[Int.mul_comm (65536^r.length) 65536,Int.mul_assoc,Int.mul_add];omega
theorem zb7 (f:Nat) (a b:Int):yn.sh (f+20) a b =
  some (([(b.fdiv 1).tmod 65536,(b.fdiv 65536).tmod 65536,(b.fdiv 4294967296).tmod 65536,(b.fdiv 281474976710656).tmod 65536,(a.fdiv 1).tmod 65536,(a.fdiv 65536).tmod 65536,(a.fdiv 4294967296).tmod 65536,(a.fdiv 281474976710656).tmod 65536],()),()):=by kernel_rfl
theorem Sq (hF:20<F) (h1:0<=hi) (h2:hi<18446744073709551616) (h3:0<=lo) (h4:lo<18446744073709551616):∃l,yn.sh F hi lo=some ((l,()),())/\l.length=8/\DG l/\lv l=hi*18446744073709551616+lo:=by
 obtain ⟨fu,rfl⟩:∃f,F=f+20:=⟨F-20,by omega⟩;have hu:=four h3 h4;have hw:=four h1 h2;rw[zb7,hu.1,hu.2.1,hu.2.2.1,hu.2.2.2,hw.1,hw.2.1,hw.2.2.1,hw.2.2.2];exact ⟨_,rfl,rfl,DG.mk (by omega) (DG.mk (by omega) (DG.mk (by omega) (DG.mk (by omega) (DG.mk (by omega) (DG.mk (by omega) (DG.mk (by omega) (DG.mk (by omega) DG.nil))))))),by simp only[lv]; omega⟩
def Zk (x:Int):Int->List Int->List Int->List Int×Int
 | c,p::ps,y::ys=>(((c+p+x*y)%65536)::(Zk x ((c+p+x*y)/65536) ps ys).1,(Zk x ((c+p+x*y)/65536) ps ys).2)
 | c,_,_=>([],c)
theorem zdi (hx:0<=x/\x<65536) (hy:0<=y/\y<65536):0<=x*y/\x*y<=4294836225:=by
 have:=qV hx.1 (show x<=65535 by omega) hy.1 (show y<=65535 by omega);omega
theorem zcW {x:Int} (hx:0<=x/\x<65536):∀(ps ys:List Int) (c:Int),ps.length=ys.length->DG ps->DG ys->0<=c->c<65536->
  (Zk x c ps ys).1.length=ps.length/\DG (Zk x c ps ys).1/\0<=(Zk x c ps ys).2/\(Zk x c ps ys).2<65536/\lv (Zk x c ps ys).1+65536^ps.length*(Zk x c ps ys).2=c+lv ps+x*lv ys
 | [],[],c,h,_,_,h1,h2=>⟨rfl,DG.nil,h1,h2,by simp[Zk,lv]⟩
 | [],_::_,_,h,_,_,_,_=>by simp at h
 | _::_,[],_,h,_,_,_,_=>by simp at h
 | p::ps,y::ys,c,h,hp,hy,h1,h2=>by
  have ⟨hp0,hp⟩:=hp.cons;have ⟨hy0,hy⟩:=hy.cons;have hm:=zdi hx hy0;obtain ⟨i1,i2,i3,i4,i5⟩:=zcW hx ps ys ((c+p+x*y)/65536) (by simpa using h) hp hy (by omega) (by omega);simp only[Zk,length_cons,lv,Int.pow_succ];refine ⟨by omega,DG.mk (by omega) i2,i3,i4,?_⟩;have e1:(65536:Int)^ps.length*65536*(Zk x ((c+p+x*y)/65536) ps ys).2=65536*(65536^ps.length*(Zk x ((c+p+x*y)/65536) ps ys).2):=by
   rw[Int.mul_comm (65536^ps.length) 65536,Int.mul_assoc]
  have e2:x*(y+65536*lv ys)=x*y+65536*(x*lv ys):=by rw[Int.mul_add,<-Int.mul_assoc,Int.mul_comm x 65536,Int.mul_assoc]
  rw[e1,e2];generalize (65536:Int)^ps.length*(Zk x ((c+p+x*y)/65536) ps ys).2=A at*;generalize x*lv ys=B at*;generalize x*y=C at*;omega
theorem mul_l9 (k:Int->Int->zd.T->zd.T->zd.T->List Int->List Int->List Int->Option R) (a b r4:zd.T) (X Y:List Int) (i:Nat) (x:Int) (hX:X.length=8) (hi:i<8) (hxi:X.getD i 0=x) (hx:0<=x/\x<65536) (hY:Y.length=8) :
  ∀(ys ps pre rest:List Int) (c:Int) (j fu:Nat),pre.length=i+j->j+ys.length=8->ps.length=ys.length->(pre++ps++rest).length=17->Y.drop j=ys->DG ps->DG ys->0<=c->c<65536->ys.length<fu->
  zl.l9 F (fun i c _ _ a b r x y p=>k i c a b r x y p) fu (i:Int) c (j:Int) a b r4 X Y (pre++ps++rest)=k (i:Int) (Zk x c ps ys).2 a b r4 X Y (pre++(Zk x c ps ys).1++rest):=by
 intro ys;induction ys with
 | nil =>
  intro ps pre rest c j fu hp hj hps hl hd _ _ _ _ hf;obtain ⟨fu,rfl⟩:∃j,fu=j+1:=⟨fu-1,by simp at hf; omega⟩;simp only[length_nil,Nat.add_zero] at hj hps;obtain rfl:=eq_nil_of_length_eq_zero hps;simp only[zl.l9,zl.l9.y,decide_eq_false (show ¬((j:Int)<8) by omega),cond_false,Zk]
 | cons y ys ih =>
  intro ps pre rest c j fu hp hj hps hl hd hdp hdy c1 c2 hf;obtain ⟨fu,rfl⟩:∃j,fu=j+1:=⟨fu-1,by simp at hf; omega⟩;simp only[length_cons] at hj hps hf;cases ps with
  | nil=>simp at hps
  | cons p ps =>
   simp only[length_cons] at hps;have ⟨hp0,hdp⟩:=hdp.cons;have ⟨hy0,hdy⟩:=hdy.cons;have hm:=zdi hx hy0;have hL:pre++p::ps++rest=pre++p::(ps++rest):=by simp
   rw[hL] at hl ⊢;have ew:i64.wrap ((i:Int)+(j:Int))=((i+j:Nat):Int):=by rw[yz (by omega) (by omega)]; omega
   have e1:=Y5 (show i+j<17 by simp at hl; omega) hl;have e2:=Y5 (show i<8 by omega) hX;have e3:=Y5 (show j<8 by omega) hY;have e4:(pre++p::(ps++rest)).getD (Int.toNat ((i+j:Nat):Int)) 0=p:=T5 (by rw[Int.toNat_natCast]; exact hp);have e5:X.getD (Int.toNat (i:Int)) 0=x:=by rw[Int.toNat_natCast]; exact hxi
   have e6:Y.getD (Int.toNat (j:Int)) 0=y:=by rw[Int.toNat_natCast]; exact Ug hd
   have e7:∀z,(pre++p::(ps++rest)).set (Int.toNat ((i+j:Nat):Int)) z=(pre++[z])++(ps++rest):=fun z=>UZ (by rw[Int.toNat_natCast]; exact hp)
   simp only[zl.l9,zl.l9.y,decide_eq_true (show ((j:Int)<8) by omega),cond_true,ew,e1,e2,e3,e4,e5,e6,e7];rw[xP (n:=c+p) (by omega) (by omega),xP (n:=x*y) (by omega) (by omega),xP (n:=c+p+x*y) (by omega) (by omega),Int.tdiv_eq_ediv_of_nonneg (by omega),Int.tmod_eq_emod_of_nonneg (by omega),xP (n:=(c+p+x*y)/65536) (by omega) (by omega),yz (by omega) (by omega),<-wd,<-append_assoc];rw[ih ps (pre++[(c+p+x*y)%65536]) rest ((c+p+x*y)/65536) (j+1) fu (by simp; omega) (by omega) (by omega) (by simp at hl ⊢; omega) (wz hd) hdp hdy (by omega) (by omega) (by omega)];simp[Zk]
theorem mul_l5 (hF:20<F) (k:zd.T->zd.T->zd.T->List Int->Option R) (a b r4:zd.T) (X Y:List Int) (hX:X.length=8) (hY:Y.length=8) (dY:DG Y) :
  ∀(xs q pre:List Int) (i fu:Nat),pre.length=i->i+xs.length=8->q.length=8->X.drop i=xs->DG xs->DG q->DG pre->xs.length<fu->
  ∃s,zl.l5 F (fun _ _ a b r _ _ p=>k a b r p) fu (i:Int) a b r4 X Y (pre++q++List.replicate (xs.length+1) 0)=k a b r4 (pre++s)/\DG s/\(pre++s).length=17/\lv s=lv q+lv xs*lv Y:=by
 intro xs;induction xs with
 | nil =>
  intro q pre i fu hp hi hq hd _ hdq hdp hf;obtain ⟨fu,rfl⟩:∃j,fu=j+1:=⟨fu-1,by simp at hf; omega⟩;simp only[length_nil,Nat.add_zero] at hi;refine ⟨q++[0],?_,?_,by simp; omega,?_⟩
  ·simp only[zl.l5,zl.l5.y,decide_eq_false (show ¬((i:Int)<8) by omega),cond_false]
   simp
  ·intro d hd'
   rcases mem_append.1 hd' with h | h
   ·exact hdq d h
   ·rw[mem_singleton.1 h]; decide
  ·rw[zbX]; simp[lv]
 | cons x xs ih =>
  intro q pre i fu hp hi hq hd hdx hdq hdp hf;obtain ⟨fu,rfl⟩:∃j,fu=j+1:=⟨fu-1,by simp at hf; omega⟩;simp only[length_cons] at hi hf;have ⟨hx0,hdx⟩:=hdx.cons;have hl:(pre++q++List.replicate (xs.length+1+1) 0).length=17:=by simp; omega
  have h9:=mul_l9 F (fun i5 c5 a5 b5 r45 x5 y5 p5=>bif (idx (i64.wrap (i5+8)) 17&&Nat.beq 17 p5.length) then zl.l5 F (fun _ _ a b r _ _ p=>k a b r p) fu (i64.wrap (i5+1)) a5 b5 r45 x5 y5 (p5.set ((i64.wrap (i5+8)).toNat) c5)
   else none) a b r4 X Y i x hX (by omega) (Ug hd) hx0 hY Y q pre (List.replicate (xs.length+1+1) 0) 0 0 F (by omega) (by omega) (by omega) hl (by simp) hdq dY (by omega) (by omega) (by omega)
  obtain ⟨m1,m2,m3,m4,m5⟩:=zcW hx0 q Y 0 (by omega) hdq dY (by omega) (by omega);rw[hq] at m1 m5;have ew:i64.wrap ((i:Int)+8)=((i+8:Nat):Int):=by rw[yz (by omega) (by omega)]; omega
  have hl2:(pre++(Zk x 0 q Y).1++List.replicate (xs.length+1+1) 0).length=17:=by simp; omega
  have e1:=Y5 (show i+8<17 by omega) hl2;have e2:(pre++(Zk x 0 q Y).1++List.replicate (xs.length+1+1) 0).set (Int.toNat ((i+8:Nat):Int)) (Zk x 0 q Y).2=(pre++(Zk x 0 q Y).1++[(Zk x 0 q Y).2])++List.replicate (xs.length+1) 0:=by
   rw[List.replicate_succ];exact UZ (by rw[Int.toNat_natCast]; simp; omega)
  simp only[zl.l5,zl.l5.y,decide_eq_true (show ((i:Int)<8) by omega),cond_true,length_cons];rw[show ((0:Nat):Int)=0 from rfl] at h9;rw[h9];simp only[ew,e1,e2,cond_true];rw[yz (by omega) (by omega),<-wd];cases hm:(Zk x 0 q Y).1 with
  | nil=>rw[hm] at m1; simp at m1
  | cons q0 q' =>
   rw[hm] at m1 m2 m5;have ⟨hq0,dq'⟩:=m2.cons;simp only[length_cons] at m1;obtain ⟨s,s1,s2,s3,s4⟩:=ih (q'++[(Zk x 0 q Y).2]) (pre++[q0]) (i+1) fu (by simp; omega) (by omega) (by simp; omega) (wz hd) hdx (by
    intro d hd';rcases mem_append.1 hd' with h | h
    ·exact dq' d h
    ·rw[mem_singleton.1 h]; exact ⟨m3,m4⟩) (by
    intro d hd';rcases mem_append.1 hd' with h | h
    ·exact hdp d h
    ·rw[mem_singleton.1 h]; exact hq0) (by omega)
   refine ⟨q0::s,?_,DG.mk hq0 s2,by simp at s3 ⊢; omega,?_⟩
   ·have:pre++q0::q'++[(Zk x 0 q Y).2]++List.replicate (xs.length+1) 0=pre++[q0]++(q'++[(Zk x 0 q Y).2])++List.replicate (xs.length+1) 0:=by simp
    rw[this,s1];simp
   ·rw[zbX] at s4
    simp only[lv] at m5 s4 ⊢;rw[s4,Int.add_mul,Int.mul_assoc];have hq':q'.length=7:=by omega
    rw[hq'] at*;have p7:(65536:Int)^7=5192296858534827628530496329220096:=by decide
    have p8:(65536:Int)^8=340282366920938463463374607431768211456:=by decide
    rw[p7];rw[p8] at m5;generalize lv xs*lv Y=A at*;generalize x*lv Y=B at*;omega
theorem len17 (h:l.length=17):∃a b c d e f g i j k m n o p q r s,l=[a,b,c,d,e,f,g,i,j,k,m,n,o,p,q,r,s]:=by
 match l,h with
 | [a,b,c,d,e,f,g,i,j,k,m,n,o,p,q,r,s],_=>exact ⟨a,b,c,d,e,f,g,i,j,k,m,n,o,p,q,r,s,rfl⟩
theorem l16_raw (f:Nat) (k0:Int->zd.T->Option R) (k1:zd.T->zd.T->zd.T->List Int->Option R) (A B C:zd.T) (a b c d e f' g i j k m n o p q r s:Int):zl.l16 (f+20) k0 (fun _ _ a b r p=>k1 a b r p) (f+20) 8 A B C [a,b,c,d,e,f',g,i,j,k,m,n,o,p,q,r,s] =
  bif (j != 0) then k0 10 (0,0) else bif (k != 0) then k0 10 (0,0) else bif (m != 0) then k0 10 (0,0) else bif (n != 0) then k0 10 (0,0) else bif (o != 0) then k0 10 (0,0) else bif (p != 0) then k0 10 (0,0) else bif (q != 0) then k0 10 (0,0) else bif (r != 0) then k0 10 (0,0) else bif (s != 0) then k0 10 (0,0) else
   k1 A B C [a,b,c,d,e,f',g,i,j,k,m,n,o,p,q,r,s]:=by kernel_rfl
theorem l23_raw (f:Nat) (k1:Int->Int->zd.T->zd.T->zd.T->Option R) (A B C:zd.T) (a b c d e f' g i j k m n o p q r s:Int):zl.l23 (f+20) (fun hi lo _ _ a b r _=>k1 hi lo a b r) (f+20) 0 0 3 A B C [a,b,c,d,e,f',g,i,j,k,m,n,o,p,q,r,s] =
  k1 (u64.wrap (u64.wrap (u64.wrap (u64.wrap (u64.wrap (u64.wrap (u64.wrap (u64.wrap (0*65536)+i)*65536)+g)*65536)+f')*65536)+e)) (u64.wrap (u64.wrap (u64.wrap (u64.wrap (u64.wrap (u64.wrap (u64.wrap (u64.wrap (0*65536)+d)*65536)+c)*65536)+b)*65536)+a)) A B C:=by kernel_rfl
theorem Qh (hF:20<F) {a b:Int×Int} (ha:wfW a) (hb:wfW b):zl.sh F a b=some ((uA (val a*val b),ui (val a*val b),()),()):=by
 have pa:=Zy ha;have pb:=Zy hb;obtain ⟨X,eX,lX,dX,vX⟩:=Sq F hF (hi:=((val a).natAbs:Int)/18446744073709551616) (lo:=((val a).natAbs:Int)%18446744073709551616) (by omega) (by omega) (by omega) (by omega);obtain ⟨Y,eY,lY,dY,vY⟩:=Sq F hF (hi:=((val b).natAbs:Int)/18446744073709551616) (lo:=((val b).natAbs:Int)%18446744073709551616) (by omega) (by omega) (by omega) (by omega);rw[show ((val a).natAbs:Int)/18446744073709551616*18446744073709551616+((val a).natAbs:Int)%18446744073709551616=((val a).natAbs:Int) by omega] at vX;rw[show ((val b).natAbs:Int)/18446744073709551616*18446744073709551616+((val b).natAbs:Int)%18446744073709551616=((val b).natAbs:Int) by omega] at vY;unfold zl.sh;rw[Wg F hF ha];simp only[zh];rw[eX];simp only[zh];rw[Wg F hF hb];simp only[zh];rw[eY];simp only[zh];rw[lX,lY];simp only[length_replicate,Nat.beq_refl,Bool.and_true,cond_true];obtain ⟨s,s1,s2,s3,s4⟩:=mul_l5 F hF (fun a6 b6 r46 p6=>zl.l16 F (fun r57 r47=>(some ((r47,r57,()),()):Option zl.sg.R)) (fun i8 t628 a8 b8 r48 p8=>zl.l23 F (fun hi9 lo9 i9 t719 a9 b9 r49 p9=>oB (yg.sh F (!(decide (a9.1<0)==decide (b9.1<0))) hi9 lo9) fun c_10 =>
   some ((c_10.1.1,c_10.1.2.1,()),())) F 0 0 3 a8 b8 r48 p8) F 8 a6 b6 r46 p6) a b (0,0) X Y lX lY dY X (List.replicate 8 0) [] 0 F rfl (by omega) rfl (by simp) dX (by intro d hd; simp[List.replicate] at hd; omega) DG.nil (by omega)
 rw[lX] at s1;rw[show ([]:List Int)++List.replicate 8 0++List.replicate (8+1) 0=List.replicate 17 0 from rfl,show ((0:Nat):Int)=0 from rfl,nil_append] at s1;rw[s1];rw[nil_append] at s3;have hz:lv (List.replicate 8 0)=0:=by decide
 rw[hz,vX,vY,Int.zero_add] at s4;obtain ⟨fu,rfl⟩:∃f,F=f+20:=⟨F-20,by omega⟩;obtain ⟨A,B,C,D,E,G,H,I,J,K,M,N,O,P,Q,R',S,rfl⟩:=len17 s3;have b1:=s2 A (by simp);have b2:=s2 B (by simp);have b3:=s2 C (by simp);have b4:=s2 D (by simp);have b5:=s2 E (by simp);have b6:=s2 G (by simp);have b7:=s2 H (by simp);have b8:=s2 I (by simp);have b9:=s2 J (by simp);have b10:=s2 K (by simp);have b11:=s2 M (by simp);have b12:=s2 N (by simp);have b13:=s2 O (by simp);have b14:=s2 P (by simp);have b15:=s2 Q (by simp);have b16:=s2 R' (by simp);have b17:=s2 S (by simp);have hsign:=VW (x:=val a) (y:=val b) rfl rfl;have hb1:=XV b1 b2 b3 b4;have hb2:=XV b5 b6 b7 b8;obtain ⟨W,hW⟩:∃W,W=J+65536*(K+65536*(M+65536*(N+65536*(O+65536*(P+65536*(Q+65536*(R'+65536*S))))))):=⟨_,rfl⟩;have hs2:hor D C B A+18446744073709551616*hor I H G E+340282366920938463463374607431768211456*W=((val a).natAbs:Int)*((val b).natAbs:Int):=by
  rw[<-s4,hW];simp only[lv,hor];omega
 have l16:=l16_raw fu (fun r57 r47=>(some ((r47,r57,()),()):Option zl.sg.R)) (fun a8 b8 r48 p8=>zl.l23 (fu+20) (fun hi9 lo9 i9 t719 a9 b9 r49 p9=>oB (yg.sh (fu+20) (!(decide (a9.1<0)==decide (b9.1<0))) hi9 lo9) fun c_10 =>
   some ((c_10.1.1,c_10.1.2.1,()),())) (fu+20) 0 0 3 a8 b8 r48 p8) a b (0,0) A B C D E G H I J K M N O P Q R' S
 refine Eq.trans l16 ?_;have l23:=l23_raw fu (fun hi9 lo9 a9 b9 r49=>oB (yg.sh (fu+20) (!(decide (a9.1<0)==decide (b9.1<0))) hi9 lo9) fun c_10 =>
   (some ((c_10.1.1,c_10.1.2.1,()),()):Option zl.sg.R)) a b (0,0) A B C D E G H I J K M N O P Q R' S
 rw[Ue b1 b2 b3 b4,Ue b5 b6 b7 b8] at l23;rw[l23,tA ha,tA hb];by_cases ht:W=0
 ·have hz:J=0/\K=0/\M=0/\N=0/\O=0/\P=0/\Q=0/\R'=0/\S=0:=by omega
  obtain ⟨rfl,rfl,rfl,rfl,rfl,rfl,rfl,rfl,rfl⟩:=hz;simp only[bne_self_eq_false,cond_false];rw[ht] at hs2;rw[Tu (fu+20) hF (v:=val a*val b) hb2.1 hb2.2 hb1.1 hb1.2 (by
   rw[hsign];cases (!(decide (val a<0)==decide (val b<0)))<;>simp only[cond_true,cond_false]<;>omega)]
  rfl
 ·have hv:inR (val a*val b)=false:=by
   have hbig:340282366920938463463374607431768211456<=((val a).natAbs:Int)*((val b).natAbs:Int):=by omega
   rw[qK,hsign];cases (!(decide (val a<0)==decide (val b<0)))<;>simp only[cond_true,cond_false]<;>omega
  have hres:(some ((uA (val a*val b),ui (val a*val b),()),()):Option zl.sg.R)=some (((0,0),10,()),()):=by
   unfold uA ui; rw[hv]; rfl
  rw[hres];have hnz:¬(J=0/\K=0/\M=0/\N=0/\O=0/\P=0/\Q=0/\R'=0/\S=0):=by
   rintro ⟨rfl,rfl,rfl,rfl,rfl,rfl,rfl,rfl,rfl⟩
   exact ht (by omega)
  cases h1:(J != 0) with
  | true=>rfl
  | false =>
  cases h2:(K != 0) with
  | true=>rfl
  | false =>
  cases h3:(M != 0) with
  | true=>rfl
  | false =>
  cases h4:(N != 0) with
  | true=>rfl
  | false =>
  cases h5:(O != 0) with
  | true=>rfl
  | false =>
  cases h6:(P != 0) with
  | true=>rfl
  | false =>
  cases h7:(Q != 0) with
  | true=>rfl
  | false =>
  cases h8:(R' != 0) with
  | true=>rfl
  | false =>
  cases h9:(S != 0) with
  | true=>rfl
  | false =>
   exact absurd ⟨by simpa using h1,by simpa using h2,by simpa using h3,by simpa using h4,by simpa using h5,by simpa using h6,by simpa using h7,by simpa using h8,by simpa using h9⟩ hnz
theorem zdI (hF:20<F) (k:zd.T->Option R) (K:Nat) (hK:K<=9) (r2:zd.T):∀(m i fu:Nat),i+m=K->m<fu->
  yd.l7 F (fun _ _ _ _ p=>k p) fu (K:Int) (i:Int) r2 (mk (10000^i))=k (mk (10000^K)):=by
 intro m;induction m with
 | zero =>
  intro i fu hi hf;obtain ⟨fu,rfl⟩:∃j,fu=j+1:=⟨fu-1,by omega⟩;simp only[yd.l7,yd.l7.y,decide_eq_false (show ¬((i:Int)<(K:Int)) by omega),cond_false];rw[show i=K by omega]
 | succ m ih =>
  intro i fu hi hf;obtain ⟨fu,rfl⟩:∃j,fu=j+1:=⟨fu-1,by omega⟩;have hb:(0:Int)<=10000^i/\(10000:Int)^i*10000<=1000000000000000000000000000000000000:=by
   have:i=0\/i=1\/i=2\/i=3\/i=4\/i=5\/i=6\/i=7\/i=8:=by omega
   rcases this with rfl | rfl | rfl | rfl | rfl | rfl | rfl | rfl | rfl<;>decide
  simp only[yd.l7,yd.l7.y,decide_eq_true (show ((i:Int)<(K:Int)) by omega),cond_true];rw[uW F (v:=10000) (by omega) (by omega)];simp only[zh];rw[Qh F hF (wu (by rw[yB]; omega)) (wu (by rw[yB]; omega))];simp only[zh,xR];rw[(vH (v:=10000^i*10000) (by rw[yB]; omega)).1,yz (by omega) (by omega),<-wd,<-Int.pow_succ];exact ih (i+1) fu (by omega) (by omega)
theorem S7 (hF:20<F) (h1:0<=k) (h2:k<=9):yd.sh F k=some ((mk (10000^k.toNat),0,()),()):=by
 unfold yd.sh;rw[decide_eq_false (show ¬k<0 by omega),decide_eq_false (show ¬k>9 by omega),uW F (v:=1) (by omega) (by omega)];simp only[zh,cond_false];have:=zdI F hF (fun p4=>(some ((p4,0,()),()):Option yd.sg.R)) k.toNat (by omega) (0,0) k.toNat 0 F (by omega) (by omega);rw[show ((k.toNat:Nat):Int)=k by omega,show ((0:Nat):Int)=0 from rfl,Int.pow_zero] at this;exact this
theorem Tt (c:Int):xI.sh F c=some ((Xu c,()),()):=by
 unfold xI.sh Xu;cases decide (c>=97)<;>rfl
theorem zdQ (c:Int):xT.sh F c=some ((zco c,()),()):=by
 unfold xT.sh zco;cases decide (c>=48)<;>rfl
def YR:List (List UInt8):=[[112,108,97,110],[114,111,117,110,100],[98,121],[98,108,111,99,107,115],[109,105,110],[109,97,120],[111,118,101,114],[117,112,116,111],[103,114,97,100,117,97,116,101,100],[118,111,108,117,109,101],[111,102,102],[105,102],[102,108,111,111,114],[99,101,105,108],[122,101,114,111],[104,97,108,102],[101,118,101,110]]
def Uv:List (List UInt8)->List UInt8
 | []=>[32]
 | w::r=>32::(w++Uv r)
theorem zbx:∀ws:List (List UInt8),∃z,Uv ws=32::z
 | []=>⟨[],rfl⟩
 | w::r=>⟨w++Uv r,rfl⟩
theorem Yu (b:UInt8) (l sub:List UInt8):Lib.contains (b::l) sub=(sub.isPrefixOf (b::l)||Lib.contains l sub):=by
 have:=Lib.index_ge l sub;unfold Lib.contains;rw[Lib.index];cases h:sub.isPrefixOf (b::l) with
 | true=>rfl
 | false =>
  simp only[Bool.false_eq_true,if_false,Bool.false_or];by_cases h1:Lib.index l sub=-1
  ·rw[h1]; rfl
  ·rw[if_neg (by simpa using h1),decide_eq_true (by omega),decide_eq_true (by omega)]
theorem zas:∀(l w z:List UInt8),(∀c∈l,c≠32)->(∀c∈w,c≠32)->(l++[32]).isPrefixOf (w++32::z)=(l==w)
 | [],[],z,_,_=>rfl
 | [],c::w,z,_,h=>by
  have:=h c (by simp);simp[List.isPrefixOf,Ne.symm this]
 | a::l,[],z,h,_=>by
  have:=h a (by simp);simp[List.isPrefixOf,this]
 | a::l,c::w,z,h1,h2=>by
  have ih:=zas l w z (fun x hx=>h1 x (by simp[hx])) (fun x hx=>h2 x (by simp[hx]));simp only[cons_append,List.isPrefixOf,ih];rfl
theorem S4 (sub:List UInt8) (hs:∃z,sub=32::z) (t:List UInt8):∀w:List UInt8,(∀c∈w,c≠32)->Lib.contains (w++t) sub=Lib.contains t sub
 | [],_=>rfl
 | c::w,h=>by
  obtain ⟨z,rfl⟩:=hs;have hc:=h c (by simp);rw[cons_append,Yu,S4 (32::z) ⟨z,rfl⟩ t w (fun x hx=>h x (by simp[hx]))];have:List.isPrefixOf (32::z) (c::(w++t))=false:=by
   simp only[List.isPrefixOf];rw[show ((32:UInt8)==c)=false by simpa using (Ne.symm hc)];rfl
  rw[this,Bool.false_or]
theorem WE (l:List UInt8) (hl:l≠[]) (h:∀c∈l,c≠32):∀ws:List (List UInt8),(∀w∈ws,∀c∈w,c≠32)->Lib.contains (Uv ws) ([32]++l++[32])=ws.any (fun w=>w==l)
 | [],_=>by
  cases l with
  | nil=>exact absurd rfl hl
  | cons a r =>
   rw[Uv,Yu];have:Lib.contains [] ([32]++a::r++[32])=false:=by unfold Lib.contains; simp[Lib.index]
   rw[this];cases r<;>simp[List.isPrefixOf]
 | w::r,hw=>by
  have hww:=hw w (by simp);have ih:=WE l hl h r (fun x hx=>hw x (by simp[hx]));rw[Uv,Yu,S4 _ ⟨l++[32],by simp⟩ _ w hww,ih];obtain ⟨z,hz⟩:=zbx r;have hp:=zas l w z h hww;have:([32]++l++[32]).isPrefixOf (32::(w++Uv r))=(w==l):=by
   rw[hz];simp only[cons_append,nil_append,append_assoc,List.isPrefixOf];rw[hp];simp only[beq_self_eq_true,Bool.true_and];cases hlw:(l==w) with
   | true=>rw[beq_iff_eq] at hlw; rw[hlw]; simp
   | false =>
    rw[beq_eq_false_iff_ne] at hlw;exact (beq_eq_false_iff_ne.2 (Ne.symm hlw)).symm
  rw[this];rfl
theorem zbu:zeA=Uv YR:=by decide
theorem Q9:∀w∈YR,(!w.isEmpty&&w.all (fun c=>Xu (cI c)))=true/\∀c∈w,c≠32:=by decide
theorem let_ne {c:UInt8} (h:Xu (cI c)=true):c≠32:=by
 rintro rfl
 exact absurd h (by decide)
theorem zeB (l:List UInt8):Te l=YR.any (fun w=>w==l):=by
 unfold Te;cases he:(!l.isEmpty&&l.all (fun c=>Xu (cI c))) with
 | true =>
  have he2:=he;rw[Bool.and_eq_true] at he;have hl:l≠[]:=by intro h; rw[h] at he; exact absurd he.1 (by decide)
  have hc:∀c∈l,c≠32:=fun c hc=>let_ne (by have:=List.all_eq_true.1 he.2 c hc; exact this)
  rw[he.1,he.2,Bool.true_and,Bool.true_and,zbu];exact WE l hl hc YR (fun w hw=>(Q9 w hw).2)
 | false =>
  have h1:YR.any (fun w=>w==l)=false:=by
   rw[List.any_eq_false];intro w hw h;rw[beq_iff_eq] at h;subst h;rw[(Q9 w hw).1] at he;cases he
  rw[h1,<-Bool.and_assoc,he,Bool.false_and]
def YS:List ByteArray:=[(⟨#[112,108,97,110]⟩:ByteArray),(⟨#[114,111,117,110,100]⟩:ByteArray),(⟨#[98,121]⟩:ByteArray),(⟨#[98,108,111,99,107,115]⟩:ByteArray),(⟨#[109,105,110]⟩:ByteArray),(⟨#[109,97,120]⟩:ByteArray),(⟨#[111,118,101,114]⟩:ByteArray),(⟨#[117,112,116,111]⟩:ByteArray),(⟨#[103,114,97,100,117,97,116,101,100]⟩:ByteArray),(⟨#[118,111,108,117,109,101]⟩:ByteArray),(⟨#[111,102,102]⟩:ByteArray),(⟨#[105,102]⟩:ByteArray),(⟨#[102,108,111,111,114]⟩:ByteArray),(⟨#[99,101,105,108]⟩:ByteArray),(⟨#[122,101,114,111]⟩:ByteArray),(⟨#[104,97,108,102]⟩:ByteArray),(⟨#[101,118,101,110]⟩:ByteArray)]
theorem zag (F:Nat) {R:Type} (k0:Bool->Option R) (k1:Option R) (L:List ByteArray) (s:ByteArray):∀(xs:List ByteArray) (i:Int),zX.l3.rg F k0 (fun _ _ _ _=>k1) L xs i s=bif xs.any (fun w=>w.toList==s.toList) then k0 true else k1
 | [],i=>rfl
 | x::r,i=>by
  rw[zX.l3.rg,zag F k0 k1 L s r];simp only[any_cons];cases (x.toList==s.toList)<;>rfl
theorem zeY (hF:64<F) (s:ByteArray):zX.sh F s=some ((Te s.data.toList,()),()):=by
 unfold zX.sh;rw[show xY.sh F=some ((YS,()),()) from rfl];simp only[zh];have e1:=fun k0 k1=>zX.l3.rq (R:=zX.sg.R) F k0 k1 YS (by decide) YS 0 F s (by simp) (by have:YS.length=17:=rfl; omega)
 rw[show ((0:Nat):Int)=0 from rfl] at e1;rw[e1,zag F (fun r22=>(some ((r22,()),()):Option zX.sg.R)) (some ((false,()),())) YS s YS 0,zeB];have:YS.any (fun w=>w.toList==s.toList)=YR.any (fun w=>w==s.data.toList):=by
  have h1:YS.map (fun w=>w.toList)=YR:=by
   unfold YS YR;simp only[map_cons,map_nil,Lib.toList_data]
  rw[Lib.toList_data s,<-h1,List.any_map];rfl
 rw[this];cases YR.any (fun w=>w==s.data.toList)<;>rfl
theorem zf2 (k0:Bool->Option R) (k1:Option R) (s:ByteArray) (hs:s.size<=32):∀(xs:List UInt8) (i fu:Nat),s.data.toList.drop i=xs->xs.length<fu->
  yq.l4 F k0 (fun _ _ _=>k1) fu s (i:Int)=bif xs.all (fun c=>UT (cI c)) then k1 else k0 false:=by
 intro xs;induction xs with
 | nil =>
  intro i fu h hf;obtain ⟨fu,rfl⟩:∃j,fu=j+1:=⟨fu-1,by simp at hf; omega⟩;have hn:s.size<=i:=by rw[uD]; simpa using h
  simp only[yq.l4,yq.l4.y,decide_eq_false (show ¬((i:Int)<(s.size:Int)) by omega),cond_false,List.all_nil,cond_true]
 | cons c xs ih =>
  intro i fu h hf;obtain ⟨fu,rfl⟩:∃j,fu=j+1:=⟨fu-1,by simp at hf; omega⟩;have hn:i<s.size:=by rw[uD]; exact vc h
  have ih:=ih (i+1) fu (wz h) (by simp at hf; omega);rw[wd] at ih;simp only[yq.l4,yq.l4.y,decide_eq_true (show ((i:Int)<(s.size:Int)) by omega),cond_true,xS hn,zdq h,yz (n:=(i:Int)+1) (by omega) (by omega),ih];rw[Tt,zdQ];simp only[zh,all_cons,UT];cases Xu (cI c) with
  | true=>rfl
  | false =>
   cases zco (cI c) with
   | true=>rfl
   | false =>
    simp only[Bool.not_false,cond_true,Bool.false_or];cases hc:(cI c==95) with
    | true=>rw[show (cI c != 95)=false by simp only[bne,hc,Bool.not_true]]; rfl
    | false=>rw[show (cI c != 95)=true by simp only[bne,hc,Bool.not_false]]; rfl
theorem zan (hF:64<F) (s:ByteArray):yq.sh F s=some ((YG s.data.toList,()),()):=by
 have hsz:=uD s;unfold yq.sh;cases hd:s.data.toList with
 | nil =>
  rw[hd] at hsz;simp only[length_nil] at hsz;rw[hsz];rfl
 | cons c r =>
  rw[hd] at hsz;simp only[length_cons] at hsz;rw[decide_eq_false (show ¬((s.size:Int)<1) by omega)];simp only[cond_false];unfold YG;by_cases h32:r.length+1<=32
  ·rw[decide_eq_false (show ¬((s.size:Int)>32) by omega),Zq (n:=s.size) (by omega)]
   have hb:=zdq (s:=s) (n:=0) (c:=c) (r:=r) (by rw[hd]; rfl);rw[show ((0:Nat):Int)=0 from rfl] at hb;rw[hb,Tt,zeY F hF];simp only[zh,cond_true,cond_false];have e:=zf2 F (fun r25=>(some ((r25,()),()):Option yq.sg.R)) (some ((true,()),())) s (by omega) r 1 F (by rw[hd]; rfl) (by omega);rw[show ((1:Nat):Int)=1 from rfl] at e;rw[e,hd];simp only[List.isEmpty_cons,Bool.not_false,Bool.true_and,length_cons,decide_eq_true h32,List.headD_cons,all_cons];cases hl:Xu (cI c) with
   | false=>rfl
   | true =>
    have:UT (cI c)=true:=by unfold UT; rw[hl]; rfl
    rw[this];simp only[Bool.not_true,cond_false,Bool.true_and];cases Te (c::r) with
    | true=>simp only[cond_true,Bool.not_true,Bool.and_false]
    | false =>
     simp only[cond_false,Bool.not_false,Bool.and_true];cases r.all (fun c=>UT (cI c))<;>rfl
  ·rw[decide_eq_true (show ((s.size:Int)>32) by omega)]
   simp only[cond_true,length_cons,decide_eq_false h32,Bool.false_and,Bool.and_false]
theorem zdO (k0:Int->Option R) (k1:Int->zO.T->Option R) (p:zO.T) (i:Nat) (d:xB.T) (hi:i<p.2.1.length) (hd:get xB p.2.1 i=d) (hl:p.2.1.length<=32):∀(xs:List xB.T) (j fu:Nat),(p.2.1.take i).drop j=xs->xs.length<fu->
  zM.l11 F k0 (fun i _ _ p=>k1 i p) fu (i:Int) (j:Int) p=bif xs.any (fun e=>ZU e.1 d.1) then k0 61 else k1 (i:Int) p:=by
 intro xs;induction xs with
 | nil =>
  intro j fu h hf;obtain ⟨fu,rfl⟩:∃j,fu=j+1:=⟨fu-1,by simp at hf; omega⟩;have hn:i<=j:=by
   have:=congrArg List.length h;simp at this; omega
  simp only[zM.l11,zM.l11.y,decide_eq_false (show ¬((j:Int)<(i:Int)) by omega),cond_false,List.any_nil]
 | cons e xs ih =>
  intro j fu h hf;obtain ⟨fu,rfl⟩:∃j,fu=j+1:=⟨fu-1,by simp at hf; omega⟩;have hj:j<i:=by
   have:=vc h;simp at this; omega
  have he:get xB p.2.1 j=e:=by
   have h0:=congrArg (·[0]?) h
   simp[List.getElem?_take_of_lt hj] at h0;unfold get;rw[getD_eq_getElem?_getD,h0]; rfl
  have ih:=ih (j+1) fu (wz h) (by simp at hf; omega);rw[wd] at ih;simp only[zM.l11,zM.l11.y,decide_eq_true (show ((j:Int)<(i:Int)) by omega),cond_true,xS hi,xS (show j<p.2.1.length by omega),Int.toNat_natCast,hd,he,yz (n:=(j:Int)+1) (by omega) (by omega),ih,any_cons];rw[show (e.1.toList==d.1.toList)=ZU e.1 d.1 from rfl];cases ZU e.1 d.1<;>rfl
theorem zf5 (hF:64<F) (k:Int->Option R) (k2:zO.T->Option R) (p:zO.T) (hL:p.2.1.length<=32):∀(xs:List xB.T) (i fu:Nat),p.2.1.drop i=xs->xs.length<fu->
  zM.l6 F k k k (fun _ _ p=>k2 p) fu (i:Int) p=bif dE (p.2.1.take i) xs != 0 then k (dE (p.2.1.take i) xs) else k2 p:=by
 intro xs;induction xs with
 | nil =>
  intro i fu h hf;obtain ⟨fu,rfl⟩:∃j,fu=j+1:=⟨fu-1,by simp at hf; omega⟩;have hn:p.2.1.length<=i:=by simpa using h
  simp only[zM.l6,zM.l6.y,decide_eq_false (show ¬((i:Int)<(p.2.1.length:Int)) by omega),cond_false,dE];rfl
 | cons d xs ih =>
  intro i fu h hf;obtain ⟨fu,rfl⟩:∃j,fu=j+1:=⟨fu-1,by simp at hf; omega⟩;have hi:=vc h;have hg:=vv (t:=xB) h;rw[Int.toNat_natCast] at hg;have hdd:p.2.1[i]?=some d:=by have:=congrArg (·[0]?) h; simpa using this
  have htake:p.2.1.take (i+1)=p.2.1.take i++[d]:=by rw[List.take_add_one,hdd]; rfl
  have ih:=ih (i+1) fu (wz h) (by simp at hf; omega);rw[wd,htake] at ih;have e11:=zdO F k (fun i4 p4=>bif idx i4 p4.2.1.length then bif decide ((get xB p4.2.1 i4.toNat).2<1) then k 50
    else bif idx i4 p4.2.1.length then bif decide ((get xB p4.2.1 i4.toNat).2>1000000000000) then k 50
     else zM.l6 F k k k (fun _ _ p=>k2 p) fu (i64.wrap (i4+1)) p4
    else none
   else none) p i d hi hg hL (p.2.1.take i) 0 F (by simp) (by simp; omega)
  rw[show ((0:Nat):Int)=0 from rfl] at e11;simp only[zM.l6,zM.l6.y,decide_eq_true (show ((i:Int)<(p.2.1.length:Int)) by omega),cond_true,xS hi,Int.toNat_natCast,hg];rw[zan F hF];simp only[zh];rw[e11];simp only[xS hi,Int.toNat_natCast,hg,cond_true,yz (n:=(i:Int)+1) (by omega) (by omega),ih,dE];cases YG d.1.data.toList with
  | false=>rfl
  | true =>
   simp only[Bool.not_true,cond_false];cases (p.2.1.take i).any (fun e=>ZU e.1 d.1) with
   | true=>rfl
   | false =>
    simp only[cond_false];cases decide (dS d<1) with
    | true=>rfl
    | false =>
     cases decide (dS d>1000000000000) with
     | true=>rfl
     | false=>rfl
theorem zf6 (hF:64<F) (p:zO.T):zM.sh F p=some ((ZA p.1 p.2.1 p.2.2.1,()),()):=by
 unfold zM.sh ZA;rw[zan F hF];simp only[zh];cases hn:YG p.1.data.toList with
 | false=>rfl
 | true =>
  simp only[Bool.not_true,cond_false];by_cases h1:p.2.1.length<1
  ·rw[decide_eq_true (show ((p.2.1.length:Int)<1) by omega),show ((p.2.1.length:Int)==0)=true by rw[beq_iff_eq]; omega]; rfl
  ·rw[decide_eq_false (show ¬((p.2.1.length:Int)<1) by omega),show ((p.2.1.length:Int)==0)=false by rw[beq_eq_false_iff_ne]; omega]
   cases h2:decide ((p.2.1.length:Int)>4) with
   | true=>rfl
   | false =>
    have h2:=of_decide_eq_false h2;simp only[cond_false];have e:=zf5 F hF (fun r=>(some ((r,()),()):Option zM.sg.R)) (fun p=>bif decide (p.2.2.1<0) then some ((50,()),()) else bif decide (p.2.2.1>4) then some ((50,()),()) else some ((0,()),())) p (by omega) p.2.1 0 F (by simp) (by omega);rw[show ((0:Nat):Int)=0 from rfl,List.take_zero] at e;rw[e];cases (dE [] p.2.1 != 0) with
    | true=>rfl
    | false =>
     cases decide (p.2.2.1<0) with
     | true=>rfl
     | false=>cases decide (p.2.2.1>4)<;>rfl
theorem VU (hg:tz n=true):zq.sh F n=some ((bif decide (aK n>=0) then aK n else nC n,()),()):=by
 unfold zq.sh;have h16:=ug hg;have ha:∀k:Int,nK n=k->aK n=(get wt uK k.toNat).1:=fun k h=>by unfold aK tI; rw[h]
 rcases h16 with h | h | h | h | h | h | h | h | h | h | h | h | h | h | h | h<;>rw[ha _ h,show n.1=_ from h]<;>rfl
theorem zbH (hg:tz n=false):zq.sh F n=some ((-1,()),()):=by
 have hk:∀k:Int,1<=k->k<=16->(nK n==k)=false:=fun k h1 h2=>by
  rw[beq_eq_false_iff_ne];intro h;rw[ZP.2 (by omega)] at hg;cases hg
 unfold zq.sh zq.j6 zq.j13 zq.j17;simp only[show (n.1==1)=false from hk 1 (by decide) (by decide),show (n.1==2)=false from hk 2 (by decide) (by decide),show (n.1==3)=false from hk 3 (by decide) (by decide),show (n.1==4)=false from hk 4 (by decide) (by decide),show (n.1==5)=false from hk 5 (by decide) (by decide),show (n.1==6)=false from hk 6 (by decide) (by decide),show (n.1==7)=false from hk 7 (by decide) (by decide),show (n.1==8)=false from hk 8 (by decide) (by decide),show (n.1==9)=false from hk 9 (by decide) (by decide),show (n.1==10)=false from hk 10 (by decide) (by decide),show (n.1==11)=false from hk 11 (by decide) (by decide),show (n.1==12)=false from hk 12 (by decide) (by decide),show (n.1==13)=false from hk 13 (by decide) (by decide),show (n.1==14)=false from hk 14 (by decide) (by decide),show (n.1==15)=false from hk 15 (by decide) (by decide),show (n.1==16)=false from hk 16 (by decide) (by decide),cond_false]
theorem ZK (hg:tz n=true) (hk:uV n=true):zq.sh F n=some (((ar n:Int),()),()):=by
 rw[VU F hg];have:(bif decide (aK n>=0) then aK n else nC n)=(ar n:Int):=by
  unfold ar;unfold uV at hk;by_cases ha:aK n>=0
  ·rw[decide_eq_true ha]; simp only[cond_true]; omega
  ·rw[decide_eq_true (show aK n<0 by omega)] at hk
   simp at hk;rw[decide_eq_false ha]; simp only[cond_false]; omega
 rw[this]
theorem zf3 (hg:tz n=true) (hd:dims<=32):yF.sh F n.1 (dims:Int)=some ((Yh n dims,()),()):=by
 have hw:i64.wrap ((dims:Int)-1)=(dims:Int)-1:=yz (by omega) (by omega);unfold yF.sh yF.j7;rw[hw];rcases ug hg with h | h | h | h | h | h | h | h | h | h | h | h | h | h | h | h<;>rw[uU h,show n.1=_ from h]<;>rfl
def Xb (n:za.T) (dims:Nat):Bool:=!decide (nN n<0)&&(!decide (nN n>Yh n dims)&&(opB n&&(uV n&&(ue n||(((nT n).length:Int)==0)))))
theorem zdj:decide (a<b)=!decide (a>=b):=by
 by_cases h:a<b
 ·rw[decide_eq_true h,decide_eq_false (by omega)]; rfl
 ·rw[decide_eq_false h,decide_eq_true (by omega)]; rfl
theorem zb9:decide (a>b)=!decide (a<=b):=by
 by_cases h:a>b
 ·rw[decide_eq_true h,decide_eq_false (by omega)]; rfl
 ·rw[decide_eq_false h,decide_eq_true (by omega)]; rfl
theorem rf13 (k:Bool->Option R) (hg:tz n=true):z7.j13 F k n=k (ue n||(((nT n).length:Int)==0)):=by
 unfold z7.j13 ue tI;rcases ug hg with h | h | h | h | h | h | h | h | h | h | h | h | h | h | h | h<;>rw[h,show n.1=_ from h]<;>rfl
theorem rf8 (k:Bool->Option R) (hg:tz n=true):z7.j8 F k k k n=k (uV n&&(ue n||(((nT n).length:Int)==0))):=by
 unfold z7.j8;rw[rf13 F k hg];rw[show decide (n.2.2.2.1<2)=!decide (nC n>=2) from zdj (a:=nC n) (b:=2),show decide (n.2.2.2.1>16)=!decide (nC n<=16) from zb9 (a:=nC n) (b:=16),show (n.2.2.2.1 != 0)=!(nC n==0) from rfl];rcases ug hg with h | h | h | h | h | h | h | h | h | h | h | h | h | h | h | h<;>rw[tC h,show n.1=_ from h] <;>
  first
  | (show (bif !(nC n==0) then k false else k (ue n||(((nT n).length:Int)==0)))=k ((nC n==0)&&(ue n||(((nT n).length:Int)==0))); cases (nC n==0)<;>rfl)
  | (show (bif !decide (nC n>=2) then k false else bif !decide (nC n<=16) then k false else k (ue n||(((nT n).length:Int)==0)))=k ((decide (nC n>=2)&&decide (nC n<=16))&&(ue n||(((nT n).length:Int)==0))); cases decide (nC n>=2)<;>cases decide (nC n<=16)<;>rfl)
theorem zbK (hg:tz n=true) (hd:dims<=32):z7.sh F n (dims:Int)=some ((Xb n dims,()),()):=by
 unfold z7.sh Xb;rw[zf3 F hg hd];simp only[zh];rw[rf8 F (fun r45=>(some ((r45,()),()):Option z7.sg.R)) hg];cases decide (nN n<0) with
 | true=>rfl
 | false =>
  cases decide (nN n>Yh n dims) with
  | true=>rfl
  | false =>
   simp only[cond_false,Bool.not_false,Bool.true_and];rw[show decide (n.2.2.1<1)=!decide (nO n>=1) from zdj (a:=nO n) (b:=1),show decide (n.2.2.1>6)=!decide (nO n<=6) from zb9 (a:=nO n) (b:=6),show (n.2.2.1 != 0)=!(nO n==0) from rfl];generalize (uV n&&(ue n||(((nT n).length:Int)==0)))=Z
   unfold opB tI;rcases ug hg with h | h | h | h | h | h | h | h | h | h | h | h | h | h | h | h<;>rw[h,show n.1=_ from h] <;>
    first
    | (show (bif !(nO n==0) then (some ((false,()),()):Option z7.sg.R) else some ((Z,()),()))=some (((nO n==0)&&Z,()),()); cases (nO n==0)<;>rfl)
    | (show (bif !decide (nO n>=1) then (some ((false,()),()):Option z7.sg.R) else bif !decide (nO n<=6) then some ((false,()),()) else some ((Z,()),()))=some (((decide (nO n>=1)&&decide (nO n<=6))&&Z,()),()); cases decide (nO n>=1)<;>cases decide (nO n<=6)<;>rfl)
theorem zdF (k:Bool->Option R) (k1:Option R) (l:List yp.T) (hl:l.length<=32):∀(xs:List yp.T) (i fu:Nat),l.drop i=xs->xs.length<fu->
  zQ.l4 F k k (fun _ _ _=>k1) fu l (i:Int)=bif qf l xs i then k1 else k false:=by
 intro xs;induction xs with
 | nil =>
  intro i fu h hf;obtain ⟨fu,rfl⟩:∃j,fu=j+1:=⟨fu-1,by simp at hf; omega⟩;have hn:l.length<=i:=by simpa using h
  simp only[zQ.l4,zQ.l4.y,decide_eq_false (show ¬((i:Int)<(l.length:Int)) by omega),cond_false,qf,cond_true]
 | cons x xs ih =>
  intro i fu h hf;obtain ⟨fu,rfl⟩:∃j,fu=j+1:=⟨fu-1,by simp at hf; omega⟩;have hi:=vc h;have hg:=vv (t:=yp) h;rw[Int.toNat_natCast] at hg;have ih:=ih (i+1) fu (wz h) (by simp at hf; omega);rw[wd] at ih;have hj8:zQ.j8 F (fun r=>k r) (fun l2 i2 _=>zQ.l4 F k k (fun _ _ _=>k1) fu l2 (i64.wrap (i2+1))) l (i:Int) =
    bif (!decide (tF x>1000000000000)&&(!decide (tR x < -1000000000000)&&!decide (tR x>1000000000000)))&&qf l xs (i+1) then k1 else k false:=by
   simp only[zQ.j8,xS hi,cond_true,Int.toNat_natCast,hg,yz (n:=(i:Int)+1) (by omega) (by omega),ih];cases decide (tF x>1000000000000)<;>cases decide (tR x < -1000000000000)<;>cases decide (tR x>1000000000000)<;>rfl
  simp only[zQ.l4,zQ.l4.y,decide_eq_true (show ((i:Int)<(l.length:Int)) by omega),cond_true,qf,Qu];by_cases h0:i=0
  ·subst h0
   rw[decide_eq_false (show ¬(((0:Nat):Int)>0) by omega)];simp only[cond_false,decide_true,Bool.true_or,Bool.true_and];exact hj8
  ·have e2:i64.wrap ((i:Int)-1)=((i-1:Nat):Int):=by rw[yz (by omega) (by omega)]; omega
   rw[decide_eq_true (show ((i:Int)>0) by omega),e2,xS (show i-1<l.length by omega),xS hi,decide_eq_false h0];simp only[cond_true,Int.toNat_natCast,hg,Bool.false_or];rw[show decide ((get yp l (i-1)).1>=x.1)=decide (tF x<=tF (l.getD (i-1) (0,0))) from rfl];cases decide (tF x<=tF (l.getD (i-1) (0,0))) with
   | true=>rfl
   | false =>
    simp only[cond_false,Bool.not_false,Bool.true_and];exact hj8
theorem zdG (hF:64<F) (l:List yp.T):zQ.sh F l=some ((Zg l,()),()):=by
 unfold zQ.sh Zg;by_cases h1:1<=l.length
 ·rw[show ((l.length:Int)==0)=false by rw[beq_eq_false_iff_ne]; omega,decide_eq_true h1]
  by_cases h2:l.length<=16
  ·rw[decide_eq_false (show ¬((l.length:Int)>16) by omega),decide_eq_true h2,Zq h1]
   simp only[cond_true,cond_false,Bool.true_and];rw[show ((get yp l 0).1 != 0)=!(tF (l.getD 0 (0,0))==0) from rfl];have e:=zdF F (fun r=>(some ((r,()),()):Option zQ.sg.R)) (some ((true,()),())) l (by omega) l 0 F (by simp) (by omega);rw[show ((0:Nat):Int)=0 from rfl] at e;rw[e];by_cases h3:tF (l.getD 0 (0,0))=0
   ·rw[show (tF (l.getD 0 (0,0))==0)=true by rw[beq_iff_eq]; exact h3,decide_eq_true h3]
    simp only[Bool.not_true,cond_false,Bool.true_and];cases qf l l 0<;>rfl
   ·rw[show (tF (l.getD 0 (0,0))==0)=false by rw[beq_eq_false_iff_ne]; exact h3,decide_eq_false h3]
    rfl
  ·rw[decide_eq_true (show ((l.length:Int)>16) by omega),decide_eq_false h2]
   rfl
 ·rw[show ((l.length:Int)==0)=true by rw[beq_iff_eq]; omega,decide_eq_false h1]
  rfl
theorem zbw (hg:tz n=true):ue n=((nK n==13)||(nK n==14)):=by
 unfold ue tI;rcases ug hg with h | h | h | h | h | h | h | h | h | h | h | h | h | h | h | h<;>rw[h]<;>rfl
theorem Qy (hg:tz n=true) (dims pile:Nat):vA dims n pile=bif !Xb n dims then 50 else bif decide ((pile:Int)<(ar n:Int)) then 50 else bif ue n&&!Zg (nT n) then 51 else 0:=by
 unfold vA Xb;rw[hg];have hl:(((nT n).length:Int)==0)=!decide (((nT n).length:Int)>0):=by
  by_cases h:((nT n).length:Int)>0
  ·rw[decide_eq_true h,show (((nT n).length:Int)==0)=false by rw[beq_eq_false_iff_ne]; omega]; rfl
  ·rw[decide_eq_false h,show (((nT n).length:Int)==0)=true by rw[beq_iff_eq]; omega]; rfl
 rw[hl];cases decide (nN n<0)<;>cases decide (nN n>Yh n dims)<;>cases uV n<;>cases opB n<;>cases ue n<;>cases decide (((nT n).length:Int)>0)<;>rfl
theorem zaV (h:Xb n dims=true):uV n=true:=by
 unfold Xb at h;simp only[Bool.and_eq_true] at h;exact h.2.2.2.1
theorem zdS (hF:64<F) (k0:Int->Int->Option R) (k1:Int->zO.T->Option R) (p:zO.T) (hp:p.2.1.length<=32) (hL:p.2.2.2.length<=2048):∀(xs:List za.T) (i pile fu:Nat),p.2.2.2.drop i=xs->pile<=i->xs.length<fu->
  zW.l8 F k0 k0 (fun pile _ _ p=>k1 pile p) fu (pile:Int) (i:Int) p=match WX p.2.1.length xs pile i with | some (j,e)=>k0 (j:Int) e | none=>k1 (Uo xs pile:Int) p:=by
 intro xs;induction xs with
 | nil =>
  intro i pile fu h hpi hf;obtain ⟨fu,rfl⟩:∃j,fu=j+1:=⟨fu-1,by simp at hf; omega⟩;have hn:p.2.2.2.length<=i:=by simpa using h
  simp only[zW.l8,zW.l8.y,decide_eq_false (show ¬((i:Int)<(p.2.2.2.length:Int)) by omega),cond_false];rfl
 | cons n xs ih =>
  intro i pile fu h hpi hf;obtain ⟨fu,rfl⟩:∃j,fu=j+1:=⟨fu-1,by simp at hf; omega⟩;have hi:=vc h;have hg:=vv (t:=za) h;rw[Int.toNat_natCast] at hg;simp only[zW.l8,zW.l8.y,decide_eq_true (show ((i:Int)<(p.2.2.2.length:Int)) by omega),cond_true,xS hi,Int.toNat_natCast,hg,WX,Uo];cases hgk:tz n with
  | false =>
   rw[zbH F hgk];have:vA p.2.1.length n pile=50:=by unfold vA; rw[hgk]; rfl
   rw[this];rfl
  | true =>
   rw[VU F hgk,zbK F hgk hp,Qy hgk];simp only[zh];cases hfi:Xb n p.2.1.length with
   | false =>
    simp only[Bool.not_false,cond_true];cases decide ((bif decide (aK n>=0) then aK n else nC n)<0)<;>rfl
   | true =>
    have hk:=zaV hfi;have ha:=Xq hgk hk;have hta:(bif decide (aK n>=0) then aK n else nC n)=(ar n:Int):=by
     have:=(VU F hgk).symm.trans (ZK F hgk hk);simpa using this
    rw[hta,zdG F hF,decide_eq_false (show ¬((ar n:Int)<0) by omega)];simp only[Bool.not_true,cond_false,zh];cases hpa:decide ((pile:Int)<(ar n:Int)) with
    | true=>rfl
    | false =>
     have hpa:=of_decide_eq_false hpa;simp only[cond_false];rw[yz (n:=(pile:Int)-(ar n:Int)) (by omega) (by omega),yz (n:=(pile:Int)-(ar n:Int)+1) (by omega) (by omega),yz (n:=(i:Int)+1) (by omega) (by omega),show (pile:Int)-(ar n:Int)+1=((pile-ar n+1:Nat):Int) by omega];have ih:=ih (i+1) (pile-ar n+1) fu (wz h) (by omega) (by simp at hf; omega);rw[wd i] at ih;rw[ih,zbw hgk];cases (nK n==13)<;>cases (nK n==14)<;>cases Zg (nT n)<;>rfl
theorem VV (hF:2048<F) (p:zO.T):zW.sh F p=some (((uG p).1,(uG p).2,()),()):=by
 unfold zW.sh uG;rw[zf6 F (by omega)];simp only[zh];cases h:(ZA p.1 p.2.1 p.2.2.1 != 0) with
 | true=>rfl
 | false =>
  have hh:=tg (show ZA p.1 p.2.1 p.2.2.1=0 by simpa using h);cases h1:decide ((p.2.2.2.length:Int)>1024) with
  | true=>rfl
  | false =>
   have h1:=of_decide_eq_false h1;simp only[cond_false];have e:=zdS F (by omega) (fun r26 r36=>(some ((r26,r36,()),()):Option zW.sg.R)) (fun pile8 p8=>bif (pile8 != 1) then some (((p8.2.2.2.length:Int),50,()),()) else some ((0,0,()),())) p (by omega) (by omega) p.2.2.2 0 0 F (by simp) (by omega) (by omega);rw[show ((0:Nat):Int)=0 from rfl] at e;rw[e];cases WX p.2.1.length p.2.2.2 0 0 with
   | some x=>rfl
   | none=>cases hc:((Uo p.2.2.2 0:Int) != 1)<;>simp only[cond_true,cond_false,hc]
def TG (t:Tree):Prop:=∀s∈t.subs,tz s.root=true/\uV s.root=true/\ar s.root=s.kids.length
theorem TG.kids (h:TG (.nd n ks)):∀k∈ks,TG k:=fun k hk s hs=>h s (by
 rw[q9];refine mem_append.2 (.inl ?_);unfold vW;exact mem_flatten.2 ⟨k.subs,mem_map.2 ⟨k,hk,rfl⟩,hs⟩)
theorem TG.top (h:TG (.nd n ks)):tz n=true/\uV n=true/\ar n=ks.length:=h (.nd n ks) (by rw[q9]; simp)
theorem zcA (hst:∀t∈st,TG t) (h:vA dims n st.length=0):TG (wH st n):=by
 obtain ⟨g1,g2,g3,g4,g5,g6,g7,g8⟩:=wD h;intro s hs;unfold wH at hs;rw[q9] at hs;rcases mem_append.1 hs with hs | hs
 ·unfold vW at hs
  obtain ⟨l,hl,hs⟩:=mem_flatten.1 hs;obtain ⟨k,hk,rfl⟩:=mem_map.1 hl;exact hst k (mem_of_mem_drop hk) s hs
 ·rw[mem_singleton.1 hs]
  exact ⟨g1,g4,by show ar n=(st.drop (st.length-ar n)).length; simp; omega⟩
theorem Q8 (hst:∀t∈st,TG t) (h:vA dims n st.length=0):∀t∈w9 st n,TG t:=fun t ht=>by
 rcases mem_append.1 ht with ht | ht
 ·exact hst t (mem_of_mem_take ht)
 ·rw[mem_singleton.1 ht]; exact zcA hst h
theorem Ur {a post:List za.T} (h:p.2.2.2=a++n::post) (hi:i=a.length):idx (i:Int) p.2.2.2.length=true/\get za p.2.2.2 i=n:=by
 subst hi;refine ⟨xS (by rw[h]; simp),?_⟩;unfold get;rw[h,getD_eq_getElem?_getD];simp
theorem Se (k:Int->Option R) {a post:List za.T} (h:p.2.2.2=a++n::post) (hg:tz n=true) (hk:uV n=true) (hw:1<=w) (hw2:w<=100000) (hl:a.length<=100000) (fu:Nat) :
  zI.l3 F k (fu+1) (w:Int) (a.length:Int) p=bif ((w-1+ar n:Nat)==0) then k (a.length:Int) else zI.l3 F k fu ((w-1+ar n:Nat):Int) ((a.length:Int)-1) p:=by
 have ha:=Xq hg hk;obtain ⟨e1,e2⟩:=Ur h rfl;simp only[zI.l3,zI.l3.y,e1,cond_true,Int.toNat_natCast,e2];rw[ZK F hg hk];simp only[zh];rw[yz (n:=(w:Int)-1) (by omega) (by omega),yz (n:=(w:Int)-1+(ar n:Int)) (by omega) (by omega),yz (n:=(a.length:Int)-1) (by omega) (by omega),show (w:Int)-1+(ar n:Int)=((w-1+ar n:Nat):Int) by omega];have:(((w-1+ar n:Nat):Int)==0)=((w-1+ar n:Nat)==0):=by
  by_cases h:(w-1+ar n:Nat)=0
  ·rw[h]; rfl
  ·rw[beq_eq_false_iff_ne.2 h,beq_eq_false_iff_ne]; omega
 rw[this]
theorem Vv (k:Int->Option R) (p:zO.T):∀(m:Nat) (ks:List Tree),ks.length=m->
  (∀t∈ks,∀(a post:List za.T) (w fu:Nat),p.2.2.2=a++t.flat++post->1<=w->w+t.size<=50000->a.length+t.size<=50000->zI.l3 F k (fu+t.size) ((w+1:Nat):Int) ((a.length:Int)+(t.size:Int)-1) p=zI.l3 F k fu (w:Int) ((a.length:Int)-1) p)->
  ∀(a post:List za.T) (w fu:Nat),p.2.2.2=a++zS ks++post->1<=w->w+(zS ks).length<=50000->a.length+(zS ks).length<=50000->
  zI.l3 F k (fu+(zS ks).length) ((w+ks.length:Nat):Int) ((a.length:Int)+((zS ks).length:Int)-1) p=zI.l3 F k fu (w:Int) ((a.length:Int)-1) p:=by
 intro m;induction m with
 | zero =>
  intro ks hm hA a post w fu h hw hw2 hl;obtain rfl:=eq_nil_of_length_eq_zero hm;simp[zS]
 | succ m ih =>
  intro ks hm hA a post w fu h hw hw2 hl;rcases List.eq_nil_or_concat ks with rfl | ⟨init,last,hks⟩
  ·simp at hm
  ·rw[List.concat_eq_append] at hks
   subst hks;have hil:=vo init;have hfl:zS (init++[last])=zS init++last.flat:=by rw[ud,u7]
   simp only[length_append,length_cons,length_nil] at hm;rw[hfl] at h hl hw2 ⊢;simp only[length_append] at hl hw2;have h1:=hA last (by simp) (a++zS init) post (w+init.length) (fu+(zS init).length) (by rw[h]; simp) (by omega) (by unfold Tree.size; omega) (by simp only[length_append,Tree.size]; omega);have h2:=ih init (by omega) (fun t ht=>hA t (by simp[ht])) a (last.flat++post) w fu (by rw[h]; simp) hw (by omega) (by omega);simp only[length_append,Tree.size] at h1;rw[<-h2];have e1:fu+(zS init++last.flat).length=fu+(zS init).length+last.flat.length:=by simp; omega
   have e2:((w+(init++[last]).length:Nat):Int)=((w+init.length+1:Nat):Int):=by simp; omega
   have e3:(a.length:Int)+((zS init++last.flat).length:Int)-1=(((a.length+(zS init).length:Nat)):Int)+(last.flat.length:Int)-1:=by simp; omega
   rw[e1,e2,e3,h1];congr 1
theorem first_A (k:Int->Option R) (p:zO.T) (t:Tree):TG t->∀(a post:List za.T) (w fu:Nat),p.2.2.2=a++t.flat++post->1<=w->w+t.size<=50000->a.length+t.size<=50000->
  zI.l3 F k (fu+t.size) ((w+1:Nat):Int) ((a.length:Int)+(t.size:Int)-1) p=zI.l3 F k fu (w:Int) ((a.length:Int)-1) p:=by
 refine Tree.ind (P:=fun t=>TG t->∀(a post:List za.T) (w fu:Nat),p.2.2.2=a++t.flat++post->1<=w->w+t.size<=50000->a.length+t.size<=50000->
  zI.l3 F k (fu+t.size) ((w+1:Nat):Int) ((a.length:Int)+(t.size:Int)-1) p=zI.l3 F k fu (w:Int) ((a.length:Int)-1) p) (fun n ks ih hT a post w fu h hw hw2 hl=>?_) t
 obtain ⟨g1,g2,g3⟩:=hT.top;have ha:=Xq g1 g2;rw[vn] at hl hw2 ⊢;rw[tM] at h;have hs:=Se F k (p:=p) (a:=a++zS ks) (n:=n) (post:=post) (by rw[h]; simp) g1 g2 (w:=w+1) (by omega) (by omega) (by simp only[length_append]; omega) (fu+(zS ks).length);have e1:(w+1-1+ar n:Nat)=w+ks.length:=by omega
 rw[e1] at hs;rw[show fu+((zS ks).length+1)=fu+(zS ks).length+1 by omega,show (a.length:Int)+(((zS ks).length+1:Nat):Int)-1=(((a++zS ks).length:Nat):Int) by simp; omega,hs];rw[show (w+ks.length==0)=false by rw[beq_eq_false_iff_ne]; omega];simp only[cond_false];have hf:=Vv F k p ks.length ks rfl (fun t ht=>ih t ht (hT.kids t ht)) a (n::post) w fu (by rw[h]; simp) hw (by omega) (by omega);rw[<-hf];congr 1
 simp
theorem first_B (k:Int->Option R) (p:zO.T) (t:Tree):TG t->∀(a post:List za.T) (fu:Nat),p.2.2.2=a++t.flat++post->a.length+t.size<=50000->
  zI.l3 F k (fu+t.size) 1 ((a.length:Int)+(t.size:Int)-1) p=k (a.length:Int):=by
 refine Tree.ind (P:=fun t=>TG t->∀(a post:List za.T) (fu:Nat),p.2.2.2=a++t.flat++post->a.length+t.size<=50000->
  zI.l3 F k (fu+t.size) 1 ((a.length:Int)+(t.size:Int)-1) p=k (a.length:Int)) (fun n ks ih hT a post fu h hl=>?_) t
 obtain ⟨g1,g2,g3⟩:=hT.top;have ha:=Xq g1 g2;rw[vn] at hl ⊢;rw[tM] at h;have hs:=Se F k (p:=p) (a:=a++zS ks) (n:=n) (post:=post) (by rw[h]; simp) g1 g2 (w:=1) (by omega) (by omega) (by simp only[length_append]; omega) (fu+(zS ks).length);have e1:(1-1+ar n:Nat)=ks.length:=by omega
 rw[e1] at hs;rw[show fu+((zS ks).length+1)=fu+(zS ks).length+1 by omega,show (a.length:Int)+(((zS ks).length+1:Nat):Int)-1=(((a++zS ks).length:Nat):Int) by simp; omega,show (1:Int)=((1:Nat):Int) from rfl,hs];cases ks with
 | nil=>simp[zS]
 | cons k0 rest =>
  rw[show ((k0::rest).length==0)=false from rfl];simp only[cond_false];rw[vN] at h hl ⊢;simp only[length_append] at hl;have hlen:(k0::rest).length=1+rest.length:=by simp; omega
  have hlr:rest.length<=16:=by simp only[length_cons] at g3; omega
  have hf:=Vv F k p rest.length rest rfl (fun t ht=>first_A F k p t (hT.kids t (by simp[ht]))) (a++k0.flat) (n::post) 1 (fu+k0.size) (by rw[h]; simp) (by omega) (by omega) (by simp only[length_append]; omega);have hb:=ih k0 (by simp) (hT.kids k0 (by simp)) a (zS rest++n::post) fu (by rw[h]; simp) (by unfold Tree.size; omega);have e2:(((a++(k0.flat++zS rest)).length:Nat):Int)-1=(((a++k0.flat).length:Nat):Int)+((zS rest).length:Int)-1:=by simp; omega
  have e3:fu+(k0.flat++zS rest).length=fu+k0.size+(zS rest).length:=by simp[Tree.size]; omega
  rw[e2,e3,hlen,hf];rw[<-hb];congr 1
  simp[Tree.size]
theorem SL (hF:4096<F) (hT:TG t) {a post:List za.T} (h:p.2.2.2=a++t.flat++post) (hl:a.length+t.size<=2048):zI.sh F p ((a.length:Int)+(t.size:Int)-1)=some (((a.length:Int),()),()):=by
 unfold zI.sh;have:=first_B F (fun r42=>(some ((r42,()),()):Option zI.sg.R)) p t hT a post (F-t.size) h (by omega);rw[show F-t.size+t.size=F by omega] at this;exact this
theorem R2 (hF:4096<F) {xs:List za.T} (hT:TG (wH st n)) (h:p.2.2.2=zS st++n::xs) (hl:(zS st).length<2048) :
  zI.sh F p ((zS st).length:Int)=some ((((zS (st.take (st.length-ar n))).length:Int),()),()):=by
 have hts:=Yw (st:=st) (n:=n);have:=SL F hF hT (a:=zS (st.take (st.length-ar n))) (post:=xs) (by
  have e:zS st++[n]=zS (st.take (st.length-ar n))++(wH st n).flat:=by
   rw[<-vQ]; unfold w9; rw[ud,u7]
  rw[<-e,h]; simp) (by omega)
 rw[<-this];congr 1
 omega
theorem zbN (k0:Int->Bool->zO.T->List Bool->Option R) (p:zO.T) (out:List Bool) (i:Int):∀(seg a post:List za.T) (b:Bool) (fu:Nat),p.2.2.2=a++seg++post->i=(a.length:Int)+(seg.length:Int)-1->a.length+seg.length<=50000->seg.length<fu->
  zi.l10 F (fun i is _ _ p out=>k0 i is p out) fu i b (a.length:Int) p out=k0 i (b&&seg.all fun n=>!isQ n) p out:=by
 intro seg;induction seg with
 | nil =>
  intro a post b fu h hi hl hf;obtain ⟨fu,rfl⟩:∃j,fu=j+1:=⟨fu-1,by simp at hf; omega⟩;simp only[length_nil] at hi;simp only[zi.l10,zi.l10.y,decide_eq_false (show ¬((a.length:Int)<=i) by omega),cond_false,List.all_nil,Bool.and_true]
 | cons n seg ih =>
  intro a post b fu h hi hl hf;obtain ⟨fu,rfl⟩:∃j,fu=j+1:=⟨fu-1,by simp at hf; omega⟩;simp only[length_cons] at hi hl hf;obtain ⟨e1,e2⟩:=Ur (p:=p) (a:=a) (n:=n) (post:=seg++post) (by rw[h]; simp) rfl;have IH:=fun b'=>ih (a++[n]) post b' fu (by rw[h]; simp) (by simp; omega) (by simp; omega) (by omega)
  simp only[length_append,length_cons,length_nil,Nat.zero_add] at IH;simp only[zi.l10,zi.l10.y,decide_eq_true (show ((a.length:Int)<=i) by omega),cond_true,e1,Int.toNat_natCast,e2,yz (n:=(a.length:Int)+1) (by omega) (by omega)];rw[<-wd,IH,IH];simp only[all_cons];unfold isQ;cases b with
  | false=>rfl
  | true =>
   rw[show (n.1 != 3)=!(nK n==3) from rfl,show (n.1 != 4)=!(nK n==4) from rfl];cases (nK n==3)<;>cases (nK n==4)<;>rfl
theorem zdR (hF:4096<F) (dims:Nat) (k:List Bool->Option R) (p:zO.T) (hL:p.2.2.2.length<=1024):∀(xs:List za.T) (st:List Tree) (out:List Bool) (fu:Nat),p.2.2.2=zS st++xs->okS dims st xs->(∀t∈st,TG t)->out.length<=(zS st).length->xs.length<fu->
  zi.l6 F (fun _ _ _ out=>k out) fu ((zS st).length:Int) p out=k (out++(news st xs).map noQ):=by
 intro xs;induction xs with
 | nil =>
  intro st out fu h ho hT hout hf;obtain ⟨fu,rfl⟩:∃j,fu=j+1:=⟨fu-1,by simp at hf; omega⟩;have:p.2.2.2.length=(zS st).length:=by rw[h]; simp
  simp only[zi.l6,zi.l6.y,decide_eq_false (show ¬(((zS st).length:Int)<(p.2.2.2.length:Int)) by omega),cond_false,news,map_nil,append_nil]
 | cons n xs ih =>
  intro st out fu h ho hT hout hf;obtain ⟨fu,rfl⟩:∃j,fu=j+1:=⟨fu-1,by simp at hf; omega⟩;have hlen:p.2.2.2.length=(zS st).length+(xs.length+1):=by rw[h]; simp
  have hTt:=zcA hT ho.1;have hfi:=R2 F hF hTt h (by omega);have hfs:=vQ st n;have hfl:=congrArg List.length hfs;simp only[length_append,length_cons,length_nil] at hfl;have hts:=Yw (st:=st) (n:=n);have hflat:p.2.2.2=zS (st.take (st.length-ar n))++(wH st n).flat++xs:=by
   have e:zS st++[n]=zS (st.take (st.length-ar n))++(wH st n).flat:=by
    rw[<-vQ]; unfold w9; rw[ud,u7]
   rw[<-e,h]; simp
  have IH:=ih (w9 st n) (out++[noQ (wH st n)]) fu (by rw[hfs,h]; simp) ho.2 (Q8 hT ho.1) (by simp; omega) (by simp at hf; omega);rw[hfl,show (((zS st).length+(0+1):Nat):Int)=((zS st).length:Int)+1 by omega] at IH;have e10:=zbN F (fun i3 is3 p3 out3=>bif Nat.ble (out3.length+([is3]:List Bool).length) wF then zi.l6 F (fun _ _ _ out=>k out) fu (i64.wrap (i3+1)) p3 (out3++([is3]:List Bool)) else none) p out ((zS st).length:Int)
   (wH st n).flat (zS (st.take (st.length-ar n))) xs true F hflat (by unfold Tree.size at hts; omega) (by unfold Tree.size at hts; omega) (by unfold Tree.size at hts; omega)
  simp only[zi.l6,zi.l6.y,decide_eq_true (show (((zS st).length:Int)<(p.2.2.2.length:Int)) by omega),cond_true];rw[hfi];simp only[zh];rw[e10,uq (by simp; omega),yz (by omega) (by omega)];simp only[cond_true,Bool.true_and];refine IH.trans ?_;simp[news]
theorem Vg (hF:4096<F) (h:Good p t):zi.sh F p=some ((t.subs.map noQ,0,()),()):=by
 unfold zi.sh;rw[VV F (by omega),h.check];simp only[zh,bne_self_eq_false,cond_false];have hl:=h.len;have e:=zdR F hF p.2.1.length (fun out4=>zi.j14 F (fun r25 r35=>(some ((r25,r35,()),()):Option zi.sg.R)) out4) p hl p.2.2.2 [] [] F (by simp[zS]) h.ok (by simp) (by simp) (by omega);rw[show ((zS []).length:Int)=0 from rfl,h.subs] at e;exact e
def XI (n:za.T):Int:=bif nK n==15 then 1 else 0
def Su:Tree->List Int:=Tree.fold (fun n ks=>(ks.flatten++[0]).map (fun x=>x+XI n))
def uk (st:List Tree):List Int:=(st.map Su).flatten
theorem Tb (n:za.T) (ks:List Tree):Su (.nd n ks)=(uk ks++[0]).map (fun x=>x+XI n):=Tree.fold_nd _ n ks
theorem RW (a b:List Tree):uk (a++b)=uk a++uk b:=by simp[uk]
theorem RU (t:Tree):uk [t]=Su t:=by simp[uk]
theorem zgj (t:Tree):(Su t).length=t.size:=by
 refine Tree.ind (P:=fun t=>(Su t).length=t.size) (fun n ks ih=>?_) t;rw[Tb,vn];simp only[length_map,length_append,length_cons,length_nil];have:(uk ks).length=(zS ks).length:=by
  simp only[uk,zS,length_flatten,map_map];congr 1
  exact map_congr_left (fun k hk=>ih k hk)
 omega
theorem RV (st:List Tree):(uk st).length=(zS st).length:=by
 simp only[uk,zS,length_flatten,map_map];congr 1
 exact map_congr_left (fun k _=>zgj k)
theorem cnts_bd (t:Tree):∀x∈Su t,0<=x/\x<=t.size:=by
 refine Tree.ind (P:=fun t=>∀x∈Su t,0<=x/\x<=t.size) (fun n ks ih=>?_) t;intro x hx;rw[Tb] at hx;obtain ⟨y,hy,rfl⟩:=mem_map.1 hx;rw[vn];have ho:0<=XI n/\XI n<=1:=by unfold XI; cases (nK n==15)<;>simp
 rcases mem_append.1 hy with hy | hy
 ·obtain ⟨l,hl,hy⟩:=mem_flatten.1 hy
  obtain ⟨k,hk,rfl⟩:=mem_map.1 hl;have h1:=ih k hk y hy;have h2:=tS hk;omega
 ·rw[mem_singleton.1 hy]; omega
theorem zgi:∀x∈uk st,0<=x/\x<=(zS st).length:=by
 intro x hx;obtain ⟨l,hl,hy⟩:=mem_flatten.1 hx;obtain ⟨k,hk,rfl⟩:=mem_map.1 hl;have h1:=cnts_bd k x hy;have h2:=tS hk;omega
theorem XN:uR m l<=b↔m<=b/\∀x∈l,x<=b:=by
 have h:=Wk l m;constructor
 ·intro hb
  exact ⟨by omega,fun x hx=>by have:=h.2 x hx; omega⟩
 ·rintro ⟨h1,h2⟩
  exact QC l m h1 h2
theorem zfL (h:∀b,x<=b↔y<=b):x=y:=by
 have h1:=(h y).2 (Int.le_refl _);have h2:=(h x).1 (Int.le_refl _);omega
theorem zfE (m:Int) (a b:List Int):uR m (a++b)=uR (uR m a) b:=by unfold uR; rw[List.foldl_append]
theorem zen (t:Tree):uR 0 (Su t)=deep t:=by
 refine Tree.ind (P:=fun t=>uR 0 (Su t)=deep t) (fun n ks ih=>?_) t;have ho:0<=XI n/\XI n<=1:=by unfold XI; cases (nK n==15)<;>simp
 have hd:=tV n ks;rw[show (bif nK n==15 then (1:Int) else 0)=XI n from rfl] at hd;have hk0:∀x∈ks.map deep,0<=x:=by
  intro x hx;obtain ⟨k,_,rfl⟩:=mem_map.1 hx;exact (tc k).1
 have hm0:=(Vn hk0).1;refine zfL fun b=>?_
 rw[Tb,hd,XN];constructor
 ·rintro ⟨h1,h2⟩
  have hz:=h2 (0+XI n) (mem_map.2 ⟨0,by simp,rfl⟩);have:uZ (ks.map deep)<=b-XI n:=QB (by omega) (by
   intro x hx;obtain ⟨k,hk,rfl⟩:=mem_map.1 hx;rw[<-ih k hk,XN];refine ⟨by omega,fun y hy=>?_⟩;have:=h2 (y+XI n) (mem_map.2 ⟨y,mem_append.2 (.inl (mem_flatten.2 ⟨Su k,mem_map.2 ⟨k,hk,rfl⟩,hy⟩)),rfl⟩);omega)
  omega
 ·intro h
  refine ⟨by omega,fun x hx=>?_⟩;obtain ⟨y,hy,rfl⟩:=mem_map.1 hx;rcases mem_append.1 hy with hy | hy
  ·obtain ⟨l,hl,hy⟩:=mem_flatten.1 hy
   obtain ⟨k,hk,rfl⟩:=mem_map.1 hl;have h1:=(Wk (Su k) 0).2 y hy;rw[ih k hk] at h1;have h2:=(Vn hk0).2 (deep k) (mem_map.2 ⟨k,hk,rfl⟩);omega
  ·rw[mem_singleton.1 hy]; omega
theorem set_at:(A++x::Z).set A.length y=A++y::Z:=by simp
theorem zfW:get (.int .i64) (A++x::Z) A.length=x:=by
 unfold get;rw[getD_eq_getElem?_getD]; simp
theorem zbI (k0:Int->Int->zO.T->List Int->Option R) (p:zO.T) (i:Int):∀(seg A Z:List Int) (most:Int) (fu:Nat),i=(A.length:Int)+(seg.length:Int)-1->A.length+seg.length<=50000->(∀x∈seg,0<=x/\x<=50000)->seg.length<fu->
  zm.l15 F (fun most i _ _ p deep=>k0 most i p deep) fu most i (A.length:Int) p (A++seg++Z)=k0 (uR most (seg.map (fun x=>x+1))) i p (A++seg.map (fun x=>x+1)++Z):=by
 intro seg;induction seg with
 | nil =>
  intro A Z most fu hi hl hb hf;obtain ⟨fu,rfl⟩:∃j,fu=j+1:=⟨fu-1,by simp at hf; omega⟩;simp only[length_nil] at hi;simp only[zm.l15,zm.l15.y,decide_eq_false (show ¬((A.length:Int)<=i) by omega),cond_false,map_nil];rfl
 | cons x seg ih =>
  intro A Z most fu hi hl hb hf;obtain ⟨fu,rfl⟩:∃j,fu=j+1:=⟨fu-1,by simp at hf; omega⟩;simp only[length_cons] at hi hl hf;have hx:=hb x (by simp);have hL:A++x::seg++Z=A++x::(seg++Z):=by simp
  rw[hL];have e1:idx (A.length:Int) (A++x::(seg++Z)).length=true:=xS (by simp);have e2:idx (A.length:Int) (A++(x+1)::(seg++Z)).length=true:=xS (by simp);have IH:=fun m=>ih (A++[x+1]) Z m fu (by simp; omega) (by simp; omega) (fun y hy=>hb y (by simp[hy])) (by omega)
  simp only[length_append,length_cons,length_nil,Nat.zero_add] at IH;have hA:A++[x+1]++seg++Z=A++(x+1)::(seg++Z):=by simp
  have hA2:A++[x+1]++seg.map (fun x=>x+1)++Z=A++(x::seg).map (fun x=>x+1)++Z:=by simp
  simp only[hA,hA2] at IH;simp only[zm.l15,zm.l15.y,decide_eq_true (show ((A.length:Int)<=i) by omega),cond_true,e1,Int.toNat_natCast,zfW,yz (n:=x+1) (by omega) (by omega),set_at,e2,yz (n:=(A.length:Int)+1) (by omega) (by omega)];rw[<-wd,IH,IH];have hm:uR most ((x::seg).map (fun x=>x+1))=uR (if x+1>most then x+1 else most) (seg.map (fun x=>x+1)):=rfl;rw[hm];by_cases hgt:x+1>most
  ·rw[decide_eq_true hgt,if_pos hgt]; rfl
  ·rw[decide_eq_false hgt,if_neg hgt]; rfl
theorem zdH (k:zO.T->List Int->Option R) (p:zO.T) (hL:p.2.2.2.length<=2048):∀(m i fu:Nat),i+m=p.2.2.2.length->m<fu->
  zm.l6 F (fun _ _ p deep=>k p deep) fu (i:Int) p (List.replicate i 0)=k p (List.replicate p.2.2.2.length 0):=by
 intro m;induction m with
 | zero =>
  intro i fu hi hf;obtain ⟨fu,rfl⟩:∃j,fu=j+1:=⟨fu-1,by omega⟩;simp only[zm.l6,zm.l6.y,decide_eq_false (show ¬((i:Int)<(p.2.2.2.length:Int)) by omega),cond_false];rw[show i=p.2.2.2.length by omega]
 | succ m ih =>
  intro i fu hi hf;obtain ⟨fu,rfl⟩:∃j,fu=j+1:=⟨fu-1,by omega⟩;simp only[zm.l6,zm.l6.y,decide_eq_true (show ((i:Int)<(p.2.2.2.length:Int)) by omega),cond_true];rw[uq (by simp; omega),yz (by omega) (by omega),<-wd];simp only[cond_true];rw[<-List.replicate_succ'];exact ih (i+1) fu (by omega) (by omega)
theorem zbJ (hF:4096<F) (dims:Nat) (k:Int->Option R) (p:zO.T) (hL:p.2.2.2.length<=1024):∀(xs:List za.T) (st:List Tree) (fu:Nat),p.2.2.2=zS st++xs->okS dims st xs->(∀t∈st,TG t)->xs.length<fu->
  zm.l11 F (fun most _ _ _ _=>k most) fu (uR 0 (uk st)) ((zS st).length:Int) p (uk st++List.replicate xs.length 0)=k (uR 0 (uk (tW st xs))):=by
 intro xs;induction xs with
 | nil =>
  intro st fu h ho hT hf;obtain ⟨fu,rfl⟩:∃j,fu=j+1:=⟨fu-1,by simp at hf; omega⟩;have:p.2.2.2.length=(zS st).length:=by rw[h]; simp
  simp only[zm.l11,zm.l11.y,decide_eq_false (show ¬(((zS st).length:Int)<(p.2.2.2.length:Int)) by omega),cond_false,tW]
 | cons n xs ih =>
  intro st fu h ho hT hf;obtain ⟨fu,rfl⟩:∃j,fu=j+1:=⟨fu-1,by simp at hf; omega⟩;have hlen:p.2.2.2.length=(zS st).length+(xs.length+1):=by rw[h]; simp
  have hTt:=zcA hT ho.1;have hfi:=R2 F hF hTt h (by omega);have hfs:=vQ st n;have hfl:=congrArg List.length hfs;simp only[length_append,length_cons,length_nil] at hfl;have hts:=Yw (st:=st) (n:=n);have IH:=ih (w9 st n) fu (by rw[hfs,h]; simp) ho.2 (Q8 hT ho.1) (by simp at hf; omega);rw[hfl,show (((zS st).length+(0+1):Nat):Int)=((zS st).length:Int)+1 by omega] at IH;obtain ⟨e1,e2⟩:=Ur h rfl;have hst:uk st=uk (st.take (st.length-ar n))++uk (st.drop (st.length-ar n)):=by rw[<-RW,take_append_drop]
  have hstep:uk (w9 st n)=uk (st.take (st.length-ar n))++(uk (st.drop (st.length-ar n))++[0]).map (fun x=>x+XI n):=by
   unfold w9 wH;rw[RW,RU,Tb]
  simp only[zm.l11,zm.l11.y,decide_eq_true (show (((zS st).length:Int)<(p.2.2.2.length:Int)) by omega),cond_true,e1,Int.toNat_natCast,e2];rw[show (n.1 != 15)=!(nK n==15) from rfl,yz (n:=((zS st).length:Int)+1) (by omega) (by omega)];have hend:tW st (n::xs)=tW (w9 st n) xs:=rfl;rw[hend];have hb0:∀x∈uk (st.drop (st.length-ar n))++[0],0<=x/\x<=50000:=by
   intro x hx;rcases mem_append.1 hx with hx | hx
   ·have h1:=zgi x hx
    have:(zS (st.drop (st.length-ar n))).length<=(zS st).length:=by
     have e:=congrArg List.length (ud (st.take (st.length-ar n)) (st.drop (st.length-ar n)));rw[take_append_drop,length_append] at e;omega
    omega
   ·rw[mem_singleton.1 hx]; omega
  cases h15:(nK n==15) with
  | false =>
   have ho0:XI n=0:=by unfold XI; rw[h15]; rfl
   rw[ho0] at hstep;have hmap:(uk (st.drop (st.length-ar n))++[0]).map (fun x:Int=>x+0)=uk (st.drop (st.length-ar n))++[0]:=by simp
   rw[hmap,<-append_assoc,<-hst] at hstep;have hm:uR 0 (uk st++[0])=uR 0 (uk st):=by
    rw[zfE];have:=(Wk (uk st) 0).1;show (if (0:Int)>uR 0 (uk st) then 0 else uR 0 (uk st))=_;rw[if_neg (by omega)]
   rw[hstep,hm,append_assoc] at IH;simp only[Bool.not_false,cond_true];exact IH
  | true =>
   have ho1:XI n=1:=by unfold XI; rw[h15]; rfl
   rw[ho1] at hstep;simp only[Bool.not_true,cond_false];rw[hfi];simp only[zh];have hcl:=RV (st.take (st.length-ar n));have hcl2:=RV (st.drop (st.length-ar n));have hfd:(zS (st.take (st.length-ar n))).length+(zS (st.drop (st.length-ar n))).length=(zS st).length:=by
    have e:=congrArg List.length (ud (st.take (st.length-ar n)) (st.drop (st.length-ar n)));rw[take_append_drop,length_append] at e;omega
   have e15:=zbI F (fun most4 i4 p4 deep4=>zm.l11 F (fun most _ _ _ _=>k most) fu most4 (i64.wrap (i4+1)) p4 deep4) p ((zS st).length:Int) (uk (st.drop (st.length-ar n))++[0]) (uk (st.take (st.length-ar n))) (List.replicate xs.length 0) (uR 0 (uk st)) F
    (by simp; omega) (by simp; omega) hb0 (by simp; omega)
   rw[hcl] at e15;have hdeep:uk st++List.replicate (n::xs).length 0=uk (st.take (st.length-ar n))++(uk (st.drop (st.length-ar n))++[0])++List.replicate xs.length 0:=by
    rw[hst,length_cons,List.replicate_succ]; simp
   rw[hdeep];refine e15.trans ?_;rw[yz (n:=((zS st).length:Int)+1) (by omega) (by omega)];rw[hstep] at IH;have hmm:uR (uR 0 (uk st)) ((uk (st.drop (st.length-ar n))++[0]).map (fun x=>x+1))=uR 0 (uk (st.take (st.length-ar n))++(uk (st.drop (st.length-ar n))++[0]).map (fun x=>x+1)):=by
    refine zfL fun b=>?_
    rw[XN,XN,XN,hst];constructor
    ·rintro ⟨⟨h1,h2⟩,h3⟩
     refine ⟨h1,fun x hx=>?_⟩;rcases mem_append.1 hx with hx | hx
     ·exact h2 x (mem_append.2 (.inl hx))
     ·exact h3 x hx
    ·rintro ⟨h1,h2⟩
     refine ⟨⟨h1,fun x hx=>?_⟩,fun x hx=>h2 x (mem_append.2 (.inr hx))⟩;rcases mem_append.1 hx with hx | hx
     ·exact h2 x (mem_append.2 (.inl hx))
     ·have:=h2 (x+1) (mem_append.2 (.inr (mem_map.2 ⟨x,mem_append.2 (.inl hx),rfl⟩)))
      omega
   rw[hmm];exact IH
theorem Rc (hF:4096<F) (h:Good p t):zm.sh F p=some ((deep t,0,()),()):=by
 unfold zm.sh;rw[VV F (by omega),h.check];simp only[zh,bne_self_eq_false,cond_false];have hl:=h.len;have e6:=zdH F (fun p2 deep2=>zm.l11 F (fun most5 i5 t335 p5 deep5=>(some ((most5,0,()),()):Option zm.sg.R)) F 0 0 p2 deep2) p (by omega) p.2.2.2.length 0 F (by omega) (by omega);rw[show ((0:Nat):Int)=0 from rfl,List.replicate_zero] at e6;rw[e6];have e:=zbJ F hF p.2.1.length (fun most5=>(some ((most5,0,()),()):Option zm.sg.R)) p hl p.2.2.2 [] F (by simp[zS]) h.ok (by simp) (by omega);rw[h.eq,RU,zen] at e;exact e
theorem zak (F:Nat) {R:Type} (k:Int->Option R) (k1:List Int->Option R) (L:List Int) (a:Int) (hL:1<=L.length) (ha:get (.int .i64) L 0=a):∀(xs:List Int) (i:Int),
  zy.l2.rg F k (fun l _ _=>k1 l) L xs i=bif xs.all (fun x=>x==a) then k1 L else k (-1)
 | [],i=>rfl
 | x::r,i=>by
  rw[zy.l2.rg,zak F k k1 L a hL ha r,Zq hL,ha];simp only[cond_true,all_cons];cases hx:(x==a) with
  | true=>simp only[bne,hx,Bool.not_true,cond_false,Bool.true_and]
  | false=>simp only[bne,hx,Bool.not_false,cond_true,Bool.false_and,cond_false]
theorem zal (hF:64<F) (h:1<=l.length) (hl:l.length<=32):zy.sh F l=some ((qk l,()),()):=by
 unfold zy.sh;have e1:=fun k0 k1=>zy.l2.rq (R:=zy.sg.R) F k0 k1 l (by omega) (l.drop 1) 1 F rfl (by simp; omega)
 rw[show ((1:Nat):Int)=1 from rfl] at e1;rw[e1,zak F (fun r21=>(some ((r21,()),()):Option zy.sg.R)) (fun l2=>bif idx 0 l2.length then some ((get (.int .i64) l2 0,()),()) else none) l (get (.int .i64) l 0) h rfl];rw[Zq h];cases l with
 | nil=>simp at h
 | cons a r =>
  show (bif r.all (fun x=>x==a) then _ else _)=some ((bif r.all (fun x=>x==a) then a else -1,()),());cases r.all (fun x=>x==a)<;>rfl
theorem zam (a b:Int):y4.sh F a b=some ((Yz a b,()),()):=by
 unfold y4.sh zA.sh Yz vS;simp only[zh];cases (a==0) with
 | true=>rfl
 | false =>
  cases (b==0) with
  | true=>rfl
  | false=>cases decide (a>=2)<;>cases decide (b>=2)<;>cases (a==1)<;>cases (b==1)<;>rfl
theorem zdE (hF:64<F) (hd:dims<=4) (h:vA dims n pile=0) (hl:l.length=ar n):yv.sh F n l=some ((tyN n l,()),()):=by
 obtain ⟨g1,g2,g3,g4,g5,g6,g7,g8⟩:=wD h;have ha:=Xq g1 g4;have same:∀k:Int,nK n=k->1<=l.length->(oB (zy.sh F l) fun c_1=>(some ((c_1.1.1,()),()):Option yv.sg.R))=some ((qk l,()),()):=fun k _ h1=>by
  rw[zal F hF h1 (by omega)]; rfl
 have cnt:∀x:Int,zA.sh F x=some ((vS x,()),()):=fun x=>rfl
 have i0:1<=l.length->idx 0 l.length=true:=fun h=>Zq h
 have kids:∀k:Int,nK n=k->(k=9\/k=10)->2<=ar n:=fun k h hk=>by
  have g4:=g4;rw[tC h] at g4;have g4:(decide (nC n>=2)&&decide (nC n<=16))=true:=by rcases hk with rfl | rfl<;>exact g4
  simp at g4;have:ar n=(nC n).toNat:=by rw[yI h]; rcases hk with rfl | rfl<;>rfl
  omega
 have hsame:∀k:Int,nK n=k->(k=5\/k=6\/k=7\/k=9\/k=10)->yv.sh F n l=some ((tyN n l,()),()):=fun k h hk=>by
  have h1:1<=l.length:=by
   rcases hk with rfl | rfl | rfl | rfl | rfl
   ·rw[hl,yI h]; first | exact (show (1:Nat)<=1 by decide) | exact (show (1:Nat)<=2 by decide) | exact (show (1:Nat)<=3 by decide)
   ·rw[hl,yI h]; first | exact (show (1:Nat)<=1 by decide) | exact (show (1:Nat)<=2 by decide) | exact (show (1:Nat)<=3 by decide)
   ·rw[hl,yI h]; first | exact (show (1:Nat)<=1 by decide) | exact (show (1:Nat)<=2 by decide) | exact (show (1:Nat)<=3 by decide)
   ·have:=kids 9 h (.inl rfl); omega
   ·have:=kids 10 h (.inr rfl); omega
  refine Eq.trans ?_ ((same k h h1).trans ?_)
  ·unfold yv.sh
   rw[show n.1=k from h];rcases hk with rfl | rfl | rfl | rfl | rfl<;>rfl
  ·unfold tyN
   rw[h];rcases hk with rfl | rfl | rfl | rfl | rfl<;>rfl
 rcases ug g1 with h | h | h | h | h | h | h | h | h | h | h | h | h | h | h | h
 ·unfold yv.sh tyN; rw[h,show n.1=_ from h]; rfl
 ·unfold yv.sh tyN; rw[h,show n.1=_ from h]; rfl
 ·rw[uU h] at g3
  have g3:nN n<=(dims:Int)-1:=g3;unfold yv.sh tyN;rw[h,show n.1=_ from h,yz (n:=2*nN n) (by omega) (by omega),yz (n:=2+2*nN n) (by omega) (by omega)];rfl
 ·rw[uU h] at g3
  have g3:nN n<=(dims:Int)-1:=g3;unfold yv.sh tyN;rw[h,show n.1=_ from h,yz (n:=2*nN n) (by omega) (by omega),yz (n:=3+2*nN n) (by omega) (by omega)];rfl
 ·exact hsame 5 h (by decide)
 ·exact hsame 6 h (by decide)
 ·exact hsame 7 h (by decide)
 ·have e:ar n=2:=by rw[yI h]; rfl
  refine Eq.trans (b:=bif idx 0 l.length then bif idx 1 l.length then oB (y4.sh F (get (.int .i64) l 0) (get (.int .i64) l 1)) fun c_2=>(some ((c_2.1.1,()),()):Option yv.sg.R) else none else none) ?_ ?_
  ·unfold yv.sh; rw[show n.1=_ from h]; rfl
  ·rw[Zq (by omega),idx1 (by omega),zam]
   unfold tyN; rw[h]; rfl
 ·exact hsame 9 h (by decide)
 ·exact hsame 10 h (by decide)
 all_goals
  have e1:1<=l.length:=by rw[hl,yI h]; first | exact (show (1:Nat)<=1 by decide) | exact (show (1:Nat)<=2 by decide) | exact (show (1:Nat)<=3 by decide)
  have e2:=Zq e1
 ·refine Eq.trans (b:=bif idx 0 l.length then oB (zA.sh F (get (.int .i64) l 0)) fun c_3=>bif c_3.1.1 then bif idx 0 l.length then (some ((get (.int .i64) l 0,()),()):Option yv.sg.R) else none else some (((-1),()),()) else none) ?_ ?_
  ·unfold yv.sh; rw[show n.1=_ from h]; rfl
  ·rw[e2,cnt]
   unfold tyN; rw[h];show (bif vS (l.getD 0 0) then some ((l.getD 0 0,()),()) else some (((-1),()),()))=some ((bif vS (l.getD 0 0) then l.getD 0 0 else -1,()),());cases vS (l.getD 0 0)<;>rfl
 ·refine Eq.trans (b:=bif idx 0 l.length then oB (zA.sh F (get (.int .i64) l 0)) fun c_3=>bif c_3.1.1 then bif idx 0 l.length then (some ((get (.int .i64) l 0,()),()):Option yv.sg.R) else none else some (((-1),()),()) else none) ?_ ?_
  ·unfold yv.sh; rw[show n.1=_ from h]; rfl
  ·rw[e2,cnt]
   unfold tyN; rw[h];show (bif vS (l.getD 0 0) then some ((l.getD 0 0,()),()) else some (((-1),()),()))=some ((bif vS (l.getD 0 0) then l.getD 0 0 else -1,()),());cases vS (l.getD 0 0)<;>rfl
 ·refine Eq.trans (b:=bif idx 0 l.length then oB (zA.sh F (get (.int .i64) l 0)) fun c_3=>bif c_3.1.1 then (some ((1,()),()):Option yv.sg.R) else some (((-1),()),()) else none) ?_ ?_
  ·unfold yv.sh; rw[show n.1=_ from h]; rfl
  ·rw[e2,cnt]
   unfold tyN; rw[h];show (bif vS (l.getD 0 0) then some ((1,()),()) else some (((-1),()),()))=some ((bif vS (l.getD 0 0) then 1 else -1,()),());cases vS (l.getD 0 0)<;>rfl
 ·refine Eq.trans (b:=bif idx 0 l.length then oB (zA.sh F (get (.int .i64) l 0)) fun c_3=>bif c_3.1.1 then (some ((1,()),()):Option yv.sg.R) else some (((-1),()),()) else none) ?_ ?_
  ·unfold yv.sh; rw[show n.1=_ from h]; rfl
  ·rw[e2,cnt]
   unfold tyN; rw[h];show (bif vS (l.getD 0 0) then some ((1,()),()) else some (((-1),()),()))=some ((bif vS (l.getD 0 0) then 1 else -1,()),());cases vS (l.getD 0 0)<;>rfl
 ·refine Eq.trans (b:=bif idx 0 l.length then bif ((get (.int .i64) l 0)==1) then bif idx 0 l.length then (some ((get (.int .i64) l 0,()),()):Option yv.sg.R) else none else some (((-1),()),()) else none) ?_ ?_
  ·unfold yv.sh; rw[show n.1=_ from h]; rfl
  ·rw[e2]
   unfold tyN; rw[h];show (bif (l.getD 0 0==1) then some ((l.getD 0 0,()),()) else some (((-1),()),()))=some ((bif l.getD 0 0==1 then 1 else -1,()),());cases hh:(l.getD 0 0==1) with
   | true=>rw[beq_iff_eq] at hh; rw[hh]; rfl
   | false=>rfl
 ·have e3:ar n=3:=by rw[yI h]; rfl
  refine Eq.trans (b:=bif idx 0 l.length then oB (zA.sh F (get (.int .i64) l 0)) fun c_3=>bif c_3.1.1 then bif (zJ l.length (some 1) none).1 then oB (zy.sh F ((l.take (zJ l.length (some 1) none).2.2).drop (zJ l.length (some 1) none).2.1)) fun c_6=>(some ((c_6.1.1,()),()):Option yv.sg.R) else none else some (((-1),()),()) else none) ?_ ?_
  ·unfold yv.sh; rw[show n.1=_ from h]; rfl
  ·have hb:=qZ (n:=l.length) (i:=1) (by omega)
   rw[show ((1:Nat):Int)=1 from rfl] at hb;rw[e2,cnt,hb];simp only[List.take_length];rw[zal F hF (l:=l.drop 1) (by simp; omega) (by simp; omega)];unfold tyN; rw[h];show (bif vS (l.getD 0 0) then some ((qk (l.drop 1),()),()) else some (((-1),()),()))=some ((bif vS (l.getD 0 0) then qk (l.drop 1) else -1,()),());cases vS (l.getD 0 0)<;>rfl
def YI:Nat->List Tree->List Int
 | _,[]=>[]
 | b,t::r=>((b+t.size-1:Nat):Int)::YI (b+t.size) r
theorem Rs:∀(a c:List Tree) (b:Nat),YI b (a++c)=YI b a++YI (b+(zS a).length) c
 | [],c,b=>by simp[YI,zS]
 | t::r,c,b=>by
  simp only[cons_append,YI,Rs r c,vN,length_append];rw[show b+t.size+(zS r).length=b+(t.flat.length+(zS r).length) by unfold Tree.size; omega]
theorem Yx (l:List Tree):(vW l).length=(zS l).length:=by
 simp only[vW,zS,length_flatten,map_map];congr 1
 exact map_congr_left (fun k _=>ZS k)
theorem Vr {t:Ty} (f:Tree->t.T) (B C:List Tree) (x:Tree) (rest:List t.T):get t ((vW (B++x::C)).map f++rest) ((zS B).length+x.size-1)=f x:=by
 obtain ⟨l,hl⟩:=VK x;have h1:=Yx B;have h2:=ZS x;rw[hl] at h2;have e:vW (B++x::C)=vW B++l++x::vW C:=by
  rw[Yy,show x::C=[x]++C from rfl,Yy,ZI,hl]; simp
 unfold get;rw[e,getD_eq_getElem?_getD,map_append,map_cons,append_assoc];rw[List.getElem?_append_right (by simp only[length_map,length_append]; unfold Tree.size; simp at h2; omega)];have:(zS B).length+x.size-1-((vW B++l).map f).length=0:=by
  simp only[length_map,length_append]; unfold Tree.size; simp at h2; omega
 rw[this]; rfl
theorem zbG (hF:4096<F) (K:List Bool->Int->List Int->zO.T->List Int->List Int->Option R) (p:zO.T) (fix:List Bool) (i:Int) (B:List Tree) (out:List Int):∀(m:Nat) (ks done:List Tree) (post:List za.T) (wh:List Int) (fu:Nat),ks.length=m->(∀t∈ks,TG t)->p.2.2.2=zS (B++ks++done)++post->
  out=(vW (B++ks++done)).map ty->(zS (B++ks++done)).length<=2048->done.length<=2048->wh.length<=2048->ks.length<fu->ks.length+wh.length<=2048->ks.length+done.length<=2048->
  zk.l13 F (fun fix i kids _ _ _ p out wh=>K fix i kids p out wh) fu fix i (done.map ty) (((zS (B++ks)).length:Int)-1) (ks.length:Int) p out wh=K fix i (ks.map ty++done.map ty) p out (wh++(YI (zS B).length ks).reverse):=by
 intro m;induction m with
 | zero =>
  intro ks done post wh fu hm hT h ho hl hdl hwl hf _ _;obtain rfl:=eq_nil_of_length_eq_zero hm;obtain ⟨fu,rfl⟩:∃j,fu=j+1:=⟨fu-1,by simp at hf; omega⟩;simp[zk.l13,zk.l13.y,YI]
 | succ m ih =>
  intro ks done post wh fu hm hT h ho hl hdl hwl hf hkw hkd;obtain ⟨fu,rfl⟩:∃j,fu=j+1:=⟨fu-1,by omega⟩;rcases List.eq_nil_or_concat ks with rfl | ⟨init,last,hks⟩
  ·simp at hm
  ·rw[List.concat_eq_append] at hks
   subst hks;simp only[length_append,length_cons,length_nil] at hm hf hkw hkd;have hfl:zS (B++(init++[last]))=zS (B++init)++last.flat:=by rw[<-append_assoc,ud,u7]
   have hsz:(zS (B++(init++[last]))).length=(zS (B++init)).length+last.size:=by rw[hfl,length_append]; rfl
   have hpos:=qE last;have hre:B++(init++[last])++done=(B++init)++last::done:=by simp
   have hre2:B++(init++[last])++done=B++init++([last]++done):=by simp
   rw[hre] at ho;have hfd:(zS (B++(init++[last])++done)).length=(zS (B++init)).length+last.size+(zS done).length:=by
    rw[ud,length_append,hsz]
   have hol:out.length=(zS (B++(init++[last])++done)).length:=by rw[ho,length_map,Yx,hre]
   have epl:((zS (B++(init++[last]))).length:Int)-1=(((zS (B++init)).length+last.size-1:Nat):Int):=by omega
   have e1:idx (((zS (B++init)).length+last.size-1:Nat):Int) out.length=true:=xS (by omega);have e2:get (.int .i64) out ((zS (B++init)).length+last.size-1)=ty last:=by
    have:=Vr (t:=.int .i64) ty (B++init) done last [];rw[append_nil] at this;rw[ho]; exact this
   have efirst:=SL F hF (hT last (by simp)) (p:=p) (a:=zS (B++init)) (post:=zS done++post) (by
    rw[h,hre,show last::done=[last]++done from rfl]; simp only[ud,u7]; simp) (by omega)
   rw[show ((zS (B++init)).length:Int)+(last.size:Int)-1=(((zS (B++init)).length+last.size-1:Nat):Int) by omega] at efirst;have IH:=ih init ([last]++done) post (wh++[(((zS (B++init)).length+last.size-1:Nat):Int)]) fu (by omega) (fun t ht=>hT t (by simp[ht])) (by rw[h,hre2]) (by rw[ho,<-hre,hre2]) (by rw[<-hre2]; exact hl) (by simp; omega) (by simp; omega) (by omega) (by simp; omega) (by simp; omega);simp only[zk.l13,zk.l13.y,length_append,length_cons,length_nil,decide_eq_true (show (((init.length+(0+1):Nat)):Int)>0 by omega),cond_true,epl,e1,Int.toNat_natCast,e2];rw[uq (show 0+1+(done.map ty).length<=4194304 by simp; omega),uq (show wh.length+(0+1)<=4194304 by omega),efirst];simp only[cond_true,zh];rw[yz (n:=((zS (B++init)).length:Int)-1) (by omega) (by omega),yz (n:=(((init.length+(0+1):Nat)):Int)-1) (by omega) (by omega),show (((init.length+(0+1):Nat)):Int)-1=(init.length:Int) by omega];rw[show ([ty last]:List Int)++done.map ty=([last]++done).map ty from rfl];refine IH.trans ?_;rw[Rs];simp only[YI,List.reverse_append,List.reverse_cons,List.reverse_nil,nil_append,map_append,map_cons,map_nil,append_assoc,singleton_append];rw[ud,length_append]
theorem zdD (hF:4096<F) (hd:dims<=4) (kE:List Int->Int->Int->Option R) (kO:List Int->Option R) (p:zO.T) (hL:p.2.2.2.length<=1024) (fix:List Bool):∀(xs:List za.T) (st:List Tree) (rest:List Bool) (fu:Nat),p.2.2.2=zS st++xs->okS dims st xs->(∀t∈st,TG t)->fix=(vW st).map noQ++rest->rest.length=xs.length->rest=(news st xs).map noQ->xs.length<fu->
  zk.l7 F kE kE (fun _ _ _ _ out=>kO out) fu fix ((zS st).length:Int) p ((vW st).map ty) =
   match ve tyE (news st xs) (zS st).length with
   | some (j,e)=>kE [] (j:Int) e
   | none=>kO ((vW (tW st xs)).map ty):=by
 intro xs;induction xs with
 | nil =>
  intro st rest fu h ho hT hfix hrl hre hf;obtain ⟨fu,rfl⟩:∃j,fu=j+1:=⟨fu-1,by simp at hf; omega⟩;have:p.2.2.2.length=(zS st).length:=by rw[h]; simp
  simp only[zk.l7,zk.l7.y,decide_eq_false (show ¬(((zS st).length:Int)<(p.2.2.2.length:Int)) by omega),cond_false,news,ve,tW]
 | cons n xs ih =>
  intro st rest fu h ho hT hfix hrl hre hf;obtain ⟨fu,rfl⟩:∃j,fu=j+1:=⟨fu-1,by simp at hf; omega⟩;have hlen:p.2.2.2.length=(zS st).length+(xs.length+1):=by rw[h]; simp
  obtain ⟨g1,g2,g3,g4,g5,g6,g7,g8⟩:=wD ho.1;have ha:=Xq g1 g4;have hst:=vo st;have hfs:=vQ st n;have hfl:=congrArg List.length hfs;simp only[length_append,length_cons,length_nil] at hfl;have hsub:=Tl st n;have hnews:news st (n::xs)=wH st n::news (w9 st n) xs:=rfl;rw[hnews] at hre;cases rest with
  | nil=>simp at hrl
  | cons r0 rest =>
  simp only[map_cons,List.cons.injEq] at hre;obtain ⟨hr0,hre⟩:=hre;subst hr0;have IH:=ih (w9 st n) rest fu (by rw[hfs,h]; simp) ho.2 (Q8 hT ho.1) (by rw[hfix,hsub]; simp) (by simp at hrl; omega) hre (by simp at hf; omega);rw[hfl,show (((zS st).length+(0+1):Nat):Int)=((zS st).length:Int)+1 by omega,hsub] at IH;obtain ⟨e1,e2⟩:=Ur h rfl;have htd:st.take (st.length-ar n)++st.drop (st.length-ar n)=st:=take_append_drop _ _;have hkl:(st.drop (st.length-ar n)).length=ar n:=by simp; omega
  have e13:=zbG F hF (fun fix5 i5 kids5 p5 out5 where_5=>bif idx i5 p5.2.2.2.length then oB (yv.sh F (get za p5.2.2.2 i5.toNat) kids5) fun c_6 =>
    bif (c_6.1.1==(-1)) then kE ([]) i5 80
    else bif idx i5 p5.2.2.2.length then bif ((get za p5.2.2.2 i5.toNat).1==8) then bif idx 0 where_5.length then bif idx (get (.int .i64) where_5 0) fix5.length then bif !(get .bool fix5 ((get (.int .i64) where_5 0).toNat)) then bif idx 1 where_5.length then bif idx (get (.int .i64) where_5 1) fix5.length then bif !(get .bool fix5 ((get (.int .i64) where_5 1).toNat)) then kE ([]) i5 81
           else bif Nat.ble (out5.length+([c_6.1.1]:List Int).length) wF then zk.l7 F kE kE (fun _ _ _ _ out=>kO out) fu fix5 (i64.wrap (i5+1)) p5 (out5++([c_6.1.1]:List Int))
           else none
          else none
         else none
        else bif Nat.ble (out5.length+([c_6.1.1]:List Int).length) wF then zk.l7 F kE kE (fun _ _ _ _ out=>kO out) fu fix5 (i64.wrap (i5+1)) p5 (out5++([c_6.1.1]:List Int))
        else none
       else none
      else none
     else bif Nat.ble (out5.length+([c_6.1.1]:List Int).length) wF then zk.l7 F kE kE (fun _ _ _ _ out=>kO out) fu fix5 (i64.wrap (i5+1)) p5 (out5++([c_6.1.1]:List Int))
     else none
    else none
   else none) p fix ((zS st).length:Int) (st.take (st.length-ar n)) ((vW st).map ty) (ar n) (st.drop (st.length-ar n)) [] (n::xs) [] F hkl (fun t ht=>hT t (mem_of_mem_drop ht)) (by rw[append_nil,htd]; exact h) (by rw[append_nil,htd]) (by rw[append_nil,htd]; omega) (by simp) (by simp) (by omega) (by simp; omega) (by simp; omega)
  rw[hkl,htd] at e13;have ht:=zdE F (by omega) hd ho.1 (l:=(st.drop (st.length-ar n)).map ty) (by simp; omega);have hty:tyN n ((st.drop (st.length-ar n)).map ty)=ty (wH st n):=by unfold wH; rw[qR]
  rw[hty] at ht;have hE:tyE (wH st n)=bif ty (wH st n) == -1 then 80 else bif WP n ((st.drop (st.length-ar n)).map noQ) then 81 else 0:=rfl
  have hol:((vW st).map ty).length=(zS st).length:=by rw[length_map,Yx]
  have hble:∀y,Nat.ble (((vW st).map ty).length+([y]:List Int).length) wF=true:=fun y=>uq (by rw[hol]; simp; omega)
  simp only[zk.l7,zk.l7.y,decide_eq_true (show (((zS st).length:Int)<(p.2.2.2.length:Int)) by omega),cond_true,e1,Int.toNat_natCast,e2];rw[ZK F g1 g4,yz (n:=((zS st).length:Int)-1) (by omega) (by omega)];simp only[zh];refine e13.trans ?_;simp only[nil_append,map_nil,append_nil,e1,e2,cond_true,Int.toNat_natCast];rw[ht];simp only[zh,hble,cond_true,yz (n:=((zS st).length:Int)+1) (show -9223372036854775808<=((zS st).length:Int)+1 by omega) (by omega),hnews,ve,hE];have hgo:zk.l7 F kE kE (fun _ _ _ _ out=>kO out) fu fix (((zS st).length:Int)+1) p ((vW st).map ty++[ty (wH st n)])=match ve tyE (news (w9 st n) xs) ((zS st).length+1) with
   | some (j,e)=>kE [] (j:Int) e
   | none=>kO ((vW (tW st (n::xs))).map ty):=by
   have:=IH;rw[map_append] at this;exact this
  cases hn:(ty (wH st n) == -1) with
  | true=>rfl
  | false =>
   simp only[cond_false];rw[show (n.1==8)=(nK n==8) from rfl];unfold WP;cases h8:(nK n==8) with
   | false=>exact hgo
   | true =>
    have ha2:ar n=2:=by rw[yI (by simpa using h8)]; rfl
    rw[ha2] at hkl htd ⊢;cases hks:st.drop (st.length-2) with
    | nil=>rw[hks] at hkl; simp at hkl
    | cons k0 l1 =>
    cases l1 with
    | nil=>rw[hks] at hkl; simp at hkl
    | cons k1 l2 =>
    cases l2 with
    | cons k2 l3=>rw[hks] at hkl; simp at hkl
    | nil =>
     rw[hks] at htd;generalize st.take (st.length-2)=B at*;have hp0:=qE k0;have hp1:=qE k1;have hfB:(zS st).length=(zS B).length+k0.size+k1.size:=by
      rw[<-htd,ud,vN,u7]; simp[Tree.size]; omega
     have hfxl:fix.length=(zS st).length+(xs.length+1):=by
      rw[hfix]; simp only[length_append,length_map,Yx,length_cons]; simp at hrl; omega
     have w0:get (.int .i64) ((YI (zS B).length [k0,k1]).reverse) 0=(((zS B).length+k0.size+k1.size-1:Nat):Int):=rfl;have w1:get (.int .i64) ((YI (zS B).length [k0,k1]).reverse) 1=(((zS B).length+k0.size-1:Nat):Int):=rfl;have f0:get .bool fix ((zS B).length+k0.size+k1.size-1)=noQ k1:=by
      have:=Vr (t:=.bool) noQ (B++[k0]) [] k1 (noQ (wH st n)::rest);rw[show B++[k0]++[k1]=st by rw[<-htd]; simp] at this;rw[show (zS (B++[k0])).length=(zS B).length+k0.size by rw[ud,u7]; simp[Tree.size]] at this;rw[hfix]; exact this
     have f1:get .bool fix ((zS B).length+k0.size-1)=noQ k0:=by
      have:=Vr (t:=.bool) noQ B [k1] k0 (noQ (wH st n)::rest);rw[htd] at this;rw[hfix]; exact this
     have i0:idx 0 (YI (zS B).length [k0,k1]).reverse.length=true:=rfl;have i1:idx 1 (YI (zS B).length [k0,k1]).reverse.length=true:=rfl;have i2:idx (((zS B).length+k0.size+k1.size-1:Nat):Int) fix.length=true:=xS (by omega);have i3:idx (((zS B).length+k0.size-1:Nat):Int) fix.length=true:=xS (by omega);simp only[i0,i1,w0,w1,i2,i3,Int.toNat_natCast,f0,f1,cond_true,map_cons,map_nil,Bool.true_and];rw[show ([noQ k0,noQ k1]:List Bool).getD 0 false=noQ k0 from rfl,show ([noQ k0,noQ k1]:List Bool).getD 1 false=noQ k1 from rfl];cases noQ k1 with
     | true=>cases noQ k0<;>exact hgo
     | false =>
      cases noQ k0 with
      | true=>exact hgo
      | false=>rfl
theorem Rb (hF:4096<F) (h:Good p t):zk.sh F p=some (((td t).1,(td t).2.1,(td t).2.2,()),()):=by
 unfold zk.sh;rw[VV F (by omega),h.check,Vg F hF h];simp only[zh,bne_self_eq_false,cond_false];have hl:=h.len;have hn:t.subs.length=p.2.2.2.length:=by rw[ZS,h.flat]
 have hs:t.size=p.2.2.2.length:=by rw[Tree.size,h.flat]
 have hp:=qE t;have e:=zdD F hF (tg h.head).2.1 (fun r27 r37 r47=>(some ((r27,r37,r47,()),()):Option zk.sg.R)) (fun out9=>zk.j24 F (fun r210 r310 r410=>some ((r210,r310,r410,()),())) (fun r211 r311 r411=>some ((r211,r311,r411,()),())) out9) p hl (t.subs.map noQ) p.2.2.2 [] (t.subs.map noQ) F (by simp[zS]) h.ok (by simp) (by simp[vW]) (by simpa using hn) (by rw[h.subs]) (by omega);rw[h.subs,h.eq,show (zS []).length=0 from rfl,show ((0:Nat):Int)=0 from rfl] at e;refine Eq.trans e ?_;unfold td;cases ve tyE t.subs 0 with
 | some x=>rfl
 | none =>
  simp only[];unfold zk.j24;obtain ⟨l,hsl⟩:=VK t;have hll:(t.subs.map ty).length=t.size:=by rw[length_map,hn,hs]
  rw[ZI,hll,yz (n:=(t.size:Int)-1) (by omega) (by omega),show (t.size:Int)-1=((t.size-1:Nat):Int) by omega,xS (by omega),Int.toNat_natCast];have hg:get (.int .i64) (t.subs.map ty) (t.size-1)=ty t:=by
   have:=Vr (t:=.int .i64) ty [] [] t [];rw[append_nil,nil_append,ZI,show (zS []).length=0 from rfl,Nat.zero_add] at this;exact this
  rw[hg];cases (ty t != 1)<;>rfl
def NR (r:zg.T) (v:Int):Prop:=0<=v/\wfW r.1/\((r.2=true/\170141183460469231731687303715884105728<=v)\/(r=(mk v,false)/\v<170141183460469231731687303715884105728))
theorem NR.ok (h1:0<=v) (h2:v<170141183460469231731687303715884105728):NR (mk v,false) v:=⟨h1,wu (by rw[yB]; omega),.inr ⟨rfl,h2⟩⟩
theorem NR.of (h:0<=v):NR (uA v,ui v != 0) v:=by
 refine ⟨h,Yf v,?_⟩;rcases Wo h with ⟨i,b⟩ | ⟨i,b⟩
 ·rw[(vH i).1,(vH i).2]; exact .inr ⟨rfl,b⟩
 ·exact .inl ⟨We i,b⟩
theorem ZX (h1:-9223372036854775808<=v) (h2:v<9223372036854775808):yr.sh F v=some (((mk v,false),()),()):=by
 unfold yr.sh;rw[uW F h1 h2];rfl
theorem V5 (hF:20<F) (h1:0<=x) (h2:x<170141183460469231731687303715884105728) {b:zg.T} (hb:NR b y) (hx:1<=x\/b.2=false):∃r,yQ.sh F (mk x,false) b=some ((r,()),())/\NR r (x*y):=by
 obtain ⟨b1,b2,b3⟩:=hb;have hxy:=Int.mul_nonneg h1 b1;unfold yQ.sh;rw[Qh F hF (wu (by rw[yB]; omega)) b2];simp only[zh,cond_false];rcases b3 with ⟨c1,c2⟩ | ⟨rfl,c2⟩
 ·rw[c1]
  refine ⟨_,rfl,hxy,Yf _,.inl ⟨rfl,?_⟩⟩;rcases hx with hx | hx
  ·have:=V6 hx b1; omega
  ·rw[c1] at hx; cases hx
 ·simp only[xR,cond_false]
  exact ⟨_,rfl,NR.of hxy⟩
theorem XJ (hF:20<F) {a b:zg.T} (ha:NR a x) (hb:NR b y):∃r,yC.sh F a b=some ((r,()),())/\NR r (x+y):=by
 obtain ⟨a1,a2,a3⟩:=ha;obtain ⟨b1,b2,b3⟩:=hb;unfold yC.sh;rw[Ql F hF a2 b2];simp only[zh];rcases a3 with ⟨c1,c2⟩ | ⟨rfl,c2⟩
 ·rw[c1]
  exact ⟨_,rfl,by omega,Yf _,.inl ⟨rfl,by omega⟩⟩
 ·rcases b3 with ⟨d1,d2⟩ | ⟨rfl,d2⟩
  ·rw[d1]
   exact ⟨_,rfl,by omega,Yf _,.inl ⟨rfl,by omega⟩⟩
  ·simp only[xR,cond_false]
   exact ⟨_,rfl,NR.of (by omega)⟩
theorem NR.small {r:zg.T} (h:NR r v) (hv:v<170141183460469231731687303715884105728):r=(mk v,false):=by
 rcases h.2.2 with ⟨_,h⟩ | ⟨h,_⟩
 ·omega
 ·exact h
theorem nfar_eq (h1:-1000000000000<=v) (h2:v<=1000000000000):xx.sh F v=some ((ta v,()),()):=by
 unfold xx.sh ta;rw[yz (n:=0-v) (by omega) (by omega)];by_cases h:v<0
 ·rw[decide_eq_true h,if_pos (by omega)]; rfl
 ·rw[decide_eq_false h,if_neg (by omega)]; rfl
theorem V1 (F:Nat) (hF:20<F) {R:Type} (k:List yp.T->Int->zg.T->zg.T->zg.T->Option R) (L:List yp.T) (unit x r6:zg.T) (hL:L.length<=16):∀(xs:List yp.T) (i:Nat) (rate w lo:Int),L.drop i=xs->-1<=lo->UV lo xs->0<=w->w+xs.length*1000000000000000000000000<=20000000000000000000000000->
  zE.l4.rg F (fun l r _ _ unit x _ w=>k l r unit x w) L xs (i:Int) rate unit x r6 (mk w,false)=k L (vz rate xs) unit x (mk (w+v8 xs),false)
 | [],i,rate,w,lo,h,hlo,hi,hw,hw2=>by simp only[zE.l4.rg,vz,v8,List.foldl_nil,Int.add_zero]
 | a::r,i,rate,w,lo,h,hlo,hi,hw,hw2=>by
  have ⟨a1,a2,a3,a4,a5⟩:=hi;have h0:=vc h;simp only[length_cons] at hw2;push_cast at hw2;have hf:=U7 (v:=tR a) (by omega) (by omega);have hlen:=congrArg List.length h;simp only[length_drop,length_cons] at hlen;simp only[zE.l4.rg];rw[show xx.sh F a.2=_ from nfar_eq F (v:=tR a) (by omega) (by omega),yz (n:=(L.length:Int)-1) (by omega) (by omega),yz (n:=(i:Int)+1) (by omega) (by omega)];simp only[zh,cond_true];have hfin:∀(w':Int),(∀rt,zE.l4.rg F (fun l r _ _ unit x _ w=>k l r unit x w) L r ((i:Int)+1) rt unit x r6 (mk w',false)=k L (vz rt r) unit x (mk (w+v8 (a::r)),false))->
    (bif decide (ta (tR a)>rate) then zE.l4.rg F (fun l r _ _ unit x _ w=>k l r unit x w) L r ((i:Int)+1) (ta (tR a)) unit x r6 (mk w',false) else zE.l4.rg F (fun l r _ _ unit x _ w=>k l r unit x w) L r ((i:Int)+1) rate unit x r6 (mk w',false)) =
     k L (vz rate (a::r)) unit x (mk (w+v8 (a::r)),false):=by
   intro w' hh;rw[hh,hh,show vz rate (a::r)=vz (if ta (tR a)>rate then ta (tR a) else rate) r from rfl];by_cases hr:ta (tR a)>rate
   ·rw[decide_eq_true hr,if_pos hr]; rfl
   ·rw[decide_eq_false hr,if_neg hr]; rfl
  cases r with
  | nil =>
   simp only[length_nil] at hlen;rw[decide_eq_false (show ¬((i:Int)<(L.length:Int)-1) by omega)];simp only[cond_false];refine hfin w (fun rt=>?_);have:=V1 F hF k L unit x r6 hL [] (i+1) rt w (tF a) (wz h) (by omega) trivial hw (by simp; omega);rw[wd] at this;exact this
  | cons b r =>
   simp only[length_cons] at hlen;rw[decide_eq_true (show ((i:Int)<(L.length:Int)-1) by omega)];obtain ⟨b1,b2,b3,b4,b5⟩:=a5;have hg:get yp L (Int.toNat ((i:Int)+1))=b:=by
    rw[<-wd]; exact vv (wz h)
   have hid:idx ((i:Int)+1) L.length=true:=Y4 (by omega) (by omega);have hp:=qV hf.1 hf.2 (show 0<=tF b-tF a by omega) (show tF b-tF a<=1000000000000 by omega);rw[show (1000000000000:Int)*1000000000000=1000000000000000000000000 by decide] at hp;simp only[cond_true];rw[ZX F (v:=ta (tR a)) (by omega) (by omega),hid,hg,show i64.wrap (b.1-a.1)=tF b-tF a from yz (n:=tF b-tF a) (by omega) (by omega),ZX F (v:=tF b-tF a) (by omega) (by omega)];simp only[zh,cond_true];obtain ⟨r1,q1,q2⟩:=V5 F hF (x:=ta (tR a)) (y:=tF b-tF a) (by omega) (by omega) (NR.ok (by omega) (by omega)) (.inr rfl);obtain rfl:=q2.small (by omega);rw[q1];simp only[zh];obtain ⟨r2,q3,q4⟩:=XJ F hF (NR.ok hw (by omega)) (NR.ok (v:=ta (tR a)*(tF b-tF a)) (by omega) (by omega));obtain rfl:=q4.small (by omega);rw[q3];simp only[zh];refine hfin _ (fun rt=>?_);have:=V1 F hF k L unit x r6 hL (b::r) (i+1) rt (w+ta (tR a)*(tF b-tF a)) (tF a) (wz h) (by omega) ⟨b1,b2,b3,b4,b5⟩ (by omega) (by simp only[length_cons]; push_cast; simp only[length_cons] at hw2; push_cast at hw2; omega);rw[wd] at this;rw[this,Int.add_assoc];rfl
theorem Ri (hF:64<F) (hu:1<=u) (hu2:u<=1000000000000000000000000) (hx:0<=x) (hx2:x<=BND) {l:List yp.T} (hl:Zg l=true) :
  ∃r,zE.sh F (mk u,false) (mk x,false) l=some ((r,()),())/\NR r (qF u x l):=by
 obtain ⟨l1,l2,l3⟩:=tZ hl;have hBND:BND=1329227995784915872903807060280344576:=rfl;have hlast:=Zn l (-1) (by omega) l3;have hrate:=XE l 0 (-1) (by omega) (by omega) l3;have hways:=qC l (-1) (by omega) l3;unfold zE.sh;rw[ZX F (v:=0) (by omega) (by omega)];simp only[zh];have e1:=fun k0=>zE.l4.rq (R:=zE.sg.R) F k0 l (by omega) l 0 F 0 (mk u,false) (mk x,false) ((0,0),false) (mk 0,false) (by simp) (by omega)
 have e2:=V1 F (by omega) (fun l14 r14 unit14 x14 w14=>oB (yr.sh F r14) fun c_15 =>
 bif idx (i64.wrap ((l14.length:Int)-1)) l14.length then oB (yr.sh F (get yp l14 ((i64.wrap ((l14.length:Int)-1)).toNat)).1) fun c_16 =>
  oB (yC.sh F x14 c_16.1.1) fun c_17 =>
  oB (yQ.sh F c_15.1.1 c_17.1.1) fun c_18 =>
  oB (yC.sh F c_18.1.1 w14) fun c_19 =>
  oB (yQ.sh F unit14 c_19.1.1) fun c_20 =>
  (some ((c_20.1.1,()),()):Option zE.sg.R)
 else none) l (mk u,false) (mk x,false) ((0,0),false) l2 l 0 0 0 (-1) (by simp) (by omega) l3 (by omega) (by omega)
 rw[show ((0:Nat):Int)=0 from rfl] at e1 e2;rw[e1,e2];rw[ZX F (v:=vz 0 l) (by omega) (by omega),yz (n:=(l.length:Int)-1) (by omega) (by omega),show ((l.length:Int)-1)=((l.length-1:Nat):Int) by omega,xS (by omega),Int.toNat_natCast,show (get yp l (l.length-1)).1=vL l from Ua l l1,ZX F (v:=vL l) (by omega) (by omega)];simp only[zh,cond_true,Int.zero_add];unfold qF;generalize vL l=lf at*;generalize vz 0 l=rt at*;generalize v8 l=ws at*;obtain ⟨r1,q1,n1⟩:=XJ F (by omega) (NR.ok hx (by omega)) (NR.ok hlast.1 (by omega));rw[q1];simp only[zh];obtain rfl:=n1.small (by omega);obtain ⟨r2,q2,n2⟩:=V5 F (by omega) (x:=rt) (y:=x+lf) (by omega) (by omega) n1 (.inr rfl);rw[q2];simp only[zh];obtain ⟨r3,q3,n3⟩:=XJ F (by omega) n2 (NR.ok hways.1 (by omega));rw[q3];simp only[zh];obtain ⟨r4,q4,n4⟩:=V5 F (by omega) (x:=u) (by omega) (by omega) n3 (.inl hu);rw[q4];simp only[zh];exact ⟨_,rfl,n4⟩
theorem zcU (F:Nat) (hF:20<F) {R:Type} (k:List zg.T->za.T->zg.T->Option R) (L:List zg.T) (n:za.T) (r8:zg.T):∀(vs:List Int) (i:Int) (s:zg.T) (sv:Int),(∀v∈vs,0<=v/\v<=BND)->NR s sv->
  ∃s',zz.l20.rg F (fun l _ _ n _ s=>k l n s) L (vs.map fun v=>(mk v,false)) i n r8 s=k L n s'/\NR s' (sv+vD vs)
 | [],i,s,sv,h,hs=>⟨s,rfl,by simp only[vD,List.sum_nil,Int.add_zero]; exact hs⟩
 | v::r,i,s,sv,h,hs=>by
  have hv:=h v (by simp);rw[qx] at hv;obtain ⟨s1,q1,n1⟩:=XJ F hF hs (NR.ok (v:=v) hv.1 (by omega));obtain ⟨s',q2,n2⟩:=zcU F hF k L n r8 r (i+1) s1 (sv+v) (fun y hy=>h y (by simp[hy])) n1;refine ⟨s',?_,?_⟩
  ·simp only[map_cons,zz.l20.rg]
   rw[q1];exact q2
  ·simp only[vD,sum_cons] at n2 ⊢
   rw[<-Int.add_assoc]; exact n2
theorem zft (hF:64<F) (hv:∀v∈vs,0<=v/\v<=BND) (hl:vs.length<=16) (hN:0<=nN n) (hN2:nN n<=1000000000000) :
  ∃r,zz.j18 F (fun r=>(some ((r,()),()):Option zz.sg.R)) (vs.map fun v=>(mk v,false)) n ((0,0),false)=some ((r,()),())/\NR r (bif nK n==11||(nK n==12||nK n==16) then vD vs+nN n else vD vs):=by
 unfold zz.j18;rw[ZX F (v:=0) (by omega) (by omega)];simp only[zh];have e1:=fun k0=>zz.l20.rq (R:=zz.sg.R) F k0 (vs.map fun v=>(mk v,false)) (by simp; omega) (vs.map fun v=>(mk v,false)) 0 F n ((0,0),false) (mk 0,false) (by simp) (by simp; omega)
 rw[show ((0:Nat):Int)=0 from rfl] at e1;rw[e1];obtain ⟨s',q1,n1⟩:=zcU F (by omega) (fun l11 n11 s11=>bif (n11.1==11) then oB (yr.sh F n11.2.1) fun c_12 =>
  oB (yC.sh F s11 c_12.1.1) fun c_13 =>
  (some ((c_13.1.1,()),()):Option zz.sg.R)
 else bif (n11.1==12) then oB (yr.sh F n11.2.1) fun c_14 =>
  oB (yC.sh F s11 c_14.1.1) fun c_15 =>
  some ((c_15.1.1,()),())
 else bif (n11.1==16) then oB (yr.sh F n11.2.1) fun c_16 =>
  oB (yC.sh F s11 c_16.1.1) fun c_17 =>
  some ((c_17.1.1,()),())
 else some ((s11,()),())) (vs.map fun v=>(mk v,false)) n ((0,0),false) vs 0 (mk 0,false) 0 hv (NR.ok (by omega) (by omega))
 rw[Int.zero_add] at n1;obtain ⟨s2,q2,n2⟩:=XJ F (by omega) n1 (NR.ok (v:=nN n) hN (by omega));have hof:=ZX F (v:=nN n) (by omega) (by omega);have key:(oB (yr.sh F n.2.1) fun c_12=>oB (yC.sh F s' c_12.1.1) fun c_13=>(some ((c_13.1.1,()),()):Option zz.sg.R))=some ((s2,()),()):=by
  rw[show yr.sh F n.2.1=_ from hof];simp only[zh];rw[q2];rfl
 rw[q1];simp only[];rw[key];rw[show (n.1==11)=(nK n==11) from rfl,show (n.1==12)=(nK n==12) from rfl,show (n.1==16)=(nK n==16) from rfl];cases (nK n==11) with
 | true=>exact ⟨_,rfl,n2⟩
 | false =>
  cases (nK n==12) with
  | true=>exact ⟨_,rfl,n2⟩
  | false =>
   cases (nK n==16) with
   | true=>exact ⟨_,rfl,n2⟩
   | false=>exact ⟨_,rfl,n1⟩
theorem Vs (hi:i<l.length):get zg (l.map fun v=>(mk v,false)) i=(mk (l.getD i 0),false):=by
 unfold get;rw[getD_eq_getElem?_getD,getD_eq_getElem?_getD,List.getElem?_map,List.getElem?_eq_getElem hi];rfl
theorem zbT (h1:1<=s) (h2:s<=1000000000000):y9.sh F 1099511627776 s=some ((tK 1099511627776 s,()),()):=by
 have hq1:0<=1099511627776/s:=Int.ediv_nonneg (by omega) (by omega);have hq2:1099511627776/s<=1099511627776:=Int.ediv_le_self _ (by omega);unfold y9.sh tK;rw[show (s != 0)=true from bne_iff_ne.2 (by omega),Int.tdiv_eq_ediv_of_nonneg (by omega),Int.tmod_eq_emod_of_nonneg (by omega),yz (n:=1099511627776/s) (by omega) (by omega),yz (n:=1099511627776/s+1) (by omega) (by omega)];simp only[cond_true];by_cases hz:1099511627776%s=0
 ·rw[hz,if_pos rfl,Int.add_zero]; rfl
 ·rw[show (1099511627776%s != 0)=true from bne_iff_ne.2 hz,if_neg hz]; rfl
theorem nmag_eq (hF:64<F) (hu:1<=u) (hu2:u<=1000000000000000000000000) (hD:dE [] p.2.1=0) (hd4:p.2.1.length<=4) (hn:vA p.2.1.length n pile=0)
  (hl:vs.length=ar n) (hv:∀v∈vs,0<=v/\v<=BND):∃r,zz.sh F p n (mk u,false) (vs.map fun v=>(mk v,false))=some ((r,()),())/\NR r (xJ u p.2.1 n vs):=by
 obtain ⟨g1,g2,g3,g4,g5,g6,g7,g8⟩:=wD hn;have ha:=Xq g1 g4;have hN2:=Y0 hd4 g3 g1;have hof:=ZX F (v:=nN n) (by omega) (by omega);have hsum:∀k:Int,nK n=k->(k=6\/k=7\/k=9\/k=10\/k=11\/k=12\/k=16)->∃r,zz.sh F p n (mk u,false) (vs.map fun v=>(mk v,false))=some ((r,()),())/\NR r (xJ u p.2.1 n vs):=by
  intro k h hk;obtain ⟨r,q1,q2⟩:=zft F hF (n:=n) hv (by omega) g2 hN2;have hm:xJ u p.2.1 n vs=bif nK n==11||(nK n==12||nK n==16) then vD vs+nN n else vD vs:=by
   unfold xJ;rw[h];rcases hk with rfl | rfl | rfl | rfl | rfl | rfl | rfl<;>rfl
  rw[<-hm] at q2;refine ⟨r,Eq.trans ?_ q1,q2⟩;unfold zz.sh;rw[show n.1=k from h];rcases hk with rfl | rfl | rfl | rfl | rfl | rfl | rfl<;>rfl
 rcases ug g1 with h | h | h | h | h | h | h | h | h | h | h | h | h | h | h | h
 ·refine ⟨_,?_,show NR (mk (nN n),false) _ from ?_⟩
  ·refine Eq.trans (b:=oB (yr.sh F (nN n)) fun c_1=>some ((c_1.1.1,()),())) ?_ (by rw[hof]; rfl)
   unfold zz.sh; rw[show n.1=_ from h]; rfl
  ·rw[show xJ u p.2.1 n vs=nN n by unfold xJ; rw[h]; rfl]
   exact NR.ok g2 (by omega)
 ·obtain ⟨r,q1,q2⟩:=V5 F (by omega) (x:=nN n) (y:=u) g2 (by omega) (NR.ok (by omega) (by omega)) (.inr rfl)
  refine ⟨r,?_,by rw[show xJ u p.2.1 n vs=nN n*u by unfold xJ; rw[h]; rfl]; exact q2⟩;refine Eq.trans (b:=oB (yr.sh F (nN n)) fun c_2=>oB (yQ.sh F c_2.1.1 (mk u,false)) fun c_3=>some ((c_3.1.1,()),())) ?_ (by rw[hof]; simp only[zh]; rw[q1]; rfl);unfold zz.sh; rw[show n.1=_ from h]; rfl
 ·refine ⟨_,?_,show NR (mk 1099511627776,false) _ from ?_⟩
  ·refine Eq.trans (b:=oB (yr.sh F 1099511627776) fun c_1=>some ((c_1.1.1,()),())) ?_ (by rw[ZX F (v:=1099511627776) (by omega) (by omega)]; rfl)
   unfold zz.sh; rw[show n.1=_ from h]; rfl
  ·rw[show xJ u p.2.1 n vs=1099511627776 by unfold xJ; rw[h]; rfl]
   exact NR.ok (by omega) (by omega)
 ·have hNd:nN n<=(p.2.1.length:Int)-1:=by have:=g3; rw[uU h] at this; exact this
  have hi:(nN n).toNat<p.2.1.length:=by omega
  have hsz:1<=dS (p.2.1.getD (nN n).toNat (ByteArray.empty,0))/\dS (p.2.1.getD (nN n).toNat (ByteArray.empty,0))<=1000000000000:=by
   rw[getD_eq_getElem?_getD,List.getElem?_eq_getElem hi];exact X2 p.2.1 [] hD _ (getElem_mem _)
  have hc:=Sx hsz.1;have hid:idx (nN n) p.2.1.length=true:=Y4 (by omega) (by omega);refine ⟨_,?_,show NR (mk (tK 1099511627776 (dS (p.2.1.getD (nN n).toNat (ByteArray.empty,0)))),false) _ from ?_⟩
  ·refine Eq.trans (b:=bif idx (nN n) p.2.1.length then oB (y9.sh F 1099511627776 (dS (p.2.1.getD (nN n).toNat (ByteArray.empty,0)))) fun c_5=>oB (yr.sh F c_5.1.1) fun c_6=>some ((c_6.1.1,()),()) else none) ?_ (by
    rw[hid,zbT F hsz.1 hsz.2];simp only[zh,cond_true];rw[ZX F (by omega) (by omega)]; rfl)
   unfold zz.sh; rw[show n.1=_ from h]; rfl
  ·rw[show xJ u p.2.1 n vs=tK 1099511627776 (dS (p.2.1.getD (nN n).toNat (ByteArray.empty,0))) by unfold xJ; rw[h]; rfl]
   exact NR.ok hc.1 (by omega)
 ·have e1:ar n=1:=by rw[yI h]; rfl
  match vs,hl with
  | [v],_ =>
   have hv0:=hv v (by simp);rw[qx] at hv0;refine ⟨(mk v,false),?_,?_⟩
   ·unfold zz.sh; rw[show n.1=_ from h]; rfl
   ·rw[show xJ u p.2.1 n [v]=vD [v] by unfold xJ; rw[h]; rfl,show vD [v]=v by simp[vD]]
    exact NR.ok hv0.1 (by omega)
  | [],hl=>rw[e1] at hl; simp at hl
  | _::_::_,hl=>rw[e1] at hl; simp at hl
 ·exact hsum 6 h (by decide)
 ·exact hsum 7 h (by decide)
 ·have e2:ar n=2:=by rw[yI h]; rfl
  have b0:=qq hv (i:=0) (by omega);have b1:=qq hv (i:=1) (by omega);rw[qx] at b0 b1;obtain ⟨r,q1,q2⟩:=V5 F (by omega) (x:=vs.getD 0 0) (y:=vs.getD 1 0) b0.1 (by omega) (NR.ok b1.1 (by omega)) (.inr rfl);refine ⟨r,?_,by rw[show xJ u p.2.1 n vs=vs.getD 0 0*vs.getD 1 0 by unfold xJ; rw[h]; rfl]; exact q2⟩;refine Eq.trans (b:=bif idx 0 (vs.map fun v=>(mk v,false)).length then bif idx 1 (vs.map fun v=>(mk v,false)).length then oB (yQ.sh F (get zg (vs.map fun v=>(mk v,false)) 0) (get zg (vs.map fun v=>(mk v,false)) 1)) fun c_7=>some ((c_7.1.1,()),()) else none else none) ?_ (by
   rw[Zq (n:=(vs.map fun v=>(mk v,false)).length) (by simp; omega),idx1 (n:=(vs.map fun v=>(mk v,false)).length) (by simp; omega),Vs (i:=0) (by omega),Vs (i:=1) (by omega)];simp only[cond_true];rw[q1]; rfl)
  unfold zz.sh; rw[show n.1=_ from h]; rfl
 ·exact hsum 9 h (by decide)
 ·exact hsum 10 h (by decide)
 ·exact hsum 11 h (by decide)
 ·exact hsum 12 h (by decide)
 ·have e1:ar n=1:=by rw[yI h]; rfl
  have b0:=qq hv (i:=0) (by omega);have ht:ue n=true:=by unfold ue tI; rw[h]; rfl
  obtain ⟨r,q1,q2⟩:=Ri F hF hu hu2 b0.1 b0.2 (g8 ht);refine ⟨r,?_,by rw[show xJ u p.2.1 n vs=qF u (vs.getD 0 0) (nT n) by unfold xJ; rw[h]; rfl]; exact q2⟩;refine Eq.trans (b:=bif idx 0 (vs.map fun v=>(mk v,false)).length then oB (zE.sh F (mk u,false) (get zg (vs.map fun v=>(mk v,false)) 0) (nT n)) fun c_7=>some ((c_7.1.1,()),()) else none) ?_ (by
   rw[Zq (n:=(vs.map fun v=>(mk v,false)).length) (by simp; omega),Vs (i:=0) (by omega)];simp only[cond_true];rw[q1]; rfl)
  unfold zz.sh; rw[show n.1=_ from h]; rfl
 ·have e1:ar n=1:=by rw[yI h]; rfl
  have b0:=qq hv (i:=0) (by omega);have ht:ue n=true:=by unfold ue tI; rw[h]; rfl
  obtain ⟨r,q1,q2⟩:=Ri F hF hu hu2 b0.1 b0.2 (g8 ht);refine ⟨r,?_,by rw[show xJ u p.2.1 n vs=qF u (vs.getD 0 0) (nT n) by unfold xJ; rw[h]; rfl]; exact q2⟩;refine Eq.trans (b:=bif idx 0 (vs.map fun v=>(mk v,false)).length then oB (zE.sh F (mk u,false) (get zg (vs.map fun v=>(mk v,false)) 0) (nT n)) fun c_7=>some ((c_7.1.1,()),()) else none) ?_ (by
   rw[Zq (n:=(vs.map fun v=>(mk v,false)).length) (by simp; omega),Vs (i:=0) (by omega)];simp only[cond_true];rw[q1]; rfl)
  unfold zz.sh; rw[show n.1=_ from h]; rfl
 ·have e1:ar n=1:=by rw[yI h]; rfl
  have b0:=qq hv (i:=0) (by omega);rw[qx] at b0;refine ⟨(mk (vs.getD 0 0),false),?_,by rw[show xJ u p.2.1 n vs=vs.getD 0 0 by unfold xJ; rw[h]; rfl]; exact NR.ok b0.1 (by omega)⟩;refine Eq.trans (b:=bif idx 0 (vs.map fun v=>(mk v,false)).length then (some (((get zg (vs.map fun v=>(mk v,false)) 0),()),()):Option zz.sg.R) else none) ?_ (by
   rw[Zq (n:=(vs.map fun v=>(mk v,false)).length) (by simp; omega),Vs (i:=0) (by omega)]; rfl)
  unfold zz.sh; rw[show n.1=_ from h]; rfl
 ·exact hsum 16 h (by decide)
theorem zdo (hF:20<F) (h1:0<=x) (h2:x<170141183460469231731687303715884105728):∃c,yO.sh F (mk x) (72057594037927936,0)=some ((c,()),())/\decide (c>0)=decide (x>BND):=by
 have hB:val (72057594037927936,0)=BND:=rfl;rw[zcP F hF (wu (by rw[yB]; omega)) (by simp[wfW])];refine ⟨_,rfl,?_⟩;rw[xR,hB];unfold qA;rcases Int.lt_trichotomy x BND with h | h | h
 ·rw[if_pos h,decide_eq_false (show ¬((-1:Int)>0) by decide),decide_eq_false (show ¬(x>BND) by omega)]
 ·rw[if_neg (show ¬x<BND by omega),if_pos h,decide_eq_false (show ¬((0:Int)>0) by decide),decide_eq_false (show ¬(x>BND) by omega)]
 ·rw[if_neg (show ¬x<BND by omega),if_neg (show ¬x=BND by omega),decide_eq_true (show ((1:Int)>0) by decide),decide_eq_true (show (x>BND) by omega)]
theorem zdL (hF:4096<F) (hu:1<=u) (hu2:u<=1000000000000000000000000) (hD:dE [] p.2.1=0) (hd4:p.2.1.length<=4) (hL:p.2.2.2.length<=1024) (kE:List zd.T->Int->Int->Option R) (kO:List zd.T->Option R):∀(xs:List za.T) (st:List Tree) (out:List zd.T) (fu:Nat),p.2.2.2=zS st++xs->okS p.2.1.length st xs->out.length<=(zS st).length->(∀t∈st,0<=mag u p.2.1 t/\mag u p.2.1 t<=BND)->xs.length<fu->
  zN.l11 F kE (fun _ _ _ _ out _=>kO out) fu ((zS st).length:Int) p (mk u) out (st.map fun t=>(mk (mag u p.2.1 t),false)) =
   match ve (Ys u p.2.1) (news st xs) (zS st).length with
   | some (j,e)=>kE [] (j:Int) 90
   | none=>kO (out++(news st xs).map fun t=>mk (mag u p.2.1 t)):=by
 intro xs;induction xs with
 | nil =>
  intro st out fu h ho hout hb hf;obtain ⟨fu,rfl⟩:∃j,fu=j+1:=⟨fu-1,by simp at hf; omega⟩;have:p.2.2.2.length=(zS st).length:=by rw[h]; simp
  simp only[zN.l11,zN.l11.y,decide_eq_false (show ¬(((zS st).length:Int)<(p.2.2.2.length:Int)) by omega),cond_false,news,ve,map_nil,append_nil]
 | cons n xs ih =>
  intro st out fu h ho hout hb hf;obtain ⟨fu,rfl⟩:∃j,fu=j+1:=⟨fu-1,by simp at hf; omega⟩;have hlen:p.2.2.2.length=(zS st).length+(xs.length+1):=by rw[h]; simp
  obtain ⟨g1,g2,g3,g4,g5,g6,g7,g8⟩:=wD ho.1;have hst:=vo st;have hfs:=vQ st n;have hfl:=congrArg List.length hfs;simp only[length_append,length_cons,length_nil] at hfl;have hdr:∀t∈st.drop (st.length-ar n),0<=mag u p.2.1 t/\mag u p.2.1 t<=BND:=fun t ht=>hb t (mem_of_mem_drop ht)
  have hmm:mag u p.2.1 (wH st n)=xJ u p.2.1 n ((st.drop (st.length-ar n)).map (mag u p.2.1)):=by unfold wH; rw[qb]
  obtain ⟨r,q1,q2⟩:=nmag_eq F (by omega) hu hu2 hD hd4 ho.1 (vs:=(st.drop (st.length-ar n)).map (mag u p.2.1)) (by simp; omega) (by
   intro v hv;obtain ⟨t,ht,rfl⟩:=mem_map.1 hv;exact hdr t ht)
  rw[<-hmm] at q2;have hl:(st.map fun t=>(mk (mag u p.2.1 t),false)).length=st.length:=by simp
  have hE:Ys u p.2.1 (wH st n)=bif decide (vR n (mag u p.2.1 (wH st n))>BND) then 90 else 0:=rfl
  have hdm:(st.map fun t=>(mk (mag u p.2.1 t),false)).drop (st.length-ar n)=((st.drop (st.length-ar n)).map (mag u p.2.1)).map fun v=>(mk v,false):=by
   rw[<-map_drop,map_map]; rfl
  have ew:=ZQ g7 (by omega);have hb1:=qZ (show st.length-ar n<=st.length by omega);have hb2:=q8 (show st.length-ar n<=st.length by omega);have htk:(st.map fun t=>(mk (mag u p.2.1 t),false)).take st.length=st.map fun t=>(mk (mag u p.2.1 t),false):=take_of_length_le (by omega)
  have hbl1:∀y,Nat.ble (out.length+([y]:List zd.T).length) wF=true:=fun y=>uq (by simp; omega)
  have hbl2:∀y,Nat.ble (st.length-ar n+([y]:List zg.T).length) wF=true:=fun y=>uq (by simp; omega)
  obtain ⟨e1,e2⟩:=Ur h rfl;have ewi:i64.wrap (((zS st).length:Int)+1)=((zS st).length:Int)+1:=yz (by omega) (by omega);have hgo:∀v,v=mag u p.2.1 (wH st n)->0<=v->vR n v<=BND->zN.l11 F kE (fun _ _ _ _ out _=>kO out) fu (((zS st).length:Int)+1) p (mk u) (out++[mk v]) ((st.map fun t=>(mk (mag u p.2.1 t),false)).take (st.length-ar n)++[(mk v,false)]) =
    match ve (Ys u p.2.1) (news (w9 st n) xs) ((zS st).length+1) with
    | some (j,e)=>kE [] (j:Int) 90
    | none=>kO (out++(news st (n::xs)).map fun t=>mk (mag u p.2.1 t)):=by
   rintro v rfl h0 hfar
   have hle:mag u p.2.1 (wH st n)<=BND:=by
    unfold vR at hfar;cases h15:(nK n==15) with
    | true=>rw[h15] at hfar; simp only[cond_true] at hfar; omega
    | false=>rw[h15] at hfar; exact hfar
   have hstep:(w9 st n).map (fun t=>(mk (mag u p.2.1 t),false))=(st.map fun t=>(mk (mag u p.2.1 t),false)).take (st.length-ar n)++[(mk (mag u p.2.1 (wH st n)),false)]:=by
    unfold w9; simp[List.map_take]
   have IH:=ih (w9 st n) (out++[mk (mag u p.2.1 (wH st n))]) fu (by rw[hfs,h]; simp) ho.2 (by simp; omega) (by
    intro t ht;rcases mem_append.1 ht with ht | ht
    ·exact hb t (mem_of_mem_take ht)
    ·rw[mem_singleton.1 ht]; exact ⟨h0,hle⟩) (by simp at hf; omega)
   rw[hstep,hfl,show (((zS st).length+(0+1):Nat):Int)=((zS st).length:Int)+1 by omega] at IH;refine IH.trans ?_;simp only[append_assoc,singleton_append,news,map_cons]
  simp only[zN.l11,zN.l11.y,decide_eq_true (show (((zS st).length:Int)<(p.2.2.2.length:Int)) by omega),cond_true,e1,Int.toNat_natCast,e2];rw[ZK F g1 g4];simp only[zh,hl,ew,hb1,hb2,htk,cond_true,hdm,ewi];rw[q1];simp only[zh,hbl1,hbl2,cond_true];rw[show news st (n::xs)=wH st n::news (w9 st n) xs from rfl] at hgo ⊢;simp only[ve,hE];rw[show (n.1==15)=(nK n==15) from rfl];rw[ZX F (v:=10000) (by omega) (by omega)];simp only[zh];rw[show xM.sh F=some (((72057594037927936,0),()),()) from rfl];simp only[zh];cases h15:(nK n==15) with
  | true =>
   have hsm:mag u p.2.1 (wH st n)<=BND:=by
    have ea:ar n=1:=by rw[yI (show nK n=15 by simpa using h15)]; rfl
    rw[hmm,show ∀vs,xJ u p.2.1 n vs=vs.getD 0 0 from fun vs=>by unfold xJ; rw[show nK n=15 by simpa using h15]; rfl];exact (qq (b:=BND) (l:=(st.drop (st.length-ar n)).map (mag u p.2.1)) (by
     intro v hv;obtain ⟨t,ht,rfl⟩:=mem_map.1 hv;exact hdr t ht) (i:=0) (by simp; omega)).2
   rw[qx] at hsm;have h0:=q2.1;obtain rfl:=q2.small (by omega);obtain ⟨r2,q3,q4⟩:=V5 F (by omega) (x:=mag u p.2.1 (wH st n)) (y:=10000) h0 (by omega) (NR.ok (by omega) (by omega)) (.inr rfl);rw[q3];simp only[zh,cond_true];have hfarE:vR n (mag u p.2.1 (wH st n))=mag u p.2.1 (wH st n)*10000:=by unfold vR; rw[h15]; rfl
   rcases q4.2.2 with ⟨c1,c2⟩ | ⟨rfl,c2⟩
   ·rw[c1,hfarE,decide_eq_true (show mag u p.2.1 (wH st n)*10000>BND by rw[qx]; omega)]
    rfl
   ·obtain ⟨c,d1,d2⟩:=zdo F (by omega) (x:=mag u p.2.1 (wH st n)*10000) (by omega) c2
    rw[d1];simp only[zh,d2,cond_false];rw[<-hfarE];cases hfar:decide (vR n (mag u p.2.1 (wH st n))>BND) with
    | true=>rfl
    | false =>
     have hfar:=of_decide_eq_false hfar;exact hgo _ rfl h0 (by omega)
  | false =>
   simp only[cond_false];have hfarE:vR n (mag u p.2.1 (wH st n))=mag u p.2.1 (wH st n):=by unfold vR; rw[h15]; rfl
   have h0:=q2.1;rcases q2.2.2 with ⟨c1,c2⟩ | ⟨rfl,c2⟩
   ·rw[c1,hfarE,decide_eq_true (show mag u p.2.1 (wH st n)>BND by rw[qx]; omega)]
    rfl
   ·obtain ⟨c,d1,d2⟩:=zdo F (by omega) (x:=mag u p.2.1 (wH st n)) h0 c2
    rw[d1];simp only[zh,d2,cond_false];rw[hfarE];cases hfar:decide (mag u p.2.1 (wH st n)>BND) with
    | true=>rfl
    | false =>
     have hfar:=of_decide_eq_false hfar;exact hgo _ rfl h0 (by rw[hfarE]; omega)
theorem zfa (h:Good p t):zN.sh FU p=some (((UF p.2.1 t).1,(UF p.2.1 t).2.1,(UF p.2.1 t).2.2,()),()):=by
 have hl:=h.len;have hs:t.size=p.2.2.2.length:=by rw[Tree.size,h.flat]
 have hp:=qE t;have hFU:FU=4194304:=rfl;unfold zN.sh;rw[Rb FU tl h];simp only[zh];unfold UF vg;cases h1:((td t).2.2 != 0) with
 | true=>simp only[cond_true,h1]
 | false =>
  simp only[cond_false];rw[Rc FU tl h];simp only[zh];rw[<-hs,yz (n:=(t.size:Int)-1) (by omega) (by omega)];cases h2:decide (deep t>6) with
  | true=>rfl
  | false =>
   have h2:=of_decide_eq_false h2;have hd:=(tc t).1;have hu:=ZR (t:=t) (by omega);have hh:=tg h.head;simp only[cond_false];rw[S7 FU (by decide) hd (by omega)];simp only[zh];have e:=zdL FU tl hu.1 hu.2 hh.2.2.1 hh.2.1 hl (fun r212 r312 r412=>(some ((r212,r312,r412,()),()):Option zN.sg.R)) (fun out13=>zN.j22 FU (fun r214 r314 r414=>some ((r214,r314,r414,()),())) out13) p.2.2.2 [] [] FU (by simp[zS]) h.ok (by simp) (by simp) (by rw[hFU]; omega);rw[show (zS []).length=0 from rfl,show ((0:Nat):Int)=0 from rfl,h.subs] at e;rw[show (10000:Int)^(deep t).toNat=vt t from rfl];refine Eq.trans e ?_;unfold Zm;cases ve (Ys (vt t) p.2.1) t.subs 0 with
   | some x =>
    obtain ⟨j,e⟩:=x;simp only[];rw[decide_eq_true (show (j:Int)>=0 by omega)];rfl
   | none =>
    simp only[nil_append];rw[decide_eq_false (show ¬((-1:Int))>=0 by omega)];rfl
theorem zf9 (h:Good p t):xg.sh FU p=some (((vg p.2.1 t).1,(vg p.2.1 t).2.1,(vg p.2.1 t).2.2,()),()):=by
 unfold xg.sh;rw[zfa h];simp only[zh];cases h1:((vg p.2.1 t).2.2 != 0) with
 | true =>
  have hm:UF p.2.1 t=([],(vg p.2.1 t).2.1,(vg p.2.1 t).2.2):=by unfold UF; rw[h1]; rfl
  rw[hm];simp only[h1,cond_true];have hz:(vg p.2.1 t).1=(0,0):=by
   unfold vg at h1 ⊢;cases a1:((td t).2.2 != 0) with
   | true=>rfl
   | false =>
    rw[a1] at h1;cases a2:decide (deep t>6) with
    | true=>rfl
    | false =>
     rw[a2] at h1;cases a3:decide ((Zm (vt t) p.2.1 t).2>=0) with
     | true=>rfl
     | false=>rw[a3] at h1; exact absurd (show ((0:Int) != 0)=true from h1) (by decide)
  rw[hz]
 | false =>
  have h1:(vg p.2.1 t).2.2=0:=by simpa using h1
  obtain ⟨a1,a2,a3,a4⟩:=za3 h1;have hm:(UF p.2.1 t).2.2=0:=by unfold UF; rw[h1]; rfl
  have hd:=(tc t).1;rw[hm];simp only[bne_self_eq_false,cond_false];rw[Rc FU tl h];simp only[zh];rw[S7 FU (by decide) hd (by omega),a4];rfl
theorem zcM (hF:20<F) {a b:Int×Int} (ha:wfW a) (hb:wfW b):xO.sh F a b=some ((uA (val a-val b),ui (val a-val b),()),()):=by
 obtain ⟨la,da,ra⟩:=Xd F hF ha;obtain ⟨lb,db,rb⟩:=Xd F hF hb;obtain ⟨lt,dt,rt⟩:=Wd F hF rb;obtain ⟨l,dl,rl⟩:=U0 F hF ra rt;have h1:=WG ha;have h2:=WG hb;unfold xO.sh;rw[da,zh,db,zh,dt,zh,dl,zh,UX F hF rl (by omega) (by omega),zh,show val a+-val b=val a-val b by omega]
theorem VT (h0:0<=V) (hc:c=0\/c=1) (h1:2*V+c<340282366920938463463374607431768211456) :
  yN.sh F (V/18446744073709551616) (V%18446744073709551616) c=some (((2*V+c)/18446744073709551616,(2*V+c)%18446744073709551616,()),()):=by
 unfold yN.sh;rw[zeS (by omega)];simp only[wX];exact S3 (by omega) (by omega)
theorem UB (h2:0<=bl) (h3:bl<18446744073709551616):yP.sh F (V/18446744073709551616) (V%18446744073709551616) bh bl=some ((decide (bh*18446744073709551616+bl<=V),()),()):=by
 unfold yP.sh;by_cases g:V/18446744073709551616>bh
 ·rw[decide_eq_true g,decide_eq_true (show bh*18446744073709551616+bl<=V by omega)]; rfl
 ·rw[decide_eq_false g]
  by_cases e:V/18446744073709551616=bh
  ·rw[show (V/18446744073709551616==bh)=true by rw[beq_iff_eq]; exact e]
   simp only[cond_true,cond_false];rw[show decide (V%18446744073709551616>=bl)=decide (bh*18446744073709551616+bl<=V) from decide_eq_decide.2 (by omega)]
  ·rw[show (V/18446744073709551616==bh)=false by rw[beq_eq_false_iff_ne]; exact e,decide_eq_false (show ¬bh*18446744073709551616+bl<=V by omega)]; rfl
theorem zao (h0:0<=V) (h1:V<340282366920938463463374607431768211456) (hb:0<=bh) (h2:0<=bl) (h3:bl<18446744073709551616) (hle:bh*18446744073709551616+bl<=V) :
  xt.sh F (V/18446744073709551616) (V%18446744073709551616) bh bl=some (((V-(bh*18446744073709551616+bl))/18446744073709551616,(V-(bh*18446744073709551616+bl))%18446744073709551616,()),()):=by
 unfold xt.sh;simp only[wX];by_cases g:V%18446744073709551616<bl
 ·rw[decide_eq_true g]
  simp only[cond_true];exact S3 (by omega) (by omega)
 ·rw[decide_eq_false g]
  simp only[cond_false];exact S3 (by omega) (by omega)
theorem rstep (rec:Int->Int->Int->Int->Option R) {q r B bh bl c:Int} (hc:c=0\/c=1) (hb:0<=bh) (h2:0<=bl) (h3:bl<18446744073709551616) (hB:B=bh*18446744073709551616+bl) (hB2:B<=170141183460469231731687303715884105728)
  (hr1:0<=r) (hr2:r<B) (hq1:0<=q) (hq2:2*q+1<340282366920938463463374607431768211456) :
  (oB (yN.sh F (r/18446744073709551616) (r%18446744073709551616) c) fun c_3=>oB (yP.sh F c_3.1.1 c_3.1.2.1 bh bl) fun c_4 =>
   bif c_4.1.1 then oB (xt.sh F c_3.1.1 c_3.1.2.1 bh bl) fun c_5=>oB (yN.sh F (q/18446744073709551616) (q%18446744073709551616) 1) fun c_6=>rec c_6.1.1 c_6.1.2.1 c_5.1.1 c_5.1.2.1
   else oB (yN.sh F (q/18446744073709551616) (q%18446744073709551616) 0) fun c_7=>rec c_7.1.1 c_7.1.2.1 c_3.1.1 c_3.1.2.1) =
  if B<=2*r+c then rec ((2*q+1)/18446744073709551616) ((2*q+1)%18446744073709551616) ((2*r+c-B)/18446744073709551616) ((2*r+c-B)%18446744073709551616)
  else rec (2*q/18446744073709551616) (2*q%18446744073709551616) ((2*r+c)/18446744073709551616) ((2*r+c)%18446744073709551616):=by
 have hR:2*r+c<340282366920938463463374607431768211456:=by omega
 rw[VT F hr1 hc hR,zh,UB F h2 h3,zh,<-hB];by_cases hle:B<=2*r+c
 ·rw[if_pos hle,decide_eq_true hle]
  simp only[cond_true];rw[zao F (by omega) hR hb h2 h3 (by omega),zh,VT F hq1 (.inr rfl) hq2,zh,<-hB]
 ·rw[if_neg hle,decide_eq_false hle]
  simp only[cond_false];rw[VT F hq1 (.inl rfl) (by omega),zh,Int.add_zero]
theorem bit_hi (ha:0<=al) (ha2:al<18446744073709551616) (m:Nat):(ah*18446744073709551616+al)/2^(64+m)=2*((ah*18446744073709551616+al)/2^(64+m+1))+ah/2^m%2:=by
 have hP:(0:Int)<2^m:=Int.pow_pos (by decide);have e0:(ah*18446744073709551616+al)/2^(64+m)=ah/2^m:=by
  rw[Int.pow_add,show (2:Int)^64=18446744073709551616 from rfl,<-Int.ediv_ediv_of_nonneg (by omega)];congr 1; omega
 have e1:(ah*18446744073709551616+al)/2^(64+m+1)=ah/2^m/2:=by
  rw[Int.pow_succ,<-Int.ediv_ediv_of_nonneg (Int.le_of_lt (Int.pow_pos (by decide))),e0]
 rw[e0,e1];generalize ah/2^m=x;omega
theorem Tq (F:Nat) {R:Type} (k:Int->Int->Int->Int->zd.T->zd.T->Option R) (a b r4 r5:zd.T) {ah al bh bl B:Int} (h0:0<=ah) (ha1:0<=al) (ha2:al<18446744073709551616) (hb1:0<=bh) (hl1:0<=bl) (hl2:bl<18446744073709551616)
  (hB:B=bh*18446744073709551616+bl) (hB2:B<=170141183460469231731687303715884105728):∀(n fu:Nat) (q r:Int),n<fu->n<=128->0<=q->q*2^n+2^n<=340282366920938463463374607431768211456->0<=r->r<B->
  (ah*18446744073709551616+al)/2^n=q*B+r->
  zC.l10 F (fun _ _ _ _ qh ql rh rl _ _ a b _ _=>k qh ql rh rl a b) fu ah al bh bl (q/18446744073709551616) (q%18446744073709551616) (r/18446744073709551616) (r%18446744073709551616) ((n:Int)-1) a b r4 r5 =
   k ((ah*18446744073709551616+al)/B/18446744073709551616) ((ah*18446744073709551616+al)/B%18446744073709551616) ((ah*18446744073709551616+al)%B/18446744073709551616) ((ah*18446744073709551616+al)%B%18446744073709551616) a b
 | 0,fu,q,r,hf,hn,hq1,hq2,hr1,hr2,he=>by
  obtain ⟨fu,rfl⟩:∃j,fu=j+1:=⟨fu-1,by omega⟩;simp only[Int.pow_zero,Int.ediv_one] at he;obtain ⟨f1,f2⟩:=YW (M:=ah*18446744073709551616+al) (y:=B) (Q:=q) (R':=r) (by omega) he hr1 hr2;rw[f1,f2];simp only[zC.l10,zC.l10.y];rw[decide_eq_false (show ¬(((0:Nat):Int)-1)>=0 by omega)];simp only[cond_false]
 | n+1,fu,q,r,hf,hn,hq1,hq2,hr1,hr2,he=>by
  obtain ⟨fu,rfl⟩:∃j,fu=j+1:=⟨fu-1,by omega⟩;have hP:(0:Int)<2^n:=Int.pow_pos (by decide);have hP2:(2:Int)^(n+1)=2*2^n:=by rw[Int.pow_succ,Int.mul_comm]
  have hq3:q*2^(n+1)=2*(q*2^n):=by rw[hP2,Int.mul_left_comm]
  have hq4:2*q*2^n=2*(q*2^n):=by rw[Int.mul_assoc]
  have hqq:q<=q*2^n:=by
   have:=Int.mul_le_mul_of_nonneg_left (show (1:Int)<=2^n by omega) hq1;omega
  have wmod:u64.wrap (((n:Nat):Int).tmod 64)=((n%64:Nat):Int):=by
   rw[Int.tmod_eq_emod_of_nonneg (by omega),xP (by omega) (by omega)]; omega
  have hmin:min (n%64) IntKind.u64.bits=n%64:=Nat.min_eq_left (by show n%64<=64; omega);obtain ⟨c,hc,hbit,hstep⟩:∃c:Int,(c=0\/c=1)/\(ah*18446744073709551616+al)/2^n=2*(q*B+r)+c /\
    ∀(rec:Int->Int->Int->Int->Int->Int->Int->Int->Int->zd.T->zd.T->zd.T->zd.T->Option R) (k0:Int->Int->Int->Int->Int->Int->Int->Int->Int->Bool->zd.T->zd.T->zd.T->zd.T->Option R),
     zC.l10.y F k0 rec ah al bh bl (q/18446744073709551616) (q%18446744073709551616) (r/18446744073709551616) (r%18446744073709551616) (n:Int) a b r4 r5 =
     (oB (yN.sh F (r/18446744073709551616) (r%18446744073709551616) c) fun c_3=>oB (yP.sh F c_3.1.1 c_3.1.2.1 bh bl) fun c_4 =>
   bif c_4.1.1 then oB (xt.sh F c_3.1.1 c_3.1.2.1 bh bl) fun c_5=>oB (yN.sh F (q/18446744073709551616) (q%18446744073709551616) 1) fun c_6=>rec ah al bh bl c_6.1.1 c_6.1.2.1 c_5.1.1 c_5.1.2.1 (i64.wrap ((n:Int)-1)) a b r4 r5
   else oB (yN.sh F (q/18446744073709551616) (q%18446744073709551616) 0) fun c_7=>rec ah al bh bl c_7.1.1 c_7.1.2.1 c_3.1.1 c_3.1.2.1 (i64.wrap ((n:Int)-1)) a b r4 r5):=by
   by_cases hn64:n<64
   ·refine ⟨al/2^n%2,by omega,by rw[<-he]; exact zgy ha1 hn64,fun rec k0=>?_⟩
    unfold zC.l10.y;rw[decide_eq_true (show (n:Int)>=0 by omega),wmod,decide_eq_true (show (0:Int)<=((n%64:Nat):Int) by omega),decide_eq_false (show ¬(n:Int)>=64 by omega),Int.toNat_natCast,hmin,show n%64=n by omega,
     Int.fdiv_eq_ediv_of_nonneg al (Int.le_of_lt hP),Int.tmod_eq_emod_of_nonneg (Int.ediv_nonneg ha1 (Int.le_of_lt hP))]
    simp only[cond_true,cond_false]
   ·have hP6:(0:Int)<2^(n-64):=Int.pow_pos (by decide)
    refine ⟨ah/2^(n-64)%2,by omega,?_,fun rec k0=>?_⟩
    ·have:=bit_hi (ah:=ah) ha1 ha2 (n-64)
     rw[show 64+(n-64)=n by omega] at this;rw[<-he]; exact this
    ·unfold zC.l10.y
     rw[decide_eq_true (show (n:Int)>=0 by omega),wmod,decide_eq_true (show (0:Int)<=((n%64:Nat):Int) by omega),decide_eq_true (show (n:Int)>=64 by omega),Int.toNat_natCast,hmin,show n%64=n-64 by omega,
      Int.fdiv_eq_ediv_of_nonneg ah (Int.le_of_lt hP6),Int.tmod_eq_emod_of_nonneg (Int.ediv_nonneg h0 (Int.le_of_lt hP6))]
     simp only[cond_true,cond_false]
  simp only[zC.l10];rw[show ((n+1:Nat):Int)-1=((n:Nat):Int) by omega,hstep,yz (n:=(n:Int)-1) (by omega) (by omega)];have hs:=rstep F (fun qh ql rh rl=>zC.l10 F (fun _ _ _ _ qh ql rh rl _ _ a b _ _=>k qh ql rh rl a b) fu ah al bh bl qh ql rh rl ((n:Int)-1) a b r4 r5) (q:=q) (r:=r) hc hb1 hl1 hl2 hB hB2 hr1 hr2 hq1 (by omega);refine hs.trans ?_;split
  ·refine Tq F k a b r4 r5 h0 ha1 ha2 hb1 hl1 hl2 hB hB2 n fu _ _ (by omega) (by omega) (by omega) ?_ (by omega) (by omega) ?_
   ·rw[Int.add_mul,Int.one_mul,hq4]; omega
   ·rw[hbit,Int.add_mul,Int.one_mul,Int.mul_assoc]; omega
  ·refine Tq F k a b r4 r5 h0 ha1 ha2 hb1 hl1 hl2 hB hB2 n fu _ _ (by omega) (by omega) (by omega) ?_ (by omega) (by omega) ?_
   ·rw[hq4]; omega
   ·rw[hbit,Int.mul_assoc]; omega
theorem Tp (hF:150<F) {a b:Int×Int} (ha:wfW a) (hb:wfW b) (h0:val b≠0) :
  zC.sh F a b=some ((bif inR (tq (val a) (val b)) then mk (tq (val a) (val b)) else (0,0),bif inR (tq (val a) (val b)) then mk (tr (val a) (val b)) else (0,0),ui (tq (val a) (val b)),()),()):=by
 have ba:=Zy ha;have bb:=Zy hb;have hq:=aQR (a:=val a) h0;have hneg:(!(decide (a.1<0)==decide (b.1<0)))=dsg (val a) (val b):=by rw[tA ha,tA hb]; rfl
 have e1:((val a).natAbs:Int)/18446744073709551616*18446744073709551616+((val a).natAbs:Int)%18446744073709551616=(val a).natAbs:=by omega
 have e2:((val b).natAbs:Int)/18446744073709551616*18446744073709551616+((val b).natAbs:Int)%18446744073709551616=(val b).natAbs:=by omega
 have main:zC.j3 F (fun r616 r416 r516=>some ((r416,r516,r616,()),())) (fun r617 r417 r517=>(some ((r417,r517,r617,()),()):Option zC.sg.R)) a b (0,0) (0,0) =
   some ((bif inR (tq (val a) (val b)) then mk (tq (val a) (val b)) else (0,0),bif inR (tq (val a) (val b)) then mk (tr (val a) (val b)) else (0,0),ui (tq (val a) (val b)),()),()):=by
  unfold zC.j3;rw[Wg F (by omega) ha,zh,Wg F (by omega) hb,zh];have hl:=Tq F (fun qh13 ql13 rh13 rl13 a13 b13=>oB (yg.sh F (!(decide (a13.1<0)==decide (b13.1<0))) qh13 ql13) fun c_14 =>
 bif (c_14.1.2.1 != 0) then (some (((0,0),(0,0),c_14.1.2.1,()),()):Option zC.sg.R)
 else oB (yg.sh F (decide (a13.1<0)) rh13 rl13) fun c_15 =>
 some ((c_14.1.1,c_15.1.1,0,()),())) a b (0,0) (0,0) (ah:=((val a).natAbs:Int)/18446744073709551616) (al:=((val a).natAbs:Int)%18446744073709551616) (bh:=((val b).natAbs:Int)/18446744073709551616) (bl:=((val b).natAbs:Int)%18446744073709551616)
   (B:=(val b).natAbs) (by omega) (by omega) (by omega) (by omega) (by omega) (by omega) (by omega) (by omega) 128 F 0 0 (by omega) (by omega) (by omega) (by decide) (by omega) (by omega) (by
    rw[e1,show (2:Int)^128=340282366920938463463374607431768211456 from rfl]; omega)
  rw[e1,show (0:Int)/18446744073709551616=0 from rfl,show (0:Int)%18446744073709551616=0 from rfl,show ((128:Nat):Int)-1=127 from rfl] at hl;refine hl.trans ?_;rw[hneg,show ((val a).natAbs:Int)/((val b).natAbs:Int)=aQ (val a) (val b) from rfl,show ((val a).natAbs:Int)%((val b).natAbs:Int)=aR (val a) (val b) from rfl];rw[Tu F (by omega) (v:=tq (val a) (val b)) (by omega) (by omega) (by omega) (by omega) (by
   unfold tq;rw[show aQ (val a) (val b)/18446744073709551616*18446744073709551616+aQ (val a) (val b)%18446744073709551616=aQ (val a) (val b) by omega]),zh]
  cases hi:inR (tq (val a) (val b)) with
  | false=>simp only[uA,ui,hi,cond_false]; rfl
  | true =>
   simp only[uA,ui,hi,cond_true,bne_self_eq_false,cond_false];rw[tA ha];rw[Tu F (by omega) (v:=tr (val a) (val b)) (by omega) (by omega) (by omega) (by omega) (by
    unfold tr;rw[show aR (val a) (val b)/18446744073709551616*18446744073709551616+aR (val a) (val b)%18446744073709551616=aR (val a) (val b) by omega]),zh]
   have hi2:inR (tr (val a) (val b))=true:=by
    rw[yB]; unfold tr;cases decide (val a<0)<;>simp only[cond_true,cond_false]<;>omega
   simp only[uA,ui,hi2,cond_true]
 unfold zC.sh;have hz:=za2 hb;rw[decide_eq_false h0] at hz;cases h1:(b.1==0) with
 | false=>simp only[cond_false]; exact main
 | true =>
  rw[h1] at hz;simp only[Bool.true_and,Bool.and_true] at hz;rw[hz];simp only[cond_true,cond_false];exact main
theorem Ts (hF:150<F) {q r b:Int×Int} (hq:wfW q) (hr:wfW r) (hb:wfW b) (m:Int) (hm:m=3\/m=4) (hlt:((val r).natAbs:Int)<(val b).natAbs) :
  xp.sh F q r b m=some ((awB m (val q) (val r) (val b),()),()):=by
 have br:=Zy hr;have bb:=Zy hb;have hq2:q.2.tmod 2=val q%2:=by
  rw[Int.tmod_eq_emod_of_nonneg hq.2.2.1];simp only[val]; omega
 have haw:awB m (val q) (val r) (val b)=(decide (((val b).natAbs:Int)<2*(val r).natAbs)||(decide (2*((val r).natAbs:Int)=(val b).natAbs)&&(m==3||decide (val q%2=1)))):=by
  rcases hm with rfl | rfl<;>rfl
 rw[haw];unfold xp.sh;rw[hq2];have A:=Wg F (by omega) hr;have B:=Wg F (by omega) hb;generalize ((val r).natAbs:Int)=x at*;generalize ((val b).natAbs:Int)=y at*;have hless:=zao F (V:=y) (bh:=x/18446744073709551616) (bl:=x%18446744073709551616) (by omega) (by omega) (by omega) (by omega) (by omega) (by omega);rw[show x/18446744073709551616*18446744073709551616+x%18446744073709551616=x by omega] at hless;have hat:=UB F (V:=x) (bh:=(y-x)/18446744073709551616) (bl:=(y-x)%18446744073709551616) (by omega) (by omega);rw[show (y-x)/18446744073709551616*18446744073709551616+(y-x)%18446744073709551616=y-x by omega] at hat;rw[A,zh,B,zh,hless,zh];by_cases g2:x/18446744073709551616=(y-x)/18446744073709551616
 ·rw[show (x/18446744073709551616==(y-x)/18446744073709551616)=true by rw[beq_iff_eq]; exact g2]
  simp only[cond_true];by_cases g4:x%18446744073709551616=(y-x)%18446744073709551616
  ·rw[show (x%18446744073709551616==(y-x)%18446744073709551616)=true by rw[beq_iff_eq]; exact g4,decide_eq_true (aw6 g2 g4),decide_eq_false (show ¬y<2*x by have:=aw6 g2 g4; omega)]
   rw[show (val q%2==1)=decide (val q%2=1) by
    by_cases g5:val q%2=1
    ·rw[g5]; rfl
    ·rw[decide_eq_false g5,beq_eq_false_iff_ne]; exact g5]
   cases (m==3)<;>simp only[cond_true,cond_false,Bool.true_or,Bool.false_or,Bool.true_and]
  ·rw[show (x%18446744073709551616==(y-x)%18446744073709551616)=false by rw[beq_eq_false_iff_ne]; exact g4,decide_eq_false (aw7 g4)]
   simp only[cond_false];rw[hat,zh,show decide (y-x<=x)=decide (y<2*x) from decide_eq_decide.2 (by have:=aw7 g4; omega)];simp only[Bool.false_and,Bool.or_false]
 ·rw[show (x/18446744073709551616==(y-x)/18446744073709551616)=false by rw[beq_eq_false_iff_ne]; exact g2,decide_eq_false (aw9 g2)]
  simp only[cond_false];rw[hat,zh,show decide (y-x<=x)=decide (y<2*x) from decide_eq_decide.2 (by have:=aw9 g2; omega)];simp only[Bool.false_and,Bool.or_false]
theorem dsg_tr (hb:b≠0) (h:tr a b≠0):dsg (tr a b) b=dsg a b:=by
 have:=aQR (a:=a) hb;unfold dsg;have:decide (tr a b<0)=decide (a<0):=by
  unfold tr at*;cases ha:decide (a<0) with
  | true=>rw[ha] at h; simp only[cond_true] at h ⊢; exact decide_eq_true (by omega)
  | false=>simp only[cond_false]; exact decide_eq_false (by omega)
 rw[this]
theorem rdiv_eq (hF:150<F) (ha:inR a=true) (hb:inR b=true) (h0:b≠0) (hq:inR (tq a b)=true) (m0:0<=m) (m4:m<=4):yk.sh F (mk a) (mk b) m=some ((mk (Ye m a b),0,()),()):=by
 have qr:=aQR (a:=a) h0;have ha':=yB.1 ha;have hb':=yB.1 hb;have hr:inR (tr a b)=true:=by
  rw[yB]; unfold tr;cases decide (a<0)<;>simp only[cond_true,cond_false]<;>omega
 have hw:(!(decide ((mk a).1<0)==decide ((mk b).1<0)))=dsg a b:=by rw[tA (wu ha),tA (wu hb),xR,xR]; rfl
 have hz:=Vm (v:=tr a b);have tail:∀fur:Bool,tr a b≠0->yk.j18 F (fun r76 r66=>some ((r66,r76,()),())) (fun r77 r67=>some ((r67,r77,()),())) (fun r78 r68=>(some ((r68,r78,()),()):Option yk.sg.R)) (dsg a b) fur (0,0) (mk (tq a b)) =
   some ((mk (bif !fur then tq a b else bif dsg a b then tq a b-1 else tq a b+1),0,()),()):=by
  intro fur hz;unfold yk.j18;cases fur with
  | false=>rfl
  | true =>
   have hr0:aR a b≠0:=fun h=>hz (by unfold tr; rw[h]; cases decide (a<0)<;>rfl)
   have hb2:(2:Int)<=b.natAbs:=by omega
   have hq2:2*aQ a b<=a.natAbs:=by
    have:=Int.mul_le_mul_of_nonneg_right hb2 qr.1;omega
   rw[uW F (by omega) (by omega)];simp only[Bool.not_true,cond_false];cases hd:dsg a b with
   | true =>
    have i:inR (tq a b-1)=true:=by rw[yB]; unfold tq; rw[hd]; simp only[cond_true]; omega
    simp only[cond_true];rw[zh,zcM F (by omega) (wu hq) (wu (by rw[yB]; omega)),zh,xR,xR];simp only[uA,ui,i,cond_true]
   | false =>
    have i:inR (tq a b+1)=true:=by rw[yB]; unfold tq; rw[hd]; simp only[cond_false]; omega
    simp only[cond_false];rw[zh,Ql F (by omega) (wu hq) (wu (by rw[yB]; omega)),zh,xR,xR];simp only[uA,ui,i,cond_true]
 have main:tr a b≠0->yk.j8 F (fun r76 r66=>some ((r66,r76,()),())) (fun r77 r67=>some ((r67,r77,()),())) (fun r78 r68=>(some ((r68,r78,()),()):Option yk.sg.R)) m (mk a) (mk b) (0,0) (mk (tq a b)) (mk (tr a b))=some ((mk (Ye m a b),0,()),()):=by
  intro hz;have hdm:Ye m a b=bif !awB m (tq a b) (tr a b) b then tq a b else bif dsg a b then tq a b-1 else tq a b+1:=by unfold Ye; rw[decide_eq_false hz]; rfl
  have hds:=dsg_tr h0 hz;rw[hdm];unfold yk.j8;rw[hw];have m5:m=0\/m=1\/m=2\/m=3\/m=4:=by omega
  rcases m5 with rfl | rfl | rfl | rfl | rfl
  ·rw[show awB 0 (tq a b) (tr a b) b=dsg a b by unfold awB; rw[hds]; rfl]
   exact tail (dsg a b) hz
  ·rw[show awB 1 (tq a b) (tr a b) b=!dsg a b by unfold awB; rw[hds]; rfl]
   exact tail (!dsg a b) hz
  ·rw[show awB 2 (tq a b) (tr a b) b=false from rfl]
   exact tail false hz
  ·have hn:=Ts F hF (wu hq) (wu hr) (wu hb) 3 (.inl rfl) (by rw[xR,xR,Qb a b h0]; omega)
   rw[xR,xR,xR] at hn;rw[hn];exact tail _ hz
  ·have hn:=Ts F hF (wu hq) (wu hr) (wu hb) 4 (.inr rfl) (by rw[xR,xR,Qb a b h0]; omega)
   rw[xR,xR,xR] at hn;rw[hn];exact tail _ hz
 unfold yk.sh;rw[decide_eq_false (show ¬m<0 by omega),decide_eq_false (show ¬m>4 by omega),Tp F hF (wu ha) (wu hb) (by rw[xR]; exact h0)];simp only[xR,hq,cond_true,cond_false,zh,ui,bne_self_eq_false];by_cases hz0:tr a b=0
 ·rw[hz0]
  unfold Ye;rw[hz0];rfl
 ·rw[decide_eq_false hz0] at hz
  cases h1:((mk (tr a b)).1==0) with
  | false=>simp only[cond_false]; exact main hz0
  | true =>
   rw[h1] at hz;simp only[Bool.true_and,Bool.and_true] at hz;rw[hz];simp only[cond_true,cond_false];exact main hz0
theorem rint_eq (h:inR v=true):x8.sh F (mk v)=some ((bif decide (-9223372036854775808<=v)&&decide (v<9223372036854775808) then v else 0,decide (-9223372036854775808<=v)&&decide (v<9223372036854775808),()),()):=by
 have hv:=yB.1 h;unfold x8.sh;obtain ⟨k,e1,e2,e3⟩:=W2 (mk v).2;rw[uW F e2 e3,zh];simp only[mk] at e1 e2 e3 ⊢;generalize i64.wrap (v%18446744073709551616)=r at*;by_cases hr:-9223372036854775808<=v/\v<9223372036854775808
 ·have er:r=v:=by omega
  rw[er,decide_eq_true hr.1,decide_eq_true hr.2];simp
 ·have e0:((r/18446744073709551616==v/18446744073709551616)&&((r%18446744073709551616==v%18446744073709551616)&&true))=false:=by
   simp only[Bool.and_true,Bool.and_eq_false_iff,beq_eq_false_iff_ne];omega
  rw[e0];rcases Int.lt_or_le v (-9223372036854775808) with h' | h'
  ·rw[decide_eq_false (show ¬-9223372036854775808<=v by omega)]; rfl
  ·rw[decide_eq_true h',decide_eq_false (show ¬v<9223372036854775808 by omega)]; rfl
theorem za7 (hF:20<F) (ha:inR a=true) (hb:inR b=true) (h:inR (a+b)=true):xF.sh F (mk a) (mk b)=some ((mk (a+b),()),()):=by
 unfold xF.sh;rw[Ql F hF (wu ha) (wu hb),zh,xR,xR,(vH h).1]
theorem W5 (hF:20<F) (ha:inR a=true) (hb:inR b=true) (h:inR (a-b)=true):xk.sh F (mk a) (mk b)=some ((mk (a-b),()),()):=by
 unfold xk.sh;rw[zcM F hF (wu ha) (wu hb),zh,xR,xR,(vH h).1]
theorem XA (hF:20<F) (ha:inR a=true) (hb:inR b=true) (h:inR (a*b)=true):xf.sh F (mk a) (mk b)=some ((mk (a*b),()),()):=by
 unfold xf.sh;rw[Qh F hF (wu ha) (wu hb),zh,xR,xR,(vH h).1]
theorem UY (hF:20<F) (ha:inR a=true) (hb:inR b=true):yO.sh F (mk a) (mk b)=some ((qA a b,()),()):=by
 rw[zcP F hF (wu ha) (wu hb),xR,xR]
theorem zgl:(qA a b==1)=decide (a>b):=by
 rcases Int.lt_trichotomy a b with h | h | h
 ·rw[VC h,decide_eq_false (show ¬a>b by omega)]; rfl
 ·rw[Tc h,decide_eq_false (show ¬a>b by omega)]; rfl
 ·rw[VE h,decide_eq_true h]; rfl
theorem zgk:(qA a b == -1)=decide (a<b):=by
 rcases Int.lt_trichotomy a b with h | h | h
 ·rw[VC h,decide_eq_true h]; rfl
 ·rw[Tc h,decide_eq_false (show ¬a<b by omega)]; rfl
 ·rw[VE h,decide_eq_false (show ¬a<b by omega)]; rfl
theorem SB (F:Nat) (hF:20<F) {R:Type} (k:zd.T->Option R) (X:List zd.T):∀(xs:List Int) (i:Int) (r4:zd.T) (m:Int),(∀v∈xs,inR v=true)->inR m=true->
  zL.l3.rg F (fun _ _ _ _ _ m=>k m) X (xs.map mk) i (-1) r4 (mk m)=k (mk (Y2 m xs))
 | [],i,r4,m,_,_=>rfl
 | x::r,i,r4,m,h,hm=>by
  have hx:=h x (by simp);rw[map_cons,zL.l3.rg,UY F hF hx hm,zh];have e:Y2 m (x::r)=Y2 (if x<m then x else m) r:=rfl;rw[e];simp only[zgk];by_cases hlt:x<m
  ·rw[decide_eq_true hlt,if_pos hlt]
   exact SB F hF k X r (i+1) r4 x (fun v hv=>h v (by simp[hv])) hx
  ·rw[decide_eq_false hlt,if_neg hlt]
   exact SB F hF k X r (i+1) r4 m (fun v hv=>h v (by simp[hv])) hm
theorem SC (F:Nat) (hF:20<F) {R:Type} (k:zd.T->Option R) (X:List zd.T):∀(xs:List Int) (i:Int) (r4:zd.T) (m:Int),(∀v∈xs,inR v=true)->inR m=true->
  zL.l3.rg F (fun _ _ _ _ _ m=>k m) X (xs.map mk) i 1 r4 (mk m)=k (mk (uR m xs))
 | [],i,r4,m,_,_=>rfl
 | x::r,i,r4,m,h,hm=>by
  have hx:=h x (by simp);rw[map_cons,zL.l3.rg,UY F hF hx hm,zh];have e:uR m (x::r)=uR (if x>m then x else m) r:=rfl;rw[e];simp only[zgl];by_cases hlt:x>m
  ·rw[decide_eq_true hlt,if_pos hlt]
   exact SC F hF k X r (i+1) r4 x (fun v hv=>h v (by simp[hv])) hx
  ·rw[decide_eq_false hlt,if_neg hlt]
   exact SC F hF k X r (i+1) r4 m (fun v hv=>h v (by simp[hv])) hm
theorem zbn (hF0:20<F) (h:∀v∈l,inR v=true) (h1:1<=l.length) (hF:l.length<F) (hL:l.length<4611686018427387904):zL.sh F (l.map mk) (-1)=some ((mk (Zl l),()),()):=by
 unfold zL.sh;rw[show idx 0 (l.map mk).length=true from Zq (by simp; omega)];simp only[cond_true];cases l with
 | nil=>simp at h1
 | cons a r =>
  refine Eq.trans (zL.l3.rq F _ ((a::r).map mk) (by simp at hL ⊢; omega) (r.map mk) 1 F (-1) (0,0) _ (by simp) (by simp at hF ⊢; omega)) ?_;exact SB F hF0 (fun m=>(some ((m,()),()):Option zL.sg.R)) _ r _ _ a (fun v hv=>h v (by simp[hv])) (h a (by simp))
theorem zbo (hF0:20<F) (h:∀v∈l,inR v=true) (h1:1<=l.length) (hF:l.length<F) (hL:l.length<4611686018427387904):zL.sh F (l.map mk) 1=some ((mk (uZ l),()),()):=by
 unfold zL.sh;rw[show idx 0 (l.map mk).length=true from Zq (by simp; omega)];simp only[cond_true];cases l with
 | nil=>simp at h1
 | cons a r =>
  refine Eq.trans (zL.l3.rq F _ ((a::r).map mk) (by simp at hL ⊢; omega) (r.map mk) 1 F 1 (0,0) _ (by simp) (by simp at hF ⊢; omega)) ?_;exact SC F hF0 (fun m=>(some ((m,()),()):Option zL.sg.R)) _ r _ _ a (fun v hv=>h v (by simp[hv])) (h a (by simp))
theorem za5 (F:Nat) (hF:20<F) {R:Type} (k:Int->Option R) (L:List yp.T) {x:Int} (hx:inR x=true):∀(xs:List yp.T) (i k0 lo:Int),-1<=lo->UV lo xs->
  zU.l3.rg F (fun _ k1 _ _ _=>k k1) L xs i k0 (mk x)=k (if uz x xs=0 then k0 else i+(uz x xs:Int)-1)
 | [],i,k0,lo,hlo,hi=>rfl
 | a::r,i,k0,lo,hlo,hi=>by
  obtain ⟨a1,a2,a3,a4,a5⟩:=hi;have ih:=fun k1=>za5 F hF k L hx r (i+1) k1 (tF a) (by omega) a5
  rw[zU.l3.rg,uW F (v:=a.1) (show -9223372036854775808<=tF a by omega) (show tF a<9223372036854775808 by omega),zh];rw[UY F hF (Za (show -9223372036854775808<=tF a by omega) (show tF a<9223372036854775808 by omega)) hx,zh];simp only[Sv,ih];by_cases hlt:tF a<x
  ·have e:uz x (a::r)=uz x r+1:=by simp only[uz]; rw[if_pos hlt]
   rw[decide_eq_true hlt,e,if_neg (show ¬uz x r+1=0 by omega)];simp only[cond_true];refine congrArg k ?_;by_cases h0:uz x r=0
   ·rw[if_pos h0,h0]; omega
   ·rw[if_neg h0]; omega
  ·have e:uz x (a::r)=0:=by simp only[uz]; rw[if_neg hlt]
   have h0:uz x r=0:=by
    cases r with
    | nil=>rfl
    | cons b r =>
     obtain ⟨b1,b2,b3,b4,b5⟩:=a5;simp only[uz];rw[if_neg (by omega)]
   rw[decide_eq_false hlt,e,if_pos rfl,h0,if_pos rfl];rfl
theorem za6 (hF:64<F) {l:List yp.T} (hl:Zg l=true) (hx:inR x=true):zU.sh F l (mk x)=some (((uz x l:Int)-1,()),()):=by
 obtain ⟨l1,l2,l3⟩:=tZ hl;unfold zU.sh;refine Eq.trans (zU.l3.rq F _ l (by omega) l 0 F _ _ (by simp) (by omega)) ?_;refine (za5 F (by omega) (fun k=>(some ((k,()),()):Option zU.sg.R)) l hx l _ _ (-1) (by omega) l3).trans ?_;have:(if uz x l=0 then (-1:Int) else ((0:Nat):Int)+(uz x l:Int)-1)=(uz x l:Int)-1:=by split<;>omega
 rw[this]
theorem W6 (F:Nat) (hF:20<F) {R:Type} (kk:zd.T->Option R) (L:List yp.T) (hL:L.length<=16) (r6:zd.T) (K:Nat):∀(n i fu:Nat) (xs:List yp.T) (s lo:Int),L.drop i=xs->n<xs.length->n<fu->K=i+n->-1<=lo->UV lo xs->
  -10000000000000000000000000000000000000<=s-n*1000000000000000000000000->s+n*1000000000000000000000000<=10000000000000000000000000000000000000->
  zY.l8 F (fun _ _ _ _ _ s=>kk s) fu L (K:Int) (i:Int) r6 (mk s)=kk (mk (s+Tg xs n))
 | n,i,0,xs,s,lo,h,hn,hf,hK,hlo,hi,b1,b2=>by omega
 | 0,i,fu+1,xs,s,lo,h,hn,hf,hK,hlo,hi,b1,b2=>by
  simp only[zY.l8,zY.l8.y];rw[decide_eq_false (show ¬(i:Int)<(K:Int) by omega)];have:Tg xs 0=0:=by cases xs with
   | nil=>rfl
   | cons a r=>cases r<;>rfl
  rw[this,Int.add_zero];rfl
 | n+1,i,fu+1,[],s,lo,h,hn,hf,hK,hlo,hi,b1,b2=>by simp at hn
 | n+1,i,fu+1,[a],s,lo,h,hn,hf,hK,hlo,hi,b1,b2=>by simp at hn
 | n+1,i,fu+1,a::b::r,s,lo,h,hn,hf,hK,hlo,hi,b1,b2=>by
  obtain ⟨a1,a2,a3,a4,a5⟩:=hi;have ⟨c1,c2,c3,c4,c5⟩:=a5;have h0:=vc h;have h1:=vc (wz h);have hg:get yp L ((i:Int)).toNat=a:=by rw[Int.toNat_natCast]; exact vv h
  have hg1:get yp L (((i+1:Nat):Int)).toNat=b:=by rw[Int.toNat_natCast]; exact vv (wz h)
  push_cast at b1 b2;have hp:=uT (show -1000000000000<=tR a by omega) (show tR a<=1000000000000 by omega) (show -1000000000000<=tF b-tF a by omega) (show tF b-tF a<=1000000000000 by omega);have IH:=W6 F hF kk L hL r6 K n (i+1) fu (b::r) (s+tR a*(tF b-tF a)) (tF a) (wz h) (by simp at hn ⊢; omega) (by omega) (by omega) (by omega) a5 (by omega) (by omega);simp only[zY.l8,zY.l8.y];rw[decide_eq_true (show (i:Int)<(K:Int) by omega),xS h0,hg,yz (n:=(i:Int)+1) (by omega) (by omega),show (i:Int)+1=((i+1:Nat):Int) by omega,xS h1,hg1];simp only[cond_true];rw[uW F (v:=tR a) (by omega) (by omega),zh,yz (n:=tF b-tF a) (by omega) (by omega),uW F (v:=tF b-tF a) (by omega) (by omega),zh];rw[XA F hF (Za (by omega) (by omega)) (Za (by omega) (by omega)) (by rw[yB]; omega),zh,za7 F hF (by rw[yB]; omega) (by rw[yB]; omega) (by rw[yB]; omega),zh];rw[IH,Int.add_assoc];rfl
theorem zeO (hF:64<F) {l:List yp.T} (hl:Zg l=true) (hx:inR x=true) (hX:x<=X) (hX0:0<=X) (hb:vz 0 l*(X+vL l)+v8 l<=BND) :
  zY.sh F 13 l (mk x)=some ((mk (T3 x l),()),()):=by
 obtain ⟨l1,l2,l3⟩:=tZ hl;have hBND:BND=1329227995784915872903807060280344576:=rfl;have hlf:=Zn l (-1) (by omega) l3;have hm:=Int.mul_nonneg (XD l 0).1 (show 0<=X+vL l by omega);have hw0:=qC l (-1) (by omega) l3;have hcl:=Q2 x l;unfold zY.sh T3;rw[za6 F hF hl hx,zh];by_cases hc:uz x l=0
 ·rw[if_pos hc,decide_eq_true (show ((uz x l:Nat):Int)-1<0 by omega),uW F (by omega) (by omega)]
  rfl
 ·have ht:=Qc l (-1) (by omega) l3 (x:=x) (by omega)
  have hs:=(W9 hl hX hX0 (show 1<=uz x l by omega)).1;have hw:=R8 l (-1) (uz x l-1) (by omega) l3;rw[if_neg hc,show ((uz x l:Nat):Int)-1=((uz x l-1:Nat):Int) by omega,decide_eq_false (show ¬((uz x l-1:Nat):Int)<0 by omega),xS (show uz x l-1<l.length by omega),Int.toNat_natCast,show get yp l (uz x l-1)=uC x l from rfl];simp only[cond_true,cond_false,Int.reduceBEq];have hxx:=yB.1 hx;rw[uW F (v:=tR (uC x l)) (by omega) (by omega),zh,uW F (v:=tF (uC x l)) (by omega) (by omega),zh];rw[W5 F (by omega) hx (Za (by omega) (by omega)) (by rw[yB]; omega),zh,XA F (by omega) (Za (by omega) (by omega)) (by rw[yB]; omega) (by rw[yB]; omega),zh];have hlp:=W6 F (by omega) (fun s=>(some ((s,()),()):Option zY.sg.R)) l l2 (0,0) (uz x l-1) (uz x l-1) 0 F l (tR (uC x l)*(x-tF (uC x l))) (-1) (by simp) (by omega) (by omega) (by omega) (by omega) l3 (by omega) (by omega);rw[Int.add_comm (Tg l (uz x l-1))];exact hlp
theorem tvol_eq (hF:64<F) {l:List yp.T} (hl:Zg l=true) (hx:inR x=true) (hX:x<=X) (hX0:0<=X) (hb:vz 0 l*(X+vL l)+v8 l<=BND) :
  zY.sh F 14 l (mk x)=some ((mk (vol x l),()),()):=by
 obtain ⟨l1,l2,l3⟩:=tZ hl;have hBND:BND=1329227995784915872903807060280344576:=rfl;have hw0:=qC l (-1) (by omega) l3;have hcl:=Q2 x l;unfold zY.sh vol;rw[za6 F hF hl hx,zh];by_cases hc:uz x l=0
 ·rw[if_pos hc,decide_eq_true (show ((uz x l:Nat):Int)-1<0 by omega),uW F (by omega) (by omega)]
  rfl
 ·have ht:=Qc l (-1) (by omega) l3 (x:=x) (by omega)
  have hs:=(W9 hl hX hX0 (show 1<=uz x l by omega)).2;rw[if_neg hc,show ((uz x l:Nat):Int)-1=((uz x l-1:Nat):Int) by omega,decide_eq_false (show ¬((uz x l-1:Nat):Int)<0 by omega),xS (show uz x l-1<l.length by omega),Int.toNat_natCast,show get yp l (uz x l-1)=uC x l from rfl];simp only[cond_true,cond_false,Int.reduceBEq];rw[uW F (v:=tR (uC x l)) (by omega) (by omega),zh,XA F (by omega) hx (Za (by omega) (by omega)) (by rw[yB]; omega),zh]
theorem zdz (hF:20<F) {x n:Int} (hx:inR x=true) (h1:-9223372036854775808<=n) (h2:n<9223372036854775808) (op:Int):xL.sh F (mk x) n op=some ((Z2 op x n,()),()):=by
 have h:=zfS F hx (Za h1 h2) op;unfold qY.sh at h;rw[Un F (wu hx) (wu (Za h1 h2)),xR,xR] at h;unfold xL.sh;rw[uW F h1 h2,zh,UY F hF hx (Za h1 h2)];exact h
theorem zby (h0:0<=x) (h:x<=1099511627776) (h1:1<=s):y9.sh F x s=some ((tK x s,()),()):=by
 have hq1:0<=x/s:=Int.ediv_nonneg h0 (by omega);have hq2:x/s<=x:=Int.ediv_le_self _ h0;unfold y9.sh tK;rw[show (s != 0)=true from bne_iff_ne.2 (by omega),Int.tdiv_eq_ediv_of_nonneg h0,Int.tmod_eq_emod_of_nonneg h0,yz (n:=x/s) (by omega) (by omega),yz (n:=x/s+1) (by omega) (by omega)];simp only[cond_true];by_cases hz:x%s=0
 ·rw[hz,if_pos rfl,Int.add_zero]; rfl
 ·rw[show (x%s != 0)=true from bne_iff_ne.2 hz,if_neg hz]; rfl
theorem zeN (hF:20<F) (hu:1<=u) (hu2:u<=1000000000000000000000000) (hD:dE [] p.2.1=0) (hd4:p.2.1.length<=4) (hn:vA p.2.1.length n pile=0) (hq:okQ p.2.1 q) (ha:ar n=0) :
  xE.sh F p n (mk u) q=some ((mk (evN u p.2.1 q n []),()),()):=by
 obtain ⟨g1,g2,g3,g4,g5,g6,g7,g8⟩:=wD hn;have hN2:=Y0 hd4 g3 g1;have iu:inR u=true:=by rw[yB]; omega
 have iN:inR (nN n)=true:=by rw[yB]; omega
 have hc9:nK n=9\/nK n=10->False:=by
  intro h;rcases h with h | h<;>rw[tC h] at g4<;>rw[yI h] at ha
  ·have g4:(decide (nC n>=2)&&decide (nC n<=16))=true:=g4
   have ha:(nC n).toNat=0:=ha;simp at g4; omega
  ·have g4:(decide (nC n>=2)&&decide (nC n<=16))=true:=g4
   have ha:(nC n).toNat=0:=ha;simp at g4; omega
 rcases ug g1 with h | h | h | h | h | h | h | h | h | h | h | h | h | h | h | h
 ·have e:evN u p.2.1 q n []=nN n:=by unfold evN; rw[h]; rfl
  have h':n.1=1:=h;rw[e];unfold xE.sh;rw[h',uW F (v:=nN n) (by omega) (by omega)];rfl
 ·have e:evN u p.2.1 q n []=nN n*u:=by unfold evN; rw[h]; rfl
  have h':n.1=2:=h;have hb:=qV g2 hN2 (show 0<=u by omega) hu2;rw[e];unfold xE.sh;rw[h',uW F (v:=nN n) (by omega) (by omega)];simp only[Int.reduceBEq,cond_false,cond_true];rw[zh,XA F hF iN iu (by rw[yB]; omega),zh]
 ·have e:evN u p.2.1 q n []=q.getD (nN n).toNat 0:=by unfold evN; rw[h]; rfl
  have h':n.1=3:=h;rw[uU h] at g3;have g3:nN n<=(p.2.1.length:Int)-1:=g3;have hb:=hq.at (i:=(nN n).toNat) (by omega);rw[e];unfold xE.sh;rw[h',show idx n.2.1 q.length=true from Y4 g2 (by rw[hq.1]; show nN n<_; omega),show get (.int .i64) q n.2.1.toNat=q.getD (nN n).toNat 0 from rfl,uW F (v:=q.getD (nN n).toNat 0) (by omega) (by omega)];rfl
 ·have e:evN u p.2.1 q n []=tK (q.getD (nN n).toNat 0) (dS (p.2.1.getD (nN n).toNat (ByteArray.empty,0))):=by unfold evN; rw[h]; rfl
  have h':n.1=4:=h;rw[uU h] at g3;have g3:nN n<=(p.2.1.length:Int)-1:=g3;have hb:=hq.at (i:=(nN n).toNat) (by omega);have hs:1<=dS (p.2.1.getD (nN n).toNat (ByteArray.empty,0))/\dS (p.2.1.getD (nN n).toNat (ByteArray.empty,0))<=1000000000000:=by
   have hlt:(nN n).toNat<p.2.1.length:=by omega
   rw[getD_eq_getElem?_getD,List.getElem?_eq_getElem hlt];exact X2 _ _ hD _ (getElem_mem _)
  have hcb:=zbh hb.1 hb.2 hs.1;have hcc:=Int.le_trans hcb.2 (Sx hs.1).2;rw[e];unfold xE.sh;rw[h',show idx n.2.1 q.length=true from Y4 g2 (by rw[hq.1]; show nN n<_; omega),show idx n.2.1 p.2.1.length=true from Y4 g2 (by show nN n<_; omega),show get (.int .i64) q n.2.1.toNat=q.getD (nN n).toNat 0 from rfl,
   show (get xB p.2.1 n.2.1.toNat).2=dS (p.2.1.getD (nN n).toNat (ByteArray.empty,0)) from rfl]
  simp only[Int.reduceBEq,cond_false,cond_true];rw[zby F hb.1 hb.2 hs.1,zh,uW F (v:=tK (q.getD (nN n).toNat 0) (dS (p.2.1.getD (nN n).toNat (ByteArray.empty,0)))) (by omega) (by omega),zh]
 ·rw[yI h] at ha; exact absurd (show (1:Nat)=0 from ha) (by decide)
 ·rw[yI h] at ha; exact absurd (show (2:Nat)=0 from ha) (by decide)
 ·rw[yI h] at ha; exact absurd (show (2:Nat)=0 from ha) (by decide)
 ·rw[yI h] at ha; exact absurd (show (2:Nat)=0 from ha) (by decide)
 ·exact absurd (.inl h) hc9
 ·exact absurd (.inr h) hc9
 ·rw[yI h] at ha; exact absurd (show (1:Nat)=0 from ha) (by decide)
 ·rw[yI h] at ha; exact absurd (show (1:Nat)=0 from ha) (by decide)
 ·rw[yI h] at ha; exact absurd (show (1:Nat)=0 from ha) (by decide)
 ·rw[yI h] at ha; exact absurd (show (1:Nat)=0 from ha) (by decide)
 ·rw[yI h] at ha; exact absurd (show (1:Nat)=0 from ha) (by decide)
 ·rw[yI h] at ha; exact absurd (show (3:Nat)=0 from ha) (by decide)
theorem max2 (a b:Int):uZ [a,b]=uZ [b,a]:=by
 show (if b>a then b else a)=(if a>b then a else b);split<;>split<;>omega
theorem min2 (a b:Int):Zl [a,b]=Zl [b,a]:=by
 show (if b<a then b else a)=(if a<b then a else b);split<;>split<;>omega
theorem zdy (hF:200<F) (hu:1<=u) (hu2:u<=1000000000000000000000000) (hd4:D.length<=4) (hn:vA D.length n pile=0) {V M:Tree->Int} (hk:Kids ks V M) (hl:ks.length=ar n) (ha:1<=ar n)
  (hfar:vR n (xJ u D n (ks.map M))<=BND) (hoff:nK n=15->∃c,(ks.map V).getD 0 0=c*10000) :
  yo.sh F n (mk u) (ks.map fun k=>mk (V k))=some ((mk (evN u D q n (ks.map V)),()),()):=by
 obtain ⟨g1,g2,g3,g4,g5,g6,g7,g8⟩:=wD hn;have hBND:BND=1329227995784915872903807060280344576:=rfl;have ha16:=Xq g1 g4;have hN2:=Y0 hd4 g3 g1;have iu:inR u=true:=by rw[yB]; omega
 have i00:inR 0=true:=by rw[yB]; omega
 have iN:inR (nN n)=true:=by rw[yB]; omega
 have ho0:yf.sh F 0=some ((mk 0,()),()):=uW F (by omega) (by omega);have hof:yf.sh F n.2.1=some ((mk (nN n),()),()):=uW F (v:=nN n) (by omega) (by omega);have i0:idx 0 (ks.map fun k=>mk (V k)).length=true:=Zq (by simp; omega);have hmm:(ks.map fun k=>mk (V k))=(ks.map V).map mk:=by rw[map_map]; rfl
 have B:∀k∈ks,-M k<=V k/\V k<=M k/\M k<=BND/\inR (V k)=true:=fun k h=>⟨hk.lo k h,hk.hi k h,hk.bd k h,hk.inr _ (mem_map_of_mem h)⟩
 rcases ug g1 with h | h | h | h | h | h | h | h | h | h | h | h | h | h | h | h
 ·rw[yI h] at ha; exact absurd (show (1:Nat)<=0 from ha) (by decide)
 ·rw[yI h] at ha; exact absurd (show (1:Nat)<=0 from ha) (by decide)
 ·rw[yI h] at ha; exact absurd (show (1:Nat)<=0 from ha) (by decide)
 ·rw[yI h] at ha; exact absurd (show (1:Nat)<=0 from ha) (by decide)
 ·
  have hl1:ks.length=1:=by rw[hl,yI h]; rfl
  obtain ⟨a,rfl⟩:=length_eq_one_iff.1 hl1;have e:evN u D q n ([a].map V)=0-V a:=by unfold evN; rw[h]; rfl
  have Ba:=B a (by simp);have h':n.1=5:=h;rw[e];unfold yo.sh;rw[i0,h',ho0,hof];simp only[Int.reduceBEq,cond_false,cond_true];rw[zh,zh,show get zd ([a].map fun k=>mk (V k)) 0=mk (V a) from rfl,W5 F (by omega) i00 Ba.2.2.2 (by rw[yB]; omega),zh]
 ·
  have hl1:ks.length=2:=by rw[hl,yI h]; rfl
  obtain ⟨a,b,rfl⟩:=ZY hl1;have e:evN u D q n ([a,b].map V)=V a+V b:=by unfold evN; rw[h]; rfl
  have Ba:=B a (by simp);have Bb:=B b (by simp);have h':n.1=6:=h;rw[e];unfold yo.sh;rw[i0,h',ho0,hof,show idx 1 ([a,b].map fun k=>mk (V k)).length=true from rfl];simp only[Int.reduceBEq,cond_false,cond_true];rw[zh,zh,show get zd ([a,b].map fun k=>mk (V k)) 0=mk (V a) from rfl,show get zd ([a,b].map fun k=>mk (V k)) 1=mk (V b) from rfl,za7 F (by omega) Ba.2.2.2 Bb.2.2.2 (by rw[yB]; omega),zh]
 ·
  have hl1:ks.length=2:=by rw[hl,yI h]; rfl
  obtain ⟨a,b,rfl⟩:=ZY hl1;have e:evN u D q n ([a,b].map V)=V a-V b:=by unfold evN; rw[h]; rfl
  have Ba:=B a (by simp);have Bb:=B b (by simp);have h':n.1=7:=h;rw[e];unfold yo.sh;rw[i0,h',ho0,hof,show idx 1 ([a,b].map fun k=>mk (V k)).length=true from rfl];simp only[Int.reduceBEq,cond_false,cond_true];rw[zh,zh,show get zd ([a,b].map fun k=>mk (V k)) 0=mk (V a) from rfl,show get zd ([a,b].map fun k=>mk (V k)) 1=mk (V b) from rfl,W5 F (by omega) Ba.2.2.2 Bb.2.2.2 (by rw[yB]; omega),zh]
 ·
  have hl1:ks.length=2:=by rw[hl,yI h]; rfl
  obtain ⟨a,b,rfl⟩:=ZY hl1;have e:evN u D q n ([a,b].map V)=V a*V b:=by unfold evN; rw[h]; rfl
  have m:xJ u D n ([a,b].map M)=M a*M b:=by unfold xJ; rw[h]; rfl
  have hf:vR n (xJ u D n ([a,b].map M))=M a*M b:=by unfold vR; rw[h,m]; rfl
  rw[hf] at hfar;have Ba:=B a (by simp);have Bb:=B b (by simp);have hb:=uT Ba.1 Ba.2.1 Bb.1 Bb.2.1;have h':n.1=8:=h;rw[e];unfold yo.sh;rw[i0,h',ho0,hof,show idx 1 ([a,b].map fun k=>mk (V k)).length=true from rfl];simp only[Int.reduceBEq,cond_false,cond_true];rw[zh,zh,show get zd ([a,b].map fun k=>mk (V k)) 0=mk (V a) from rfl,show get zd ([a,b].map fun k=>mk (V k)) 1=mk (V b) from rfl,XA F (by omega) Ba.2.2.2 Bb.2.2.2 (by rw[yB]; omega),zh]
 ·
  have e:evN u D q n (ks.map V)=Zl (ks.map V):=by unfold evN; rw[h]; rfl
  have h':n.1=9:=h;rw[e];unfold yo.sh;rw[h',ho0,hof,hmm];simp only[Int.reduceBEq,cond_false,cond_true];rw[zh,zh,zbn F (by omega) hk.inr (by simp; omega) (by simp; omega) (by simp; omega),zh]
 ·
  have e:evN u D q n (ks.map V)=uZ (ks.map V):=by unfold evN; rw[h]; rfl
  have h':n.1=10:=h;rw[e];unfold yo.sh;rw[h',ho0,hof,hmm];simp only[Int.reduceBEq,cond_false,cond_true];rw[zh,zh,zbo F (by omega) hk.inr (by simp; omega) (by simp; omega) (by simp; omega),zh]
 ·
  have hl1:ks.length=1:=by rw[hl,yI h]; rfl
  obtain ⟨a,rfl⟩:=length_eq_one_iff.1 hl1;have e:evN u D q n ([a].map V)=uZ [0,V a-nN n]:=by unfold evN; rw[h]; rfl
  have Ba:=B a (by simp);have h':n.1=11:=h;have i1:inR (V a-nN n)=true:=by rw[yB]; omega
  rw[e,max2];unfold yo.sh;rw[i0,h',ho0,hof];simp only[Int.reduceBEq,cond_false,cond_true];rw[zh,zh,show get zd ([a].map fun k=>mk (V k)) 0=mk (V a) from rfl,W5 F (by omega) Ba.2.2.2 iN i1,zh];have:=zbo F (by omega) (l:=[V a-nN n,0]) (by intro v hv; simp at hv; rcases hv with rfl | rfl; exact i1; exact i00) (by simp) (by simp; omega) (by simp)
  rw[show (([V a-nN n,0]:List Int).map mk)=[mk (V a-nN n),mk 0] from rfl] at this;rw[this,zh]
 ·
  have hl1:ks.length=1:=by rw[hl,yI h]; rfl
  obtain ⟨a,rfl⟩:=length_eq_one_iff.1 hl1;have e:evN u D q n ([a].map V)=Zl [nN n,V a]:=by unfold evN; rw[h]; rfl
  have Ba:=B a (by simp);have h':n.1=12:=h;rw[e,min2];unfold yo.sh;rw[i0,h',ho0,hof];simp only[Int.reduceBEq,cond_false,cond_true];rw[zh,zh,show get zd ([a].map fun k=>mk (V k)) 0=mk (V a) from rfl];have:=zbn F (by omega) (l:=[V a,nN n]) (by intro v hv; simp at hv; rcases hv with rfl | rfl; exact Ba.2.2.2; exact iN) (by simp) (by simp; omega) (by simp)
  rw[show (([V a,nN n]:List Int).map mk)=[mk (V a),mk (nN n)] from rfl] at this;rw[this,zh]
 ·
  have hl1:ks.length=1:=by rw[hl,yI h]; rfl
  obtain ⟨a,rfl⟩:=length_eq_one_iff.1 hl1;have hr:=g8 (by unfold ue tI; rw[h]; rfl);have e:evN u D q n ([a].map V)=u*T3 (V a) (nT n):=by unfold evN; rw[h]; rfl
  have m:xJ u D n ([a].map M)=u*(vz 0 (nT n)*(M a+vL (nT n))+v8 (nT n)):=by unfold xJ; rw[h]; rfl
  have hf:vR n (xJ u D n ([a].map M))=u*(vz 0 (nT n)*(M a+vL (nT n))+v8 (nT n)):=by unfold vR; rw[h,m]; rfl
  rw[hf] at hfar;have Ba:=B a (by simp);have hgb:=zd8 hr Ba.2.1 (by omega);have hub:=uT (show -u<=u by omega) (Int.le_refl u) hgb.1 hgb.2;have hle:=V6 hu (show 0<=vz 0 (nT n)*(M a+vL (nT n))+v8 (nT n) by omega);have h':n.1=13:=h;rw[e];unfold yo.sh;rw[i0,h',ho0,hof];simp only[Int.reduceBEq,cond_false,cond_true];rw[zh,zh,show get zd ([a].map fun k=>mk (V k)) 0=mk (V a) from rfl,zeO F (by omega) hr Ba.2.2.2 Ba.2.1 (by omega) (by omega),zh,XA F (by omega) iu (by rw[yB]; omega) (by rw[yB]; omega),zh]
 ·
  have hl1:ks.length=1:=by rw[hl,yI h]; rfl
  obtain ⟨a,rfl⟩:=length_eq_one_iff.1 hl1;have hr:=g8 (by unfold ue tI; rw[h]; rfl);have e:evN u D q n ([a].map V)=u*vol (V a) (nT n):=by unfold evN; rw[h]; rfl
  have m:xJ u D n ([a].map M)=u*(vz 0 (nT n)*(M a+vL (nT n))+v8 (nT n)):=by unfold xJ; rw[h]; rfl
  have hf:vR n (xJ u D n ([a].map M))=u*(vz 0 (nT n)*(M a+vL (nT n))+v8 (nT n)):=by unfold vR; rw[h,m]; rfl
  rw[hf] at hfar;have Ba:=B a (by simp);have hgb:=zeD hr Ba.2.1 (by omega);have hub:=uT (show -u<=u by omega) (Int.le_refl u) hgb.1 hgb.2;have hle:=V6 hu (show 0<=vz 0 (nT n)*(M a+vL (nT n))+v8 (nT n) by omega);have h':n.1=14:=h;rw[e];unfold yo.sh;rw[i0,h',ho0,hof];simp only[Int.reduceBEq,cond_false,cond_true];rw[zh,zh,show get zd ([a].map fun k=>mk (V k)) 0=mk (V a) from rfl,tvol_eq F (by omega) hr Ba.2.2.2 Ba.2.1 (by omega) (by omega),zh,XA F (by omega) iu (by rw[yB]; omega) (by rw[yB]; omega),zh]
 ·
  have hl1:ks.length=1:=by rw[hl,yI h]; rfl
  obtain ⟨a,rfl⟩:=length_eq_one_iff.1 hl1;have e:evN u D q n ([a].map V)=Ye 2 (V a*(10000-nN n)) 10000:=by unfold evN; rw[h]; rfl
  have m:xJ u D n ([a].map M)=M a:=by unfold xJ; rw[h]; rfl
  have hf:vR n (xJ u D n ([a].map M))=M a*10000:=by unfold vR; rw[h,m]; rfl
  rw[hf] at hfar;rw[uU h] at g3;have g3:nN n<=10000:=g3;have Ba:=B a (by simp);have ho:=zbS g2 g3 (M a) Ba.1 Ba.2.1;have h':n.1=15:=h;obtain ⟨c,hc⟩:=hoff h;have hc:V a=c*10000:=hc;have hx:V a*(10000-nN n)=(c*(10000-nN n))*10000:=by rw[hc,Int.mul_right_comm]
  have hd:∀m,Ye m (V a*(10000-nN n)) 10000=c*(10000-nN n):=fun m=>by rw[hx]; exact Z5 (by decide)
  rw[e,hd 2,<-hd 0];unfold yo.sh;rw[i0,h',ho0,hof];simp only[Int.reduceBEq,cond_false,cond_true];rw[zh,zh,show get zd ([a].map fun k=>mk (V k)) 0=mk (V a) from rfl,yz (n:=10000-n.2.1) (show -9223372036854775808<=10000-nN n by omega) (show 10000-nN n<9223372036854775808 by omega),show (10000-n.2.1:Int)=10000-nN n from rfl,
   uW F (v:=10000-nN n) (by omega) (by omega),zh,XA F (by omega) Ba.2.2.2 (Za (by omega) (by omega)) (by rw[yB]; omega),zh,uW F (v:=10000) (by omega) (by omega),zh]
  rw[rdiv_eq F (by omega) (by rw[yB]; omega) (by rw[yB]; omega) (by decide) (by rw[yB]; omega) (by omega) (by omega),zh]
 ·
  have hl1:ks.length=3:=by rw[hl,yI h]; rfl
  obtain ⟨a,b,c,rfl⟩:=len3 hl1;have e:evN u D q n ([a,b,c].map V)=bif Z2 (nO n) (V a) (nN n) then V b else V c:=by unfold evN; rw[h]; rfl
  have Ba:=B a (by simp);have h':n.1=16:=h;rw[e];unfold yo.sh yo.j26;rw[i0,h',ho0,hof,show idx 1 ([a,b,c].map fun k=>mk (V k)).length=true from rfl,show idx 2 ([a,b,c].map fun k=>mk (V k)).length=true from rfl];simp only[Int.reduceBEq,cond_false,cond_true];rw[zh,zh,show get zd ([a,b,c].map fun k=>mk (V k)) 0=mk (V a) from rfl,zdz F (by omega) Ba.2.2.2 (n:=n.2.1) (show -9223372036854775808<=nN n by omega) (show nN n<9223372036854775808 by omega),zh];cases Z2 (nO n) (V a) (nN n)<;>rfl
theorem ze0 (hn:vA dims n st.length=0) (hE:tyE (wH st n)=0) (hd:deep (wH st n)<=S) (hk:∀k∈st,Dv S u D q k) (h:nK n=15) :
  ∃c,((st.drop (st.length-ar n)).map (ev u D q)).getD 0 0=c*10000:=by
 have g7:=(wD hn).2.2.2.2.2.2.1;have hl:(st.drop (st.length-ar n)).length=1:=by simp; rw[yI h] at*; have:(1:Nat)<=st.length:=g7; show st.length-(st.length-1)=1; omega
 have hks:∀k∈st.drop (st.length-ar n),Dv S u D q k:=fun k hk'=>hk k (mem_of_mem_drop hk')
 unfold wH at hE hd;generalize st.drop (st.length-ar n)=ks at*;obtain ⟨a,rfl⟩:=length_eq_one_iff.1 hl;have hdn:=tV n [a];rw[h] at hdn;have hdn:deep (.nd n [a])=deep a+1:=by rw[hdn]; rfl
 have hx0:tyN n ([a].map ty)=(bif ty a==1 then (1:Int) else -1):=by unfold tyN; rw[h]; rfl
 have ht:ty (.nd n [a])=(bif ty a==1 then (1:Int) else -1):=by rw[qR]; exact hx0
 have h1:ty a=1:=by
  cases hta:(ty a==1) with
  | true=>simpa using hta
  | false =>
   rw[hta] at ht;unfold tyE at hE;rw[ht] at hE;exact absurd (show (80:Int)=0 from hE) (by decide)
 obtain ⟨c,hc⟩:=hks a (by simp) h1;refine ⟨c*10000^(S-deep a-1).toNat,?_⟩;show ev u D q a=_;rw[hc,Int.mul_assoc,<-Int.pow_succ,show (S-deep a-1).toNat.succ=(S-deep a).toNat by omega]
theorem zah (hF:4096<F) (hS0:0<=S) (huS:u=10000^S.toNat) (hu:1<=u) (hu2:u<=1000000000000000000000000) (hD:dE [] p.2.1=0) (hd4:p.2.1.length<=4) (hL:p.2.2.2.length<=1024) (hq:okQ p.2.1 q) (kO:List zd.T->Option R) :
  ∀(xs:List za.T) (st:List Tree) (out:List zd.T) (fu:Nat),p.2.2.2=zS st++xs->okS p.2.1.length st xs->out.length<=(zS st).length->(∀t∈st,Inv u p.2.1 q t)->(∀t∈st,Dv S u p.2.1 q t)->
  ve (Ys u p.2.1) (news st xs) 0=none->ve tyE (news st xs) 0=none->(∀t∈news st xs,deep t<=S)->xs.length<fu->
  zf.l14 F (fun _ _ _ _ _ out _=>kO out) fu q ((zS st).length:Int) p (mk u) out (st.map fun t=>mk (ev u p.2.1 q t))=kO (out++(news st xs).map fun t=>mk (ev u p.2.1 q t)):=by
 intro xs;induction xs with
 | nil =>
  intro st out fu h ho hout hI hv hm ht hdp hf;obtain ⟨fu,rfl⟩:∃j,fu=j+1:=⟨fu-1,by simp at hf; omega⟩;have:p.2.2.2.length=(zS st).length:=by rw[h]; simp
  simp only[zf.l14,zf.l14.y,decide_eq_false (show ¬(((zS st).length:Int)<(p.2.2.2.length:Int)) by omega),cond_false,news,map_nil,append_nil]
 | cons n xs ih =>
  intro st out fu h ho hout hI hv hm ht hdp hf;obtain ⟨fu,rfl⟩:∃j,fu=j+1:=⟨fu-1,by simp at hf; omega⟩;have hlen:p.2.2.2.length=(zS st).length+(xs.length+1):=by rw[h]; simp
  obtain ⟨g1,g2,g3,g4,g5,g6,g7,g8⟩:=wD ho.1;have hst:=vo st;have hfs:=vQ st n;have hfl:=congrArg List.length hfs;simp only[length_append,length_cons,length_nil] at hfl;simp only[news] at hm ht hdp ⊢;have hE:=Z3 hm (wH st n) (by simp);have hT:=Z3 ht (wH st n) (by simp);have hdt:=hdp (wH st n) (by simp);have s1:=zcJ hu hu2 hD hd4 hq ho.1 hI hE;have sd:Dv S u p.2.1 q (wH st n):=zcI hS0 huS ho.1 (ks:=st.drop (st.length-ar n)) (by simp; omega) hdt (fun k hk=>hv k (mem_of_mem_drop hk));have hl:(st.map fun t=>mk (ev u p.2.1 q t)).length=st.length:=by simp
  have hdm:(st.map fun t=>mk (ev u p.2.1 q t)).drop (st.length-ar n)=(st.drop (st.length-ar n)).map fun t=>mk (ev u p.2.1 q t):=by rw[<-map_drop]
  have ew:=ZQ g7 (by omega);have hb1:=qZ (show st.length-ar n<=st.length by omega);have hb2:=q8 (show st.length-ar n<=st.length by omega);have htk:(st.map fun t=>mk (ev u p.2.1 q t)).take st.length=st.map fun t=>mk (ev u p.2.1 q t):=take_of_length_le (by omega)
  have hbl1:∀y,Nat.ble (out.length+([y]:List zd.T).length) wF=true:=fun y=>uq (by simp; omega)
  have hbl2:∀y,Nat.ble (st.length-ar n+([y]:List zd.T).length) wF=true:=fun y=>uq (by simp; omega)
  obtain ⟨e1,e2⟩:=Ur h rfl;have ewi:i64.wrap (((zS st).length:Int)+1)=((zS st).length:Int)+1:=yz (by omega) (by omega);have hstep:(w9 st n).map (fun t=>mk (ev u p.2.1 q t))=(st.map fun t=>mk (ev u p.2.1 q t)).take (st.length-ar n)++[mk (ev u p.2.1 q (wH st n))]:=by
   unfold w9; simp[List.map_take]
  have IH:=ih (w9 st n) (out++[mk (ev u p.2.1 q (wH st n))]) fu (by rw[hfs,h]; simp) ho.2 (by simp; omega) (by
   intro t ht;rcases mem_append.1 ht with ht | ht
   ·exact hI t (mem_of_mem_take ht)
   ·rw[mem_singleton.1 ht]; exact s1) (by
   intro t ht;rcases mem_append.1 ht with ht | ht
   ·exact hv t (mem_of_mem_take ht)
   ·rw[mem_singleton.1 ht]; exact sd) (by
   simp only[ve] at hm;rw[show (Ys u p.2.1 (wH st n) != 0)=false by simpa using hE] at hm;exact XZ 0 hm) (by
   simp only[ve] at ht;rw[show (tyE (wH st n) != 0)=false by simpa using hT] at ht;exact XZ 0 ht) (fun t ht=>hdp t (by simp[ht])) (by simp at hf; omega)
  rw[hstep,hfl,show (((zS st).length+(0+1):Nat):Int)=((zS st).length:Int)+1 by omega] at IH;simp only[append_assoc,singleton_append] at IH;simp only[zf.l14,zf.l14.y,decide_eq_true (show (((zS st).length:Int)<(p.2.2.2.length:Int)) by omega),cond_true,e1,Int.toNat_natCast,e2];rw[ZK F g1 g4,zh];simp only[hl,ew,hb1,hb2,htk,cond_true,hdm,ewi];have hev:ev u p.2.1 q (wH st n)=evN u p.2.1 q n ((st.drop (st.length-ar n)).map (ev u p.2.1 q)):=by unfold wH; rw[tU]
  by_cases ha:ar n=0
  ·rw[show (((st.length-ar n:Nat):Int)==(st.length:Int))=true by rw[beq_iff_eq]; omega]
   have hlf:=zeN F (by omega) hu hu2 hD hd4 ho.1 hq ha;have hv0:evN u p.2.1 q n []=ev u p.2.1 q (wH st n):=by
    rw[hev,ha,Nat.sub_zero,drop_of_length_le (Nat.le_refl _)]; rfl
   rw[hv0] at hlf;simp only[cond_true];rw[hlf,zh];simp only[hbl1,hbl2,cond_true];exact IH
  ·rw[show (((st.length-ar n:Nat):Int)==(st.length:Int))=false by rw[beq_eq_false_iff_ne]; omega]
   have hfar:vR n (xJ u p.2.1 n ((st.drop (st.length-ar n)).map (mag u p.2.1)))<=BND:=by
    have hm2:mag u p.2.1 (wH st n)=xJ u p.2.1 n ((st.drop (st.length-ar n)).map (mag u p.2.1)):=by unfold wH; rw[qb]
    rw[<-hm2];unfold Ys at hE;rw[show (wH st n).root=n from rfl] at hE;cases hx:decide (vR n (mag u p.2.1 (wH st n))>BND) with
    | true=>rw[hx] at hE; exact absurd (show (90:Int)=0 from hE) (by decide)
    | false=>have:=of_decide_eq_false hx; omega
   have hin:=zdy F (by omega) hu hu2 hd4 ho.1 (q:=q) (ks:=st.drop (st.length-ar n)) (V:=ev u p.2.1 q) (M:=mag u p.2.1) (UG (fun t ht=>hI t (mem_of_mem_drop ht))) (by simp; omega) (by omega) hfar
    (fun h15=>ze0 ho.1 hT hdt hv h15)
   rw[<-hev] at hin;simp only[cond_false];rw[hin,zh];simp only[hbl1,hbl2,cond_true];exact IH
theorem zcN (F:Nat) {R:Type} (k0:List zd.T->Int->Option R) (k1:List Int->zO.T->zd.T->Option R) (q:List Int) (p:zO.T) (u:zd.T):∀(xs:List Int) (i:Int),
  zf.l7.rg F k0 (fun q _ _ p u=>k1 q p u) q xs i p u=bif xs.any qB then k0 [] 101 else k1 q p u
 | [],i=>rfl
 | x::r,i=>by
  rw[zf.l7.rg,zcN F k0 k1 q p u r,any_cons];unfold qB;cases decide (x<0) with
  | true=>rfl
  | false=>cases decide (x>1099511627776)<;>rfl
theorem zar (hF:4096<F) (h:Good p t) (q:List Int) (hU:xg.sh F p=some (((vg p.2.1 t).1,(vg p.2.1 t).2.1,(vg p.2.1 t).2.2,()),())):zf.sh F p q=some (((za1 p.2.1 t q).1,(za1 p.2.1 t q).2,()),()):=by
 unfold zf.sh za1;rw[hU,zh];cases hu:((vg p.2.1 t).2.2 != 0) with
 | true=>simp only[cond_true,hu]
 | false =>
  have hu':(vg p.2.1 t).2.2=0:=by simpa using hu
  obtain ⟨u1,u2,u3,u4,u5⟩:=R9 h hu';simp only[cond_false,hu];cases hql:((q.length:Int) != (p.2.1.length:Int)) with
  | true=>rfl
  | false =>
   have hql:(q.length:Int)=(p.2.1.length:Int):=by simpa using hql
   have hh:=tg h.head;have hl:=h.len;simp only[cond_false];refine Eq.trans (zf.l7.rq F _ _ q (by omega) q 0 F _ _ (by simp) (by omega)) ?_;refine (zcN F (fun r42 r52=>(some ((r42,r52,()),()):Option zf.sg.R)) (fun q3 p3 unit3=>zf.l14 F (fun q7 i7 t537 p7 unit7 out7 pile7=>zf.j24 F (fun r48 r58=>some ((r48,r58,()),())) out7) F q3 0 p3 unit3 ([]) ([])) q p _ q _).trans ?_;cases hqa:q.any qB with
   | true=>rfl
   | false =>
    simp only[cond_false];have hub:=ZR u1;rw[u5];have e:=zah F hF (tc t).1 (show vt t=10000^(deep t).toNat from rfl) hub.1 hub.2 hh.2.2.1 hh.2.1 hl (okQ_of (by omega) hqa) (fun out=>(some ((out,0,()),()):Option zf.sg.R)) p.2.2.2 [] [] F (by simp[zS]) h.ok (by simp) (by simp) (by simp)
     (by rw[h.subs]; exact u4) (by rw[h.subs]; exact u2) (by rw[h.subs]; exact RP t) (by omega)
    rw[show (zS []).length=0 from rfl,show ((0:Nat):Int)=0 from rfl,h.subs] at e;exact e
def toL:Tree->LTr za.T:=Tree.fold (fun n ks=>.nd n ks)
theorem Xx (n:za.T) (ks:List Tree):toL (.nd n ks)=.nd n (ks.map toL):=Tree.fold_nd _ n ks
theorem up (t:Tree):LTr.isNd (toL t)=true:=by cases t; rw[Xx]; rfl
theorem uw (d:za.T) (t:Tree):LTr.lab d (toL t)=t.root:=by cases t; rw[Xx]; rfl
theorem tX (t:Tree):LTr.kids (toL t)=t.kids.map toL:=by cases t; rw[Xx]; rfl
theorem zda {k:Tree} (h:ks[i]?=some k):get (.tr za) (ks.map toL) i=toL k:=by
 unfold get;rw[getD_eq_getElem?_getD,List.getElem?_map,h]; rfl
theorem zec (hg:tz n=true) (hk:uV n=true):xa.sh F n=some (((ar n:Int),()),()):=by
 have h9:∀k:Int,(nK n=k)->(k=9\/k=10)->(ar n:Int)=nC n:=by
  intro k h hkk;rw[tC h] at hk;have hk:(decide (nC n>=2)&&decide (nC n<=16))=true:=by rcases hkk with rfl | rfl<;>exact hk
  simp at hk;have:ar n=(nC n).toNat:=by rw[yI h]; rcases hkk with rfl | rfl<;>rfl
  omega
 unfold xa.sh xa.j6 xa.j10;rcases ug hg with h | h | h | h | h | h | h | h | h | h | h | h | h | h | h | h<;>rw[show n.1=_ from h]
 ·rw[yI h]; rfl
 ·rw[yI h]; rfl
 ·rw[yI h]; rfl
 ·rw[yI h]; rfl
 ·rw[yI h]; rfl
 ·rw[yI h]; rfl
 ·rw[yI h]; rfl
 ·rw[yI h]; rfl
 ·rw[h9 9 h (.inl rfl)]; rfl
 ·rw[h9 10 h (.inr rfl)]; rfl
 ·rw[yI h]; rfl
 ·rw[yI h]; rfl
 ·rw[yI h]; rfl
 ·rw[yI h]; rfl
 ·rw[yI h]; rfl
 ·rw[yI h]; rfl
def WF (dims:Nat) (t:Tree):Prop:=∀s∈t.subs,s.kids.length=ar s.root/\vA dims s.root (ar s.root)=0
theorem Rm {s:Tree} {l:List Tree}:s∈vW l↔∃k∈l,s∈k.subs:=by
 unfold vW;simp only[mem_flatten,mem_map];constructor
 ·rintro ⟨_,⟨k,hk,rfl⟩,hs⟩; exact ⟨k,hk,hs⟩
 ·rintro ⟨k,hk,hs⟩; exact ⟨_,⟨k,hk,rfl⟩,hs⟩
theorem tP {P:Tree->Prop}:(∀s∈Tree.subs (.nd n ks),P s)↔P (.nd n ks)/\∀k∈ks,∀s∈k.subs,P s:=by
 rw[q9];constructor
 ·intro h
  exact ⟨h _ (by simp),fun k hk s hs=>h s (mem_append_left _ (Rm.2 ⟨k,hk,hs⟩))⟩
 ·rintro ⟨h1,h2⟩ s hs
  rcases mem_append.1 hs with hs | hs
  ·obtain ⟨k,hk,hs⟩:=Rm.1 hs; exact h2 k hk s hs
  ·simp at hs; subst hs; exact h1
theorem qQ:WF dims (.nd n ks)↔(ks.length=ar n/\vA dims n (ar n)=0)/\∀k∈ks,WF dims k:=tP
theorem Tf {dims:Nat}:∀(xs:List za.T) (st:List Tree),okS dims st xs->∀s∈news st xs,s.kids.length=ar s.root/\vA dims s.root (ar s.root)=0
 | [],st,_,s,hs=>by simp[news] at hs
 | n::r,st,h,s,hs=>by
  have ha:=(wD h.1).2.2.2.2.2.2.1;rcases mem_cons.1 hs with rfl | hs
  ·refine ⟨?_,?_⟩
   ·show (st.drop (st.length-ar n)).length=ar n
    rw[length_drop]; omega
   ·have h7:decide ((ar n:Int)<(ar n:Int))=false:=decide_eq_false (by omega)
    have h7':decide ((st.length:Int)<(ar n:Int))=false:=decide_eq_false (by omega);have h1:=h.1;show vA dims n (ar n)=0;unfold vA at h1 ⊢;rw[h7'] at h1;rw[h7];exact h1
  ·exact Tf r (w9 st n) h.2 s hs
theorem Good.wf (h:Good p t):WF p.2.1.length t:=by
 intro s hs;rw[<-h.subs] at hs;exact Tf _ _ h.ok s hs
theorem R7 (t:Tree):WF dims t->∀(st:List Tree) (r:List za.T),(okS dims st (t.flat++r)↔okS dims (st++[t]) r)/\tW st (t.flat++r)=tW (st++[t]) r/\news st (t.flat++r)=t.subs++news (st++[t]) r:=by
 refine Tree.ind (P:=fun t=>WF dims t->∀(st:List Tree) (r:List za.T),(okS dims st (t.flat++r)↔okS dims (st++[t]) r)/\tW st (t.flat++r)=tW (st++[t]) r/\news st (t.flat++r)=t.subs++news (st++[t]) r) (fun n ks ih hw st r=>?_) t;obtain ⟨⟨h1,h2⟩,h3⟩:=qQ.1 hw;have key:∀(l:List Tree),(∀k∈l,k∈ks)->∀(st:List Tree) (r:List za.T),(okS dims st (zS l++r)↔okS dims (st++l) r)/\tW st (zS l++r)=tW (st++l) r/\news st (zS l++r)=vW l++news (st++l) r:=by
  intro l;induction l with
  | nil=>intro _ st r; simp[zS,vW]
  | cons k l ihl =>
   intro hl st r;obtain ⟨a1,a2,a3⟩:=ih k (hl k (by simp)) (h3 k (hl k (by simp))) st (zS l++r);obtain ⟨b1,b2,b3⟩:=ihl (fun x hx=>hl x (by simp[hx])) (st++[k]) r;rw[vN,append_assoc];refine ⟨a1.trans (b1.trans ?_),a2.trans (b2.trans ?_),?_⟩
   ·rw[append_assoc]; rfl
   ·rw[append_assoc]; rfl
   ·rw[a3,b3,append_assoc st [k] l]
    unfold vW;simp
 obtain ⟨c1,c2,c3⟩:=key ks (fun k hk=>hk) st ([n]++r);rw[tM,append_assoc];have hd:(st++ks).length-ar n=st.length:=by simp; omega
 have ht:wH (st++ks) n=.nd n ks:=by
  unfold wH;rw[hd]; simp
 have hs:w9 (st++ks) n=st++[.nd n ks]:=by
  unfold w9;rw[ht,hd]; simp
 refine ⟨c1.trans ?_,c2.trans ?_,?_⟩
 ·show (vA dims n (st++ks).length=0/\okS dims (w9 (st++ks) n) r)↔_
  rw[hs];exact ⟨fun h=>h.2,fun h=>⟨TD h2 (by simp; omega),h⟩⟩
 ·show tW (w9 (st++ks) n) r=_
  rw[hs]
 ·rw[c3,q9]
  show vW ks++(wH (st++ks) n::news (w9 (st++ks) n) r)=_;rw[hs,ht]; simp
theorem good_of (hh:ZA name D m=0) (hw:WF D.length t) (hs:t.size<=1024):Good (name,D,m,t.flat) t:=by
 obtain ⟨a1,a2,a3⟩:=R7 t hw [] [];rw[append_nil] at a1 a2;exact ⟨hh,hs,a1.2 trivial,a2⟩
theorem zcu {ks:List (LTr za.T)} (h:ks.length<=4194304):wq.sh F ks=some ((ks,()),()):=by
 unfold wq.sh Yk;rw[show Nat.ble ks.length 1099511627776=true from by rw[Nat.ble_eq]; omega]; rfl
theorem zct {ks:List yp.T} (h:ks.length<=4194304):wb.sh F ks=some ((ks,()),()):=by
 unfold wb.sh Yk;rw[show Nat.ble ks.length 1099511627776=true from by rw[Nat.ble_eq]; omega]; rfl
theorem zeq {ks:List xB.T} (h:ks.length<=4194304):wC.sh F ks=some ((ks,()),()):=by
 unfold wC.sh Yk;rw[show Nat.ble ks.length 1099511627776=true from by rw[Nat.ble_eq]; omega]; rfl
theorem zaQ (F:Nat) {R:Type} (k:List (LTr za.T)->Option R) (L:List za.T) (N:Int) (dims:Nat):∀(xs:List za.T) (i:Int) (st:List Tree),okS dims st xs->(zS st).length+xs.length<=4096->
  yw.l3.rg F (fun _ _ _ _ p=>k p) L N xs i (st.map toL)=k ((tW st xs).map toL)
 | [],i,st,_,_=>rfl
 | n::r,i,st,h,hl=>by
  have hn:=wD h.1;have ha:=hn.2.2.2.2.2.2.1;have hst:=vo st;simp only[length_cons] at hl;have hstep:(zS (w9 st n)).length+r.length<=4096:=by rw[vQ]; simp; omega
  have ih:=zaQ F k L N dims r (i+1) (w9 st n) h.2 hstep;have hw:i64.wrap (((st.map toL).length:Int)-(ar n:Int))=((st.length-ar n:Nat):Int):=by rw[length_map]; exact ZQ ha (by omega)
  have b1:zJ (st.map toL).length none (some ((st.length-ar n:Nat):Int))=(true,0,st.length-ar n):=by
   unfold zJ;have e2:decide (((0:Int))<=((st.length-ar n:Nat):Int))=true:=decide_eq_true (by omega);have e3:decide (((st.length-ar n:Nat):Int)<=((st.map toL).length:Int))=true:=decide_eq_true (by rw[length_map]; omega);simp only[Option.getD_none,Option.getD_some,e2,e3,Int.toNat_natCast];rfl
  have b2:zJ (st.map toL).length (some ((st.length-ar n:Nat):Int)) none=(true,st.length-ar n,(st.map toL).length):=by
   unfold zJ;have e2:decide (((0:Int))<=((st.length-ar n:Nat):Int))=true:=decide_eq_true (by omega);have e3:decide (((st.length-ar n:Nat):Int)<=((st.map toL).length:Int))=true:=decide_eq_true (by rw[length_map]; omega);have e4:decide (((st.map toL).length:Int)<=((st.map toL).length:Int))=true:=decide_eq_true (Int.le_refl _);simp only[Option.getD_none,Option.getD_some,e2,e3,e4,Int.toNat_natCast];rfl
  have hd:(List.take (st.map toL).length (st.map toL)).drop (st.length-ar n)=(st.drop (st.length-ar n)).map toL:=by
   rw[List.take_length,map_drop]
  unfold yw.l3.rg;rw[zec F hn.1 hn.2.2.2.1,zh];simp only[hw,b1,b2,cond_true,hd];rw[zcu F (by simp; omega),zh];rw[show Nat.ble (st.length-ar n+([(LTr.nd n ((st.drop (st.length-ar n)).map toL))]:List (LTr za.T)).length) wF=true from uq (by simp; omega)];simp only[cond_true];have e:(st.map toL).take (st.length-ar n)++[LTr.nd n ((st.drop (st.length-ar n)).map toL)]=(w9 st n).map toL:=by
   unfold w9 wH;rw[map_append,List.map_take,map_cons,Xx,map_nil]
  rw[e];exact ih
theorem zfT (hF:4096<F) (h:Good p t):yw.sh F p.2.2.2=some ((toL t,()),()):=by
 have hl:=h.len;unfold yw.sh;refine Eq.trans (yw.l3.rq F _ p.2.2.2 _ rfl (by omega) p.2.2.2 0 F _ (by simp) (by omega)) ?_;refine (zaQ F (fun p=>yw.j8 F (fun r=>(some ((r,()),()):Option yw.sg.R)) p) p.2.2.2 (p.2.2.2.length:Int) p.2.1.length p.2.2.2 0 [] h.ok (by simp[zS]; omega)).trans ?_;rw[h.eq];rfl
theorem zd2 (F:Nat) {R:Type} (me:zB.M) (k:LTr za.T->List za.T->Option R) (L:List (LTr za.T)) (N:Int) (x:LTr za.T):∀(ks:List Tree) (i:Int) (l:List za.T),
  (∀k∈ks,∀l:List za.T,l.length+k.size<=4096->me (toL k) l=some ((l++k.flat,()),()))->l.length+(zS ks).length<=4096->
  zB.l2.rg me F (fun x _ _ _ _ l=>k x l) L N (ks.map toL) i x l=k x (l++zS ks)
 | [],i,l,_,_=>by show k x l=_; simp[zS]
 | t::r,i,l,hm,hl=>by
  rw[vN] at hl ⊢;simp only[length_append] at hl;have ih:=zd2 F me k L N x r (i+1) (l++t.flat) (fun k hk=>hm k (by simp[hk])) (by simp; omega);simp only[map_cons];unfold zB.l2.rg;rw[hm t (by simp) l (by unfold Tree.size; omega),zh];refine ih.trans ?_;rw[append_assoc]
theorem Xz (h:vA dims n pile=0):(nT n).length<=16:=by
 obtain ⟨_,_,_,_,_,h6,_,h8⟩:=wD h;cases hb:ue n with
 | false=>rw[h6 hb]; simp
 | true=>exact (tZ (h8 hb)).2.1
theorem laid_it (hF:4096<F) (t:Tree):WF dims t->∀(n:Nat) (l:List za.T),t.size<n->l.length+t.size<=4096->zB.it F n (toL t) l=some ((l++t.flat,()),()):=by
 refine Tree.ind (P:=fun t=>WF dims t->∀(n:Nat) (l:List za.T),t.size<n->l.length+t.size<=4096->zB.it F n (toL t) l=some ((l++t.flat,()),())) (fun m ks ih hw n l hn hl=>?_) t;obtain ⟨⟨h1,h2⟩,h3⟩:=qQ.1 hw;rw[vn] at hn hl;have hk:=vo ks;obtain ⟨n',rfl⟩:∃k,n=k+1:=⟨n-1,by omega⟩;unfold zB.it;unfold zB.sh0;rw[up,cond_true,tX];refine Eq.trans (zB.l2.rq (zB.it F n') F _ (ks.map toL) _ rfl (by simp; omega) (ks.map toL) 0 F _ _ (by simp) (by simp; omega)) ?_;refine (zd2 F (zB.it F n') (fun x2 l2=>bif LTr.isNd x2 then oB (wb.sh F (LTr.lab (Ty.dflt za) x2).2.2.2.2.1) fun c_3 =>
   bif Nat.ble (l2.length+([((LTr.lab (Ty.dflt za) x2).1,(LTr.lab (Ty.dflt za) x2).2.1,(LTr.lab (Ty.dflt za) x2).2.2.1,(LTr.lab (Ty.dflt za) x2).2.2.2.1,c_3.1.1,(LTr.lab (Ty.dflt za) x2).2.2.2.2.2)]:List za.T).length) wF then (some ((l2++([((LTr.lab (Ty.dflt za) x2).1,(LTr.lab (Ty.dflt za) x2).2.1,(LTr.lab (Ty.dflt za) x2).2.2.1,(LTr.lab (Ty.dflt za) x2).2.2.2.1,c_3.1.1,(LTr.lab (Ty.dflt za) x2).2.2.2.2.2)]:List za.T),()),()):Option zB.sg.R)
   else none
  else none) (ks.map toL) ((ks.map toL).length:Int) (toL (.nd m ks)) ks 0 l (fun k hk' l hl'=>ih k hk' (h3 k hk') n' l (by have:=tS hk'; omega) hl') (by omega)).trans ?_
 have ht:=Xz h2;rw[up,cond_true,uw];show oB (wb.sh F (nT m)) _=_;rw[zct F (by omega),zh];rw[show Nat.ble ((l++zS ks).length+([((Tree.nd m ks).root.1,(Tree.nd m ks).root.2.1,(Tree.nd m ks).root.2.2.1,(Tree.nd m ks).root.2.2.2.1,nT m,(Tree.nd m ks).root.2.2.2.2.2)]:List za.T).length) wF=true from uq (by simp; omega),cond_true,tM,<-append_assoc];rfl
end Go.VS
