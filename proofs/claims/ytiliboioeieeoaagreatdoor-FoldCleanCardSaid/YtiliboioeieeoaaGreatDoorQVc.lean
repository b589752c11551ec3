import Derived.Laws.StructEq
import Derived.ChangeKeysEq
import Derived.OpenShut
import Derived.ChangeArms
import Derived.FnData
import Derived.ChangeSame
import Derived.Carry
import Derived.ShutString
import Derived.Laws.Externs
import Derived.Lib.IndexMore
import Derived.Test.YtiliboioeieeoaaGreatDoorQVb
namespace Go.VS
open Go IntKind
section
variable {cx:Cx} {m:Gh} {σ:St} {a:Act} {w:World}
theorem zce {q:Q} {t:Ty} {y:t.T} {v:Value} (h:RT w q.ok q.okb t y [v]):RE w q (QO (.c t) y) v:=by
 have h1:=vC h;simp only[QO];split
 ·rename_i c hc
  rw[hc] at h1;exact h1.1
 ·exact trivial
theorem UI {s:Nat}:∀{l:List (Nat×KS)},T1 s l=true->∃k,(s,k)∈l
 | p::r,h=>by
  simp only[T1,Bool.or_eq_true] at h;rcases h with h | h
  ·exact ⟨p.2,by rw[xW h]; simp⟩
  ·obtain ⟨k,hk⟩:=UI h; exact ⟨k,by simp[hk]⟩
theorem U9:∀{l:List (Nat×KS)} {x:TE l} {f:Nat->Ent} {os:List tH} (_:zap σ os f l=some x) (n:Nat),
  (QP l x n=.undef/\∀k,(n,k) ∉ l)\/∃k y,(n,k)∈l/\tn σ os n (f n) k=some y/\QP l x n=QO k y
 | [],_,_,_,_,n=>.inl ⟨rfl,fun _ h=>by cases h⟩
 | p::r,x,f,os,h,n=>by
  simp only[zap] at h;split at h<;>try simp at h
  rename_i x1 x2 h1 h2;subst h;simp only[QP];cases hb:Nat.beq n p.1 with
  | true =>
   have e:=xW hb;subst e;exact .inr ⟨p.2,x1,by simp,h1,rfl⟩
  | false =>
   rcases U9 h2 n with ⟨h3,h4⟩ | ⟨k,y,h3,h4,h5⟩
   ·refine .inl ⟨h3,fun k hk=>?_⟩
    rcases List.mem_cons.1 hk with e | hk
    ·rw[<-e] at hb; simp at hb
    ·exact h4 k hk
   ·exact .inr ⟨k,y,by simp[h3],h4,h5⟩
theorem TC {os:List tH} {s:Nat}:∀{ows:List (Nat×Nat)},zaz σ os s ows=true->∀j n,(j,n)∈ows->okOw σ os (.cell s j) n=true
 | (j,n)::r,h,j',n',hm=>by
  simp only[zaz,Bool.and_eq_true] at h;rcases List.mem_cons.1 hm with e | hm
  ·cases e; exact h.1
  ·exact TC h.2 j' n' hm
theorem Rel.kept (h:Rel cx m σ a w) {sh:Shape} {x:sh.T} (hx:Xk sh σ=some x):∃m',Rel cx m' (yS sh x) a w:=by
 unfold Xk at hx;cases hok:Qv sh&&SF σ sh.own with
 | false=>simp[hok] at hx
 | true =>
 simp only[hok,cond_true] at hx;simp only[Bool.and_eq_true] at hok;obtain ⟨hshape,hapart⟩:=hok;split at hx<;>try simp at hx
 rename_i xe xb xo he hb ho;subst hx;simp only[Qv,Bool.and_eq_true,List.all_eq_true] at hshape;obtain ⟨hs1,hs2⟩:=hshape;let σ':St:=yS sh (xe,xb,xo)
 let m':Gh:=keptGh σ m sh (xe,xb,xo)
 have hown:∀n o,σ'.own n=.is o->∃p hd,Zs sh.own n=some p/\YF σ m sh.own n=some hd/\OwnRep w (cx.q σ m w) hd o /\
   (0<hd.cap->∃s ow h0 y,tB σ (uQ σ p.src)=some (s,y)/\σ.own s=.is ow/\m.hd s=some h0/\0<h0.cap/\∀b off,hd.a=some ⟨b,off,none⟩->∃off',h0.a=some ⟨b,off',none⟩):=by
  intro n o hn;rcases Ve ho n with ⟨_,h2⟩ | ⟨p,l,h1,h2,h3,h4,h5⟩
  ·have:σ'.own n=zb2 sh.own xo n:=rfl
   rw[this,h2] at hn; cases hn
  ·have:σ'.own n=zb2 sh.own xo n:=rfl
   rw[this,h4] at hn;simp at hn;subst hn;obtain ⟨v,hv⟩:=zcK h p.src;rcases h5 with ⟨s,ow,f1,f2,f3⟩ | ⟨s,hi,ow,f1,f2,f3⟩ | ⟨f1,f2,f3⟩
   ·obtain ⟨hd,e1,l0⟩:=h.own s ow f2
    obtain ⟨e2,e3⟩:=ur f3;refine ⟨p,hd,h1,by unfold YF; rw[h1]; simp only[f1]; exact e1,?_,fun hc=>⟨s,ow,hd,_,f1,f2,e1,hc,fun b off hb=>⟨off,hb⟩⟩⟩;obtain ⟨t0,l1⟩:=ow;obtain ⟨pn,psrc,pt⟩:=p;simp only at e2 e3 ⊢;subst e2;simp only at e3;subst e3;exact l0
   ·obtain ⟨hd,e1,l0⟩:=h.own s ow f2
    obtain ⟨e2,e3⟩:=ur f3;obtain ⟨hd',e4,e5,e6⟩:=vw_hd f1 hv;rw[e1] at e4;simp at e4;subst e4;refine ⟨p,⟨if hd.cap=0 then hd.a else hd.a.map (·.add (0*hd.sz)),hi,hd.cap,hd.sz⟩,h1,by unfold YF; rw[h1]; simp only[f1,e1,Option.map_some],?_,fun hc=>⟨s,ow,hd,_,f1,f2,e1,hc,fun b off hb=>?_⟩⟩
    ·obtain ⟨t0,l1⟩:=ow
     obtain ⟨pn,psrc,pt⟩:=p;simp only at e2 e3 ⊢;subst e2;simp only at e3;subst e3;exact l0.front e5
    ·simp only at hc hb
     rw[if_neg (by omega)] at hb;obtain ⟨bb,oo,cs,T,q1,_⟩:=l0.2.2.2 hc;rw[q1] at hb;simp[Zx] at hb;exact ⟨oo,by rw[q1,hb.1]⟩
   ·refine ⟨p,⟨none,0,0,p.t.size⟩,h1,by unfold YF; rw[h1]; simp only[f1],?_,fun hc=>absurd hc (by simp)⟩
    subst f3;exact OwnRep.emp p.t
 have how:∀p b,vm σ' m' p b->∃p',vm σ m p' b/\(∀s,p=.inl s->p'=.inl s)/\(∀n,p=.inr n->∃s q y,p'=.inr s/\Zs sh.own n=some q/\tB σ (uQ σ q.src)=some (s,y)):=by
  intro p b hp;cases p with
  | inl s =>
   refine ⟨.inl s,?_,fun _ h=>h,fun _ h=>by cases h⟩;have hp:(match σ'.box s with | some _=>m.blk s | none=>none)=some b:=hp
   split at hp
   ·exact hp
   ·cases hp
  | inr n =>
   obtain ⟨o,hd,off,o1,o2,o3,o4⟩:=hp;obtain ⟨q,hd',q1,q2,_,q3⟩:=hown n o o1;have o2:YF σ m sh.own n=some hd:=o2;rw[q2] at o2;simp at o2;subst o2;obtain ⟨s,ow,h0,y,r1,r2,r3,r4,r5⟩:=q3 o4;obtain ⟨off',r6⟩:=r5 b off o3;exact ⟨.inr s,⟨ow,h0,off',r2,r3,r6,r4⟩,fun _ h=>(by cases h),fun n' hn=>by cases hn; exact ⟨s,q,y,rfl,q1,r1⟩⟩
 have hq:QLe w w (cx.q σ m w) (cx.q σ' m' w):=Cx.qle (Nat.le_refl _) (fun b _ ⟨p,hp⟩=>by obtain ⟨p',hp',_⟩:=how p b hp; exact ⟨p',hp'⟩) (fun _ _ _ _=>rfl);have hok':=cx.q_ok σ' m' w;have hbox:∀s d',σ'.box s=some d'->∃d,σ.box s=some d/\∀cs,RB w (cx.q σ m w) d cs->RB w (cx.q σ' m' w) d' cs:=by
  intro s d' hd;have hd:Xc (QP sh.box xb s)=some d':=hd;rcases U9 hb s with ⟨h1,_⟩ | ⟨k,y,h1,h2,h3⟩
  ·rw[h1] at hd; simp[Xc] at hd
  ·rw[h3] at hd
   have hpl:=hs2 (s,k) h1;cases hbx:σ.box s with
   | none =>
    rw[hbx] at h2;cases k<;>simp[Qn] at hpl<;>simp[Sy,tn] at h2
   | some d =>
    rw[hbx] at h2;refine ⟨d,rfl,fun cs hcs=>?_⟩;simp only[Sy] at h2;cases k with
    | c t =>
     simp only[tn] at h2;split at h2<;>try simp at h2
     rename_i c hc;cases hc
     obtain ⟨v,e1,e2⟩:=hcs;have hp:=th h2 c (by simp);have h4:All2 (RC w (cx.q σ' m' w)) [c] [v]:=⟨RC.mono_plain hq hp e2,trivial⟩;have hrt:=uy hok' h2 h4;have henc:=vC hrt;simp only[QO] at hd;split at hd
     ·rename_i c' hc'
      rw[hc'] at henc;simp[Xc] at hd;subst hd;exact ⟨v,e1,henc.1⟩
     ·simp[Xc] at hd
    | g t =>
     simp only[tn] at h2;split at h2<;>try simp at h2
     rename_i l hc;cases hc
     simp[QO,Xc] at hd;subst hd;exact vC (uy hok' h2 (XH hq (th h2) hcs))
    | a k =>
     simp only[tn] at h2;split at h2<;>try simp at h2
     rename_i k' l hc;obtain ⟨hk,rfl⟩:=h2;subst hk;cases hc
     simp[QO,Xc] at hd;subst hd;exact hcs
    | go t ows =>
     simp only[tn] at h2;split at h2<;>try simp at h2
     rename_i l hc;cases hc
     cases hok:zaz σ sh.own s ows with
     | false=>simp[hok] at h2
     | true =>
      simp[hok] at h2;simp[QO,Xc] at hd;subst hd;have hbl:=zbm (ows:=ows) hcs;have hrt:=uy hok' h2 (XH hq (th h2) hbl);have henc:=vC hrt;refine All2.of_get ?_ fun i c v hi hv=>?_
      ·rw[Us,henc.len,Sz]
      ·rcases Ut hi with ⟨n,n1,rfl⟩ | ⟨n1,n2⟩
       ·have hcell:∃c0,l[i]?=some c0:=by
         have:i<l.length:=by
          rw[All2.len hcs];exact (List.getElem?_eq_some_iff.1 hv).1
         exact ⟨_,List.getElem?_eq_getElem this⟩
        obtain ⟨c0,hc0⟩:=hcell;obtain ⟨v',hv',hr⟩:=All2.get hcs hc0;rw[hv] at hv';simp at hv';subst hv';have:=Rz h ho (TC hok i n n1) (v:=v) (by simp only[uQ,hbx,hc0]; exact hr);obtain ⟨hd,g1,g2⟩:=this;exact ⟨hd,g1,g2⟩
       ·obtain ⟨v',hv',hr⟩:=henc.get n2
        rw[SA n1,hv] at hv';simp at hv';subst hv';exact hr
    | _=>simp[Qn] at hpl
 refine ⟨m',?_⟩;exact {
  size:=h.size
  defers:=h.defers
  env:=fun t=>by
   have ht:=h.env t;have:(yS sh (xe,xb,xo)).env t=QP sh.env xe t:=rfl;rw[this];rcases U9 he t with ⟨h1,_⟩ | ⟨k,y,h1,h2,h3⟩
   ·rw[h1]; exact trivial
   ·rw[h3]
    have hpl:=hs1 (t,k) h1;generalize σ.env t=e at ht h2;cases k with
    | c t' =>
     simp only[tn] at h2;split at h2<;>try simp at h2
     rename_i c;have hp:=th h2 c (by simp);have h4:All2 (RC w (cx.q σ' m' w)) [c] [a.tmps.getD t Go.undef]:=⟨RC.mono_plain hq hp ht,trivial⟩;exact zce (uy hok' h2 h4)
    | b t' =>
     simp only[tn] at h2;split at h2<;>try simp at h2
     ·subst h2
      rw[ht.v_eq.1];exact SlR.nil
     ·rename_i t'' l
      obtain ⟨e1,e2⟩:=ur h2;subst e1;subst e2;exact SlR.mono (fun b hb=>⟨hok' b (hq.ok b hb).1,fun _ _ h=>h⟩) (RT.mono hq.ok hq.okb _) ht
     ·rename_i t'' l
      obtain ⟨e1,e2⟩:=ur h2;subst e1;subst e2;exact RC.mono_plain (c:=.bs t'' l) hq rfl ht
    | g t' =>
     simp only[tn] at h2;split at h2<;>try simp at h2
     rename_i l;obtain ⟨cs,e1,e2⟩:=ht;exact ⟨cs,e1,vC (uy hok' h2 (XH hq (th h2) e2))⟩
    | a k =>
     simp only[tn] at h2;split at h2<;>try simp at h2
     obtain ⟨rfl,rfl⟩:=h2;exact ht
    | loc s =>
     simp only[tn] at h2;split at h2<;>try simp at h2
     rename_i s' off;cases hc:Nat.beq s' s&&Nat.beq off 0 with
     | false=>rw[hc] at h2; simp at h2
     | true =>
      simp only[Bool.and_eq_true] at hc;have e1:=xW hc.1;have e2:=xW hc.2;subst e1;subst e2;obtain ⟨b,hb1,hb2⟩:=ht;have hk:T1 s' sh.box=true:=by
       have:=hpl;simp only[Bool.and_eq_true] at this;exact this.2
      obtain ⟨k',hk'⟩:=UI hk;have hbx:∃d,σ'.box s'=some d:=by
       rcases U9 hb s' with ⟨_,hno⟩ | ⟨k2,y2,g1,g2,g3⟩
       ·exact absurd hk' (hno k')
       ·have hpb:=hs2 (s',k2) g1
        show ∃d,Xc (QP sh.box xb s')=some d;rw[g3];cases k2 with
        | c t2 =>
         simp only[QO];split
         ·exact ⟨_,rfl⟩
         ·rename_i hno
          exfalso
          cases hbx:σ.box s' with
          | none=>rw[hbx] at g2; simp[Sy,tn] at g2
          | some d =>
           rw[hbx] at g2;simp only[Sy,tn] at g2;split at g2<;>try simp at g2
           rename_i c hc';cases hc'
           obtain ⟨_,cs,_,_,_,v,_,e4⟩:=h.box s' _ hbx;have h4:All2 (RC w (cx.q σ' m' w)) [c] [v]:=⟨RC.mono_plain hq (th g2 c (by simp)) e4,trivial⟩;have henc:=(vC (uy hok' g2 h4)).len;simp at henc;obtain ⟨c2,hc2⟩:=List.length_eq_one_iff.1 henc;exact hno c2 hc2
        | g t2=>exact ⟨_,rfl⟩
        | a k2=>exact ⟨_,rfl⟩
        | go t2 ows=>exact ⟨_,rfl⟩
        | _=>simp[Qn] at hpb
      obtain ⟨d,hbx⟩:=hbx;refine ⟨b,?_,hb2⟩;show (match σ'.box s' with | some _=>m.blk s' | none=>none)=some b
      rw[hbx];exact hb1
    | ow n =>
     simp only[tn] at h2;cases hok:okOw σ sh.own (.env t) n with
     | false=>simp[hok] at h2
     | true =>
      obtain ⟨hd,g1,g2⟩:=Rz h ho hok (v:=a.tmps.getD t Go.undef) (h.env t);exact ⟨hd,g1,g2⟩
    | go t ows=>simp[zfe] at hpl
    | p t' =>
     simp only[tn] at h2;split at h2<;>try simp at h2
     obtain ⟨b,off,vs,e1,e2,e3,e4,e5⟩:=ht;exact ⟨b,off,vs,e1,(hq.okb b e2).1,e3,vC (uy hok' h2 (XH hq e5 e4)),u9 _ _ _ (by simp)⟩
    | cl t' =>
     simp only[tn] at h2;split at h2<;>try simp at h2
     rename_i f t'' y';split at h2<;>simp at h2;rename_i y2 hy;subst h2;obtain ⟨e1,e2⟩:=Zu hy;subst e1;subst e2;exact RC.mono_plain (c:=.clo f t'' y') hq rfl ht
    | cl2 t' u' =>
     simp only[tn] at h2;split at h2<;>try simp at h2
     rename_i f t'' y' u'' z';split at h2<;>simp at h2;rename_i y2 z2 hy hz;subst h2;obtain ⟨e1,e2⟩:=Zu hy;obtain ⟨e3,e4⟩:=Zu hz;subst e1;subst e2;subst e3;subst e4;exact RC.mono_plain (c:=.clo2 f t'' y' u'' z') hq rfl ht
    | os _=>simp[tn] at h2
    | og _ _=>simp[tn] at h2
  box:=fun s d' hd=>by
   obtain ⟨d,h1,h2⟩:=hbox s d' hd;obtain ⟨b,cs,T,e1,e2,e3⟩:=h.box s d h1;refine ⟨b,cs,T,?_,e2,h2 _ e3⟩;show (match σ'.box s with | some _=>m.blk s | none=>none)=some b
   rw[show σ'.box s=some d' from hd];exact e1
  nobox:=fun s b hb hno=>by
   have hb:(match σ'.box s with | some _=>m.blk s | none=>none)=some b:=hb
   rw[show σ'.box s=none from hno] at hb;cases hb
  own:=fun n o ho'=>by
   obtain ⟨p,hd,_,g1,g2,_⟩:=hown n o ho';exact ⟨hd,g1,g2.mono hq fun _ _ _ _=>rfl⟩
  noown:=fun n hd hn hno=>by
   have hn:YF σ m sh.own n=some hd:=hn;rcases Ve ho n with ⟨h1,_⟩ | ⟨p,l,h1,h2,h3,h4,h5⟩
   ·unfold YF at hn; rw[h1] at hn; cases hn
   ·have:(yS sh (xe,xb,xo)).own n=zb2 sh.own xo n:=rfl
    rw[this,h4] at hno; cases hno
  dom:=fun p b hp=>by
   obtain ⟨p',hp',h1,h2⟩:=how p b hp;refine ⟨(h.dom p' b hp').1,?_⟩;rcases (h.dom p' b hp').2 with h3 | ⟨h3,s,h4,h5⟩
   ·exact .inl h3
   ·cases p with
    | inl s'=>have:=h1 s' rfl; rw[this] at h4; exact .inr ⟨h3,s,h4,h5⟩
    | inr n=>obtain ⟨s',_,_,h6,_⟩:=h2 n rfl; rw[h6] at h4; cases h4
  inj:=fun p p' b hp hp'=>by
   obtain ⟨q,hq1,hq2,hq3⟩:=how p b hp;obtain ⟨q',hr1,hr2,hr3⟩:=how p' b hp';have e:=h.inj q q' b hq1 hr1;cases p with
   | inl s =>
    have e1:=hq2 s rfl;cases p' with
    | inl s'=>have e2:=hr2 s' rfl; rw[e1,e2] at e; exact e
    | inr n'=>obtain ⟨s',_,_,e2,_⟩:=hr3 n' rfl; rw[e1,e2] at e; cases e
   | inr n =>
    obtain ⟨s,p1,y,e1,e3,e4⟩:=hq3 n rfl;cases p' with
    | inl s'=>have e2:=hr2 s' rfl; rw[e1,e2] at e; cases e
    | inr n' =>
     obtain ⟨s',p2,y',e2,e5,e6⟩:=hr3 n' rfl;rw[e1,e2] at e;cases e
     rw[UR hapart e3 e5 e4 e6 rfl]
  mem:=h.mem
  grown:=h.grown
  oldX:=h.oldX
  argna:=h.argna
  arg:=fun s b b0 hb h0=>by
   have hb:(match σ'.box s with | some _=>m.blk s | none=>none)=some b:=hb
   split at hb
   ·exact h.arg s b b0 hb h0
   ·cases hb
  argp:=h.argp
  argh:=fun n hd h0 e1 e0=>by
   have e1:YF σ m sh.own n=some hd:=e1;unfold YF at e1;split at e1
   ·rename_i p hp
    rw[Ra ho n p hp (h.argp n h0 e0)] at e1;exact h.argh n hd h0 e1 e0
   ·cases e1
  iosz:=h.iosz
  os:=h.os
  tape:=h.tape
  output:=h.output}
end
end Go.VS
namespace Go.VS
open Go IntKind
def exOf:Ex->Exit
 | .normal=>.normal
 | .exit id=>.exit id
 | .ret=>.ret
section
variable {P:Program}
theorem R6 {c:Code} {Q:Exit->Act->World->Prop} (S:Nat->Act->World->Prop)
  (round:∀n a w,S n a w->c.wp P (Exit.then (fun a' w'=>∃n',n'<n/\S n' a' w') Q) a w) {n:Nat} {a:Act} {w:World} (h:S n a w):(Code.loop c).wp P Q a w:=by
 intro b k cs;have key:∀n a w,S n a w->∃e a' w',Q e a' w'/\Arrives P (lone (b.at a (.code c::.inLoop c::k)) cs w) b k cs e a' w':=by
  intro n;induction n using Nat.strongRecOn with
  | _ n ih =>
   intro a w hS;obtain ⟨e,a₁,w₁,hq,harr⟩:=round n a w hS b (.inLoop c::k) cs;cases e with
   | normal =>
    obtain ⟨n',hlt,hS'⟩:=hq;obtain ⟨e₂,a₂,w₂,hq₂,harr₂⟩:=ih n' hlt a₁ w₁ hS';exact ⟨e₂,a₂,w₂,hq₂,.of_steps (Steps.trans harr (.one step_inLoop)) harr₂⟩
   | exit id=>exact ⟨_,a₁,w₁,hq,.pass (x:=.inLoop c) rfl (fun _ _=>.inl (by simp)) harr⟩
   | goto l=>exact ⟨_,a₁,w₁,hq,.pass (x:=.inLoop c) rfl (fun _ _=>.inl (by simp)) harr⟩
   | ret=>exact ⟨_,a₁,w₁,hq,.pass (x:=.inLoop c) rfl (fun _ _=>.inl (by simp)) harr⟩
   | panic ch=>exact ⟨_,a₁,w₁,hq,.pass (x:=.inLoop c) rfl (fun _ _=>.inl (by simp)) harr⟩
   | outgrown=>exact ⟨_,a₁,w₁,hq,.pass (x:=.inLoop c) rfl (fun _ _=>.inl (by simp)) harr⟩
 obtain ⟨e,a',w',hq,harr⟩:=key n a w h;exact ⟨e,a',w',hq,.of_steps (.one step_loop) harr⟩
end
section
variable {cx:Cx} {Hh:Hn} {Sg:Nat->Sig} {V:tQ Sg} {VD:uM Hh} {H HL:Nat->Shape} {HJ:Nat->Option Shape} {L:Zc HL} {J:Zd HJ}
def Xj (cx:Cx) (Hh:Hn) (Sg:Nat->Sig) (V:tQ Sg) (VD:uM Hh) (H HL:Nat->Shape) (HJ:Nat->Option Shape) (L:Zc HL) (J:Zd HJ) (c0:Code):Prop :=
 ∀c∈ux c0,∀(x:(HL (rid c)).T) (R:Type) (K:Ex->St->Option R),∃n,L (rid c) x K=TQ cx.TI cx.G Hh Sg V VD cx.N H HL HJ L J c (rid c) K n x
def W1 (cx:Cx) (Hh:Hn) (Sg:Nat->Sig) (V:tQ Sg) (VD:uM Hh) (H HL:Nat->Shape) (HJ:Nat->Option Shape) (L:Zc HL) (J:Zd HJ) (c0:Code):Prop :=
 ∀c∈tk HJ c0,∀(x:(shJ HJ (rid c)).T) (R:Type) (K:Ex->St->Option R),J (rid c) x K=ZB cx.TI cx.G Hh Sg V VD cx.N H HL HJ L J c (yS (shJ HJ (rid c)) x) K
theorem code_ok (hmix:cx.P.follows .mixedOrders=true) (hL:US cx Hh Sg V VD):∀(c:Code),Xj cx Hh Sg V VD H HL HJ L J c->W1 cx Hh Sg V VD H HL HJ L J c->
  ∀{R:Type} {σ:St} {K:Ex->St->Option R} {r:R} {m:Gh} {a:Act} {w:World} {Q:Exit->Act->World->Prop},ZB cx.TI cx.G Hh Sg V VD cx.N H HL HJ L J c σ K=some r->Rel cx m σ a w->
   (∀e σ' m' a' w',Rel cx m' σ' a' w'->K e σ'=some r->Q (exOf e) a' w')->c.wp cx.P Q a w:=by
 intro c;induction c with
 | skip=>intro _ _ R σ K r m a w Q h hr hQ; exact wp_skip (hQ .normal σ m a w hr h)
 | label l=>intro _ _ R σ K r m a w Q h hr hQ; exact wp_label (hQ .normal σ m a w hr h)
 | exit id=>intro _ _ R σ K r m a w Q h hr hQ; exact wp_exit (hQ (.exit id) σ m a w hr h)
 | ret=>intro _ _ R σ K r m a w Q h hr hQ; exact wp_ret (hQ .ret σ m a w hr h)
 | region id ops draw =>
  intro _ _ R σ K r m a w Q h hr hQ;have hend:∀(m:Gh) (σ:St) (a:Act) (w:World),Rel cx m σ a w->(match Xk (H id) (giveL Hh σ (Hh.fz id)) with | some x=>K .normal (yS (H id) x) | none=>none)=some r->Q .normal a w:=by
   intro m σ a w hr hk;split at hk<;>try simp at hk
   rename_i x hx;obtain ⟨m0,h0⟩:=hr.giveL hL.na (Hh.fz id);obtain ⟨m',hm'⟩:=h0.kept hx;exact hQ .normal _ m' a w hm' hk
  cases draw with
  | false=>exact zdP (K:=fun σ'=>match Xk (H id) (giveL Hh σ' (Hh.fz id)) with | some x=>K .normal (yS (H id) x) | none=>none) hL hr h hend
  | true=>exact zga (K:=fun σ'=>match Xk (H id) (giveL Hh σ' (Hh.fz id)) with | some x=>K .normal (yS (H id) x) | none=>none) hmix hL hr h hend
 | seq x y ihx ihy =>
  intro hl hc R σ K r m a w Q h hr hQ;have hl1:Xj cx Hh Sg V VD H HL HJ L J x:=fun c hc=>hl c (by simp[ux,hc])
  have hl2:Xj cx Hh Sg V VD H HL HJ L J y:=fun c hc=>hl c (by simp[ux,hc])
  have hc1:W1 cx Hh Sg V VD H HL HJ L J x:=fun c h=>hc c (by simp[tk,h])
  have hc2:W1 cx Hh Sg V VD H HL HJ L J y:=fun c h=>hc c (by simp[tk,h])
  refine wp_seq (ihx hl1 hc1 (K:=seqK (cutK Hh HJ J (rid y) (ZB cx.TI cx.G Hh Sg V VD cx.N H HL HJ L J y)) K) h hr fun e σ' m' a' w' hr' hk=>?_);cases e with
  | exit id=>exact hQ (.exit id) σ' m' a' w' hr' hk
  | ret=>exact hQ .ret σ' m' a' w' hr' hk
  | normal =>
   show y.wp cx.P Q a' w';have hk:cutK Hh HJ J (rid y) (ZB cx.TI cx.G Hh Sg V VD cx.N H HL HJ L J y) σ' K=some r:=hk;unfold cutK at hk;split at hk
   ·exact ihy hl2 hc2 hk hr' hQ
   ·rename_i sh hsh
    split at hk<;>try simp at hk
    rename_i x' hx';rw[hc y (by simp[tk,hsh])] at hk;obtain ⟨m0,h0⟩:=hr'.giveL hL.na (Hh.fzJ (rid y));obtain ⟨m2,hm2⟩:=h0.kept hx';exact ihy hl2 hc2 hk hm2 hQ
 | cond c x y ihx ihy =>
  intro hl hc R σ K r m a w Q h hr hQ;have hl1:Xj cx Hh Sg V VD H HL HJ L J x:=fun c hc=>hl c (by simp[ux,hc])
  have hl2:Xj cx Hh Sg V VD H HL HJ L J y:=fun c hc=>hl c (by simp[ux,hc])
  have hc1:W1 cx Hh Sg V VD H HL HJ L J x:=fun c h=>hc c (by simp[tk,h])
  have hc2:W1 cx Hh Sg V VD H HL HJ L J y:=fun c h=>hc c (by simp[tk,h])
  have hev:=uP hL.glob hr c;simp only[ZB] at h;split at h<;>try simp at h
  rename_i t ht;rw[ht] at hev;obtain ⟨hv,_⟩:=hev.v_eq;cases t with
  | true=>exact wp_cond_true hv (ihx hl1 hc1 h hr hQ)
  | false=>exact wp_cond_false hv (ihy hl2 hc2 h hr hQ)
 | block id x ih =>
  intro hl hc R σ K r m a w Q h hr hQ;refine wp_block (ih (fun c h=>hl c (by simpa [ux] using h)) (fun c h=>hc c (by simpa [tk] using h)) (K:=zcx id K) h hr fun e σ' m' a' w' hr' hk=>?_);cases e with
  | normal=>exact hQ .normal σ' m' a' w' hr' hk
  | ret=>exact hQ .ret σ' m' a' w' hr' hk
  | exit id' =>
   simp only[exOf,Exit.inBlock];simp only[zcx] at hk;cases hb:Nat.beq id' id with
   | true =>
    rw[hb] at hk;rw[if_pos (xW hb)];exact hQ .normal σ' m' a' w' hr' hk
   | false =>
    rw[hb] at hk;rw[if_neg (fun e=>by subst e; simp at hb)];exact hQ (.exit id') σ' m' a' w' hr' hk
 | loop x ih =>
  intro hl hc R σ K r m a w Q h hr hQ;have hl1:Xj cx Hh Sg V VD H HL HJ L J x:=fun c hc=>hl c (by simp[ux,hc])
  have hc1:W1 cx Hh Sg V VD H HL HJ L J x:=fun c h=>hc c (by simp[tk,h])
  simp only[ZB] at h;split at h<;>try simp at h
  rename_i y hy;obtain ⟨n,hn⟩:=hl x (by simp[ux]) y R K;rw[hn] at h;obtain ⟨m',hm'⟩:=hr.kept hy;refine R6 (fun n a w=>∃m y,Rel cx m (yS (HL (rid x)) y) a w/\TQ cx.TI cx.G Hh Sg V VD cx.N H HL HJ L J x (rid x) K n y=some r) ?_ (n:=n) ⟨m',y,hm',h⟩;rintro n a w ⟨m,y,hr,hk⟩
  cases n with
  | zero=>simp[TQ] at hk
  | succ n =>
   simp only[TQ] at hk;refine ih hl1 hc1 hk hr fun e σ' m' a' w' hr' hk'=>?_
   cases e with
   | exit id=>exact hQ (.exit id) σ' m' a' w' hr' hk'
   | ret=>exact hQ .ret σ' m' a' w' hr' hk'
   | normal =>
    simp only[zdr] at hk';split at hk'<;>try simp at hk'
    rename_i z hz;obtain ⟨m2,hm2⟩:=hr'.kept hz;exact ⟨n,Nat.lt_succ_self n,m2,z,hm2,hk'⟩
 | _=>intro _ _ R σ K r m a w Q h; simp[ZB] at h
end
end Go.VS
namespace Go.VS
open Go IntKind
section
variable {cx:Cx} {m:Gh} {σ:St} {a:Act} {w w':World}
theorem OwnsR.app {q:Q} {n:Nat} {os os':List vG} (h1:OwnsR w q n os) (h2:OwnsR w q (n+os.length) os'):OwnsR w q n (os++os'):=by
 intro j o ho;rw[List.getElem?_append] at ho;split at ho
 ·exact h1 j o ho
 ·obtain ⟨hh,e1,e2⟩:=h2 _ o ho
  exact ⟨hh,by rw[show n+j=n+os.length+(j-os.length) by omega]; exact e1,e2⟩
theorem zaq (h:Rel cx m σ a w) {k:KS} {e:Ent} {x:k.T} {ls:List Lk} {v:Value} (hk:zcO k=true) (hx:UA σ k e=some (x,ls)) (hr:RE w (cx.q σ m w) e v) :
  ∃hs:List Hd,hs.length=(S8 k x).length/\HdP σ m hs (uB ls)/\∀(q:Q) (n:Nat),(∀b,(cx.q σ m w).ok b->q.ok b)->(∀j hh,hs[j]?=some hh->q.m.hd (n+j)=some hh)->
   (∀p,.lp p∈ls->∀b,vm σ m (.inr p) b->q.ok b)->RD w q (zcg n k x) v/\OwnsR w q n (S8 k x):=by
 have hok:=cx.q_ok σ m w;have none_:∀(q:Q) n,OwnsR w q n ([]:List vG):=fun q n j o ho=>by simp at ho
 have hnb:∀{q:Q},(∀b,(cx.q σ m w).ok b->q.ok b)->∀b,(cx.q σ m w).ok b->q.ok b/\∀off v,w.cell? ⟨b,off,none⟩=some v->w.cell? ⟨b,off,none⟩=some v:=fun hq b hb=>⟨hq b hb,fun _ _ h=>h⟩
 cases k with
 | c t =>
  have plain:∀{e:Ent},RE w (cx.q σ m w) e v->tn σ [] 0 e (.c t)=some x->ls=[]->∃hs:List Hd,hs.length=(S8 (.c t) x).length/\HdP σ m hs (uB ls)/\∀(q:Q) (n:Nat),(∀b,(cx.q σ m w).ok b->q.ok b)->(∀j hh,hs[j]?=some hh->q.m.hd (n+j)=some hh)->
   (∀p,.lp p∈ls->∀b,vm σ m (.inr p) b->q.ok b)->RD w q (zcg n (.c t) x) v/\OwnsR w q n (S8 (.c t) x):=by
   intro e hr' hx' hl;refine ⟨[],rfl,by rw[hl]; trivial,fun q n hq _ _=>⟨?_,none_ q n⟩⟩;simp only[tn] at hx';split at hx'<;>try simp at hx'
   exact zcf (qw (hnb hq) t _ _ hk (uy hok hx' (⟨hr',trivial⟩:All2 (RC w (cx.q σ m w)) [_] [v])))
  cases t<;>simp only[UA] at hx<;>try (split at hx<;>simp at hx; obtain ⟨rfl,rfl⟩:=hx; rename_i hy; exact plain hr hy rfl)
  rename_i t;split at hx
  ·rename_i s
   split at hx<;>try simp at hx
   rename_i ow how;split at hx<;>simp at hx;rename_i l hl;obtain ⟨rfl,rfl⟩:=hx;obtain ⟨e1,e2⟩:=ur hl;obtain ⟨hd,g1,g2⟩:=hr;obtain ⟨hd',g3,l⟩:=h.own s ow how;rw[show (cx.q σ m w).m.hd s=m.hd s from rfl] at g1;rw[g1] at g3;simp at g3;subst g3;obtain ⟨t0,l0⟩:=ow;simp only at e1 e2;subst e1;simp only at e2;subst e2;refine ⟨[],rfl,trivial,fun q n hq _ hlp=>⟨?_,none_ q n⟩⟩;have hslr:=l.slr (good:=q.ok) fun b off hb hc=>hlp s (by simp) b ⟨_,hd,off,how,g1,hb,hc⟩
   show RC w q (.sl t0 l0) v;rw[g2];exact SlR.mono (fun b hb=>⟨hb,fun _ _ h=>h⟩) (fun y us hy=>qw (hnb hq) t0 y us hk hy) hslr
  ·split at hx<;>simp at hx
   obtain ⟨rfl,rfl⟩:=hx;rename_i hy;exact plain hr hy rfl
 | g t =>
  simp only[UA] at hx;split at hx<;>simp at hx;rename_i y hy;obtain ⟨rfl,rfl⟩:=hx;simp only[tn] at hy;split at hy<;>try simp at hy
  obtain ⟨cs,e1,e2⟩:=hr;exact ⟨[],rfl,trivial,fun q n hq _ _=>⟨⟨cs,e1,vC (qw (hnb hq) t _ _ hk (uy hok hy e2))⟩,none_ q n⟩⟩
 | a k =>
  simp only[UA] at hx;split at hx<;>simp at hx;rename_i y hy;obtain ⟨rfl,rfl⟩:=hx;simp only[tn] at hy;split at hy<;>try simp at hy
  obtain ⟨rfl,rfl⟩:=hy;exact ⟨[],rfl,trivial,fun q n hq _ _=>⟨hr,none_ q n⟩⟩
 | os t =>
  simp only[UA,vF] at hx;split at hx<;>try simp at hx
  rename_i c;split at hx<;>try simp at hx
  rename_i l' ps hj;split at hx<;>try simp at hx
  rename_i y hy;cases hn:noB t with
  | false=>simp[hn] at hx
  | true =>
  simp[hn] at hx;obtain ⟨rfl,rfl⟩:=hx;obtain ⟨hs,e1,e2,e3⟩:=UH h hj (YM hy) (X0 (.sl t) y [] hn (by simp)) (vs:=[v]) (⟨hr,trivial⟩:All2 (RC w (cx.q σ m w)) [c] [v]);refine ⟨hs,e1,e2,fun q n hq hk _=>?_⟩;obtain ⟨i1,i2⟩:=e3 q n hq hk;exact ⟨(show RC w q (.own n) v/\_ from i1).1,i2⟩
 | og t ms =>
  simp only[UA,vF] at hx;split at hx<;>try simp at hx
  rename_i l;split at hx<;>try simp at hx
  rename_i l' ps hj;split at hx<;>try simp at hx
  rename_i y hy;cases hn:noB t with
  | false=>simp[hn] at hx
  | true =>
  simp[hn] at hx;obtain ⟨rfl,rfl⟩:=hx;obtain ⟨cs,c1,c2⟩:=hr;obtain ⟨hs,e1,e2,e3⟩:=UH h hj (YM hy) (X0 t y [] hn (by simp)) c2;refine ⟨hs,e1,e2,fun q n hq hk _=>?_⟩;obtain ⟨i1,i2⟩:=e3 q n hq hk;exact ⟨⟨cs,c1,i1⟩,i2⟩
 | _=>simp[zcO] at hk
theorem zai {P:Program} {t:TypeId} {b off:Nat} {v:Value} (h:(Instr.loadAt t (.pointer (some ⟨b,off,none⟩))).run P w=.ok v w):(loadVar t ⟨b,off,none⟩).run P w=.ok v w:=by
 simpa [Instr.loadAt,Instr.sureAddr] using h
def zbM (tmps:Array Value):ResultVar->Sem Value
 | .tmp t=>pure (tmps.getD t Go.undef)
 | .cell p t=>do loadVar t (<-asAddr (tmps.getD p Go.undef))
theorem WK (hT:∀t,qp cx.P t (cx.TI t)) (hG:ul cx) (h:Rel cx m σ a w):∀{ks:List KS} {rv:List ResultVar} {x:TK ks} {ls:List Lk},(∀k∈ks,zcO k=true)->Xf cx.TI σ rv=true->qG cx.TI σ ks rv=some (x,ls)->
  ∃(vs:List Value) (hs:List Hd),(rv.mapM (zbM a.tmps)).run cx.P w=.ok vs w/\hs.length=(tm ks x).length/\HdP σ m hs (uB ls) /\
   ∀(q:Q) (n:Nat),(∀b,(cx.q σ m w).ok b->q.ok b)->(∀j hh,hs[j]?=some hh->q.m.hd (n+j)=some hh)->(∀p,.lp p∈ls->∀b,vm σ m (.inr p) b->q.ok b)->
    All2 (RD w q) (Xo n ks x) vs/\OwnsR w q n ((tm ks x).map (·.2))
 | [],[],_,ls,_,_,hx=>by
  simp[qG] at hx;subst hx;exact ⟨[],[],by simp,rfl,trivial,fun q n _ _ _=>⟨trivial,fun j o ho=>by simp[tm] at ho⟩⟩
 | [],_::_,_,_,_,_,h=>by simp[qG] at h
 | _::_,[],_,_,_,_,h=>by simp[qG] at h
 | k::ks,.tmp t::r,x,ls,hk,hc,hx=>by
  simp only[qG] at hx;split at hx<;>simp at hx;rename_i y z hy hz;obtain ⟨rfl,rfl⟩:=hx;obtain ⟨vs,hs,h1,l1,p1,h2⟩:=WK (ks:=ks) (rv:=r) hT hG h (fun k hk'=>hk k (List.mem_cons_of_mem _ hk')) hc hz;obtain ⟨hs0,l0,p0,h0⟩:=zaq h (hk k (by simp)) hy (h.env t);refine ⟨a.tmps.getD t Go.undef::vs,hs0++hs,?_,by simp[tm,l0,l1],by rw[qT]; exact p0.app p1,fun q n hq hh hlp=>?_⟩
  ·simp only[List.mapM_cons,zbM,Sem.run_bind,Sem.run_pure,Result.andThen_ok]
   rw[h1];rfl
  ·obtain ⟨i1,i2⟩:=h0 q n hq (fun j hd hj=>hh j hd (by rw[List.getElem?_append_left ((List.getElem?_eq_some_iff.1 hj).1)]; exact hj)) (fun p hp=>hlp p (by simp[hp]))
   obtain ⟨j1,j2⟩:=h2 q (n+hs0.length) hq (fun j hd hj=>by rw[Nat.add_assoc]; exact hh _ hd (by rw[List.getElem?_append_right (by omega)]; simpa using hj)) (fun p hp=>hlp p (by simp[hp]));rw[l0] at j1 j2;refine ⟨⟨i1,j1⟩,?_⟩;simp only[tm,List.map_append,List.map_map];rw[show ((fun x:Bool×vG=>x.2) ∘ fun o=>(false,o))=id from rfl,List.map_id];exact i2.app j2
 | k::ks,.cell p t::r,x,ls,hk,hc,hx=>by
  have hp:=h.env p;simp only[qG,Xf] at hx hc;generalize hld:Zz (cx.TI t) σ (σ.env p)=ld at hx hc;cases ld with
  | none=>simp at hx
  | some ld =>
  obtain ⟨b,ee,em⟩:=ld;simp only[Bool.and_eq_true] at hc;obtain ⟨hb,hc⟩:=hc;subst hb;split at hx<;>try simp at hx
  rename_i b' z hzz;cases hzz
  split at hx<;>simp at hx;rename_i y z' hy hz;obtain ⟨rfl,rfl⟩:=hx;obtain ⟨vs,hs,h1,l1,p1,h2⟩:=WK (ks:=ks) (rv:=r) hT hG h (fun k hk'=>hk k (List.mem_cons_of_mem _ hk')) hc hz;have hval:∃bb off,a.tmps.getD p Go.undef=.pointer (some ⟨bb,off,none⟩):=by
   generalize σ.env p=e at hp hld;cases e with
   | loc s off=>obtain ⟨bb,_,e⟩:=hp; exact ⟨bb,off,e⟩
   | locx s i=>obtain ⟨bb,_,_,_,e,_⟩:=hp; exact ⟨bb,i,e⟩
   | opos s i off=>obtain ⟨hd,bb,o',_,_,_,e⟩:=hp; exact ⟨bb,_,e⟩
   | adr l=>obtain ⟨bb,off,_,e,_⟩:=hp; exact ⟨bb,off,e⟩
   | _=>simp[Zz] at hld
  obtain ⟨bb,off,hval⟩:=hval;obtain ⟨_,v,u1,u2⟩:=zaK hT hG h (t:=t) (x:=.tmp p) hld;rw[show a.eval (.tmp p)=.pointer (some ⟨bb,off,none⟩) from hval] at u1;have hload:(loadVar t ⟨bb,off,none⟩).run cx.P w=.ok v w/\RE w (cx.q σ m w) (.d z) v:=⟨zai u1,u2⟩;obtain ⟨hs0,l0,p0,h0⟩:=zaq h (hk k (by simp)) hy hload.2;refine ⟨v::vs,hs0++hs,?_,by simp[tm,l0,l1],by rw[qT]; exact p0.app p1,fun q n hq hh hlp=>?_⟩
  ·simp only[List.mapM_cons,zbM,Sem.run_bind,hval,asAddr,Sem.run_pure,Result.andThen_ok,hload.1]
   rw[h1];rfl
  ·obtain ⟨i1,i2⟩:=h0 q n hq (fun j hd hj=>hh j hd (by rw[List.getElem?_append_left ((List.getElem?_eq_some_iff.1 hj).1)]; exact hj)) (fun p hp=>hlp p (by simp[hp]))
   obtain ⟨j1,j2⟩:=h2 q (n+hs0.length) hq (fun j hd hj=>by rw[Nat.add_assoc]; exact hh _ hd (by rw[List.getElem?_append_right (by omega)]; simpa using hj)) (fun p hp=>hlp p (by simp[hp]));rw[l0] at j1 j2;refine ⟨⟨i1,j1⟩,?_⟩;simp only[tm,List.map_append,List.map_map];rw[show ((fun x:Bool×vG=>x.2) ∘ fun o=>(false,o))=id from rfl,List.map_id];exact i2.app j2
theorem zbL (fn:Func) (tmps:Array Value):results fn tmps=(do let vs <-fn.results.mapM (zbM tmps); pure (if h:vs.size=1 then vs[0] else .tuple vs)):=by
 unfold results;have:(fun x:ResultVar=>(match x with | .tmp t=>pure (tmps.getD t Go.undef) | .cell a t=>do loadVar t (<-asAddr (tmps.getD a Go.undef)):Sem Value))=zbM tmps:=by
  funext r; cases r<;>rfl
 rw[<-this];rfl
end
end Go.VS
namespace Go.VS
open Go IntKind
section
variable {P:Program} {TI:Nat->TS} {G:Nat->Option vG} {w:World} {X Iq:Nat->Prop} {g:Gh}
theorem Wu {q:Q}:∀{as:List AT} {x:TA as} {vs:List Value} {i k:Nat},YQ w q i k as x vs->(∀j b,i<=j->q.m.blk j=some b->j<i+as.length)/\vs.length=as.length
 | [],_,[],i,_,h=>⟨fun j b hj hb=>(by rw[h.1 j hj] at hb; cases hb),rfl⟩
 | [],_,_::_,_,_,h=>h.elim
 | .d k::as,_,[],_,_,h=>h.elim
 | .io t ms::as,_,[],_,_,h=>h.elim
 | .ios t::as,_,[],_,_,h=>h.elim
 | .d k::as,x,v::vs,i,_,⟨h1,_,_,h3⟩=>by
  obtain ⟨i1,i2⟩:=Wu h3;refine ⟨fun j b hj hb=>?_,by simp[i2]⟩;rcases Nat.eq_or_lt_of_le hj with e | hlt
  ·subst e; rw[h1] at hb; cases hb
  ·have:=i1 j b hlt hb; simp; omega
 | .ios t::as,x,v::vs,i,_,⟨h1,_,_,h3⟩=>by
  obtain ⟨i1,i2⟩:=Wu h3;refine ⟨fun j b hj hb=>?_,by simp[i2]⟩;rcases Nat.eq_or_lt_of_le hj with e | hlt
  ·subst e; rw[h1] at hb; cases hb
  ·have:=i1 j b hlt hb; simp; omega
 | .io t ms::as,x,v::vs,i,_,⟨_,_,h3⟩=>by
  obtain ⟨i1,i2⟩:=Wu h3;refine ⟨fun j b hj hb=>?_,by simp[i2]⟩;rcases Nat.eq_or_lt_of_le hj with e | hlt
  ·subst e; simp
  ·have:=i1 j b hlt hb; simp; omega
theorem VH {q q':Q} (hq:Le w w q q'):∀{as:List AT} {x:TA as} {vs:List Value} {i k:Nat},YQ w q i k as x vs->
  ∀{u:Nat->Value},(∀j v,vs[j]?=some v->u (i+j)=v)->∀t,RE w q' (Z8 i k as x t) (u t)
 | [],_,_,i,_,_,_,_,t=>by simp only[Z8]; exact trivial
 | .d k::as,_,[],_,_,h,_,_,_=>h.elim
 | .io t ms::as,_,[],_,_,h,_,_,_=>h.elim
 | .ios t::as,_,[],_,_,h,_,_,_=>h.elim
 | .d b::as,x,v::vs,i,k,⟨_,h2,_,h3⟩,u,hu,t=>by
  have ih:=VH hq h3 (u:=u) (fun j v hj=>by rw[show i+1+j=i+(j+1) by omega]; exact hu (j+1) v (by simpa using hj)) t;have hv:u i=v:=hu 0 v rfl;have hd:Z8 i k (.d b::as) x t=bif Nat.beq t i then SE k b x.1 else Z8 (i+1) (k+(tG (.d b) x.1).length) as x.2 t:=by cases b<;>rfl
  rw[hd];cases hb:Nat.beq t i with
  | true=>rw[xW hb,hv]; exact RE.mono hq h2
  | false=>exact ih
 | .ios ty::as,x,v::vs,i,k,⟨_,h2,_,h3⟩,u,hu,t=>by
  have ih:=VH hq h3 (u:=u) (fun j v hj=>by rw[show i+1+j=i+(j+1) by omega]; exact hu (j+1) v (by simpa using hj)) t;have hv:u i=v:=hu 0 v rfl;simp only[Z8];cases hb:Nat.beq t i with
  | true=>rw[xW hb,hv]; exact RE.mono hq h2
  | false=>exact ih
 | .io ty ms::as,x,v::vs,i,k,⟨⟨b,cs,T,h1,h2,_⟩,_,h3⟩,u,hu,t=>by
  have ih:=VH hq h3 (u:=u) (fun j v hj=>by rw[show i+1+j=i+(j+1) by omega]; exact hu (j+1) v (by simpa using hj)) t;have hv:u i=v:=hu 0 v rfl;simp only[Z8];cases hb:Nat.beq t i with
  | true=>rw[xW hb,hv]; exact ⟨b,hq.blk i b h1,h2⟩
  | false=>exact ih
theorem X4 {q:Q}:∀{as:List AT} {x:TA as} {vs:List Value} {i k:Nat},YQ w q i k as x vs->∀s,
  (∀d,X5 i k as x s=some d->∃b cs T L,q.m.blk s=some b/\w.heap[b]?=some (Obj.cells cs T (0,0))/\d=.g L/\All2 (RC w q) L cs.toList) /\
  (∀b,i<=s->q.m.blk s=some b->X5 i k as x s≠none)
 | [],_,[],i,_,h,s=>⟨fun d hd=>(by simp[X5] at hd),fun b hs hb=>(by rw[h.1 s hs] at hb; cases hb)⟩
 | [],_,_::_,_,_,h,_=>h.elim
 | .d k::as,_,[],_,_,h,_=>h.elim
 | .io t ms::as,_,[],_,_,h,_=>h.elim
 | .ios t::as,_,[],_,_,h,_=>h.elim
 | .d b::as,x,v::vs,i,k,⟨h1,_,_,h3⟩,s=>by
  obtain ⟨i1,i2⟩:=X4 h3 s;refine ⟨i1,fun b hs hb=>?_⟩;rcases Nat.eq_or_lt_of_le hs with e | hlt
  ·subst e; rw[h1] at hb; cases hb
  ·exact i2 b hlt hb
 | .ios t::as,x,v::vs,i,k,⟨h1,_,_,h3⟩,s=>by
  obtain ⟨i1,i2⟩:=X4 h3 s;refine ⟨i1,fun b hs hb=>?_⟩;rcases Nat.eq_or_lt_of_le hs with e | hlt
  ·subst e; rw[h1] at hb; cases hb
  ·exact i2 b hlt hb
 | .io t ms::as,x,v::vs,i,k,⟨⟨b,cs,T,h1,_,h4,h5⟩,_,h3⟩,s=>by
  obtain ⟨i1,i2⟩:=X4 h3 s;simp only[X5];cases hb:Nat.beq s i with
  | true =>
   have e:=xW hb;subst e;exact ⟨fun d hd=>by simp at hd; subst hd; exact ⟨b,cs,T,_,h1,h4,rfl,h5⟩,fun _ _ _=>by simp⟩
  | false =>
   refine ⟨by simpa using i1,fun b' hs hb'=>?_⟩;rcases Nat.eq_or_lt_of_le hs with e | hlt
   ·subst e; simp at hb
   ·simpa using i2 b' hlt hb'
theorem S5 {f:Nat->Xi} {p:Nat}:∀{os:List vG} {k:Nat},(∃j o,p=k+j/\os[j]?=some o/\seqO k os f p=.is o)\/((∀j,j<os.length->p≠k+j)/\seqO k os f p=f p)
 | [],k=>.inr ⟨fun j hj=>by simp at hj,rfl⟩
 | o::os,k=>by
  simp only[seqO];cases hb:Nat.beq p k with
  | true=>exact .inl ⟨0,o,xW hb,rfl,rfl⟩
  | false =>
   have hne:p≠k:=fun e=>by subst e; simp at hb
   rcases S5 (f:=f) (p:=p) (os:=os) (k:=k+1) with ⟨j,o',h1,h2,h3⟩ | ⟨h1,h2⟩
   ·exact .inl ⟨j+1,o',by omega,by simpa using h2,h3⟩
   ·refine .inr ⟨fun j hj=>?_,h2⟩
    cases j with
    | zero=>exact hne
    | succ j=>have:=h1 j (by simp at hj; omega); omega
theorem SD {q:Q}:∀{as:List AT} {x:TA as} {vs:List Value} {i k:Nat},YQ w q i k as x vs->∀p,
  (∀o,WZ k as x p=.is o->∃h,q.m.hd p=some h/\OwnRep w q h o)/\(∀h,q.m.hd p=some h->k<=p->WZ k as x p≠.no)
 | [],_,[],i,k,h,p=>⟨fun o ho=>by simp[WZ] at ho,fun hh hp hk=>by have:=h.2 p hh hp; omega⟩
 | [],_,_::_,_,_,h,_=>h.elim
 | .d k::as,_,[],_,_,h,_=>h.elim
 | .io t ms::as,_,[],_,_,h,_=>h.elim
 | .ios t::as,_,[],_,_,h,_=>h.elim
 | c::as,x,v::vs,i,k,h,p=>by
  have key:OwnsR w q k (tG c x.1)/\YQ w q (i+1) (k+(tG c x.1).length) as x.2 vs:=by
   cases c with
   | d b=>exact ⟨h.2.2.1,h.2.2.2⟩
   | io t ms=>exact ⟨h.2.1,h.2.2⟩
   | ios t=>exact ⟨h.2.2.1,h.2.2.2⟩
  obtain ⟨h1,h2⟩:=key;obtain ⟨i1,i2⟩:=SD h2 p;simp only[WZ];rcases S5 (f:=WZ (k+(tG c x.1).length) as x.2) (p:=p) (os:=tG c x.1) (k:=k) with ⟨j,o,e1,e2,e3⟩ | ⟨e1,e2⟩
  ·rw[e3]
   refine ⟨fun o' ho=>?_,fun _ _ _=>by simp⟩;cases ho
   rw[e1]; exact h1 j o e2
  ·rw[e2]
   refine ⟨i1,fun hh hp hk=>i2 hh hp ?_⟩;rcases Nat.lt_or_ge p (k+(tG c x.1).length) with h' | h'
   ·exact absurd (show p=k+(p-k) by omega) (e1 (p-k) (by omega))
   ·exact h'
 termination_by as=>as.length
theorem zg7 {as:List AT} {x:TA as} {vs:List Value} (hE:SM G w X Iq g as x vs) {N:Nat} {tmps:Array Value} (hsz:N<=tmps.size) (ht:∀(j:Nat) v,vs[j]?=some v->tmps.getD j Go.undef=v) :
  Rel ⟨P,TI,G,N,w,X,Iq,as.length,g⟩ g (TZ as x) ⟨tmps,[]⟩ w:=by
 let cx:Cx:=⟨P,TI,G,N,w,X,Iq,as.length,g⟩
 have how:∀p b,vm (TZ as x) g p b->(Iq b/\∃s,p=.inl s/\g.blk s=some b)\/(Mv g b/\∃r h off,p=.inr r/\g.hd r=some h/\h.a=some ⟨b,off,none⟩/\0<h.cap):=by
  intro p b hp;cases p with
  | inl s=>exact .inl ⟨(hE.io b).2 ⟨s,hp⟩,s,rfl,hp⟩
  | inr s=>obtain ⟨o,hd,off,o1,o2,o3,o4⟩:=hp; exact .inr ⟨⟨s,hd,off,o2,o3,o4⟩,s,hd,off,rfl,o2,o3,o4⟩
 have hq:Le w w (qIn w X Iq g) (cx.q (TZ as x) g w):={
  ok:=fun b hb=>⟨⟨hb.1,fun ⟨p,hp⟩=>by
   rcases how p b hp with h' | h'
   ·exact hb.2.2.1 h'.1
   ·exact hb.2.2.2 h'.1,hb.2.1,hb.2.2.1⟩,fun _ _ h=>h⟩
  okb:=fun b hb=>⟨⟨hb.1,fun ⟨p,hp⟩=>by
   rcases how p b hp with h' | h'
   ·exact hb.2.1 h'.1
   ·exact hb.2.2 h'.1,hb.2.1⟩,fun _ _ h=>h⟩
  hd:=fun _ _ h=>h
  blk:=fun _ _ h=>h
  sz:=fun b cs T h=>⟨cs,h,rfl⟩}
 exact {
  size:=hsz
  defers:=rfl
  env:=fun t=>VH hq hE.args (u:=fun t=>tmps.getD t Go.undef) (fun j v hj=>by rw[Nat.zero_add]; exact ht j v hj) t
  box:=fun s d hd=>by
   obtain ⟨b,cs,T,L,h1,h2,h3,h4⟩:=(X4 hE.args s).1 d hd;subst h3;exact ⟨b,cs,T,h1,h2,h4.mono fun _ _=>RC.mono hq.toQLeH⟩
  nobox:=fun s b hb=>(X4 hE.args s).2 b (Nat.zero_le _) hb
  own:=fun s o ho=>by
   obtain ⟨h,h1,h2⟩:=(SD hE.args s).1 o ho;exact ⟨h,h1,h2.mono hq.toQLe fun _ _ _ _=>rfl⟩
  noown:=fun s hd h=>(SD hE.args s).2 hd h (hE.low s hd h)
  dom:=fun p b hp=>by
   rcases how p b hp with ⟨h1,s,h2,h3⟩ | ⟨h1,_⟩
   ·exact ⟨hE.old b (.inr h1),.inr ⟨h1,s,h2,by have:=(Wu hE.args).1 s b (Nat.zero_le _) h3; simpa using this⟩⟩
   ·obtain ⟨m1,m2,m3⟩:=hE.mv b h1
    exact ⟨m1,.inl ⟨m2,m3,.inr h1⟩⟩
  inj:=fun p p' b h1 h2=>by
   rcases how p b h1 with ⟨k1,s,e1,e2⟩ | ⟨k1,r,h,off,e1,e2,e3,e4⟩<;>rcases how p' b h2 with ⟨k1',s',e1',e2'⟩ | ⟨k1',r',h',off',e1',e2',e3',e4'⟩
   ·rw[e1,e1',hE.inj s s' b e2 e2']
   ·exact absurd k1 (hE.mv b k1').2.2
   ·exact absurd k1' (hE.mv b k1).2.2
   ·rw[e1,e1',hE.injm r r' h h' b off off' e2 e2' e3 e4 e3' e4']
  mem:=fun _ _ _ _=>rfl
  grown:=Nat.le_refl _
  oldX:=hE.old
  argna:=fun s b hb=>by have:=(Wu hE.args).1 s b (Nat.zero_le _) hb; simpa using this
  arg:=fun s b b0 h1 h2=>by
   have h1:g.blk s=some b:=h1;have h2:g.blk s=some b0:=h2;rw[h1] at h2; simpa using h2
  argp:=fun p h hp=>by have:=hE.low p h hp; exact Nat.ble_eq_true_of_le this
  argh:=fun p h h0 h1 h2=>by
   have h1:g.hd p=some h:=h1;have h2:g.hd p=some h0:=h2;rw[h1] at h2; simpa using h2
  iosz:=fun b cs T _ h=>⟨cs,h,rfl⟩
  os:=rfl
  tape:=rfl
  output:=rfl}
theorem Wf {cx:Cx} {m:Gh} {σ:St} {a:Act} {w':World} (h:Rel cx m σ a w') (hw:cx.w0=w) {q0:Q} (hq0:q0.m=cx.g0) (hio:∀i b,cx.g0.blk i=some b->cx.Iq b):∀{as:List AT} {x:TA as} {vs:List Value} {y:TIo as} {ls:List Lk} {i k:Nat},
  YQ w q0 i k as x vs->(∀k∈as,argOK k=true)->ZW σ i k as x=some (y,ls)->∃hs:List Hd,hs.length=(Yc as y).length/\HdP σ m hs (uB ls)/\(∀p,.lp p ∉ ls) /\
   ∀(q:Q) (n:Nat),(∀b,(cx.q σ m w').ok b->q.ok b)->(∀j hh,hs[j]?=some hh->q.m.hd (n+j)=some hh)->zcC w w' q cx.g0.blk i n as y/\OwnsR w' q n ((Yc as y).map (·.2))/\IoH cx.g0 q.m k n as x y
 | [],_,_,_,ls,_,_,_,_,hr=>by
  simp[ZW] at hr;subst hr;refine ⟨[],rfl,trivial,?_,fun q n _ _=>⟨trivial,fun j o ho=>by simp[Yc] at ho,trivial⟩⟩;simp
 | .d k::as,_,[],_,_,_,_,h,_,_=>h.elim
 | .io t ms::as,_,[],_,_,_,_,h,_,_=>h.elim
 | .ios t::as,_,[],_,_,_,_,h,_,_=>h.elim
 | .d b::as,x,v::vs,y,ls,i,k,⟨_,_,_,h3⟩,hk,hr=>Wf h hw hq0 hio (as:=as) h3 (fun k hk'=>hk k (by simp[hk'])) (by simpa only [ZW] using hr)
 | .ios t::as,x,v::vs,y,ls,i,k,⟨_,h2,_,h3⟩,hk,hr=>by
  simp only[ZW] at hr;split at hr<;>simp at hr;rename_i z z' hz hz';obtain ⟨rfl,rfl⟩:=hr;obtain ⟨hs,l1,p1,n1,h4⟩:=Wf h hw hq0 hio (as:=as) h3 (fun k hk'=>hk k (by simp[hk'])) hz';split at hz<;>try simp at hz
  rename_i o ho;obtain ⟨hh,g1,g2⟩:=h.own k o ho;obtain ⟨h0,g3,_⟩:=h2;have g3:cx.g0.hd k=some h0:=by rw[<-hq0]; exact g3
  have e0:=h.argh k hh h0 g1 g3;subst e0;obtain ⟨e1,e2⟩:=ur hz;obtain ⟨t0,l0⟩:=o;simp only at e1 e2;subst e1;simp only at e2;subst e2;refine ⟨hh::hs,by simp[Yc,l1],.inr ⟨⟨_,hh,ho,g1,rfl,fun b off e _=>⟨off,e⟩⟩,p1⟩,fun p hp=>by simp at hp; exact n1 p hp,fun q n hq hd=>?_⟩;obtain ⟨i1,i2,i3⟩:=h4 q (n+1) hq fun j hh hj=>by rw[show n+1+j=n+(j+1) by omega]; exact hd (j+1) hh (by simpa using hj)
  have hn0:=hd 0 hh rfl;refine ⟨i1,?_,?_⟩
  ·simp only[Yc,List.map_cons]
   intro j o ho';cases j with
   | zero=>simp at ho'; subst ho'; exact ⟨hh,hn0,g2.mono_nb hq (hk (.ios t0) (by simp))⟩
   | succ j =>
    obtain ⟨h5,k1,k2⟩:=i2 j o (by simpa using ho');exact ⟨h5,by rw[show n+(j+1)=n+1+j by omega]; exact k1,k2⟩
  ·exact ⟨by rw[g3]; exact hn0,i3⟩
 | .io t ms::as,x,v::vs,y,ls,i,k,⟨⟨b,cs,T,h1,_,h4,_⟩,_,h3⟩,hk,hr=>by
  simp only[ZW] at hr;split at hr<;>simp at hr;rename_i z z' hz hz';obtain ⟨rfl,rfl⟩:=hr;obtain ⟨hs,l1,p1,n1,h5⟩:=Wf h hw hq0 hio (as:=as) h3 (fun k hk'=>hk k (by simp[hk'])) hz';split at hz<;>try simp at hz
  rename_i l hl;split at hz<;>try simp at hz
  rename_i l' ps hj;split at hz<;>simp at hz;rename_i y0 hy;subst hz;obtain ⟨b',cs',T',e1,e2,e3⟩:=h.box i _ hl;rw[hq0] at h1;have:=h.arg i b' b e1 h1;subst this;obtain ⟨cs2,f1,f2⟩:=h.iosz b' cs T (.inl (hio i b' h1)) (by rw[hw]; exact h4);rw[e2] at f1;simp at f1;obtain ⟨rfl,rfl⟩:=f1;obtain ⟨hs0,l0,p0,h0⟩:=UH h hj (YM hy) (X0 t y0 [] (hk (.io t ms) (by simp)) (by simp)) e3;refine ⟨hs0++hs,by simp[Yc,l0,l1],by rw[qT]; exact p0.app p1,fun p hp=>?_,fun q n hq hd=>?_⟩
  ·rcases List.mem_append.1 hp with hp | hp
   ·obtain ⟨p',e⟩:=XT hj _ hp; cases e
   ·exact n1 p hp
  ·obtain ⟨i1,i2⟩:=h0 q n hq fun j hh hj=>hd j hh (by rw[List.getElem?_append_left ((List.getElem?_eq_some_iff.1 hj).1)]; exact hj)
   obtain ⟨j1,j2,j3⟩:=h5 q (n+hs0.length) hq fun j hh hj=>by rw[Nat.add_assoc]; exact hd _ hh (by rw[List.getElem?_append_right (by omega)]; simpa using hj)
   rw[l0] at j1 j2 j3;refine ⟨⟨⟨b',cs,cs',T',h1,h4,e2,f2,i1⟩,j1⟩,?_,j3⟩;simp only[Yc,List.map_append,List.map_map];rw[show ((fun x:Bool×vG=>x.2) ∘ fun o=>(false,o))=id from rfl,List.map_id];exact i2.app j2
variable {Hh:Hn} {Sg:Nat->Sig} {V:tQ Sg} {VD:uM Hh} {H HL:Nat->Shape} {HJ:Nat->Option Shape} {L:Zc HL} {J:Zd HJ}
theorem func_ok (hmix:P.follows .mixedOrders=true) (hT:∀t,qp P t (TI t)) (hV:Alg V) (hVD:AlgD VD) (cV:∀f x y,V f x some=some y->uH P G f (Sg f) x y)
  (cVD:∀ d f x y,VD d f x some = some y→∃ g,f = g + 1∧uH P G g (Hh.sig d) x y) {f:FuncId} {fn:Func} {c:Code} (hf:P.funcs[f]? = some fn) (hb:fn.body = some c) (hname:(fn.name == "runtime.NumGoroutine") = false)
  (hl:∀cx:Cx,cx.P=P->cx.TI=TI->cx.G=G->cx.N=fn.ntmps->Xj cx Hh Sg V VD H HL HJ L J c) (hc:∀cx:Cx,cx.P=P->cx.TI=TI->cx.G=G->cx.N=fn.ntmps->W1 cx Hh Sg V VD H HL HJ L J c)
  {s:Sig} {x:TA s.args} {y:s.R} (h:zdb TI G Hh Sg V VD fn.ntmps H HL HJ L J fn s c x=some y):uH P G f s x y:=by
 intro w X Iq g vs K hE;unfold zdb at h;cases hok:zeR s&&Nat.beq s.args.length Hh.na with
 | false=>simp[hok] at h
 | true =>
 simp only[hok,cond_true] at h;simp only[Bool.and_eq_true,zeR,List.all_eq_true] at hok;obtain ⟨⟨hres,hargs⟩,hna⟩:=hok;have hna:=xW hna;refine .inr ⟨?_,?_⟩
 ·simp[callFunc,hf,hb]
  simpa using hname
 let cx:Cx:=⟨P,TI,G,fn.ntmps,w,X,Iq,s.args.length,g⟩
 have hlen:=(Wu hE.args).2;have hG:ul cx:=⟨fun g o hg=>hE.glob g o hg,fun b o hg=>hE.globm b o hg⟩;have hL:US cx Hh Sg V VD:={na:=hna,ts:=hT,glob:=hG,alg:=hV,algD:=hVD,V:=cV,VD:=cVD};have hrel:Rel cx g (TZ s.args x) ⟨vs.toArray++Array.replicate (fn.ntmps-vs.toArray.size) Go.undef,[]⟩ w :=
  zg7 hE (by simp; omega) (fun j v hj=>by
   have hjl:j<vs.length:=(List.getElem?_eq_some_iff.1 hj).1;simp only[Array.getD_eq_getD_getElem?];rw[Array.getElem?_append_left (by simpa using hjl)];simp[hj])
 refine calls_of_wp hf hb (code_ok hmix hL c (hl cx rfl rfl rfl rfl) (hc cx rfl rfl rfl rfl) h hrel fun e σ' m' a' w' hr hk=>?_);have fin:(bif Xf TI σ' fn.results.toList then (match qG TI σ' s.res fn.results.toList,ZW σ' 0 inN s.args x with | some r,some o=>bif v7 (r.2++o.2) then some (r.1,o.1) else none | _,_=>none) else none)=some y->
   a'.defers=[]/\∃v,(results fn a'.tmps).run P w'=.ok v w'/\Post w w' X Iq g s x y v K:=by
  intro hk;cases hcell:Xf TI σ' fn.results.toList with
  | false=>simp[hcell] at hk
  | true =>
  simp only[hcell,cond_true] at hk;split at hk<;>try simp at hk
  rename_i r o hres' hio';cases hap:v7 (r.2++o.2) with
  | false=>simp[hap] at hk
  | true =>
  simp[hap] at hk;subst hk;refine ⟨hr.defers,?_⟩;obtain ⟨vs',hs1,h1,l1,p1,h2⟩:=WK hT hG hr hres hcell (show qG cx.TI σ' s.res fn.results.toList=some (r.1,r.2) from hres');obtain ⟨hs2,l2,p2,n2,h3⟩:=Wf hr rfl (q0:=qIn w X Iq g) rfl (fun i b hb=>(hE.io b).2 ⟨i,hb⟩) hE.args hargs (show ZW σ' 0 inN s.args x=some (o.1,o.2) from hio');let g1:Gh:=⟨fun _=>none,hdL K (hs1++hs2)⟩
  have hp:=p1.app p2;rw[<-qT] at hp;have hmv:∀b,Mv g1 b->∃p∈uB (r.2++o.2),vm σ' m' (.inr p) b:=by
   intro b ⟨p,hh,off,e1,e2,e3⟩;obtain ⟨j,_,hj⟩:=qL e1;exact hp.at hj e2 e3
  have hqo:∀b,(cx.q σ' m' w').ok b->(XF w' X Iq g1).ok b:=fun b hb=>⟨hb.1,hb.2.2.1,hb.2.2.2,fun hm=>by obtain ⟨p,_,hpo⟩:=hmv b hm; exact hb.2.1 ⟨_,hpo⟩⟩
  obtain ⟨j1,j2⟩:=h2 (XF w' X Iq g1) K hqo (fun j hh hj=>by show hdL K (hs1++hs2) (K+j)=some hh; rw[zc4,List.getElem?_append_left ((List.getElem?_eq_some_iff.1 hj).1)]; exact hj) (fun p hpl b hb=>by
   refine ⟨(hr.dom _ b hb).1,(hr.newOf hb).1,(hr.newOf hb).2.1,fun hm=>?_⟩;obtain ⟨p',e1,e2⟩:=hmv b hm;have:=Vh hr p p' b hb e2;subst this;rcases ZL.1 e1 with h' | h'<;>(have:=Z9 hap (show Lk.lp p∈r.2++o.2 by simp[hpl]) h' (by simp); simp[Z6,Lk.key,Lk.x] at this))
  obtain ⟨i1,i2,i3⟩:=h3 (XF w' X Iq g1) (K+hs1.length) hqo (fun j hh hj=>by show hdL K (hs1++hs2) (K+hs1.length+j)=some hh; rw[Nat.add_assoc,zc4,List.getElem?_append_right (by omega)]; simpa using hj);rw[l1] at i1 i2 i3;refine ⟨if h:vs'.toArray.size=1 then vs'.toArray[0] else .tuple vs'.toArray,?_,?_⟩
  ·rw[zbL]
   have:(fn.results.mapM (zbM a'.tmps)).run P w'=.ok vs'.toArray w':=by
    have h1':(fn.results.toList.mapM (zbM a'.tmps)).run P w'=.ok vs' w':=h1;rw[Array.mapM_eq_mapM_toList];simp[h1']
   simp only[Sem.run_bind,this,Result.andThen_ok];rfl
  ·refine {
    size:=hr.grown
    mem:=fun b hb hi hm=>hr.mem b hb hi hm
    sz:=fun b cs T hi hb=>hr.iosz b cs T hi hb
    os:=hr.os
    tape:=hr.tape
    output:=hr.output
    out:=⟨g1,{
     ret:=?_
     ios:=i1
     own:=by rw[List.map_append]; exact j2.app (by rw[List.length_map]; exact i2)
     low:=fun p hh hp=>by
      obtain ⟨j,e,hj⟩:=qL hp;have:=(List.getElem?_eq_some_iff.1 hj).1;rw[List.length_append] at this;have e1:(tm s.res r.1++Yc s.args o.1).length=hs1.length+hs2.length:=by rw[List.length_append,l1,l2]
      exact ⟨by omega,by show p<K+(tm s.res r.1++Yc s.args o.1).length; rw[e1]; omega⟩
     mv:=fun b hm=>by
      obtain ⟨p,_,hpo⟩:=hmv b hm;have hnew:=hr.newOf hpo;exact ⟨(hr.dom _ b hpo).1,hnew.1,hnew.2.1,hnew.2.2⟩
     injm:=fun p p' hh hh' b off off' e1 e2 e3 e4 e5 e6=>by
      obtain ⟨j,f1,f2⟩:=qL e1;obtain ⟨j',f1',f2'⟩:=qL e2;have:=hp.inj (Vh hr) (Xh hap) f2 f2' e3 e4 e5 e6;omega
     ioh:=i3}⟩}
   show RetR w' (XF w' X Iq g1) (Xo K s.res r.1) _;generalize Xo K s.res r.1=l at j1;match l,vs',j1 with
   | [],[],j1=>exact ⟨#[],by simp,trivial⟩
   | [d],[v],j1=>simpa [RetR] using j1.1
   | d::d'::l,v::v'::vs',j1=>exact ⟨(v::v'::vs').toArray,by simp,by simpa using j1⟩
 cases e with
 | exit id=>simp[finK] at hk
 | normal=>obtain ⟨h1,v,h2,h3⟩:=fin hk; exact ⟨h1,v,h2,h3⟩
 | ret=>obtain ⟨h1,v,h2,h3⟩:=fin hk; exact ⟨h1,v,h2,h3⟩
end
end Go.VS
namespace Go.VS
open Go IntKind
section
variable {P:Program} {G:Nat->Option vG} {Sg:Nat->Sig} {Hh:Hn}
theorem zcX:∀(l:List ((f:Nat)×(TA (Sg f).args->Option (Sg f).R))),Alg (mkV Sg l)
 | [],_,_,_,_=>rfl
 | p::r,f,x,R,K=>by
  simp only[mkV];split
  ·rename_i h
   subst h;unfold oB;cases p.2 x<;>rfl
  ·exact zcX r f x R K
theorem zcY:∀(l:List ((d:Nat)×(Nat->TA (Hh.sig d).args->Option (Hh.sig d).R))),AlgD (mkD Hh l)
 | [],_,_,_,_,_=>rfl
 | p::r,d,f,x,R,K=>by
  simp only[mkD];split
  ·rename_i h
   subst h;unfold oB;cases p.2 f x<;>rfl
  ·exact zcY r d f x R K
def AllV (P:Program) (G:Nat->Option vG) (Sg:Nat->Sig):List ((f:Nat)×(TA (Sg f).args->Option (Sg f).R))->Prop
 | []=>True
 | p::r=>(∀x y,p.2 x=some y->uH P G p.1 (Sg p.1) x y)/\AllV P G Sg r
def AllD (P:Program) (G:Nat->Option vG) (Hh:Hn):List ((d:Nat)×(Nat->TA (Hh.sig d).args->Option (Hh.sig d).R))->Prop
 | []=>True
 | p::r=>(∀f x y,p.2 f x=some y->∃g,f=g+1/\uH P G g (Hh.sig p.1) x y)/\AllD P G Hh r
theorem zfA:∀{l:List ((f:Nat)×(TA (Sg f).args->Option (Sg f).R))},AllV P G Sg l->∀f x y,mkV Sg l f x some=some y->uH P G f (Sg f) x y
 | [],_,f,x,y,h=>by simp[mkV] at h
 | p::r,⟨h1,h2⟩,f,x,y,h=>by
  simp only[mkV] at h;split at h
  ·rename_i e
   subst e;unfold oB at h;split at h<;>simp at h;rename_i z hz;subst h;exact h1 x z hz
  ·exact zfA h2 f x y h
theorem zfB:∀{l:List ((d:Nat)×(Nat->TA (Hh.sig d).args->Option (Hh.sig d).R))},AllD P G Hh l->∀d f x y,mkD Hh l d f x some=some y->∃g,f=g+1/\uH P G g (Hh.sig d) x y
 | [],_,d,f,x,y,h=>by simp[mkD] at h
 | p::r,⟨h1,h2⟩,d,f,x,y,h=>by
  simp only[mkD] at h;split at h
  ·rename_i e
   subst e;unfold oB at h;split at h<;>simp at h;rename_i z hz;subst h;exact h1 f x z hz
  ·exact zfB h2 d f x y h
theorem zbq {p:Code->Prop}:∀{l:List Code} {n:Nat},l.length=n->(∀i,i<n->p (l.getD i .skip))->∀c∈l,p c:=by
 intro l n hn h c hc;obtain ⟨i,hi⟩:=List.getElem?_of_mem hc;have hlt:=(List.getElem?_eq_some_iff.1 hi).1;have:=h i (by omega);rwa [List.getD_eq_getElem?_getD,hi] at this
variable {TI:Nat->TS} {N:Nat} {V:tQ Sg} {VD:uM Hh} {H HL:Nat->Shape} {HJ:Nat->Option Shape} {L:Zc HL} {J:Zd HJ}
def zcB (TI:Nat->TS) (G:Nat->Option vG) (Hh:Hn) (Sg:Nat->Sig) (V:tQ Sg) (VD:uM Hh) (N:Nat) (H HL:Nat->Shape) (HJ:Nat->Option Shape) (L:Zc HL) (J:Zd HJ) (c:Code) (r:Nat):Prop :=
 ∀(x:(HL r).T) (R:Type) (K:Ex->St->Option R),∃n,L r x K=TQ TI G Hh Sg V VD N H HL HJ L J c r K n x
def zgP (TI:Nat->TS) (G:Nat->Option vG) (Hh:Hn) (Sg:Nat->Sig) (V:tQ Sg) (VD:uM Hh) (N:Nat) (H HL:Nat->Shape) (HJ:Nat->Option Shape) (L:Zc HL) (J:Zd HJ) (c:Code) (r:Nat):Prop :=
 ∀(x:(shJ HJ r).T) (R:Type) (K:Ex->St->Option R),J r x K=ZB TI G Hh Sg V VD N H HL HJ L J c (yS (shJ HJ r) x) K
theorem zeb (hmix:P.follows .mixedOrders=true) (hT:∀t,qp P t (TI t)) {lv:List ((f:Nat)×(TA (Sg f).args->Option (Sg f).R))} {ld:List ((d:Nat)×(Nat->TA (Hh.sig d).args->Option (Hh.sig d).R))}
  (cV:AllV P G Sg lv) (cD:AllD P G Hh ld) {f:FuncId} {fn:Func} {c:Code} (hf:P.funcs[f]? = some fn) (hb:fn.body = some c) (hname:(fn.name == "runtime.NumGoroutine") = false) (hN:fn.ntmps = N)
  {nl nc:Nat} (hnl:(ux c).length=nl) (hl:∀i,i<nl->zcB TI G Hh Sg (mkV Sg lv) (mkD Hh ld) N H HL HJ L J ((ux c).getD i .skip) (rid ((ux c).getD i .skip)))
  (hnc:(tk HJ c).length=nc) (hc:∀i,i<nc->zgP TI G Hh Sg (mkV Sg lv) (mkD Hh ld) N H HL HJ L J ((tk HJ c).getD i .skip) (rid ((tk HJ c).getD i .skip)))
  {s:Sig} {x:TA s.args} {y:s.R} (h:zdb TI G Hh Sg (mkV Sg lv) (mkD Hh ld) N H HL HJ L J fn s c x=some y):uH P G f s x y:=by
 subst hN;refine func_ok hmix hT (zcX lv) (zcY ld) (zfA cV) (zfB cD) hf hb hname ?_ ?_ h
 ·rintro cx rfl rfl rfl hN
  intro c hc x R K;rw[hN];exact zbq (p:=fun c=>zcB cx.TI cx.G Hh Sg (mkV Sg lv) (mkD Hh ld) fn.ntmps H HL HJ L J c (rid c)) hnl hl c hc x R K
 ·rintro cx rfl rfl rfl hN
  intro c hc' x R K;rw[hN];exact zbq (p:=fun c=>zgP cx.TI cx.G Hh Sg (mkV Sg lv) (mkD Hh ld) fn.ntmps H HL HJ L J c (rid c)) hnc hc c hc' x R K
end
end Go.VS
namespace Go.VS
open Go IntKind
theorem Z4:∀{s:Nat} {xs ys:List Value} {b:Bool},qn xs ys=some b->∃b1 b2,qn (xs.take s) (ys.take s)=some b1/\qn (xs.drop s) (ys.drop s)=some b2/\b=(b1&&b2)
 | 0,xs,ys,b,h=>⟨true,b,by simp[qn],by simpa using h,by simp⟩
 | s+1,[],ys,b,h=>by
  cases ys with
  | nil=>exact ⟨true,b,by simp[qn],by simpa using h,by simp⟩
  | cons y ys=>simp[qn] at h
 | s+1,x::xs,[],b,h=>by unfold qn at h; split at h<;>simp_all
 | s+1,x::xs,y::ys,b,h=>by
  unfold qn at h;split at h<;>try simp at h
  all_goals (rename_i e1 e2; cases e1<;>cases e2)
  ·split at h<;>simp at h
   rename_i q hq;obtain ⟨hk,h⟩:=h;obtain ⟨b1,b2,h1,h2,h3⟩:=Z4 (s:=s) hq;refine ⟨_,b2,by simp only[List.take_succ_cons,qn,hk,if_true,h1]; rfl,by simpa using h2,?_⟩;rw[<-h,h3,Bool.and_assoc]
  ·split at h<;>simp at h
   rename_i q hq;obtain ⟨b1,b2,h1,h2,h3⟩:=Z4 (s:=s) hq;refine ⟨_,b2,by simp only[List.take_succ_cons,qn,h1]; rfl,by simpa using h2,?_⟩;rw[<-h,h3,Bool.and_assoc]
  ·split at h<;>simp at h
   rename_i q hq;obtain ⟨b1,b2,h1,h2,h3⟩:=Z4 (s:=s) hq;refine ⟨_,b2,by simp only[List.take_succ_cons,qn,h1]; rfl,by simpa using h2,?_⟩;rw[<-h,h3,Bool.and_assoc]
theorem u6:∀{zs cs:List Value},vk zs cs=true->cs.length=zs.length
 | [],[],_=>rfl
 | [],_::_,h=>by simp[vk] at h
 | z::zs,[],h=>by unfold vk at h; split at h<;>simp_all
 | z::zs,c::cs,h=>by
  unfold vk at h;split at h
  ·rename_i e _; cases e
  ·rename_i e1 e2; cases e1; cases e2; simp only[Bool.and_eq_true] at h; simp[u6 h.2]
  ·rename_i e1 e2; cases e1; cases e2; simp[u6 h]
  ·rename_i e1 e2; cases e1; cases e2; simp[u6 h]
  ·simp at h
theorem qc:∀{zs ws cs:List Value},vk (zs++ws) cs=true->vk zs (cs.take zs.length)=true/\vk ws (cs.drop zs.length)=true
 | [],ws,cs,h=>⟨by simp[vk],by simpa using h⟩
 | z::zs,ws,[],h=>by simp only[List.cons_append] at h; unfold vk at h; split at h<;>simp_all
 | z::zs,ws,c::cs,h=>by
  simp only[List.cons_append] at h;unfold vk at h;split at h
  ·rename_i e _; cases e
  ·rename_i e1 e2; cases e1; cases e2
   simp only[Bool.and_eq_true] at h;obtain ⟨h1,h2⟩:=qc h.2;exact ⟨by simp only[List.length_cons,List.take_succ_cons,vk,h1,h.1,Bool.and_self],by simpa using h2⟩
  ·rename_i e1 e2; cases e1; cases e2
   obtain ⟨h1,h2⟩:=qc h;exact ⟨by simp only[List.length_cons,List.take_succ_cons,vk,h1],by simpa using h2⟩
  ·rename_i e1 e2; cases e1; cases e2
   obtain ⟨h1,h2⟩:=qc h;exact ⟨by simp only[List.length_cons,List.take_succ_cons,vk,h1],by simpa using h2⟩
  ·simp at h
section
variable {P:Program} {w:World}
def eqFs (ks:TypeId->Option (List Value)):Nat->List Field->Option (List Value)
 | _,[]=>some []
 | off,f :: r=>bif Nat.beq f.offset off && !(f.name == "_") then (match ks f.type with
  | some z=>match eqFs ks (off+z.length) r with
   | some zs=>bif z.isEmpty then none else some (z++zs)
   | none=>none
  | none=>none) else none
def SN (z:List Value):Nat->List Value
 | 0=>[]
 | n+1=>z++SN z n
def Uj (P:Program):Nat->TypeId->Option (List Value)
 | 0,_=>none
 | k+1,t=>match P.underlying t,P.info? t with
  | some .bool,some i=>bif Nat.beq i.size 1 then some [.bool false] else none
  | some (.int k),some i=>bif Nat.beq i.size 1 then some [.int k 0] else none
  | some .string,some i=>bif Nat.beq i.size 1 then some [.string ByteArray.empty] else none
  | some (.struct fs),some i=>bif P.stoodInHeld t then none else (match eqFs (Uj P k) 0 fs.toList with
   | some z=>bif Nat.beq i.size z.length then some z else none
   | none=>none)
  | some (.array n e),some i=>match Uj P k e with
   | some z=>bif Nat.beq i.size (SN z n).length&&Nat.beq (P.cellsOf e) z.length&&!z.isEmpty then some (SN z n) else none
   | none=>none
  | _,_=>none
end
end Go.VS
namespace Go.VS
open Go IntKind
section
variable {P:Program} {w:World}
def Xm (P:Program) (t:TypeId) (cs:List Value):Value:=match P.underlying t with
 | some d=>if X8 d then .agg cs.toArray else cs.headD (.bool true)
 | none=>.bool true
theorem Rk {t:TypeId} {d:TypeDesc} (hu:P.underlying t=some d) (ha:X8 d=false) (v:Value):Xm P t [v]=v:=by simp[Xm,hu,ha]
theorem Rl {t:TypeId} {d:TypeDesc} (hu:P.underlying t=some d) (ha:X8 d=true) (cs:List Value):Xm P t cs=.agg cs.toArray:=by simp[Xm,hu,ha]
theorem RM:∀{k:Nat} {t:TypeId} {z:List Value},Uj P k t=some z->∃i d,P.info? t=some i/\i.size=z.length/\P.underlying t=some d
 | 0,_,_,h=>by simp[Uj] at h
 | k+1,t,z,h=>by
  simp only[Uj] at h;split at h<;>try simp at h
  ·rename_i i hu hi
   cases hb:Nat.beq i.size 1<;>simp[hb] at h
   subst h;exact ⟨i,_,hi,xW hb,hu⟩
  ·rename_i i hu hi
   cases hb:Nat.beq i.size 1<;>simp[hb] at h
   subst h;exact ⟨i,_,hi,xW hb,hu⟩
  ·rename_i i hu hi
   cases hb:Nat.beq i.size 1<;>simp[hb] at h
   subst h;exact ⟨i,_,hi,xW hb,hu⟩
  ·rename_i fs i hu hi
   cases hs:P.stoodInHeld t<;>simp[hs] at h
   split at h<;>try simp at h
   rename_i m hm;cases hb:Nat.beq i.size m.length<;>simp[hb] at h
   subst h;exact ⟨i,_,hi,xW hb,hu⟩
  ·rename_i m e i hu hi
   split at h<;>try simp at h
   rename_i s hs;cases hb:Nat.beq i.size (SN s m).length&&Nat.beq (P.cellsOf e) s.length&&!s.isEmpty with
   | false=>rw[hb] at h; simp at h
   | true =>
   rw[hb] at h;simp at h;subst h;simp only[Bool.and_eq_true] at hb;exact ⟨i,_,hi,xW hb.1.1,hu⟩
theorem U1 {t:TypeId} {z:List Value} {k:Nat} {cs:Array Value} {off:Nat} (hz:Uj P k t=some z) (hl:off+z.length<=cs.size) (hp:z≠[]) :
  (Go.part t cs off).run P w=.ok (Xm P t ((cs.toList.drop off).take z.length)) w:=by
 obtain ⟨i,d,hi,hs,hu⟩:=RM hz;have hp':0<z.length:=List.length_pos_iff.2 hp;rw[Vb hu hi,hs];unfold Xm;rw[hu];simp only;cases ha:X8 d with
 | true =>
  simp only[if_true];congr 2
  apply Array.ext';simp[List.take_drop]
 | false =>
  simp only[Bool.false_eq_true,if_false];have:off<cs.size:=by omega
  rw[Array.getElem?_eq_getElem this];simp only;congr 1
  rw[List.drop_eq_getElem_cons (by simpa using this)];cases hs:z.length with
  | zero=>omega
  | succ n=>simp
theorem ZO {v:Value} {cs:List Value} (h:vk [v] cs=true):∃c,cs=[c]:=List.length_eq_one_iff.1 (by have:=u6 h; simpa using this)
theorem zdg {ks:TypeId->Option (List Value)} {k:Nat} (hks:ks=Uj P k) {d:Nat}
  (ih:∀t z,Uj P k t=some z->∀(xs ys:List Value) (b:Bool),vk z xs=true->vk z ys=true->qn xs ys=some b->∀w,(Op.equalIn d t (Xm P t xs) (Xm P t ys)).run P w=.ok b w) :
  ∀{fs:List Field} {off:Nat} {z:List Value},eqFs ks off fs=some z->∀(xs ys:Array Value) (b:Bool),vk z (xs.toList.drop off)=true->vk z (ys.toList.drop off)=true->qn (xs.toList.drop off) (ys.toList.drop off)=some b->
   ∀w,(Op.eqFields d xs ys fs).run P w=.ok b w
 | [],off,z,h,xs,ys,b,hx,hy,he,w=>by
  simp[eqFs] at h;subst h;have h1:xs.toList.drop off=[]:=by have:=u6 hx; exact List.eq_nil_of_length_eq_zero (by simpa using this)
  have h2:ys.toList.drop off=[]:=by have:=u6 hy; exact List.eq_nil_of_length_eq_zero (by simpa using this)
  rw[h1,h2] at he;simp[qn] at he;subst he;simp[Op.eqFields]
 | f::r,off,z,h,xs,ys,b,hx,hy,he,w=>by
  simp only[eqFs] at h;cases hb:Nat.beq f.offset off && !(f.name == "_") with
  | false=>simp[hb] at h
  | true =>
  simp only[hb,cond_true] at h;simp only[Bool.and_eq_true] at hb;split at h<;>try simp at h
  rename_i z1 hz1;split at h<;>try simp at h
  rename_i z2 hz2;cases hem:z1.isEmpty with
  | true=>simp[hem] at h
  | false =>
  simp[hem] at h;subst h;have hne:z1≠[]:=by intro e; simp[e] at hem
  obtain ⟨x1,x2⟩:=qc hx;obtain ⟨y1,y2⟩:=qc hy;obtain ⟨b1,b2,e1,e2,e3⟩:=Z4 (s:=z1.length) he;rw[List.drop_drop] at x2 y2 e2;rw[List.drop_drop] at e2;have lx:off+z1.length<=xs.size:=by have:=u6 hx; have hp:=List.length_pos_iff.2 hne; simp at this; omega
  have ly:off+z1.length<=ys.size:=by have:=u6 hy; have hp:=List.length_pos_iff.2 hne; simp at this; omega
  rw[hks] at hz1;have hname:f.name ≠ "_":=by simpa using hb.2
  have hoff:=xW hb.1;have ih2:=zdg hks ih hz2 xs ys b2 (by simpa [Nat.add_comm] using x2) (by simpa [Nat.add_comm] using y2) (by simpa [Nat.add_comm] using e2);simp only[Op.eqFields,hoff];rw[if_pos hname];simp only[Sem.run_bind,U1 hz1 lx hne,U1 hz1 ly hne,Result.andThen_ok,ih _ _ hz1 _ _ b1 x1 y1 e1];cases b1
  ·simp[e3]
  ·simp[e3,ih2]
end
end Go.VS
namespace Go.VS
open Go IntKind
section
variable {P:Program} {w:World}
theorem Sl {e:TypeId} {k:Nat} {z1:List Value} (hz1:Uj P k e=some z1) (hne:z1≠[]) {d:Nat}
  (ih:∀(xs ys:List Value) (b:Bool),vk z1 xs=true->vk z1 ys=true->qn xs ys=some b->∀w,(Op.equalIn d e (Xm P e xs) (Xm P e ys)).run P w=.ok b w) :
  ∀(n j:Nat) (xs ys:Array Value) (b:Bool),vk (SN z1 n) (xs.toList.drop (j*z1.length))=true->vk (SN z1 n) (ys.toList.drop (j*z1.length))=true->
   qn (xs.toList.drop (j*z1.length)) (ys.toList.drop (j*z1.length))=some b->∀w,(Op.eqItems d e z1.length xs ys (List.range' j n)).run P w=.ok b w
 | 0,j,xs,ys,b,hx,hy,he,w=>by
  have h1:xs.toList.drop (j*z1.length)=[]:=by have:=u6 hx; exact List.eq_nil_of_length_eq_zero (by simpa [SN] using this)
  have h2:ys.toList.drop (j*z1.length)=[]:=by have:=u6 hy; exact List.eq_nil_of_length_eq_zero (by simpa [SN] using this)
  rw[h1,h2] at he;simp[qn] at he;subst he;simp[Op.eqItems]
 | n+1,j,xs,ys,b,hx,hy,he,w=>by
  simp only[SN] at hx hy;obtain ⟨x1,x2⟩:=qc hx;obtain ⟨y1,y2⟩:=qc hy;obtain ⟨b1,b2,e1,e2,e3⟩:=Z4 (s:=z1.length) he;rw[List.drop_drop] at x2 y2 e2;rw[List.drop_drop] at e2;have hj:j*z1.length+z1.length=(j+1)*z1.length:=by rw[Nat.succ_mul]
  rw[hj] at x2 y2 e2;have hp:=List.length_pos_iff.2 hne;have lx:j*z1.length+z1.length<=xs.size:=by have:=u6 hx; simp at this; omega
  have ly:j*z1.length+z1.length<=ys.size:=by have:=u6 hy; simp at this; omega
  have ih2:=Sl hz1 hne ih n (j+1) xs ys b2 x2 y2 e2;rw[List.range'_succ];simp only[Op.eqItems,Sem.run_bind,U1 hz1 lx hne,U1 hz1 ly hne,Result.andThen_ok,ih _ _ b1 x1 y1 e1];cases b1
  ·simp[e3]
  ·simp[e3,ih2]
theorem eqKs_ok:∀(k:Nat) (t:TypeId) (z:List Value),Uj P k t=some z->∀(d:Nat),k<=d->∀(xs ys:List Value) (b:Bool),vk z xs=true->vk z ys=true->qn xs ys=some b->
  ∀w,(Op.equalIn d t (Xm P t xs) (Xm P t ys)).run P w=.ok b w:=by
 intro k;induction k with
 | zero=>intro t z h; simp[Uj] at h
 | succ k ih =>
  intro t z h d hd xs ys b hx hy he w;obtain ⟨d,rfl⟩:∃d',d=d'+1:=⟨d-1,by omega⟩;have hd':k<=d:=by omega
  simp only[Uj] at h;split at h<;>try simp at h
  ·rename_i i hu hi
   cases hb:Nat.beq i.size 1<;>simp[hb] at h
   subst h;obtain ⟨x,rfl⟩:=ZO hx;obtain ⟨y,rfl⟩:=ZO hy;rw[Rk hu rfl,Rk hu rfl];cases x<;>simp[vk] at hx
   cases y<;>simp[vk] at hy
   simp[qn] at he;rw[run_equalIn_bool' w d t _ _ hu,he]
  ·rename_i k' i hu hi
   cases hb:Nat.beq i.size 1<;>simp[hb] at h
   subst h;obtain ⟨x,rfl⟩:=ZO hx;obtain ⟨y,rfl⟩:=ZO hy;rw[Rk hu rfl,Rk hu rfl];cases x<;>simp[vk] at hx
   cases y<;>simp[vk] at hy
   subst hx;subst hy;simp[qn] at he;rw[run_equalIn_int w d t _ _ _ _ hu,he]
  ·rename_i i hu hi
   cases hb:Nat.beq i.size 1<;>simp[hb] at h
   subst h;obtain ⟨x,rfl⟩:=ZO hx;obtain ⟨y,rfl⟩:=ZO hy;rw[Rk hu rfl,Rk hu rfl];cases x<;>simp[vk] at hx
   cases y<;>simp[vk] at hy
   simp[qn] at he;rw[run_equalIn_string w d t _ _ hu,<-beq_toListBytes,he]
  ·rename_i fs i hu hi
   cases hs:P.stoodInHeld t<;>simp[hs] at h
   split at h<;>try simp at h
   rename_i m hm;cases hb:Nat.beq i.size m.length<;>simp[hb] at h
   subst h;have hf:P.fieldsOf t=fs:=by simp[Program.fieldsOf,hu]
   rw[Rl hu rfl,Rl hu rfl,run_equalIn_struct w d t _ _ (by rw[hf]; exact hu) hs,hf];exact zdg rfl (fun t z hz xs ys b h1 h2 h3 w=>ih t z hz d hd' xs ys b h1 h2 h3 w) hm xs.toArray ys.toArray b (by simpa using hx) (by simpa using hy) (by simpa using he) w
  ·rename_i m e i hu hi
   split at h<;>try simp at h
   rename_i s hs;cases hb:Nat.beq i.size (SN s m).length&&Nat.beq (P.cellsOf e) s.length&&!s.isEmpty with
   | false=>rw[hb] at h; simp at h
   | true =>
   rw[hb] at h;simp at h;subst h;simp only[Bool.and_eq_true] at hb;have hne:s≠[]:=by intro e; rw[e] at hb; simp at hb
   obtain ⟨ie,de,hie,_,_⟩:=RM hs;rw[Rl hu rfl,Rl hu rfl,run_equalIn_array w d _ _ hu hie,xW hb.1.2,List.range_eq_range'];exact Sl hs hne (fun xs ys b h1 h2 h3 w=>ih e s hs d hd' xs ys b h1 h2 h3 w) m 0 xs.toArray ys.toArray b (by simpa using hx) (by simpa using hy) (by simpa using he) w
end
end Go.VS
namespace Go.VS
open Go IntKind
section
variable {P:Program}
def zeX:Value->Value->Bool
 | .int k a,.int k' b=>decide (k=k')&&decide (a=b)
 | .bool a,.bool b=>a==b
 | .string a,.string b=>a.size==0&&b.size==0
 | .slice none 0 0,.slice none 0 0=>true
 | .nilFunc,.nilFunc=>true
 | .nilIface,.nilIface=>true
 | .pointer none,.pointer none=>true
 | .map none,.map none=>true
 | _,_=>false
theorem zeW:∀{v u:Value},zeX v u=true->v=u/\scalar v=true:=by
 intro v u h;unfold zeX at h;split at h<;>try simp at h
 ·obtain ⟨rfl,rfl⟩:=h; exact ⟨rfl,rfl⟩
 ·subst h; exact ⟨rfl,rfl⟩
 ·rw[h.1,h.2]; exact ⟨rfl,rfl⟩
 ·exact ⟨rfl,rfl⟩
 ·exact ⟨rfl,rfl⟩
 ·exact ⟨rfl,rfl⟩
 ·exact ⟨rfl,rfl⟩
 ·exact ⟨rfl,rfl⟩
def Ym:List Value->List Value->Bool
 | [],[]=>true
 | a::r,b::s=>zeX a b&&Ym r s
 | _,_=>false
theorem ZJ:∀{l k:List Value},Ym l k=true->l=k/\∀v∈l,scalar v=true
 | [],[],_=>⟨rfl,by simp⟩
 | [],_::_,h=>by simp[Ym] at h
 | _::_,[],h=>by simp[Ym] at h
 | a::r,b::s,h=>by
  simp only[Ym,Bool.and_eq_true] at h;obtain ⟨e1,e2⟩:=zeW h.1;obtain ⟨e3,e4⟩:=ZJ h.2;subst e1;subst e3;exact ⟨rfl,fun v hv=>by rcases List.mem_cons.1 hv with rfl | hv; (·exact e2); (·exact e4 v hv)⟩
end
end Go.VS
namespace Go.VS
open Go IntKind
section
variable {P:Program}
def qs:Ty->Option (List Value)
 | .int k=>some [.int k 0]
 | .bool=>some [.bool false]
 | .str=>some [.string ⟨#[]⟩]
 | .fn=>some [.nilFunc]
 | .sl _ | .bsl _=>some [.slice none 0 0]
 | .pt _=>none
 | .bnd _=>some [.nilFunc]
 | .tr _=>some [.pointer none]
 | .unit=>some []
 | .pair a b=>match qs a,qs b with
  | some x,some y=>some (x++y)
  | _,_=>none
theorem VI:∀{t:Ty} {l:List Value},qs t=some l->∀(w:World) (ok okb:Nat->Prop),RT w ok okb t t.dflt l
 | .int k,l,h,w,ok,okb=>by simp[qs] at h; subst h; rfl
 | .bool,l,h,w,ok,okb=>by simp[qs] at h; subst h; rfl
 | .str,l,h,w,ok,okb=>by simp[qs] at h; subst h; rfl
 | .fn,l,h,w,ok,okb=>by simp[qs] at h; subst h; rfl
 | .sl t,l,h,w,ok,okb=>by simp[qs] at h; subst h; exact ⟨_,rfl,none,0,rfl,Nat.le_refl _,fun h=>absurd rfl h⟩
 | .bsl t,l,h,w,ok,okb=>by simp[qs] at h; subst h; exact ⟨_,rfl,none,0,rfl,Nat.le_refl _,fun h=>absurd rfl h⟩
 | .pt t,l,h,w,ok,okb=>by simp[qs] at h
 | .bnd t,l,h,w,ok,okb=>by simp[qs] at h; subst h; exact .inl ⟨rfl,rfl⟩
 | .tr t,l,h,w,ok,okb=>by simp[qs] at h; subst h; exact ⟨_,rfl,.nil⟩
 | .unit,l,h,w,ok,okb=>by simp[qs] at h; subst h; rfl
 | .pair a b,l,h,w,ok,okb=>by
  simp only[qs] at h;split at h<;>simp at h;rename_i x y hx hy;subst h;exact ⟨_,_,rfl,VI hx w ok okb,VI hy w ok okb⟩
def qm (P:Program):List Field->List (Nat×Nat×Bool)->Bool
 | [],[]=>true
 | f::r,(off,sz,ag)::q=>Nat.beq f.offset off&&(match P.info? f.type,P.underlying f.type with
  | some i,some d=>Nat.beq i.size sz&&Nat.blt 0 sz&&(X8 d==ag)
  | _,_=>false)&&qm P r q
 | _,_=>false
theorem Vi:∀{l:List Field} {q:List (Nat×Nat×Bool)},qm P l q=true->q.length=l.length
 | [],[],_=>rfl
 | [],_::_,h=>by simp[qm] at h
 | _::_,[],h=>by simp[qm] at h
 | _::_,(_,_,_)::_,h=>by
  simp only[qm,Bool.and_eq_true] at h;simp[Vi h.2]
theorem UE:∀{l:List Field} {q:List (Nat×Nat×Bool)},qm P l q=true->∀(j off sz:Nat) (ag:Bool),q[j]?=some (off,sz,ag)->
  ∃f i d,l[j]?=some f/\f.offset=off/\P.info? f.type=some i/\i.size=sz/\0<sz/\P.underlying f.type=some d/\X8 d=ag
 | [],[],_,_,_,_,_,h=>by simp at h
 | [],_::_,h,_,_,_,_,_=>by simp[qm] at h
 | _::_,[],h,_,_,_,_,_=>by simp[qm] at h
 | f::l,(o,s,a)::q,h,j,off,sz,ag,e=>by
  simp only[qm,Bool.and_eq_true] at h;obtain ⟨⟨h1,h2⟩,h3⟩:=h;cases j with
  | zero =>
   simp at e;obtain ⟨rfl,rfl,rfl⟩:=e;split at h2<;>try simp at h2
   rename_i i d hi hd;exact ⟨f,i,d,by simp,xW h1,hi,h2.1.1,h2.1.2,hd,h2.2⟩
  | succ j=>simpa using UE h3 j off sz ag (by simpa using e)
def okFs (P:Program) (d:TypeDesc) (ts:TS):Bool:=match d with
 | .struct fs=>qm P fs.toList ts.fields&&ts.agg
 | _=>ts.fields.isEmpty&&(!ts.agg||ts.arr.isSome||ts.alen.isSome)
def okSc (d:TypeDesc) (ts:TS):Bool:=match ts.agg,ts.zs with
 | false,[.int k _]=>(match d with | .int k'=>decide (k=k') | _=>false)
 | false,[.bool _]=>(match d with | .bool=>true | _=>false)
 | _,_=>true
def okStr (d:TypeDesc) (ts:TS):Bool:=bif ts.str then (match d with | .string=>true | _=>false) else true
def okPtr (d:TypeDesc) (ts:TS):Bool:=bif ts.ptr then (match d with | .pointer _=>true | _=>false) else true
def okEl (P:Program) (d:TypeDesc):Option Ty->Bool
 | none=>true
 | some e=>match d with
  | .slice et=>(match P.info? et,qs e with
   | some i,some zs=>Nat.beq i.size e.size&&Nat.blt 0 e.size&&Nat.ble i.bytes 128&&(match i.zero with | some z=>Ym z.cells.toList zs | none=>false)
   | _,_=>false)
  | _=>false
def okArr (P:Program) (d:TypeDesc) (ts:TS):Bool:=match ts.arr with
 | none=>true
 | some (k,n)=>ts.agg&&Ym ts.zs (List.replicate n (.int k 0))&&(match d with
  | .array m et=>Nat.beq m n&&(match P.info? et,P.underlying et with
   | some i,some (.int k')=>Nat.beq i.size 1&&decide (k'=k)
   | _,_=>false)
  | _=>false)
def zfn (P:Program) (d:TypeDesc) (ts:TS):Bool:=match ts.alen with
 | none=>true
 | some (n,sz)=>(match d with
  | .array m et=>Nat.beq m n&&(match P.info? et with
   | some i=>Nat.beq i.size sz
   | _=>false)
  | _=>false)
def okEq (P:Program) (t:Nat) (ts:TS):Bool:=bif ts.eqOK then ts.agg&&!(P.eqGuardType P.depth t)&&(match Uj P 8 t with | some z=>Ym z ts.zs | none=>false) else true
def okZ (i:TypeInfo) (ts:TS):Bool:=match i.zero with
 | some (.agg zc)=>ts.agg&&Ym zc.toList ts.zs
 | some z=>!ts.agg&&Ym [z] ts.zs
 | none=>false
def okTS (P:Program) (t:Nat) (ts:TS):Bool:=match P.info? t,P.underlying t with
 | some i,some d=>Nat.beq i.size ts.zs.length&&(X8 d==ts.agg)&&okZ i ts&&okFs P d ts&&okSc d ts&&okStr d ts&&okPtr d ts&&okEl P d ts.el&&okArr P d ts&&zfn P d ts&&okEq P t ts
 | _,_=>false
theorem zbQ {i:TypeInfo} {ts:TS} (h:okZ i ts=true):(ts.agg=true/\∃zc,i.zero=some (.agg zc)/\zc.toList=ts.zs/\∀v∈ts.zs,scalar v=true) \/
  (ts.agg=false/\∃z,i.zero=some z/\ts.zs=[z]/\scalar z=true):=by
 unfold okZ at h;split at h
 ·rename_i zc hz
  simp only[Bool.and_eq_true] at h;obtain ⟨e1,e2⟩:=ZJ h.2;exact .inl ⟨h.1,zc,hz,e1,by rw[<-e1]; exact e2⟩
 ·rename_i z _ hz
  simp only[Bool.and_eq_true,Bool.not_eq_true'] at h;obtain ⟨e1,e2⟩:=ZJ h.2;exact .inr ⟨h.1,z,hz,e1.symm,e2 z (by simp)⟩
 ·simp at h
theorem okTS_ok {t:Nat} {ts:TS} (h:okTS P t ts=true):qp P t ts:=by
 unfold okTS at h;split at h<;>try simp at h
 rename_i i d hi hd;simp only[and_assoc] at h;obtain ⟨hs,ha,hz,hf,hsc,hstr,hptr,hel,harr,halen,heq⟩:=h;have hs:i.size=ts.zs.length:=by simpa using hs
 refine ⟨fun _=>⟨i,d,hi,hs,hd,ha⟩,?_,?_,?_,?_,?_,?_,?_,?_,?_,?_,?_,?_,?_⟩
 ·intro hag _
  rcases zbQ hz with ⟨h,_⟩ | ⟨_,z,_,h,_⟩
  ·rw[h] at hag; simp at hag
  ·exact ⟨z,h⟩
 ·intro z hzs hag
  rcases zbQ hz with ⟨h,_⟩ | ⟨h0,z',h1,h2,h3⟩
  ·rw[h] at hag; simp at hag
  ·rw[hzs] at h2
   simp at h2;subst h2;exact ⟨i,d,hi,h1,by rw[hs,hzs]; rfl,hd,by rw[ha,hag],h3⟩
 ·intro hag
  rcases zbQ hz with ⟨h,zc,h1,h2,h3⟩ | ⟨h,_⟩
  ·exact ⟨i,d,zc,hi,h1,h2,hs,hd,by rw[ha,hag],h3⟩
  ·rw[h] at hag; simp at hag
 ·intro j off sz ag e
  unfold okFs at hf;split at hf
  ·rename_i fs
   simp only[Bool.and_eq_true] at hf;obtain ⟨f,i',d',h1,h2,h3,h4,h5,h6,h7⟩:=UE hf.1 j off sz ag e;exact ⟨hf.2,fs,f,i',d',hd,by simpa using h1,h2,h3,h4,h5,h6,h7⟩
  ·simp only[Bool.and_eq_true,List.isEmpty_iff] at hf
   rw[hf.1] at e;simp at e
 ·intro hag h1 h2
  unfold okFs at hf;split at hf
  ·rename_i fs
   simp only[Bool.and_eq_true] at hf;refine ⟨fs,hd,fun j f e=>?_⟩;have hl:=Vi hf.1;have hj:j<ts.fields.length:=by rw[hl]; have:=(Array.getElem?_eq_some_iff.1 e).1; simpa using this
   exact ⟨_,_,_,List.getElem?_eq_getElem hj⟩
  ·simp[hag,h1,h2] at hf
 ·intro k n hzs hag
  unfold okSc at hsc;rw[hag,hzs] at hsc;simp at hsc;split at hsc<;>simp at hsc;rw[hd,hsc]
 ·intro b hzs hag
  unfold okSc at hsc;rw[hag,hzs] at hsc;simp at hsc;split at hsc<;>simp at hsc;exact hd
 ·intro hst
  unfold okStr at hstr;rw[hst] at hstr;simp at hstr;split at hstr<;>simp at hstr;exact hd
 ·intro hst
  unfold okPtr at hptr;rw[hst] at hptr;simp at hptr;split at hptr<;>simp at hptr;exact ⟨_,hd⟩
 ·intro e he
  unfold okEl at hel;rw[he] at hel;simp only at hel;split at hel<;>try simp at hel
  rename_i et;split at hel<;>try simp at hel
  rename_i i' zs hi' hzs;simp only[and_assoc] at hel;obtain ⟨h1,h2,h3,h4⟩:=hel;split at h4<;>try simp at h4
  rename_i z hz';obtain ⟨e1,e2⟩:=ZJ h4;have hR:∀w ok okb,RT w ok okb e e.dflt z.cells.toList:=fun w ok okb=>by rw[e1]; exact VI hzs w ok okb
  exact ⟨et,i',z,hd,hi',hz',by have:=(hR default (fun _=>True) (fun _=>True)).len; simpa using this,h1,h2,h3,hR⟩
 ·intro k n he
  unfold okArr at harr;rw[he] at harr;simp only at harr;simp only[Bool.and_eq_true] at harr;obtain ⟨⟨h1,h2⟩,h3⟩:=harr;refine ⟨h1,(ZJ h2).1,?_⟩;split at h3<;>try simp at h3
  rename_i m et;obtain ⟨h4,h3⟩:=h3;split at h3<;>try simp at h3
  rename_i i' k' hi' hk';subst h4;exact ⟨et,i',hd,hi',h3.1,by rw[hk',h3.2]⟩
 ·intro n sz he
  unfold zfn at halen;rw[he] at halen;simp only at halen;split at halen<;>try simp at halen
  rename_i m et;obtain ⟨h4,h3⟩:=halen;split at h3<;>try simp at h3
  rename_i i' hi';subst h4;exact ⟨et,i',hd,hi',h3⟩
 ·intro he xs ys b hx hy hv x y w
  unfold okEq at heq;rw[he] at heq;simp only[cond_true,Bool.and_eq_true,Bool.not_eq_true'] at heq;obtain ⟨⟨h1,h2⟩,h3⟩:=heq;split at h3<;>try simp at h3
  rename_i z hz';obtain ⟨e1,_⟩:=ZJ h3;subst e1;have hk:=eqKs_ok 8 t _ hz' Op.maxDepth (Nat.le_of_ble_eq_true rfl) xs.toList ys.toList b hx hy hv w;rw[Rl hd (by rw[ha,h1]),Rl hd (by rw[ha,h1])] at hk;simp only[Array.toArray_toList] at hk;constructor
  ·simp[eqGuard,Go.binOp,Op.equal,hk,h2]
  ·simp[eqGuard,Go.binOp,Op.equal,hk,h2]
theorem zev (P:Program) (t:Nat):qp P t {}:=by
 refine ⟨?_,?_,?_,?_,?_,?_,?_,?_,?_,?_,?_,?_,?_,?_⟩<;>simp
def zbR (P:Program):List (Nat×TS)->Bool
 | []=>true
 | (t,ts)::r=>okTS P t ts&&zbR P r
theorem Rh:∀{rows:List (Nat×TS)},zbR P rows=true->∀t,qp P t (lk {} t rows)
 | [],_,t=>zev P t
 | (k,ts)::r,h,t=>by
  simp only[zbR,Bool.and_eq_true] at h;simp only[lk];cases hb:Nat.beq t k with
  | false=>exact Rh h.2 t
  | true=>rw[xW hb]; exact okTS_ok h.1
end
end Go.VS
namespace Go.VS
open Go IntKind
section
variable {P:Program}
mutual
def YZ (P:Program):Nat->TypeId->Ty->Bool
 | 0,_,_=>false
 | n+1,t,c=>match P.underlying t with
  | some (.int k)=>(match c with | .int k'=>decide (k'=k) | _=>false)
  | some .bool=>(match c with | .bool=>true | _=>false)
  | some .string=>(match c with | .str=>true | _=>false)
  | some (.slice e)=>(match c with
   | .sl c'=>YZ P n e c'&&Nat.beq (P.cellsOf e) c'.size&&Nat.blt 0 c'.size
   | .bsl c'=>YZ P n e c'&&Nat.beq (P.cellsOf e) c'.size&&Nat.blt 0 c'.size
   | _=>false)
  | some (.struct fs)=>Nat.beq (P.cellsOf t) c.size&&zaA P n 0 fs.toList c
  | _=>false
def zaA (P:Program):Nat->Nat->List Field->Ty->Bool
 | 0,_,_,_=>false
 | n+1,off,[f],c=>Nat.beq f.offset off&&Nat.beq (P.cellsOf f.type) c.size&&YZ P n f.type c
 | n+1,off,f::r,.pair a b=>Nat.beq f.offset off&&Nat.beq (P.cellsOf f.type) a.size&&YZ P n f.type a&&zaA P n (off+a.size) r b
 | _,_,_,_=>false
end
def wfT:(t:Ty)->t.T->Prop
 | .int k,x=>k.min<=x/\x<=k.max
 | .str,s=>s.size<=maxLen
 | .sl t,l=>l.length<=maxLen/\∀y∈l,wfT t y
 | .bsl t,l=>l.length<=maxLen/\∀y∈l,wfT t y
 | .pair a b,x=>wfT a x.1/\wfT b x.2
 | _,_=>True
def ZC:(t:Ty)->t.T->Nat
 | .str,s=>s.size+1
 | .sl t,l=>(l.map (ZC t)).sum+1
 | .bsl t,l=>(l.map (ZC t)).sum+1
 | .pair a b,x=>ZC a x.1+ZC b x.2
 | .unit,_=>0
 | _,_=>1
structure Wb {H:Type} (B:DataW H->Nat) (BA:List (DataW H)->Nat):Prop where
 lit:∀bytes,bytes.length+1<=B (.lit (.string bytes))
 one:∀d,1<=B d
 slice:∀es sp,BA es+1<=B (.slice es sp)
 agg:∀ps,BA ps<=B (.agg ps)
 cons:∀d r,B d+BA r<=BA (d::r)
variable {H:Type} {enc:TypeId×Value->H} {w:World} {base:Nat} {spare:Nat->Bool} {held:Bool} {B:DataW H->Nat} {BA:List (DataW H)->Nat}
theorem zgr {a:Addr} {n:Nat} {cs:List Value} (h:w.cells? base a n=some cs) (hn:0<n):a.spot=none/\a.block<w.heap.size/\cs.length=n/\wQ w a.block a.off cs:=by
 obtain ⟨_,hl,hc⟩:=World.cells?_some h;have hb:=World.cells?_block h hn;have hs:a.spot=none:=by
  have h0:=hc 0 hn;have:cs[0]?=some cs[0]:=List.getElem?_eq_getElem (by omega);rw[this] at h0;simp only[Addr.add,if_true] at h0;unfold World.cell? at h0;split at h0<;>try simp at h0
  exact h0.1
 refine ⟨hs,hb,hl,?_⟩;have key:∀(l:List Value) (k:Nat),(∀i,i<l.length->w.cell? ⟨a.block,a.off+k+i,none⟩=l[i]?)->wQ w a.block (a.off+k) l:=by
  intro l;induction l with
  | nil=>intro k _; trivial
  | cons v r ih =>
   intro k hk;refine ⟨by simpa using hk 0 (by simp),?_⟩;have:=ih (k+1) (fun i hi=>by have:=hk (i+1) (by simp; omega); simpa [Nat.add_assoc,Nat.add_comm 1] using this);simpa [Nat.add_assoc] using this
 have:=key cs 0 (fun i hi=>by
  have:=hc i (by omega);rw[<-this];simp only[Addr.add];split
  ·rename_i h0; subst h0; obtain ⟨b,o,s⟩:=a; simp at hs; subst hs; simp
  ·simp)
 simpa using this
theorem zd1 {α:Type} {p:Nat->α->Prop}:∀(n:Nat),(∀i,i<n->∃y,p i y)->∃l:List α,l.length=n/\∀i (h:i<l.length),p i l[i]
 | 0,_=>⟨[],rfl,fun i h=>by simp at h⟩
 | n+1,h=>by
  obtain ⟨l,hl,hp⟩:=zd1 n (fun i hi=>h i (by omega));obtain ⟨y,hy⟩:=h n (by omega);refine ⟨l++[y],by simp[hl],fun i hi=>?_⟩;by_cases e:i<l.length
  ·rw[List.getElem_append_left e]; exact hp i e
  ·have:i=n:=by simp at hi; omega
   subst this;rw[List.getElem_append_right (by omega)];simpa [hl] using hy
theorem zbk (hB:Wb B BA) {α:Type} {f:α->Nat}:∀{l:List α} {m:List (DataW H)},l.length=m.length->(∀i (h:i<l.length) (h':i<m.length),f l[i]<=B m[i])->(l.map f).sum<=BA m
 | [],[],_,_=>by simp
 | [],_::_,h,_=>by simp at h
 | _::_,[],h,_=>by simp at h
 | a::l,d::m,h,hi=>by
  have h0:=hi 0 (by simp) (by simp);have:=zbk hB (l:=l) (m:=m) (by simpa using h) (fun i h1 h2=>hi (i+1) (by simpa using h1) (by simpa using h2));have hc:=hB.cons d m;simp at h0 ⊢;omega
theorem Qt (hB:Wb B BA) {ok okb:Nat->Prop} (hok:∀b,b<w.heap.size->ok b) (hokb:∀b,b<w.heap.size->okb b):∀(n:Nat),
  (∀(t:TypeId) (c:Ty),YZ P n t c=true->∀(fuel:Nat) (cs:List Value) (x:DataW H×List MemPlace),DataW.trod enc P w base spare held fuel t cs=some x->
   ∃y:c.T,RT w ok okb c y cs/\wfT c y/\ZC c y<=B x.1) /\
  (∀(off:Nat) (fs:List Field) (c:Ty),zaA P n off fs c=true->∀(fuel:Nat) (cs:List Value) (xs:List (DataW H×List MemPlace)),cs.length=off+c.size->xs.length=fs.length->
   (∀(i:Nat) (f:Field),fs[i]?=some f->DataW.trod enc P w base spare held fuel f.type ((cs.drop f.offset).take (P.cellsOf f.type))=xs[i]?)->
   ∃y:c.T,RT w ok okb c y (cs.drop off)/\wfT c y/\ZC c y<=BA (xs.map (·.1))):=by
 intro n;induction n with
 | zero=>exact ⟨fun t c h=>by simp[YZ] at h,fun off fs c h=>by simp[zaA] at h⟩
 | succ n ih =>
  obtain ⟨ih1,ih2⟩:=ih;constructor
  ·intro t c hc fuel cs x hx
   simp only[YZ] at hc;split at hc
   ·rename_i k hu
    split at hc<;>simp at hc;subst hc;obtain ⟨m,rfl,rfl,hw⟩:=DataW.trod_int hu hx;simp only[Lit.wf,Bool.and_eq_true,decide_eq_true_eq] at hw;exact ⟨m,rfl,hw,by simp only[ZC]; exact hB.one _⟩
   ·rename_i hu
    split at hc<;>simp at hc;obtain ⟨m,rfl,rfl⟩:=DataW.trod_bool hu hx;exact ⟨m,rfl,trivial,by simp only[ZC]; exact hB.one _⟩
   ·rename_i hu
    split at hc<;>simp at hc;obtain ⟨m,rfl,rfl,hw⟩:=DataW.trod_string hu hx;exact ⟨m,rfl,hw,by simp only[ZC]; have:=hB.lit m.data.toList; simpa using this⟩
   ·rename_i e hu
    have main:∀(c':Ty) (good:Nat->Prop),(∀b,b<w.heap.size->good b)->YZ P n e c'=true->P.cellsOf e=c'.size->0<c'.size->
      ∃l:List c'.T,(∃v,cs=[v]/\SlR w good c'.size (RT w ok okb c') l v)/\(l.length<=maxLen/\∀y∈l,wfT c' y)/\(l.map (ZC c')).sum+1<=B x.1:=by
     intro c' good hg h1 h2 h3;rcases DataW.trod_slice hu hx with ⟨rfl,rfl⟩ | ⟨a,len,cap,YK,rest,m,_,rfl,rfl,hb,hl,hm,hlen,hel,_⟩
     ·exact ⟨[],⟨_,rfl,none,0,rfl,Nat.le_refl _,fun h=>absurd rfl h⟩,⟨by simp,by simp⟩,by simpa using hB.one _⟩
     ·have each:∀i,i<len->∃y:c'.T,(∃us,us.length=c'.size/\(a.add (i*c'.size)).spot=none/\a.block<w.heap.size/\wQ w a.block (a.add (i*c'.size)).off us/\RT w ok okb c' y us) /\
        wfT c' y/\∀(h:i<YK.length),ZC c' y<=B (YK[i]).1:=by
       intro i hi;have:=hel i hi;rw[h2,List.getElem?_eq_getElem (by omega),Option.bind_eq_some_iff] at this;obtain ⟨us,hus,ht⟩:=this;obtain ⟨c1,c2,c3,c4⟩:=zgr hus h3;obtain ⟨y,r1,r2,r3⟩:=ih1 e c' h1 m us _ ht;have hab:(a.add (i*c'.size)).block=a.block:=by simp only[Addr.add]; split<;>rfl
       rw[hab] at c2 c4;exact ⟨y,⟨us,c3,c1,c2,c4,r1⟩,r2,fun _=>r3⟩
      obtain ⟨l,hll,hp⟩:=zd1 len each;refine ⟨l,⟨_,rfl,some a,cap,by rw[hll],by omega,fun hne=>?_⟩,⟨by omega,fun y hy=>?_⟩,?_⟩
      ·have h0:0<l.length:=List.length_pos_iff.2 hne
       obtain ⟨⟨us,_,hs,hblk,_⟩,_⟩:=hp 0 h0;have hs':a.spot=none:=by simpa [Addr.add] using hs
       refine ⟨a.block,a.off,by obtain ⟨b,o,s⟩:=a; simp at hs'; subst hs'; rfl,hg _ hblk,fun i hi=>?_⟩;obtain ⟨⟨us,e1,_,_,e2,e3⟩,_⟩:=hp i hi;have ho:(a.add (i*c'.size)).off=a.off+i*c'.size:=by simp only[Addr.add]; split<;>simp_all
       rw[ho] at e2;exact ⟨us,e1,e2,e3⟩
      ·obtain ⟨i,hi,rfl⟩:=List.getElem_of_mem hy
       exact (hp i hi).2.1
      ·have hs:=hB.slice (YK.map (·.1)) (rest.map (·.1))
       have:=zbk hB (f:=ZC c') (l:=l) (m:=YK.map (·.1)) (by simp; omega) (fun i h1 h2=>by
        simp only[List.getElem_map];exact (hp i h1).2.2 (by simpa using h2))
       simp only at hs ⊢;omega
    split at hc
    ·rename_i c'
     simp only[Bool.and_eq_true] at hc;obtain ⟨l,h1,h2,h3⟩:=main c' ok hok hc.1.1 (xW hc.1.2) (by have:=hc.2; simpa using this);exact ⟨l,h1,h2,h3⟩
    ·rename_i c'
     simp only[Bool.and_eq_true] at hc;obtain ⟨l,h1,h2,h3⟩:=main c' okb hokb hc.1.1 (xW hc.1.2) (by have:=hc.2; simpa using this);exact ⟨l,h1,h2,h3⟩
    ·simp at hc
   ·rename_i fs hu
    simp only[Bool.and_eq_true] at hc;obtain ⟨xs,m,_,rfl,hl,hlen,hf⟩:=DataW.trod_struct hu hx;obtain ⟨y,r1,r2,r3⟩:=ih2 0 fs.toList c hc.2 m cs xs (by rw[hl,xW hc.1]; simp) (by simpa using hlen) (fun i f hif=>hf i f (by simpa using hif));exact ⟨y,by simpa using r1,r2,Nat.le_trans r3 (hB.agg _)⟩
   ·simp at hc
  ·intro off fs c hc fuel cs xs hl hxl hf
   unfold zaA at hc;split at hc
   ·simp_all
   ·rename_i f e1
    cases e1
    simp only[Bool.and_eq_true] at hc;obtain ⟨⟨h1,h2⟩,h3⟩:=hc;have h0:=hf 0 f rfl;match xs,hxl with
    | [x],_ =>
     rw[xW h1,xW h2,List.take_of_length_le (by simp; omega)] at h0;obtain ⟨y,r1,r2,r3⟩:=ih1 f.type _ h3 fuel _ x h0;refine ⟨y,r1,r2,Nat.le_trans r3 ?_⟩;have:=hB.cons x.1 [];simp;omega
   ·rename_i f r a b _ e1
    cases e1
    simp only[Bool.and_eq_true] at hc;obtain ⟨⟨⟨h1,h2⟩,h3⟩,h4⟩:=hc;have h0:=hf 0 f rfl;match xs,hxl with
    | x::xs,hxl =>
     rw[xW h1,xW h2] at h0;obtain ⟨y,r1,r2,r3⟩:=ih1 f.type a h3 fuel _ x h0;obtain ⟨z,s1,s2,s3⟩:=ih2 _ r b h4 fuel cs xs (by rw[hl]; simp[Ty.size]; omega) (by simpa using hxl) (fun i g hg=>by simpa using hf (i+1) g (by simpa using hg));refine ⟨(y,z),⟨_,_,?_,r1,s1⟩,⟨r2,s2⟩,?_⟩
     ·rw[<-List.drop_drop,List.take_append_drop]
     ·have:=hB.cons x.1 (xs.map (·.1))
      simp[ZC];omega
   ·simp at hc
end
end Go.VS
namespace Go.VS
open Go Go.ChangeShapes Go.RowKit
section
variable {P:Program} {H:Type} {enc:TypeId×Value->H} {w:World} {base:Nat} {spare:Nat->Bool} {held:Bool} {B:DataW H->Nat} {BA:List (DataW H)->Nat}
def Rv (P:Program) (t:TypeId):Bool:=match P.underlying t with
 | some (.struct _)=>true
 | _=>false
def okArg (P:Program) (n:Nat) (t:TypeId):AT->Bool
 | .d (.c c)=>YZ P n t c&&!Rv P t
 | .d (.b e)=>YZ P n t (.bsl e)&&!Rv P t
 | .d (.g c)=>YZ P n t c&&Rv P t
 | _=>false
def V0 (P:Program) (n:Nat):List TypeId->List AT->Bool
 | [],[]=>true
 | t::ts,a::as=>okArg P n t a&&V0 P n ts as
 | _,_=>false
def wfK:(k:KS)->k.T->Prop
 | .c t,x=>wfT t x
 | .b t,x=>wfT (.bsl t) x
 | .g t,x=>wfT t x
 | _,_=>True
def zdp:(k:KS)->k.T->Nat
 | .c t,x=>ZC t x
 | .b t,x=>ZC (.bsl t) x
 | .g t,x=>ZC t x
 | _,_=>0
def wfA:(as:List AT)->TA as->Prop
 | [],_=>True
 | .d k::r,x=>wfK k x.1/\wfA r x.2
 | .io _ _::r,x=>wfA r x.2
 | .ios _::r,x=>wfA r x.2
def UP:(as:List AT)->TA as->Nat
 | [],_=>0
 | .d k::r,x=>zdp k x.1+UP r x.2
 | .io _ _::r,x=>UP r x.2
 | .ios _::r,x=>UP r x.2
theorem Rg {n:Nat} {t:TypeId} {c:Ty} (h:YZ P n t c=true):∃d,P.underlying t=some d/\(∀m e,d≠.array m e)/\(Rv P t=false->∀fs,d≠.struct fs):=by
 cases n with
 | zero=>simp[YZ] at h
 | succ n =>
  simp only[YZ] at h;split at h<;>first | (simp at h; done) | skip
  all_goals (rename_i hu; refine ⟨_,hu,by simp,fun hs fs e=>?_⟩; simp[Rv,hu] at hs; try simp at e)
theorem zfr {t:TypeId} {v:Value} {d:TypeDesc} (hu:P.underlying t=some d) (ha:∀m e,d≠.array m e) (hs:∀fs,d≠.struct fs) {r:Reach} (h:Value.okWide P w r base t v):∀cs,v≠.agg cs:=by
 rintro cs rfl
 unfold Value.okWide at h;rw[hu] at h;cases d<;>first | exact absurd rfl (hs _) | exact absurd rfl (ha _ _) | (simp[Cell.okWide,Cell.ok,hu] at h)
theorem RX {v:Value} (h:∀cs,v≠.agg cs):v.cells.toList=[v]:=by
 cases v<;>first | rfl | exact absurd rfl (h _)
def noX:Nat->Prop:=fun _=>False
theorem RY (hB:Wb B BA):∀{ts:List TypeId} {as:List AT} {n i k:Nat} {vs:List Value} {ds:List (DataW H)} {ps:List MemPlace},
  V0 P n ts as=true->DataW.TrodAll enc P w base spare held ts vs ds ps->(∀(j:Nat) t v,ts[j]?=some t->vs[j]?=some v->Value.okWide P w .any base t v)->
  ∃x:TA as,YQ w (qIn w noX noX Zj) i k as x vs/\wfA as x/\UP as x<=BA ds
 | [],[],n,i,k,vs,ds,ps,_,h,_=>by
  obtain ⟨rfl,rfl,rfl⟩:=trodAll_nil h;exact ⟨(),⟨fun j _=>rfl,fun p hh hp=>by simp[qIn,Zj] at hp⟩,trivial,Nat.zero_le _⟩
 | [],_::_,_,_,_,_,_,_,h,_,_=>by simp[V0] at h
 | _::_,[],_,_,_,_,_,_,h,_,_=>by simp[V0] at h
 | t::ts,a::as,n,i,k,vs,ds,ps,hk,h,hv=>by
  simp only[V0,Bool.and_eq_true] at hk;obtain ⟨v,vs',d,ds',p,q,rfl,rfl,rfl,⟨fuel,h1⟩,h2⟩:=trodAll_cons h;obtain ⟨xr,r1,r2,r3⟩:=RY hB (n:=n) (i:=i+1) (k:=k) hk.2 h2 (fun j t v ht hv'=>hv (j+1) t v (by simpa using ht) (by simpa using hv'));have hv0:=hv 0 t v rfl rfl;have hc:=hB.cons d ds';have hok:∀b,b<w.heap.size->(qIn w noX noX Zj).ok b:=fun b hb=>⟨hb,id,id,zaD b⟩
  have hokb:∀b,b<w.heap.size->(qIn w noX noX Zj).okb b:=fun b hb=>⟨hb,id,zaD b⟩
  have hno:OwnsR w (qIn w noX noX Zj) k ([]:List vG):=fun j o ho=>by simp at ho
  have ha:=hk.1;unfold okArg at ha;split at ha
  ·rename_i c
   simp only[Bool.and_eq_true,Bool.not_eq_true'] at ha;obtain ⟨dd,hu,g1,g2⟩:=Rg ha.1;have hna:=RX (zfr hu g1 (g2 ha.2) hv0);rw[hna] at h1;obtain ⟨y,s1,s2,s3⟩:=(Qt hB hok hokb n).1 t c ha.1 fuel _ _ h1;exact ⟨(y,xr),⟨rfl,zcf s1,hno,r1⟩,⟨s2,r2⟩,by simp only[UP,zdp]; simp only at s3; omega⟩
  ·rename_i e
   simp only[Bool.and_eq_true,Bool.not_eq_true'] at ha;obtain ⟨dd,hu,g1,g2⟩:=Rg ha.1;have hna:=RX (zfr hu g1 (g2 ha.2) hv0);rw[hna] at h1;obtain ⟨y,⟨v',e1,s1⟩,s2,s3⟩:=(Qt hB hok hokb n).1 t (.bsl e) ha.1 fuel _ _ h1;simp at e1;subst e1;exact ⟨(y,xr),⟨rfl,s1,hno,r1⟩,⟨s2,r2⟩,by simp only[UP,zdp]; simp only at s3; omega⟩
  ·rename_i c
   simp only[Bool.and_eq_true] at ha;have hs:=ha.2;unfold Rv at hs;split at hs<;>try simp at hs
   rename_i fs hu;unfold Value.okWide at hv0;rw[hu] at hv0;obtain ⟨cs,rfl,_,_⟩:=hv0;obtain ⟨y,s1,s2,s3⟩:=(Qt hB hok hokb n).1 t c ha.1 fuel _ _ h1;exact ⟨(y,xr),⟨rfl,⟨cs,rfl,zdh.2 s1⟩,hno,r1⟩,⟨s2,r2⟩,by simp only[UP,zdp]; simp only at s3; omega⟩
  ·simp at ha
def qN:Ty->Bool
 | .int _ | .bool | .str=>true
 | .pair a b=>qN a&&qN b
 | _=>false
def Xe:(t:Ty)->t.T->List Value
 | .int k,x=>[.int k x]
 | .bool,x=>[.bool x]
 | .str,x=>[.string x]
 | .pair a b,x=>Xe a x.1++Xe b x.2
 | _,_=>[]
theorem U6:∀{t:Ty} (x:t.T),qN t=true->∀(w:World) (ok okb:Nat->Prop),RT w ok okb t x (Xe t x)
 | .int _,_,_,_,_,_=>rfl
 | .bool,_,_,_,_,_=>rfl
 | .str,_,_,_,_,_=>rfl
 | .fn,_,h,_,_,_=>by simp[qN] at h
 | .sl _,_,h,_,_,_=>by simp[qN] at h
 | .bsl _,_,h,_,_,_=>by simp[qN] at h
 | .pt _,_,h,_,_,_=>by simp[qN] at h
 | .bnd _,_,h,_,_,_=>by simp[qN] at h
 | .tr _,_,h,_,_,_=>by simp[qN] at h
 | .unit,_,h,_,_,_=>by simp[qN] at h
 | .pair a b,x,h,w,ok,okb=>by
  simp only[qN,Bool.and_eq_true] at h;exact ⟨_,_,rfl,U6 x.1 h.1 w ok okb,U6 x.2 h.2 w ok okb⟩
mutual
def W4:DataW H->List Value
 | .lit (.int k n)=>[.int k n]
 | .lit (.bool b)=>[.bool b]
 | .lit (.string l)=>[.string ⟨l.toArray⟩]
 | .agg ps=>Xw ps
 | _=>[]
def Xw:List (DataW H)->List Value
 | []=>[]
 | d::r=>W4 d++Xw r
end
theorem zc7 (n:Nat) :
  (∀(t:TypeId) (c:Ty),YZ P n t c=true->qN c=true->∀(fuel:Nat) (cs:List Value) (x:DataW H×List MemPlace),DataW.trod enc P w base spare held fuel t cs=some x->cs=W4 x.1) /\
  (∀(off:Nat) (fs:List Field) (c:Ty),zaA P n off fs c=true->qN c=true->∀(fuel:Nat) (cs:List Value) (xs:List (DataW H×List MemPlace)),cs.length=off+c.size->xs.length=fs.length->
   (∀(i:Nat) (f:Field),fs[i]?=some f->DataW.trod enc P w base spare held fuel f.type ((cs.drop f.offset).take (P.cellsOf f.type))=xs[i]?)->
   cs.drop off=Xw (xs.map (·.1))):=by
 induction n with
 | zero=>exact ⟨fun t c h=>by simp[YZ] at h,fun off fs c h=>by simp[zaA] at h⟩
 | succ n ih =>
  obtain ⟨ih1,ih2⟩:=ih;constructor
  ·intro t c hc hfl fuel cs x hx
   simp only[YZ] at hc;split at hc
   ·rename_i k hu
    obtain ⟨m,rfl,rfl,hw⟩:=DataW.trod_int hu hx;simp[W4]
   ·rename_i hu
    obtain ⟨m,rfl,rfl⟩:=DataW.trod_bool hu hx;simp[W4]
   ·rename_i hu
    obtain ⟨m,rfl,rfl,hw⟩:=DataW.trod_string hu hx;simp[W4]
   ·split at hc<;>simp[qN] at hfl hc
   ·rename_i fs hu
    simp only[Bool.and_eq_true] at hc;obtain ⟨xs,m,_,rfl,hl,hlen,hf⟩:=DataW.trod_struct hu hx;have:=ih2 0 fs.toList c hc.2 hfl m cs xs (by rw[hl,xW hc.1]; simp) (by simpa using hlen) (fun i f hif=>hf i f (by simpa using hif));simpa [W4] using this
   ·simp at hc
  ·intro off fs c hc hfl fuel cs xs hl hxl hf
   unfold zaA at hc;split at hc
   ·simp_all
   ·rename_i f e1
    cases e1
    simp only[Bool.and_eq_true] at hc;obtain ⟨⟨h1,h2⟩,h3⟩:=hc;have h0:=hf 0 f rfl;match xs,hxl with
    | [x],_ =>
     rw[xW h1,xW h2,List.take_of_length_le (by simp; omega)] at h0;have:=ih1 f.type _ h3 hfl fuel _ x h0;simp[Xw,this]
   ·rename_i f r a b _ e1
    cases e1
    simp only[Bool.and_eq_true] at hc;simp only[qN,Bool.and_eq_true] at hfl;obtain ⟨⟨⟨h1,h2⟩,h3⟩,h4⟩:=hc;have h0:=hf 0 f rfl;match xs,hxl with
    | x::xs,hxl =>
     rw[xW h1,xW h2] at h0;have e1:=ih1 f.type a h3 hfl.1 fuel _ x h0;have e2:=ih2 _ r b h4 hfl.2 fuel cs xs (by rw[hl]; simp[Ty.size]; omega) (by simpa using hxl) (fun i g hg=>by simpa using hf (i+1) g (by simpa using hg));simp only[List.map_cons,Xw,<-e1,<-e2];rw[<-List.drop_drop,List.take_append_drop]
   ·simp at hc
theorem zet {t e:TypeId} {m n:Nat} {c:Ty} (hu:P.underlying t=some (.array m e)) (hc:YZ P n e c=true) (hfl:qN c=true) (hs:P.cellsOf e=c.size) (hst:P.cellsOf t=m*c.size)
  {fuel:Nat} {cs:List Value} {x:DataW H×List MemPlace} (h:DataW.trod enc P w base spare held fuel t cs=some x):cs=W4 x.1:=by
 obtain ⟨xs,k,_,rfl,hl,hlen,hf⟩:=DataW.trod_array hu h;simp only[W4];rw[hst] at hl;have key:∀(r i:Nat) (ys:List (DataW H×List MemPlace)),i+r=m->ys=xs.drop i->cs.drop (i*c.size)=Xw (ys.map (·.1)):=by
  intro r;induction r with
  | zero =>
   intro i ys hi hy;have e1:xs.drop i=[]:=List.drop_of_length_le (by omega);have e2:cs.drop (i*c.size)=[]:=List.drop_of_length_le (by rw[hl,<-hi,Nat.add_zero]; exact Nat.le_refl _);rw[hy,e1,e2];simp[Xw]
  | succ r ih =>
   intro i ys hi hy;have him:i<xs.length:=by omega
   rw[hy,List.drop_eq_getElem_cons him];have h1:=hf i (by omega);rw[hs,List.getElem?_eq_getElem him] at h1;have e1:=(zc7 n).1 e c hc hfl k _ _ h1;have e2:=ih (i+1) (xs.drop (i+1)) (by omega) rfl;simp only[List.map_cons,Xw,<-e1,<-e2];rw[Nat.succ_mul,<-List.drop_drop,List.take_append_drop]
 simpa using key m 0 xs (by omega) rfl
theorem Z7:∀{t:Ty} (x:t.T),qN t=true->(Xe t x).length=t.size:=fun x h=>(U6 x h default (fun _=>True) (fun _=>True)).len
theorem Sc {t:Ty} (hfl:qN t=true):∀(l:List t.T) (i:Nat) (h:i<l.length),((l.flatMap (Xe t)).drop (i*t.size)).take t.size=Xe t l[i]
 | x::l,0,_=>by simp[<-Z7 x hfl]
 | x::l,i+1,h=>by
  have:=Sc hfl l i (by simpa using h);simp only[List.flatMap_cons,List.getElem_cons_succ];rw[Nat.succ_mul,Nat.add_comm,<-List.drop_drop,<-Z7 x hfl,List.drop_left,Z7 x hfl];exact this
theorem glob_of {name:String} {d:DataW Unit} {g:Nat} {t e:TypeId} {m n:Nat} {c:Ty} {l:List c.T} (hg:P.globalNamed name=some g) (hty:(P.globals[g]?).map (·.type)=some t)
  (hu:P.underlying t=some (.array m e)) (hc:YZ P n e c=true) (hfl:qN c=true) (hs:P.cellsOf e=c.size) (hst:P.cellsOf t=m*c.size) (hd:W4 d=l.flatMap (Xe c))
  (h:laidMet P [(name,d)] w):Yb (fun k=>lk none k [(g,some ⟨c,l⟩)]) w noX:=by
 obtain ⟨ps,⟨g',t',cs,fuel,p,q,hg',ht',hvar,htr,_,_⟩,_⟩:=h;obtain rfl:=Option.some.inj (hg.symm.trans hg');obtain rfl:=Option.some.inj (hty.symm.trans ht');have hcs:=zet hu hc hfl hs hst htr;simp only at hcs;rw[hd] at hcs;intro k o ho;simp only[lk] at ho;cases hb:Nat.beq k g with
 | false=>rw[hb] at ho; simp at ho
 | true =>
  rw[hb] at ho;have hk:=xW hb;subst hk;simp at ho;subst ho;refine ⟨?_,id,fun i hi=>⟨Xe c l[i],Z7 _ hfl,?_,U6 _ hfl⟩⟩
  ·unfold World.var? at hvar
   rw[hg] at hvar;simp only[Option.bind_some] at hvar;split at hvar<;>try simp at hvar
   rename_i e2;exact (Array.getElem?_eq_some_iff.1 e2).1
  ·refine tN fun j v hj=>?_
   have hj':j<c.size:=by have:=(List.getElem?_eq_some_iff.1 hj).1; rw[Z7 _ hfl] at this; exact this
   rw[World.var?_cell hg hvar,<-hj,<-Sc hfl l i hi];rw[List.getElem?_take_of_lt hj',List.getElem?_drop,<-hcs,Nat.zero_add];simp
end
end Go.VS
namespace Go.VS
open Go Go.ChangeShapes Go.RowKit
section
variable {P:Program} {H:Type} {enc:TypeId×Value->H} {W W':World} {G:Nat->Option vG}
theorem ze7 {f:FuncId} {fn:Func} {s:Sig} {x:TA s.args} {y:s.R} {vs:List Value} (hf:P.funcs[f]? = some fn) (hb:fn.body.isSome = true) (hname:(fn.name == "runtime.NumGoroutine") = false)
  (c:uH P G f s x y) (hE:SM G W noX noX Zj s.args x vs) (hr:Xo 0 s.res y.1=[.c (.v (.bool true))]) :
  Calls P f vs.toArray W fun e W'=>e=.returned (.bool true)/\Below W.heap.size W W':=by
 have hcall:(callFunc f vs.toArray).run P W=.ok (.enter f vs.toArray) W:=by
  have hn:fn.body.isNone=false:=by cases h:fn.body<;>simp_all
  simp only[callFunc,Sem.run_bind,run_program,Result.andThen_ok,hf,hname,hn,Bool.false_eq_true,if_false];rfl
 rcases c W noX noX Zj vs 0 hE with ⟨v,w',h,_⟩ | ⟨_,h⟩
 ·rw[hcall] at h; simp at h
 ·refine h.mono fun e W' he=>?_
  cases e with
  | returned v =>
   obtain ⟨h1,h2,_,h3,h4,h5,g1,hO⟩:=he;have h6:=hO.ret;rw[hr] at h6;simp only[RetR,RD,RC] at h6;obtain ⟨rfl,_⟩:=h6;exact ⟨rfl,h3,h4,h5,h1,fun k hk=>h2 k hk id (zaD k)⟩
  | panicked _=>exact he.elim
  | outgrown=>exact he.elim
theorem WB (hl:laidOutB P=true) (hb:Below W.heap.size W W'):∀{ts:List TypeId} {vs:List Value} {ds:List (DataW H)} {ps:List MemPlace},ts.all (fun t=>P.readableRec t&&decide (t<P.types.size))=true->
  DataW.TrodAll enc P W 0 (fun _=>true) true ts vs ds ps->DataW.TrodAll enc P W' 0 (fun b=>decide (b<W.heap.size)) true ts vs ds ps
 | [],vs,ds,ps,_,h=>by
  obtain ⟨rfl,rfl,rfl⟩:=trodAll_nil h;exact rfl
 | t::ts,vs,ds,ps,ht,h=>by
  have hlt:=h.lt;obtain ⟨v,vs',d,ds',p,q,rfl,rfl,rfl,h1,h2⟩:=trodAll_cons h;simp only[List.all_cons,Bool.and_eq_true,decide_eq_true_eq] at ht;exact ⟨p,q,Below.trod hl ht.1.1 ht.1.2 h1 hb (fun x hx=>hlt x (List.mem_append.2 (.inl hx))),WB hl hb (by simpa using ht.2) h2,rfl⟩
theorem zfM {fn:Func} {s:ChangeSpec} {tb:TypeId} {args:Array Value} {ds gs:List (DataW H)} {before:List MemPlace} {fresh handsOn:Bool} (hl:laidOutB P=true)
  (ht:fn.params.toList.all (fun t=>P.readableRec t&&decide (t<P.types.size))=true) (hv:s.vars=[]) (hfn:s.fn H ds={results:=[.lit (.bool true)],args:=ds}) (hr:fn.resultTypes=#[tb]) (hb:P.underlying tb=some .bool)
  (hW:DataW.Whole enc P fn.params.toList s.vars false W args.toList ds gs before) (hB:Below W.heap.size W W'):s.post enc P fn false fresh handsOn false W args (.bool true) W':=by
 obtain ⟨p,q,hA,hV,rfl,hz,hn⟩:=hW;have hgs:gs=[]/\q=[]:=by
  rw[hv] at hV;cases gs with
  | nil=>exact ⟨rfl,hV⟩
  | cons g gs=>exact hV.elim
 obtain ⟨rfl,rfl⟩:=hgs;refine ⟨ds,[],p++[],[],p,[],⟨p,[],hA,hV,rfl,hz,hn⟩,?_,?_,?_,?_,fun h=>by cases h⟩
 ·rw[List.append_nil,hfn,hr]
  exact ⟨[],[],shut_bool hb true,rfl,rfl⟩
 ·rw[List.append_nil,hfn]
  exact WB hl hB ht hA
 ·rw[List.append_nil,hfn,hv]
  rfl
 ·exact hB.frame _
theorem zg6 {as:List AT} {x:TA as} {vs:List Value} (hg:Yb G W noX) (ha:YQ W (qIn W noX noX Zj) 0 inN as x vs):SM G W noX noX Zj as x vs where
 glob:=hg
 old:=fun b h=>by rcases h with h | h<;>exact h.elim
 globm:=fun b _ _=>zaD b
 mv:=fun b h=>(zaD b h).elim
 io:=fun b=>⟨fun h=>h.elim,fun ⟨i,h⟩=>by simp[Zj] at h⟩
 inj:=fun i j b h=>by simp[Zj] at h
 injm:=fun p p' h h' b off off' hp=>by simp[Zj] at hp
 low:=fun p h hp=>by simp[Zj] at hp
 args:=ha
theorem law_row {base:Nat} {f:FuncId} {fn:Func} {sg:Sig} {s:ChangeSpec} {tb:TypeId} {n:Nat} {B:DataW H->Nat} {BA:List (DataW H)->Nat} (hBL:Wb B BA) (hf:P.funcs[f]?=some fn) (hb:fn.body.isSome=true)
  (hname:(fn.name == "runtime.NumGoroutine") = false) (hk:V0 P n fn.params.toList sg.args = true) (hl:laidOutB P = true) (ht:fn.params.toList.all (fun t=>P.readableRec t && decide (t < P.types.size)) = true) (hv:s.vars = [])
  (hr:fn.resultTypes=#[tb]) (htb:P.underlying tb=some .bool) {fresh handsOn:Bool} {args:Array Value} {ds gs:List (DataW H)} {before:List MemPlace} (hfn:s.fn H ds={results:=[.lit (.bool true)],args:=ds})
  (hval:∀(j:Nat) t v,fn.params[j]?=some t->args[j]?=some v->Value.okWide P W .any base t v)
  (hW:DataW.Whole enc P fn.params.toList s.vars false W args.toList ds gs before) (hG:Yb G W noX)
  (law:∀x:TA sg.args,wfA sg.args x->UP sg.args x<=BA ds->∃y:sg.R,uH P G f sg x y/\Xo 0 sg.res y.1=[.c (.v (.bool true))]) :
  Calls P f args W fun e W'=>∃v,e=.returned v/\s.post enc P fn false fresh handsOn false W args v W':=by
 have hW':=hW;obtain ⟨p,q,hA,hV,rfl,hz,hn⟩:=hW;obtain ⟨x,h1,h2,h3⟩:=RY (i:=0) (k:=inN) hBL hk hA (fun j t v h h'=>hval j t v (by simpa using h) (by simpa using h'));obtain ⟨y,hc,hy⟩:=law x h2 h3;refine (ze7 hf hb hname hc (zg6 hG h1) hy).mono fun e W' ⟨he,hB⟩=>⟨_,he,?_⟩
 exact zfM hl ht hv hfn hr htb hW' hB
end
end Go.VS
namespace Go.VS
open Go IntKind
structure FX (TI:Nat->TS) (G:Nat->Option vG) (Sg:Nat->Sig) where
 hn:Hn:={}
 lv:List ((f:Nat)×(TA (Sg f).args->Option (Sg f).R)):=[]
 ld:List ((d:Nat)×(Nat->TA (hn.sig d).args->Option (hn.sig d).R)):=[]
 N:Nat
 H:Nat->Shape:=fun _=>{}
 HL:Nat->Shape:=fun _=>{}
 HJ:Nat->Option Shape:=fun _=>none
 L:Zc HL:=mkL HL []
 J:Zd HJ:=mkJ HJ []
def zaw {α:Type} (m:Nat):Nat->List α->List α
 | _,[]=>[]
 | i,a::r=>bif Nat.testBit m i then a::zaw m (i+1) r else zaw m (i+1) r
def shS (te tb:List (Nat×KS)) (to:List tH) (x:Nat×Nat×Nat):Shape:={env:=zaw x.1 0 te,box:=zaw x.2.1 0 tb,own:=zaw x.2.2 0 to}
def shN (te tb:List (Nat×KS)) (to:List tH) (l:List (Nat×Nat×Nat×Nat)):Nat->Shape:=fun r=>shS te tb to (lk (0,0,0) r l)
def shO (te tb:List (Nat×KS)) (to:List tH) (l:List (Nat×Nat×Nat×Nat)):Nat->Option Shape:=fun r=>(lk none r (l.map fun p=>(p.1,some p.2))).map (shS te tb to)
def bd (fn:Func):Code:=fn.body.getD .skip
section
variable {TI:Nat->TS} {G:Nat->Option vG} {Sg:Nat->Sig} {P:Program}
def FX.code (X:FX TI G Sg) {R:Type} (c:Code) (σ:St) (K:Ex->St->Option R):Option R :=
 ZB TI G X.hn Sg (mkV Sg X.lv) (mkD X.hn X.ld) X.N X.H X.HL X.HJ X.L X.J c σ K
def FX.func (X:FX TI G Sg) (fn:Func) (s:Sig) (x:TA s.args):Option s.R :=
 zdb TI G X.hn Sg (mkV Sg X.lv) (mkD X.hn X.ld) X.N X.H X.HL X.HJ X.L X.J fn s (bd fn) x
def FX.lp (X:FX TI G Sg) (cs:List Code) (i:Nat):Prop:=zcB TI G X.hn Sg (mkV Sg X.lv) (mkD X.hn X.ld) X.N X.H X.HL X.HJ X.L X.J (cs.getD i .skip) (rid (cs.getD i .skip))
def FX.ct (X:FX TI G Sg) (cs:List Code) (i:Nat):Prop:=zgP TI G X.hn Sg (mkV Sg X.lv) (mkD X.hn X.ld) X.N X.H X.HL X.HJ X.L X.J (cs.getD i .skip) (rid (cs.getD i .skip))
theorem FX.loop (X:FX TI G Sg) (cs:List Code) (i r F:Nat) (hr:rid (cs.getD i .skip)=r) (lf:(R:Type)->(Ex->St->Option R)->Nat->(X.HL r).T->Option R) (h0:∀R K x,lf R K 0 x=none)
  (hs:∀R K n x,X.code (cs.getD i .skip) (yS (X.HL r) x) (zdr (Xk (X.HL r)) (lf R K n) K)=lf R K (n+1) x) (hL:∀R K x,X.L r x K=lf R K F x):X.lp cs i:=by
 unfold FX.lp;rw[hr];intro x R K;refine ⟨F,(hL R K x).trans ?_⟩;have key:∀n,lf R K n=TQ TI G X.hn Sg (mkV Sg X.lv) (mkD X.hn X.ld) X.N X.H X.HL X.HJ X.L X.J (cs.getD i .skip) r K n:=by
  intro n;induction n with
  | zero=>funext x; rw[h0]; rfl
  | succ n ih =>
   funext x
   rw[<-hs,ih];rfl
 rw[key]
theorem FX.cut (X:FX TI G Sg) (cs:List Code) (i r:Nat) (hr:rid (cs.getD i .skip)=r) (h:∀(R:Type) (K:Ex->St->Option R) x,X.J r x K=X.code (cs.getD i .skip) (yS (shJ X.HJ r) x) K):X.ct cs i:=by
 unfold FX.ct;rw[hr];intro x R K;exact h R K x
abbrev TEs:=List (Nat×KS)
def kI:KS:=.c (.int .i64)
def kB:KS:=.c .bool
def kL (k:Nat):Nat×KS:=(k,.loc k)
abbrev SH:=Nat->Shape
abbrev KK (R:Type):Type:=Ex->St->Option R
theorem FX.loopk {X:FX TI G Sg} {cs:List Code} {i:Nat} (r F:Nat) (lf:(R:Type)->(Ex->St->Option R)->Nat->(X.HL r).T->Option R) (hr:rid (cs.getD i .skip)=r:=by kernel_rfl) (h0:∀R K x,lf R K 0 x=none:=by intro _ _ _; kernel_rfl)
  (hs:∀R K n x,X.code (cs.getD i .skip) (yS (X.HL r) x) (zdr (Xk (X.HL r)) (lf R K n) K)=lf R K (n+1) x:=by intro _ _ _ _; kernel_rfl) (hL:∀R K x,X.L r x K=lf R K F x:=by intro _ _ _; kernel_rfl):X.lp cs i:=FX.loop X cs i r F hr lf h0 hs hL
theorem FX.cutk {X:FX TI G Sg} {cs:List Code} {i:Nat} (r:Nat) (hr:rid (cs.getD i .skip)=r:=by kernel_rfl) (h:∀(R:Type) (K:Ex->St->Option R) x,X.J r x K=X.code (cs.getD i .skip) (yS (shJ X.HJ r) x) K:=by intro _ _ _; kernel_rfl):X.ct cs i:=FX.cut X cs i r hr h
theorem zu {p:Nat->Prop}:∀i,i<0->p i:=fun _ h=>absurd h (Nat.not_lt_zero _)
theorem yx {p:Nat->Prop} {n:Nat} (h:p n) (hr:∀i,i<n->p i):∀i,i<n+1->p i:=fun i hi=>by
 by_cases e:i=n
 ·subst e; exact h
 ·exact hr i (by omega)
def OK (P:Program) (G:Nat->Option vG) (f:Nat) (s:Sig) (sp:TA s.args->Option s.R):Prop:=∀x y,sp x=some y->uH P G f s x y
def chkF (fn:Func) (N nl nc:Nat) (ls cs:List Code):Bool:=fn.body.isSome && (!(fn.name == "runtime.NumGoroutine") && (Nat.beq fn.ntmps N && (Nat.beq ls.length nl && Nat.beq cs.length nc)))
theorem func_x (X:FX TI G Sg) (hmix:P.follows .mixedOrders=true) (hT:∀t,qp P t (TI t)) (cV:AllV P G Sg X.lv) (cD:AllD P G X.hn X.ld) {f:FuncId} {fn:Func} (hf:P.funcs[f]?=some fn)
  {s:Sig} {sp:TA s.args->Option s.R} (nl nc:Nat) (hk:chkF fn X.N nl nc (ux (bd fn)) (tk X.HJ (bd fn))=true)
  (hl:∀i,i<nl->X.lp (ux (bd fn)) i) (hc:∀i,i<nc->X.ct (tk X.HJ (bd fn)) i) (hm:∀x,X.func fn s x=sp x):OK P G f s sp:=by
 intro x y h;simp only[chkF,Bool.and_eq_true,Bool.not_eq_true'] at hk;obtain ⟨h1,h2,h3,h4,h5⟩:=hk;have hb:fn.body=some (bd fn):=by
  unfold bd;cases hb:fn.body with
  | none=>rw[hb] at h1; simp at h1
  | some c=>rfl
 exact zeb hmix hT cV cD hf hb h2 (Nat.eq_of_beq_eq_true h3) (Nat.eq_of_beq_eq_true h4) hl (Nat.eq_of_beq_eq_true h5) hc ((hm x).trans h)
def mkT (s:Sig):List (Nat×(TA s.args->Option s.R))->Nat->TA s.args->Option s.R
 | [],_,_=>none
 | p::r,f,x=>bif Nat.beq p.1 f then p.2 x else mkT s r f x
def AllT (P:Program) (G:Nat->Option vG) (s:Sig):List (Nat×(TA s.args->Option s.R))->Prop
 | []=>True
 | p::r=>(∃g,p.1=g+1/\OK P G g s p.2)/\AllT P G s r
theorem Y1 {s:Sig}:∀{l:List (Nat×(TA s.args->Option s.R))},AllT P G s l->∀f x y,mkT s l f x=some y->∃g,f=g+1/\uH P G g s x y
 | [],_,_,_,_,h=>by simp[mkT] at h
 | p::r,⟨h1,h2⟩,f,x,y,h=>by
  simp only[mkT] at h;cases hb:Nat.beq p.1 f with
  | true =>
   rw[hb] at h;obtain ⟨g,hg,h1⟩:=h1;exact ⟨g,by rw[<-Nat.eq_of_beq_eq_true hb,hg],h1 x y h⟩
  | false=>rw[hb] at h; exact Y1 h2 f x y h
theorem RI {f:FuncId} {fn:Func} (hf:P.funcs[f]? = some fn) (hk:(!fn.body.isSome && !(fn.name == "runtime.NumGoroutine")) = true) (hn:Extern.findNext fn = none) {e:Array Value→Sem Value} (he:Extern.find fn = some e)
  {s:Sig} {sp:TA s.args->Option s.R} (h:∀x y,sp x=some y->∀w X Iq g vs K,SM G w X Iq g s.args x vs->∃v,(e vs.toArray).run P w=.ok v w/\Post w w X Iq g s x y v K):OK P G f s sp:=by
 intro x y hx w X Iq g vs K hE;obtain ⟨v,h1,h2⟩:=h x y hx w X Iq g vs K hE;refine .inl ⟨v,w,?_,h2⟩;simp only[Bool.and_eq_true,Bool.not_eq_true'] at hk;have hb:fn.body.isNone=true:=by cases hb:fn.body<;>simp_all
 rw[run_callFunc_extern hf hk.2 hb hn he,h1];rfl
theorem VX {w:World} {X Iq:Nat->Prop} {g:Gh} {s:Sig} {x:TA s.args} {y:s.R} {v:Value} {K:Nat} (hr:RetR w (XF w X Iq Zj) (Xo K s.res y.1) v) (ho:tm s.res y.1=[]) (hd:∀a∈s.args,∃k,a=.d k):Post w w X Iq g s x y v K :=
 Post.old (Nat.le_refl _) (fun _ _=>rfl) rfl rfl rfl hr ho hd
end
end Go.VS
namespace Go.VS
open Go IntKind
theorem Wt {n:Nat} {w:World} {q:Q} {k:IntKind} {x:Int} {v:Value} (h:RE w q (SE n (.c (.int k)) x) v):v=.int k x:=h.1
theorem zds {n:Nat} {w:World} {q:Q} {x:ByteArray} {v:Value} (h:RE w q (SE n (.c .str) x) v):v=.string x:=h.1
@[reducible] def xi.sg:Sig:={args:=[.d (.c (.int .u64)),.d (.c (.int .u64)),.d (.c (.int .u64))],res:=[.c (.int .u64),.c (.int .u64)]}
def xi.sh (_F:Nat) (x y c:Int):Option xi.sg.R :=
 bif decide (0<=x)&&(decide (0<=y)&&(decide (0<=c)&&decide (c<=1))) then some (((x+y+c)%18446744073709551616,(x+y+c)/18446744073709551616,()),()) else none
def xi.sp (F:Nat):TA xi.sg.args->Option xi.sg.R:=fun x=>xi.sh F x.1 x.2.1 x.2.2.1
@[reducible] def yY.sg:Sig:={args:=[.d (.c (.int .u64)),.d (.c (.int .u64)),.d (.c (.int .u64))],res:=[.c (.int .u64),.c (.int .u64)]}
def yY.sh (_F:Nat) (x y b:Int):Option yY.sg.R :=
 bif decide (0<=x)&&(decide (0<=y)&&(decide (y<18446744073709551616)&&(decide (0<=b)&&decide (b<=1)))) then some (((x-y-b)%18446744073709551616,(if x<y+b then 1 else 0),()),()) else none
def yY.sp (F:Nat):TA yY.sg.args->Option yY.sg.R:=fun x=>yY.sh F x.1 x.2.1 x.2.2.1
section
variable {P:Program} {G:Nat->Option vG}
def WH:Array Value->Sem Value:=fun args=>do
 let (x,y,b) ← Extern.MathBitsCarry.three "Sub64" args
 pure (Extern.MathBitsCarry.pair ((x+Extern.MathBitsCarry.m64-y-b)%Extern.MathBitsCarry.m64) (if x<y+b then 1 else 0))
theorem zdC {P:Program} (x y b:Int) (hx:0<=x) (hy:0<=y) (hy2:y<18446744073709551616) (hb0:0<=b) (hb:b<=1) (w:World) :
  (WH #[.int .u64 x,.int .u64 y,.int .u64 b]).run P w =
   .ok (.tuple #[.int .u64 ((x-y-b)%18446744073709551616),.int .u64 (if x<y+b then 1 else 0)]) w:=by
 have key:∀k:Nat,k<=1->(WH #[.int .u64 x,.int .u64 y,.int .u64 (k:Int)]).run P w =
   .ok (Extern.MathBitsCarry.pair ((x.toNat+Extern.MathBitsCarry.m64-y.toNat-k)%Extern.MathBitsCarry.m64) (if x.toNat<y.toNat+k then 1 else 0)) w:=by
  intro k hk;have:k=0\/k=1:=by omega
  rcases this with rfl | rfl<;>rfl
 obtain ⟨k,rfl⟩:=Int.eq_ofNat_of_zero_le hb0;rw[key k (by omega)];obtain ⟨X,rfl⟩:=Int.eq_ofNat_of_zero_le hx;obtain ⟨Y,rfl⟩:=Int.eq_ofNat_of_zero_le hy;simp only[Extern.MathBitsCarry.pair,Extern.MathBitsCarry.m64,Int.toNat_natCast];congr 4
 ·simp; omega
 ·by_cases h:X<Y+k
  ·rw[if_pos h,if_pos (by omega)]; rfl
  ·rw[if_neg h,if_neg (by omega)]; rfl
theorem xi.ok' (F:Nat) {f:FuncId} {fn:Func} (hf:P.funcs[f]? = some fn) (hk:(!fn.body.isSome && !(fn.name == "runtime.NumGoroutine")) = true) (hn:Extern.findNext fn = none) (he:Extern.find fn = some add64Entry) :
  OK P G f xi.sg (xi.sp F):=by
 refine RI hf hk hn he ?_;intro x y hx w X Iq g0 vs K hE;obtain ⟨a,b,c,u⟩:=x;have hA:=hE.args;match vs,hA with
 | [v1,v2,v3],hA =>
  obtain ⟨_,h1,_,_,h2,_,_,h3,_⟩:=hA;obtain rfl:=Wt h1;obtain rfl:=Wt h2;obtain rfl:=Wt h3;simp only[xi.sp,xi.sh] at hx;rw[cond_eq_ite] at hx;split at hx<;>simp at hx;rename_i hc;simp only[Bool.and_eq_true,decide_eq_true_eq] at hc;subst hx;refine ⟨_,run_add64 a b c hc.1 hc.2.1 hc.2.2.1 hc.2.2.2 w,VX ⟨_,rfl,⟨rfl,rfl⟩,⟨rfl,rfl⟩,trivial⟩ rfl (by simp)⟩
theorem yY.ok' (F:Nat) {f:FuncId} {fn:Func} (hf:P.funcs[f]? = some fn) (hk:(!fn.body.isSome && !(fn.name == "runtime.NumGoroutine")) = true) (hn:Extern.findNext fn = none) (he:Extern.find fn = some WH) :
  OK P G f yY.sg (yY.sp F):=by
 refine RI hf hk hn he ?_;intro x y hx w X Iq g0 vs K hE;obtain ⟨a,b,c,u⟩:=x;have hA:=hE.args;match vs,hA with
 | [v1,v2,v3],hA =>
  obtain ⟨_,h1,_,_,h2,_,_,h3,_⟩:=hA;obtain rfl:=Wt h1;obtain rfl:=Wt h2;obtain rfl:=Wt h3;simp only[yY.sp,yY.sh] at hx;rw[cond_eq_ite] at hx;split at hx<;>simp at hx;rename_i hc;simp only[Bool.and_eq_true,decide_eq_true_eq] at hc;subst hx;refine ⟨_,zdC a b c hc.1 hc.2.1 hc.2.2.1 hc.2.2.2.1 hc.2.2.2.2 w,VX ⟨_,rfl,⟨rfl,rfl⟩,⟨rfl,rfl⟩,trivial⟩ rfl (by simp)⟩
theorem zbj {f:FuncId} {fn:Func} (hf:P.funcs[f]? = some fn) (hk:(fn.body.isSome && !(fn.name == "runtime.NumGoroutine")) = true) {s:Sig} {sp:TA s.args→Option s.R}
  (h:∀x y,sp x=some y->∀w X Iq g vs K,SM G w X Iq g s.args x vs->Calls P f vs.toArray w fun e w'=>∃v,e=.returned v/\Post w w' X Iq g s x y v K):OK P G f s sp:=by
 intro x y hx w X Iq g0 vs K hE;simp only[Bool.and_eq_true,Bool.not_eq_true'] at hk;refine .inr ⟨?_,(h x y hx w X Iq g0 vs K hE).mono fun e w' he=>?_⟩
 ·have hn:fn.body.isNone=false:=by cases h:fn.body<;>simp_all
  simp only[callFunc,Sem.run_bind,run_program,Result.andThen_ok,hf,hk.2,hn,Bool.false_eq_true,if_false];rfl
 ·obtain ⟨v,rfl,hp⟩:=he
  exact hp
theorem zfU {w:World} {Iq:Nat->Prop} {g:Nat} {k:IntKind} {m:Int} (h:Yb G w Iq) (hg:G g=some ⟨.int k,[m]⟩):w.cell? ⟨g,0,none⟩=some (.int k m):=by
 obtain ⟨_,_,h⟩:=h g _ hg;obtain ⟨us,h1,h2,h3⟩:=h 0 (by simp);have h3:us=[.int k m]:=h3 w (fun _=>True) (fun _=>True);subst h3;exact h2.1
@[reducible] def wj.sg:Sig:={args:=[.d (.c .str),.d (.c .str)],res:=[.c .bool]}
def wj.sh (_F:Nat) (s sub:ByteArray):Option wj.sg.R:=bif Nat.blt s.size 4294967281 then some ((Lib.contains s.data.toList sub.data.toList,()),()) else none
def wj.sp (F:Nat):TA wj.sg.args->Option wj.sg.R:=fun x=>wj.sh F x.1 x.2.1
theorem wj.ok' (F:Nat) {f:FuncId} {fn:Func} {g:Nat} {m:Int} (hf:P.funcs[f]? = some fn) (hk:(fn.body.isSome && !(fn.name == "runtime.NumGoroutine")) = true) (hg:G g = some ⟨.int .i64,[m]⟩)
  (h:∀(s sub:ByteArray) (w:World),s.size<4294967281->w.cell? ⟨g,0,none⟩=some (.int .i64 m)->
   Calls P f #[.string s,.string sub] w fun e w'=>e=.returned (.bool (Lib.contains s.data.toList sub.data.toList))/\w'=w):OK P G f wj.sg (wj.sp F):=by
 refine zbj hf hk ?_;intro x y hx w X Iq g0 vs K hE;obtain ⟨a,b,u⟩:=x;have hA:=hE.args;match vs,hA with
 | [v1,v2],hA =>
  obtain ⟨_,h1,_,_,h2,_⟩:=hA;obtain rfl:=zds h1;obtain rfl:=zds h2;simp only[wj.sp,wj.sh] at hx;rw[cond_eq_ite] at hx;split at hx<;>simp at hx;rename_i hc;subst hx;refine (h a b w (by simpa using hc) (zfU hE.glob hg)).mono fun e w' ⟨he,hw⟩=>?_
  subst hw;exact ⟨_,he,VX ⟨rfl,rfl⟩ rfl (by simp)⟩
theorem zea {w:World} {Iq:Nat->Prop} {g:Nat} {o:vG} {l:List (Nat×Option vG)}
  (h:g<w.heap.size/\¬Iq g/\∀i (h:i<o.l.length),∃us,us.length=o.t.size/\wQ w g (0+i*o.t.size) us/\∀w ok okb,RT w ok okb o.t o.l[i] us) (hl:Yb (fun k=>lk none k l) w Iq) :
  Yb (fun k=>lk none k ((g,some o)::l)) w Iq:=by
 intro k p hp;simp only[lk] at hp;cases hb:Nat.beq k g with
 | false=>rw[hb] at hp; exact hl k p hp
 | true =>
  rw[hb] at hp;have hk:=xW hb;subst hk;simp at hp;subst hp;exact h
theorem ze9 {w:World} {g:Nat} {k:IntKind} {m:Int} {l:List (Nat×Option vG)} (h:w.cell? ⟨g,0,none⟩=some (.int k m)) (hl:Yb (fun k=>lk none k l) w noX) :
  Yb (fun j=>lk none j ((g,some ⟨.int k,[m]⟩)::l)) w noX:=by
 refine zea ⟨?_,id,fun i hi=>?_⟩ hl
 ·unfold World.cell? at h
  split at h<;>try simp at h
  rename_i e;exact (Array.getElem?_eq_some_iff.1 e).1
 ·simp at hi
  subst hi;exact ⟨[.int k m],rfl,⟨by simpa using h,trivial⟩,fun w ok okb=>rfl⟩
end
end Go.VS
namespace Go.VS
open Go IntKind
@[simp] theorem zh {α β:Type} (x:α) (k:α->Option β):oB (some x) k=k x:=rfl
@[simp] theorem oB_none {α β:Type} (k:α->Option β):oB (none:Option α) k=none:=rfl
theorem wX (n:Int):u64.wrap n=n%18446744073709551616:=by
 show (if (false&&decide (n%18446744073709551616>=9223372036854775808))=true then n%18446744073709551616-18446744073709551616 else n%18446744073709551616)=_;simp
theorem ZD (n:Int):i64.wrap n=if n%18446744073709551616>=9223372036854775808 then n%18446744073709551616-18446744073709551616 else n%18446744073709551616:=by
 show (if (true&&decide (n%18446744073709551616>=9223372036854775808))=true then n%18446744073709551616-18446744073709551616 else n%18446744073709551616)=_;simp
theorem yz {n:Int} (h1:-9223372036854775808<=n) (h2:n<9223372036854775808):i64.wrap n=n:=by
 rw[ZD];split<;>omega
theorem xP {n:Int} (h1:0<=n) (h2:n<18446744073709551616):u64.wrap n=n:=by
 rw[wX];omega
theorem xS {i n:Nat} (h:i<n):idx (i:Int) n=true:=by simp[idx]; omega
theorem uN {i n:Nat} {N:Int} (hN:N=(n:Int)) (h:i<n):decide ((i:Int)<N)=true:=by subst hN; simp; exact h
theorem uO {i n:Nat} {N:Int} (hN:N=(n:Int)) (h:n<=i):decide ((i:Int)<N)=false:=by subst hN; simp; exact h
theorem vv {t:Ty} {l xs:List t.T} {x:t.T} {i:Nat} (h:l.drop i=x::xs):get t l (Int.toNat (i:Int))=x:=by
 have:l[i]?=some x:=by
  have:=congrArg (·[0]?) h
  simpa using this
 simp[get,this]
theorem vc {α:Type} {l xs:List α} {x:α} {i:Nat} (h:l.drop i=x::xs):i<l.length:=by
 rcases Nat.lt_or_ge i l.length with h' | h'
 ·exact h'
 ·rw[List.drop_of_length_le h'] at h; cases h
theorem wz {α:Type} {l xs:List α} {x:α} {i:Nat} (h:l.drop i=x::xs):l.drop (i+1)=xs:=by
 rw[<-List.drop_drop,h]; rfl
theorem vZ {α:Type} {l:List α} {i:Nat} (h:l.drop i=[]):l.length<=i:=by simpa using h
theorem vp {i n:Nat} (h:i<n) (hn:n<9223372036854775807):i64.wrap ((i:Int)+1)=(i:Int)+1:=yz (by omega) (by omega)
theorem wd (i:Nat):((i+1:Nat):Int)=(i:Int)+1:=by simp
end Go.VS
