/- A semantics by values for the translated code, joined from smaller texts. -/
import Derived.Laws.AppendOwn
import Derived.Below
import Derived.Shelf.SlicesE.Clone
import Derived.Test.YtmkkoenoplginaaGreatDoorQVc
set_option linter.unusedVariables false
set_option linter.unusedSimpArgs false
set_option linter.unusedSectionVars false
namespace Go.VS
open Go
section
variable {P:Program} {G:Nat->Option xK}
@[reducible] def qq (t:Ty):Sig:={args:=[.d (.b t)],res:=[.c (.sl t)]}
def XJ (t:Ty) (l:List t.T):Option (qq t).R:=bif Nat.ble l.length 1099511627776 then some ((l,()),()) else none
def UB (t:Ty):TA (qq t).args->Option (qq t).R:=fun x=>XJ t x.1
theorem rowOf {w:World} {b sz:Nat} {α:Type} {R:α->List Value->Prop} (hsc:∀x us,R x us->∀v∈us,scalar v=true):∀(l:List α) (off:Nat),(∀i (h:i<l.length),∃us,us.length=sz/\xc w b (off+i*sz) us/\R l[i] us)->
  ∃news:List Value,news.length=l.length*sz/\xc w b off news/\(∀u∈news,scalar u=true)/\∀i (h:i<l.length),∃us,us.length=sz/\(news.drop (i*sz)).take sz=us/\R l[i] us
 | [],off,_=>⟨[],by simp,trivial,by simp,fun i h=>absurd h (Nat.not_lt_zero _)⟩
 | a::l,off,h=>by
  obtain ⟨us,u1,u2,u3⟩:=h 0 (by simp);obtain ⟨news,n1,n2,n3,n4⟩:=rowOf hsc l (off+sz) fun i hi=>by
   obtain ⟨us,v1,v2,v3⟩:=h (i+1) (by simpa using hi);exact ⟨us,v1,by rw[show off+sz+i*sz=off+(i+1)*sz by rw[Nat.succ_mul]; omega]; exact v2,v3⟩
  refine ⟨us++news,by simp[u1,n1,Nat.succ_mul]; omega,?_,?_,?_⟩
  ·refine wT fun k v hk=>?_
   rcases Nat.lt_or_ge k us.length with hlt | hge
   ·rw[List.getElem?_append_left hlt] at hk
    have:=xR u2 hk;simpa using this
   ·rw[List.getElem?_append_right hge] at hk
    have:=xR n2 hk;rw[show off+sz+(k-us.length)=off+k by omega] at this;exact this
  ·intro u hu
   rcases List.mem_append.1 hu with h | h
   ·exact hsc _ _ u3 u h
   ·exact n3 u h
  ·intro i hi
   cases i with
   | zero=>exact ⟨us,u1,by simp[<-u1],u3⟩
   | succ i =>
    obtain ⟨us',v1,v2,v3⟩:=n4 i (by simpa using hi);refine ⟨us',v1,?_,v3⟩;rw[<-v2,Nat.succ_mul,Nat.add_comm,<-u1,List.drop_append,List.drop_eq_nil_of_le (by omega),List.nil_append];congr 2
    omega
theorem one_of {v:Value} (h:scalar v=true):v.oneCell'=true:=by cases v<;>simp_all [scalar,Value.oneCell']
theorem zaf {t:Ty} (hnb:(noB t && nfT t) = true) {f:FuncId} {fn:Func} {T:TypeId} (hf:P.funcs[f]? = some fn) (hk:(fn.body.isSome && !(fn.name == "runtime.NumGoroutine")) = true)
  (h1:∀(b off n c:Nat) (news:List Value) (w:World),news.length=n*t.size->n<=1099511627776->(∀j u,news[j]?=some u->w.cell? ⟨b,off+j,none⟩=some u)->(∀u∈news,u.oneCell'=true)->
   Calls P f #[.slice (some ⟨b,off,none⟩) n c] w fun e w'=>∃v',e=.returned v'/\w'.ownsRow w.heap.size T t.size v' n news/\v'≠.slice none 0 0/\Go.RowKit.Below w.heap.size w w')
  (h2:∀(a:Addr) (c:Nat) (w:World),Calls P f #[.slice (some a) 0 c] w fun e w'=>∃v',e=.returned v'/\w'.ownsRow w.heap.size T t.size v' 0 []/\v'≠.slice none 0 0/\Go.RowKit.Below w.heap.size w w')
  (h3:∀(n c:Nat) (w:World),Calls P f #[.slice none n c] w fun e w'=>e=.returned (.slice none 0 0)/\w'=w):OK P G f (qq t) (UB t):=by
 refine TP hf hk ?_;intro x y hx w X Iq g0 vs K hE;obtain ⟨l,u⟩:=x;have hA:=hE.args;match vs,hA with
 | [v1],hA =>
  obtain ⟨_,hv,_⟩:=hA;have hv:SlR w (qIn w X Iq g0).okb t.size (RT w (qIn w X Iq g0).ok (qIn w X Iq g0).okb g0.me t) l v1:=hv;simp only[UB,XJ] at hx;rw[cond_eq_ite] at hx;split at hx<;>simp at hx;rename_i hlen;have hlen:l.length<=1099511627776:=Nat.le_of_ble_eq_true hlen;subst hx;obtain ⟨a,cap,e,hcap,hel⟩:=hv;subst e;have hold:=hE.old;have fin:∀{v':Value} {w':World} {news:List Value},news.length=l.length*t.size->(∀i (h:i<l.length),∃us,us.length=t.size/\(news.drop (i*t.size)).take t.size=us/\RT w (qIn w X Iq g0).ok (qIn w X Iq g0).okb g0.me t l[i] us)->
    w'.ownsRow w.heap.size T t.size v' l.length news->Go.RowKit.Below w.heap.size w w'->Post w w' X Iq g0 (qq t) (l,u) ((l,()),()) v' K:=by
   intro v' w' news hn hus ho hb;have hq:∀b,(qIn w X Iq g0).ok b->(th w' X Iq v7).ok b/\∀off v,w.cell? ⟨b,off,none⟩=some v->w'.cell? ⟨b,off,none⟩=some v:=fun b hb'=>⟨⟨by have:=hb'.1; have:=hb.size; omega,hb'.2.1,hb'.2.2.1,Td b⟩,fun off v hc=>by rw[vi (hb.block b hb'.1)]; exact hc⟩
   refine Post.old hb.size (fun b h=>hb.block b h) hb.os hb.tape hb.output ?_ rfl (by simp);show SlR w' (th w' X Iq v7).ok t.size (RT w' (th w' X Iq v7).ok (th w' X Iq v7).okb none t) l v';obtain ⟨_,ho⟩:=ho;rcases ho with ⟨rfl,h0⟩ | ⟨g,cap',cur,rfl,hg,hheap,hc1,_,hsz,htk⟩
   ·have:l=[]:=List.eq_nil_of_length_eq_zero h0
    subst this;exact SlR.nil
   ·refine ⟨_,cap',rfl,hc1,fun _=>⟨g,0,rfl,?_,fun i hi=>?_⟩⟩
    ·have hlt:g<w'.heap.size:=by
      rcases Nat.lt_or_ge g w'.heap.size with h' | h'
      ·exact h'
      ·rw[Array.getElem?_eq_none h'] at hheap; simp at hheap
     exact ⟨hlt,fun hx=>by have:=hold g (.inl hx); omega,fun hx=>by have:=hold g (.inr hx); omega,Td g⟩
    ·obtain ⟨us,u1,u2,u3⟩:=hus i hi
     refine ⟨us,u1,?_,vN (me:=none) (me':=none) (fun _ h=>h) hq t _ _ (by simp at hnb; exact hnb.1) (YD t _ _ (by simp at hnb; exact hnb.2) u3)⟩;have hh:=xH hheap;rw[<-u2,<-htk];refine wT fun k v hk=>?_
     have:cur.toList[i*t.size+k]?=some v:=by
      rw[List.getElem?_take] at hk;split at hk<;>try simp at hk
      rw[List.getElem?_take] at hk;split at hk<;>simp at hk;simpa using hk
     have:=xR hh this;rw[show 0+i*t.size+k=0+(i*t.size+k) by omega];exact this
  cases a with
  | none =>
   have hl:l=[]:=by
    cases l with
    | nil=>rfl
    | cons x r=>obtain ⟨b,off,e,_⟩:=hel (by simp); cases e
   subst hl;refine (h3 0 cap w).mono fun e w' ⟨he,hw⟩=>?_
   subst hw;exact ⟨_,he,fin (news:=[]) (by simp) (fun i hi=>absurd hi (Nat.not_lt_zero _)) ⟨by simp,.inl ⟨rfl,rfl⟩⟩ (Go.RowKit.Below.refl _ _)⟩
  | some a =>
   by_cases hl:l=[]
   ·subst hl
    refine (h2 a cap w).mono fun e w' ⟨v',he,ho,_,hb⟩=>?_
    exact ⟨_,he,fin (news:=[]) (by simp) (fun i hi=>absurd hi (Nat.not_lt_zero _)) ho hb⟩
   ·obtain ⟨b,off,e,_,hel2⟩:=hel hl
    injection e with e
    subst e;obtain ⟨news,n1,n2,n3,n4⟩:=rowOf (fun x us h=>RT.sc t x us h) l off hel2;refine (h1 b off l.length cap news w n1 hlen (fun j u hj=>xR n2 hj) (fun u hu=>one_of (n3 u hu))).mono fun e w' ⟨v',he,ho,_,hb⟩=>?_
    exact ⟨_,he,fin n1 n4 ho hb⟩
end
end Go.VS
namespace Go.Proofs
open Go Go.Shelf Go.RowKit Go.Lib
variable {P:Program} {ρ:Ren}
set_option maxHeartbeats 2000000 in
set_option maxRecDepth 100000 in
theorem clone_zero (L:SlLaysE0.n41 P ρ) (i0:TypeInfo) (z:Value) (size bytes:Nat) (hi:P.info? (ρ.t 23)=some i0) (hz0:i0.zero=some z) (hz1:i0.size=size) (hz2:i0.bytes=bytes) (hzs:z.cells.size=size) (hsz:0<size)
  (z23:∀w,(Go.sizeOf (ρ.t 23)).run P w=.ok size w) (a:Addr) (c:Nat) (w:World) :
  Calls P (ρ.f 41) #[.slice (some a) 0 c] w fun e w'=>∃v',e=.returned v'/\w'.ownsRow w.heap.size (ρ.t 23) size v' 0 []/\v'≠.slice none 0 0/\Below w.heap.size w w':=by
 have mixed:=L.mixed; have t4:=L.t4; have a4:=L.a4; have z4:=L.z4; have v4:=L.v4; have t22:=L.t22; have a22:=L.a22; have z22:=L.z22; have v22:=L.v22;have q22:∀(w:World) (a:Option Addr) (n c n' c':Nat),(binOp .eql (ρ.t 22) (.slice a n c) (.slice none n' c')).run P w=.ok (.bool a.isNone) w:=fun w a n c n' c'=>Lib.run_eql_slice_nil w _ _ a n c n' c' L.t22
 have u22:∀w,Sem.run P (underlying (ρ.t 22)) w=.ok (TypeDesc.slice (ρ.t 23)) w:=run_underlying t22;obtain ⟨_,_,FG⟩:=L.f41;go_enter FG,SlBodyN.n41_ntmps ρ
 go_wp2_with (at_builtin; refine wpList_append_own _ rfl _ _ (ρ.t 22) rfl w.heap.size (ρ.t 23) i0 z size bytes t22 hi hz0 hz1 hz2 hzs hsz _ _ _ rfl (World.ownsRow_made w #[] 0 (Nat.le_refl _) (Nat.zero_le _) (by simp)) a 0 c [] rfl (by simp) (by intro j u hj; simp at hj) (by intro u hu; cases hu) (by unfold maxLen; omega) (by omega) (by simp) ?_)
 intro v' w1 hown hgrow hnil;go_wp2
 go_ret
 refine ⟨v',rfl,by simpa using hown,?_,?_⟩
 ·first | exact hnil | (intro e; exact absurd (hnil.1 e).1 (by simp))
 ·exact ((Below.refl _ w).alloc (Nat.le_refl _) _).grown hgrow (by simp) (by intro k hk; simp[Value.ownBlock] at hk; omega)
end Go.Proofs
namespace Go.VS
open Go Go.Proofs
section
variable {P:Program} {G:Nat->Option xK} {ρ:Go.Shelf.Ren}
theorem SI {t:Ty} (hnb:(noB t && nfT t) = true) {f:FuncId} {fn:Func} (hf:P.funcs[f]? = some fn) (hk:(fn.body.isSome && !(fn.name == "runtime.NumGoroutine")) = true) {s:TypeId} {ts:TS} (hT:vo P s ts) (hel:ts.el = some t)
  (L:SlLaysE0.n41 P ρ) (hρf:ρ.f 41=f) (hρs:ρ.t 22=s):OK P G f (qq t) (UB t):=by
 subst hρf;subst hρs;obtain ⟨et,i,z,h1,h2,h3,h4,h5,h6,h7,_⟩:=hT.el t hel;have e:et=ρ.t 23:=by
  have:=L.t22;rw[h1] at this;simpa using this
 subst e;have hs:∀w,(Go.sizeOf (ρ.t 23)).run P w=.ok t.size w:=fun w=>by rw[vf h2,h5]
 refine zaf (T:=ρ.t 23) hnb hf hk (fun b off n c news w a1 a2 a3 a4=>?_) (fun a c w=>?_) (fun n c w=>AnyE.slices_Clone_nil L n c w)
 ·exact AnyE.slices_Clone L i z t.size i.bytes h2 h3 h5 rfl h4 h6 hs b off n c news w a1 (by unfold maxLen; omega) (Nat.le_trans (Nat.mul_le_mul a2 h7) (by omega)) a3 a4
 ·exact clone_zero L i z t.size i.bytes h2 h3 h5 rfl h4 h6 hs a c w
end
end Go.VS
namespace Go.VS
open Go
section
variable {P:Program} {G:Nat->Option xK} {f:FuncId} {s:Sig}
theorem ok_none {sp:TA s.args->Option s.R} (h:∀x,sp x=none):OK P G f s sp:=by
 intro x y hx;rw[h x] at hx;cases hx
theorem QQ {it:Nat->TA s.args->Option s.R} (h0:∀x,it 0 x=none) (hs:∀n,OK P G f s (it n)->OK P G f s (it (n+1))):∀n,OK P G f s (it n)
 | 0=>ok_none h0
 | n+1=>hs n (QQ h0 hs n)
end
end Go.VS
