/- A semantics by values for the translated code, joined from smaller texts. -/
import Derived.Laws.StructEq
import Derived.ChangeKeysEq
import Derived.OpenShut
import Derived.ChangeArms
import Derived.FnData
import Derived.ChangeSame
import Derived.Carry
import Derived.ShutString
import Derived.Laws.Externs
import Derived.Test.YteppclpeidfhgaaGreatDoorQVa
set_option linter.unusedVariables false
set_option linter.unusedSimpArgs false
set_option linter.unusedSectionVars false
namespace Go.VS
open Go
section
variable {cx:Cx} {Hh:Hn} {m:Gh} {σ:St} {a:Act} {w:World} {o:Oper} {eff:Eff}
theorem Y1:∀{r:List Ent} {rv:List Value} {x n:Int} {k:IntKind},tN true x r k=some n->All2 (RE w (cx.q σ m w)) r rv->
  (rv.foldlM Builtin.max2 (.int k x)).run cx.P w=.ok (.int k n) w
 | [],[],_,_,_,h,_=>by simp[tN] at h; subst h; rfl
 | e::r,v::rv,x,n,k,h,⟨h1,h2⟩=>by
  unfold tN at h;split at h
  ·simp_all
  ·rename_i he
   cases he
   split at h<;>simp at h;rename_i hk;subst hk;obtain ⟨rfl,_⟩:=h1.v_eq;have:=Y1 h h2;simp[List.foldlM_cons,Builtin.max2,this]
  ·simp at h
 | [],_::_,_,_,_,_,h=>h.elim
 | _::_,[],_,_,_,_,h=>h.elim
theorem Y0:∀{r:List Ent} {rv:List Value} {x n:Int} {k:IntKind},tN false x r k=some n->All2 (RE w (cx.q σ m w)) r rv->
  (rv.foldlM Builtin.min2 (.int k x)).run cx.P w=.ok (.int k n) w
 | [],[],_,_,_,h,_=>by simp[tN] at h; subst h; rfl
 | e::r,v::rv,x,n,k,h,⟨h1,h2⟩=>by
  unfold tN at h;split at h
  ·simp_all
  ·rename_i he
   cases he
   split at h<;>simp at h;rename_i hk;subst hk;obtain ⟨rfl,_⟩:=h1.v_eq;have:=Y0 h h2;simp[List.foldlM_cons,Builtin.min2,this]
  ·simp at h
 | [],_::_,_,_,_,_,h=>h.elim
 | _::_,[],_,_,_,_,h=>h.elim
theorem WB (hG:wJ cx) (h:Rel cx m σ a w):∀(xs:List Operand),All2 (RE w (cx.q σ m w)) (xs.map (σ.ev cx.G)) (xs.map a.eval)
 | []=>trivial
 | x::xs=>⟨vo hG h x,WB hG h xs⟩
theorem Wt (hT:∀t,uk cx.P t (cx.TI t)) (hG:wJ cx) (h:Rel cx m σ a w) {c:Call} {b:Builtin} (ho:o.op=.call c) (hb:c.callee=.builtin b)
  (he:tB cx.TI σ o.dst b c.argTypes.toList (c.args.toList.map (σ.ev cx.G))=some (true,eff)):Done cx σ a w o eff:=by
 have hargs:=WB hG h c.args.toList;have hmap:(c.args.map a.eval)=(c.args.toList.map a.eval).toArray:=by apply Array.ext'; simp
 have hrun:∀(s:Sem Value) (v:Value) (w':World),(∀cs,builtin b c.argTypes o.type cs (c.args.toList.map a.eval).toArray=(do pure (.value (<-s))))->s.run cx.P w=.ok v w'->
   (execOp a.eval o).run cx.P w=.ok (.value v) w':=by
  intro s v w' h1 h2;simp[execOp,ho,resolve,hb,invoke,h1,h2,hmap]
 generalize c.args.toList.map (σ.ev cx.G)=es at he hargs;generalize c.args.toList.map a.eval=vs at hargs hrun;unfold tB at he;split at he
 ·
  rename_i x;obtain ⟨vx,vs',e,hx,hnil⟩:=hargs.cons_left;have:=hnil.nil_left;subst this;subst e;split at he<;>try simp at he
  rename_i t ts hts;have ht0:c.argTypes[0]?=some t:=by rw[<-Array.getElem?_toList,hts]; rfl
  have hlen:∀{n:Nat},(∀d v,cx.P.underlying t=some d->(match d,v with | .string,Value.string s=>some s.size | .slice _,.slice _ n _=>some n | _,_=>none)=some n->v=vx->
    (Builtin.len_ c.argTypes o.type #[vx]).run cx.P w=.ok (goInt n) w):=by
   intro n d v hu hm hv;subst hv;split at hm<;>simp at hm
   ·subst hm; simp[Builtin.len_,ht0,run_underlying hu]
   ·subst hm; simp[Builtin.len_,ht0,run_underlying hu]
  have fin:∀{n:Nat} {k:Int},k=(n:Int)->(Builtin.len_ c.argTypes o.type #[vx]).run cx.P w=.ok (goInt n) w->Done cx σ a w o ⟨.d (.c (.v (.int .i64 k))),.none⟩:=by
   intro n k hk hr;subst hk;exact Done.pure h (hrun _ _ _ (fun _=>rfl) hr) ⟨rfl,rfl⟩
  split at he
  ·rename_i s
   cases hs:(cx.TI t).str with
   | false=>simp[hs] at he
   | true =>
    simp only[hs,cond_true] at he;obtain ⟨_,rfl⟩:=vR he;obtain ⟨hv,_⟩:=hx.v_eq;exact fin rfl (hlen _ _ ((hT t).str hs) (by rw[hv]) rfl)
  ·split at he<;>try simp at he
   rename_i e hel;obtain ⟨et,_,_,hu,_⟩:=Zy (hT t) hel;split at he
   ·obtain ⟨_,rfl⟩:=vR he
    obtain ⟨hv,_⟩:=hx.v_eq;exact fin (n:=0) rfl (hlen _ _ hu (by rw[hv]) rfl)
   ·rename_i s lo hi _
    obtain ⟨_,rfl⟩:=vR he;obtain ⟨hd,_,_,_,hv⟩:=hx;exact fin (n:=hi-lo) rfl (hlen _ _ hu (by rw[hv]) rfl)
   ·split at he<;>try simp at he
    rename_i ow how;obtain ⟨_,rfl⟩:=vR he;obtain ⟨ad,cap,hv,_⟩:=uU h how hx;exact fin (n:=ow.l.length) rfl (hlen _ _ hu (by rw[hv]) rfl)
 ·
  rename_i x y;obtain ⟨vx,vs',e,hx,hr⟩:=hargs.cons_left;obtain ⟨vy,vs'',e',hy,hnil⟩:=hr.cons_left;have:=hnil.nil_left;subst this;subst e';subst e;split at he<;>try simp at he
  rename_i t u ts hts;split at he<;>try simp at he
  rename_i uu hu;have ht:c.argTypes[0]?=some t:=by rw[<-Array.getElem?_toList,hts]; rfl
  have hu':c.argTypes[1]?=some u:=by rw[<-Array.getElem?_toList,hts]; rfl
  refine Vd hT h (fun v w' hr=>hrun _ _ _ (fun _=>rfl) ?_) hx hy hu he;rw[<-hr];simp[Builtin.append_,ht,hu']
 ·
  rename_i k x r;obtain ⟨vx,vs',e,hx,hr⟩:=hargs.cons_left;subst e;obtain ⟨rfl,_⟩:=hx.v_eq;split at he<;>try simp at he
  rename_i n hn;obtain ⟨_,rfl⟩:=vR he;exact Done.pure h (hrun _ _ _ (fun _=>rfl) (by simp[Builtin.max_,Y1 hn hr])) ⟨rfl,rfl⟩
 ·
  rename_i k x r;obtain ⟨vx,vs',e,hx,hr⟩:=hargs.cons_left;subst e;obtain ⟨rfl,_⟩:=hx.v_eq;split at he<;>try simp at he
  rename_i n hn;obtain ⟨_,rfl⟩:=vR he;exact Done.pure h (hrun _ _ _ (fun _=>rfl) (by simp[Builtin.min_,Y0 hn hr])) ⟨rfl,rfl⟩
 ·simp at he
theorem Si (hna:cx.na=Hh.na) (hT:∀t,uk cx.P t (cx.TI t)) (hG:wJ cx) (h:Rel cx m σ a w) (he:efG cx.TI cx.G Hh o σ=some (true,eff)):Done cx σ a w o eff:=by
 unfold efG at he;split at he
 ·rename_i ho; exact XY hG h (.inl ho) he
 ·rename_i ho; exact XY hG h (.inr ho) he
 ·rename_i ho; exact Sk hna hG h ho he
 ·rename_i ho; exact V3 hna hT h ho he
 ·rename_i ho; exact Ta hT hG h ho he
 ·rename_i ho; exact VY hT hG h ho he
 ·rename_i ho; exact Xb hT hG h ho he
 ·rename_i ho; exact V1 hT hG h ho he
 ·rename_i ho; exact Xa hT hG h ho he
 ·rename_i ho; exact V0 hT hG h ho he
 ·rename_i ho; exact Sl hT hG h ho he
 ·rename_i ho; exact done_un hG h ho he
 ·rename_i ho; exact Ws hT hG h ho he
 ·rename_i ho; exact V2 hT hG h ho he
 ·rename_i ho; exact Yo (Hh:=Hh) hT hG h ho he
 ·rename_i ho; exact Y9 hT hG h ho he
 ·rename_i ho; exact VZ hT hG h ho he
 ·rename_i ho; exact Wr hG h ho he
 ·rename_i ho; exact Xt hG h ho he
 ·rename_i ho; exact Xu hna hG h ho he
 ·rename_i c ho
  split at he
  ·rename_i b hb; exact Wt hT hG h ho hb he
  ·simp at he
 ·simp at he
end
end Go.VS
namespace Go.VS
open Go
def Alg {Sg:Nat->Sig} (V:vP Sg):Prop:=∀f x (R:Type) (K:(Sg f).R->Option R),V f x K=(V f x some).bind K
def Tj {Hh:Hn} (VD:vk Hh):Prop:=∀d f x (R:Type) (K:(Hh.sig d).R->Option R),VD d f x K=(VD d f x some).bind K
section
variable {TI:Nat->TS} {G:Nat->Option vD} {Hh:Hn} {Sg:Nat->Sig} {V:vP Sg} {VD:vk Hh} {N:Nat} {R:Type}
def Z1 (TI:Nat->TS) (G:Nat->Option vD) (Hh:Hn) (Sg:Nat->Sig) (V:vP Sg) (VD:vk Hh) (o:Oper) (σ:St):Option Eff:=efK TI G Hh Sg V VD o σ some
theorem Z7 {R:Type} (off sz:Nat) (f:Nat->Eff) (K:Eff->Option R):∀c j,qO off sz (fun j=>K (f j)) c j=(qO off sz (fun j=>some (f j)) c j).bind K
 | 0,j=>rfl
 | c+1,j=>by
  simp only[qO];cases Nat.beq off j with
  | true=>rfl
  | false=>exact Z7 off sz f K c (j+sz)
theorem Z6 {off sz:Nat} {f:Nat->Eff} {e:Eff}:∀{c j},qO off sz (fun j=>some (f j)) c j=some e->e=f off
 | 0,j,h=>by cases h
 | c+1,j,h=>by
  simp only[qO] at h;cases hb:Nat.beq off j with
  | true=>rw[hb] at h; simp at h; rw[Nat.eq_of_beq_eq_true hb]; exact h.symm
  | false=>rw[hb] at h; exact Z6 h
theorem efK_alg (hV:Alg V) (hVD:Tj VD) (o:Oper) (σ:St) (K:Eff->Option R):efK TI G Hh Sg V VD o σ K=(Z1 TI G Hh Sg V VD o σ).bind K:=by
 unfold Z1 efK;split
 ·split
  ·rename_i t _; cases t<;>rfl
  ·rfl
 ·split
  ·split
   ·split
    ·rfl
    ·split
     ·rename_i x _
      cases wZ x.2 with
      | false=>rfl
      | true=>simp only[cond_true]; rw[hV _ _ R,hV _ _ Eff]; cases V _ x.1 some<;>rfl
     ·rfl
   ·split
    ·rename_i x _
     cases wZ x.2 with
     | false=>rfl
     | true=>simp only[cond_true]; rw[hVD _ _ _ R,hVD _ _ _ Eff]; cases VD _ _ x.1 some<;>rfl
    ·rfl
  ·split
   ·rename_i x _
    cases wZ x.2 with
    | false=>rfl
    | true=>simp only[cond_true]; rw[hVD _ _ _ R,hVD _ _ _ Eff]; cases VD _ _ x.1 some<;>rfl
   ·rfl
  ·split
   ·rename_i x _
    cases wZ x.2 with
    | false=>rfl
    | true=>simp only[cond_true]; rw[hVD _ _ _ R,hVD _ _ _ Eff]; cases VD _ _ x.1 some<;>rfl
   ·rfl
  ·split
   ·rename_i x _
    cases wZ x.2 with
    | false=>rfl
    | true=>simp only[cond_true]; rw[hVD _ _ _ R,hVD _ _ _ Eff]; cases VD _ _ x.1 some<;>rfl
   ·rfl
  ·rfl
 ·split
  ·rename_i b e _
   cases b with
   | false=>rfl
   | true =>
    simp only[cond_true];split
    ·exact Z7 _ _ (fun j=>⟨.loc _ j,.none⟩) K _ _
    ·rfl
  ·rfl
 ·split
  ·rename_i b e _; cases b<;>rfl
  ·rfl
def tM (all:List Oper) (o:Oper) (σ:St):Option Bool :=
 match o.guard with
 | none=>some true
 | some (g,want)=>match uy all g with
  | none=>none
  | some s=>match σ.env s with
   | .d (.c (.v (.bool b)))=>some (b==want)
   | .skip=>some false
   | _=>none
def Zz (TI:Nat->TS) (G:Nat->Option vD) (Hh:Hn) (Sg:Nat->Sig) (V:vP Sg) (VD:vk Hh) (all:List Oper) (o:Oper) (σ:St):Option Eff :=
 match tM all o σ with
 | none=>none
 | some true=>Z1 TI G Hh Sg V VD o σ
 | some false=>some ⟨.skip,.none⟩
theorem Tm {α:Type} (f:Nat->α) (s:Nat) (e:α) (h:f s=e):upd f s e=f:=by
 funext x
 by_cases hx:x=s
 ·subst hx; rw[xC,h]
 ·rw[wd _ _ hx]
theorem oK_eq (hV:Alg V) (hVD:Tj VD) (all:List Oper) (o:Oper) (σ:St) (K:St->List Nat->Option R) :
  oK TI G Hh Sg V VD N all o σ K=(Zz TI G Hh Sg V VD all o σ).bind fun e=>(vr Hh.sp N σ o.dst e).bind fun σ'=>K σ' (wr o.dst e.mem):=by
 have hrun:∀σ,Ts TI G Hh Sg V VD N o σ K=(Z1 TI G Hh Sg V VD o σ).bind fun e=>(vr Hh.sp N σ o.dst e).bind fun σ'=>K σ' (wr o.dst e.mem):=by
  intro σ;unfold Ts;rw[efK_alg hV hVD];cases Z1 TI G Hh Sg V VD o σ with
  | none=>rfl
  | some e =>
   simp only[Option.bind_some,vr];cases qJ Hh.sp σ o.dst e.mem with
   | none=>rfl
   | some b =>
    cases b with
    | false=>rfl
    | true =>
     simp only[cond_true];cases uq σ o.dst e.mem with
     | none=>rfl
     | some σ' =>
      simp only;cases o.dst with
      | none=>rfl
      | some s=>simp only; cases Nat.blt s N<;>rfl
 have hskip:WK Hh N o σ K=(vr Hh.sp N σ o.dst ⟨.skip,.none⟩).bind fun σ'=>K σ' []:=by
  unfold WK;cases vr Hh.sp N σ o.dst ⟨.skip,.none⟩<;>rfl
 unfold oK Zz tM;cases o.guard with
 | none=>exact hrun σ
 | some g =>
  obtain ⟨g,want⟩:=g;simp only;cases uy all g with
  | none=>rfl
  | some s =>
   simp only;generalize hb:σ.env s=e;split
   ·rename_i b
    have e1:∀c,b=c->({σ with env:=upd σ.env s (.d (.c (.v (.bool c))))}:St)=σ:=by
     intro c hc; subst hc; rw[Tm _ _ _ hb]
    cases b
    ·rw[e1 false rfl]
     cases want
     ·simp only[cond_false]; exact hrun σ
     ·simp only[cond_false,cond_true]; rw[hskip]; rfl
    ·rw[e1 true rfl]
     cases want
     ·simp only[cond_false,cond_true]; rw[hskip]; rfl
     ·simp only[cond_true]; exact hrun σ
   ·rw[hskip]; rfl
   ·rename_i h1 h2
    split<;>first | rfl | simp_all
def SameAt (l:List Nat) (σ σ':St):Prop:=∀s,(2*s+1∈l->σ.box s=σ'.box s)/\(2*s+2∈l->σ.own s=σ'.own s)
theorem SameAt.mono {l k:List Nat} {σ σ':St} (h:SameAt l σ σ') (hs:∀x∈k,x∈l):SameAt k σ σ':=fun s=>⟨fun hx=>(h s).1 (hs _ hx),fun hx=>(h s).2 (hs _ hx)⟩
variable {σ σ':St}
theorem VF {t:TS} {x:Ent} (h:SameAt (plE x) σ σ'):uJ t σ x=uJ t σ' x:=by
 cases x with
 | loc s off=>simp only[uJ]; rw[(h s).1 (by simp[plE])]
 | locx s i=>simp only[uJ]; rw[(h s).1 (by simp[plE])]
 | opos s i off=>simp only[uJ]; rw[(h s).2 (by simp[plE])]
 | _=>rfl
theorem WI {t:TS} {x y:Ent} (h:SameAt (plE x) σ σ'):ZG t σ x y=ZG t σ' x y:=by
 unfold ZG;congr 1
 unfold X5;split
 ·rename_i s off _; rw[(h s).1 (by simp[plE])]
 ·rename_i s i _ _; rw[(h s).1 (by simp[plE])]
 ·rename_i s i off _; rw[(h s).2 (by simp[plE])]
 ·rfl
theorem Yl {t:TS} {x i:Ent} (h:SameAt (plE x) σ σ'):ui t σ x i=ui t σ' x i:=by
 unfold ui;split
 ·split
  ·rfl
  ·rfl
  ·rename_i s; rw[(h s).2 (by simp[plE,plC])]
  ·rename_i s lo hi; rw[(h s).2 (by simp[plE,plC])]
  ·rename_i s off; rw[(h s).1 (by simp[plE])]
  ·rfl
  ·rfl
 ·rfl
theorem WJ {t:TS} {x:Ent} {lo hi:Option Ent} (h:SameAt (plE x) σ σ'):ZI t σ x lo hi=ZI t σ' x lo hi:=by
 unfold ZI;split
 ·split
  ·rfl
  ·rfl
  ·rfl
  ·rename_i s; rw[(h s).2 (by simp[plE,plC])]
  ·rfl
 ·rfl
theorem tC {x:Ent} (h:SameAt (plE x) σ σ'):ug σ x=ug σ' x:=by
 unfold ug;split
 ·rfl
 ·rfl
 ·rename_i s; rw[(h s).2 (by simp[plE,plC])]
 ·rename_i s lo hi; rw[(h s).2 (by simp[plE,plC])]
 ·rfl
theorem WD {t:TS} {dst:Option Nat} {x y:Ent} (h:SameAt (plE x) σ σ') (hy:SameAt (plE y) σ σ'):qF t σ dst x y=qF t σ' dst x y:=by
 have hn:∀e,WZ σ e y=WZ σ' e y:=by
  intro e;unfold WZ;split
  ·rfl
  ·rw[tC hy]
 unfold qF;split
 ·rw[hn]
  split
  ·rfl
  ·split
   ·rfl
   ·rename_i s; rw[(h s).2 (by simp[plE,plC])]
   ·rename_i s lo hi; rw[(h s).2 (by simp[plE,plC])]
   ·rfl
 ·rfl
theorem Xv {dst:Option Nat} {b:Builtin} {ts:List Nat} {args:List Ent} (h:∀x∈args,SameAt (plE x) σ σ'):tB TI σ dst b ts args=tB TI σ' dst b ts args:=by
 unfold tB;split
 ·rename_i x
  have hs:=tC (h x (by simp));split
  ·split
   ·rfl
   ·split
    ·rfl
    ·split
     ·rfl
     ·rfl
     ·rw[hs]
  ·rfl
 ·rename_i x y
  split
  ·split
   ·exact WD (h x (by simp)) (h y (by simp))
   ·rfl
  ·rfl
 ·rfl
 ·rfl
 ·rfl
theorem VH {c:C} (h:SameAt (plC [c]) σ σ'):qa σ c=qa σ' c:=by
 cases c with
 | own s=>simp only[qa]; rw[(h s).2 (by simp[plC])]
 | vw s lo hi=>simp only[qa]; rw[(h s).2 (by simp[plC])]
 | _=>rfl
theorem Uq:∀{l:List C} {c:C},c∈l->∀x∈plC [c],x∈plC l
 | d::r,c,hc,x,hx=>by
  rcases List.mem_cons.1 hc with rfl | hc
  ·cases c<;>simp_all [plC]
  ·have:=Uq hc x hx
   cases d<;>simp_all [plC]
theorem X8 {x:Ent} (h:SameAt (plE x) σ σ') (a:AT):wR σ x a=wR σ' x a:=by
 cases a with
 | io t =>
  cases x with
  | loc s off=>simp only[wR]; rw[(h s).1 (by simp[plE])]
  | _=>rfl
 | d k =>
  cases k with
  | c t=>rfl
  | b t =>
   simp only[wR];split
   ·rfl
   ·rename_i s lo hi; rw[(h s).2 (by simp[plE,plC])]
   ·rw[tC h]
  | g t =>
   cases x with
   | d y =>
    cases y with
    | g l =>
     simp only[wR];rw[show l.map (qa σ)=l.map (qa σ') from List.map_congr_left fun c hc=>VH (h.mono fun x hx=>by simp only[plE]; exact Uq hc x hx)]
    | _=>rfl
   | _=>rfl
  | a k=>rfl
  | p t =>
   cases x with
   | loc s off=>simp only[wR]; rw[(h s).1 (by simp[plE])]
   | _=>rfl
  | cl t=>rfl
  | _=>rfl
theorem tl:∀{as:List AT} {es:List Ent},(∀x∈es,SameAt (plE x) σ σ')->xM σ as es=xM σ' as es
 | [],[],_=>rfl
 | [],_::_,_=>rfl
 | _::_,[],_=>rfl
 | a::as,e::es,h=>by
  simp only[xM];rw[X8 (h e (by simp)),tl (fun x hx=>h x (by simp[hx]))]
def Xm (G:Nat->Option vD) (σ σ':St) (l:List Operand):Prop:=∀x∈l,σ.ev G x=σ'.ev G x
theorem qS:∀{ps:List (Nat×Operand)},Xm G σ σ' (ps.map (·.2))->uo G σ ps=uo G σ' ps
 | [],_=>rfl
 | (i,x)::r,h=>by
  simp only[uo];rw[h x (by simp),qS (fun y hy=>h y (by simp at hy ⊢; right; exact hy))]
theorem YT {l:List Operand} (h:Xm G σ σ' l):l.map (σ.ev G)=l.map (σ'.ev G):=List.map_congr_left h
theorem Up:∀{l:List Ent} {e:Ent},e∈l->∀x∈plE e,x∈plL l
 | d::r,e,he,x,hx=>by
  simp only[plL,List.mem_append];rcases List.mem_cons.1 he with rfl | he
  ·exact .inl hx
  ·exact .inr (Up he x hx)
theorem Sh {o:Oper} (h:Xm G σ σ' (tq o.op)) (hp:∀x∈qT o.op,SameAt (plE (σ.ev G x)) σ σ'):efG TI G Hh o σ=efG TI G Hh o σ':=by
 unfold efG;generalize o.op=op at h hp;cases op<;>simp only[tq,qT] at h hp<;>try simp only
 case move x=>rw[h x (by simp)]
 case assign x=>rw[h x (by simp)]
 case box t x=>rw[h x (by simp)]
 case load t x=>rw[<-h x (by simp)]; exact VF (hp x (by simp))
 case store t x y=>rw[<-h x (by simp),<-h y (by simp)]; exact WI (hp x (by simp))
 case fieldAddr t x i=>rw[h x (by simp)]
 case field t x i=>rw[h x (by simp)]
 case indexAddr t x i=>rw[<-h x (by simp),<-h i (by simp)]; exact Yl (hp x (by simp))
 case index t x i=>rw[h x (by simp),h i (by simp)]
 case binOp op t x y u=>rw[h x (by simp),h y (by simp)]
 case unOp op t x=>rw[h x (by simp)]
 case convert u t x=>rw[h x (by simp)]
 case build t ps=>rw[qS h]
 case buildSlice t n ps=>rw[qS h]
 case makeSlice t n c=>rw[h n (by simp),h c (by simp)]
 case extract x i=>rw[h x (by simp)]
 case nilCheck x=>rw[h x (by simp)]
 case slice t x lo hi mx =>
  cases mx with
  | some _=>rfl
  | none =>
   have e1:lo.map (σ.ev G)=lo.map (σ'.ev G):=by
    cases lo with
    | none=>rfl
    | some y=>simp only[Option.map_some]; rw[h y (by simp)]
   have e2:hi.map (σ.ev G)=hi.map (σ'.ev G):=by
    cases hi with
    | none=>rfl
    | some y=>simp only[Option.map_some]; rw[h y (by simp)]
   simp only;rw[<-e1,<-e2,<-h x (by simp)];exact WJ (hp x (by simp))
 case makeFunc fn fa fb =>
  cases fn<;>simp only
  split
  ·rfl
  ·rename_i x _ hb
   rw[<-h x (by simp[hb])];split
   ·rename_i s off hx
    rw[(hp x (by simp[hb]) s).1 (by rw[hx]; simp[plE])]
   ·rfl
   ·rfl
  ·rename_i x z _ hb
   rw[<-h x (by simp[hb]),<-h z (by simp[hb])];split
   ·rename_i s off s' off' t u hx hz _
    rw[(hp x (by simp[hb]) s).1 (by rw[hx]; simp[plE]),(hp z (by simp[hb]) s').1 (by rw[hz]; simp[plE])]
   ·rfl
  ·rename_i x ha _
   rw[<-h x (by simp[ha])]
  ·rfl
 case call c =>
  split
  ·rename_i b hb
   rw[hb] at h;simp only at h;rw[<-YT h];refine Xv fun x hx=>?_
   obtain ⟨y,hy,rfl⟩:=List.mem_map.1 hx;exact hp y hy
  ·rfl
theorem Wc:∀(t:Ty) (x:t.T) (r:List C),plC (t.enc x r)=plC r
 | .int _,_,_=>rfl
 | .bool,_,_=>rfl
 | .str,_,_=>rfl
 | .fn,_,_=>rfl
 | .sl _,_,_=>rfl
 | .bsl _,_,_=>rfl
 | .pt _,_,_=>rfl
 | .bnd _,_,_=>rfl
 | .unit,_,_=>rfl
 | .pair a b,x,r=>by
  show plC (a.enc x.1 (b.enc x.2 r))=_;rw[Wc a,Wc b]
theorem U9 {o:Oper} (h:Xm G σ σ' (tq o.op)) (hp:∀x∈qT o.op,SameAt (plE (σ.ev G x)) σ σ'):Z1 TI G Hh Sg V VD o σ=Z1 TI G Hh Sg V VD o σ':=by
 have hG:=Sh (TI:=TI) (Hh:=Hh) h hp;unfold Z1 efK;generalize o.op=op at h hp ⊢;split
 ·simp only[tq] at h
  rw[h _ (by simp),h _ (by simp),h _ (by simp)]
 ·rename_i f args _
  simp only[tq,qT] at h hp;have hm:args.toList.map (σ.ev G)=args.toList.map (σ'.ev G):=YT fun x hx=>h x (by simp at hx ⊢; right; exact hx)
  have hr:∀(as:List AT) (e:List Ent),(∀x∈e,plE x=[])->xM σ as (args.toList.map (σ.ev G)++e)=xM σ' as (args.toList.map (σ'.ev G)++e):=by
   intro as e he;rw[<-hm];refine tl fun x hx=>?_
   rcases List.mem_append.1 hx with hx | hx
   ·obtain ⟨y,hy,rfl⟩:=List.mem_map.1 hx
    exact hp y hy
   ·rw[he x hx]; intro s; simp
  have hr0:∀(as:List AT),xM σ as (args.toList.map (σ.ev G))=xM σ' as (args.toList.map (σ'.ev G)):=by
   intro as;have:=hr as [] (by simp);simpa using this
  rw[<-h f (by simp)];split
  ·simp only[hr0]
  ·rw[hr _ _ (by simp[plE])]
  ·rw[hr _ _ (by simp[plE])]
  ·rename_i f' t' y' _
   have hr1:∀(as:List AT),xM σ as (.d (.g (t'.enc y' []))::args.toList.map (σ.ev G))=xM σ' as (.d (.g (t'.enc y' []))::args.toList.map (σ'.ev G)):=by
    intro as;rw[<-hm];refine tl fun x hx=>?_
    rcases List.mem_cons.1 hx with rfl | hx
    ·intro s; simp[plE,Wc,plC]
    ·obtain ⟨y,hy,rfl⟩:=List.mem_map.1 hx
     exact hp y hy
   rw[hr1]
  ·rfl
 ·rw[hG]
 ·rw[hG]
theorem YG {t:Nat}:∀{l:List Operand},Operand.tmp t∈l->t∈qd l
 | x::r,h=>by
  rcases List.mem_cons.1 h with rfl | h
  ·simp[qd]
  ·have:=YG h
   cases x<;>simp_all [qd]
theorem Zs {all:List Oper} {o:Oper} (h:∀s∈looks all o,σ.env s=σ'.env s):Xm G σ σ' (tq o.op):=by
 intro x hx;cases x with
 | tmp t =>
  refine h t ?_;have:=YG hx;unfold looks;split
  ·split
   ·exact List.mem_cons_of_mem _ this
   ·exact this
  ·exact this
 | _=>rfl
theorem VB {op:Op} {x:Operand} (h:x∈qT op):x∈tq op:=by
 cases op<;>simp only[qT,tq] at h ⊢<;>try (simp_all; done)
 case call c=>split<;>simp_all
def Xn (k:Nat) (a b:Option DV):Prop:=a=b\/∃l m,a=some (.g l)/\b=some (.g m)/\l.length=m.length/\k<=l.length/\l.take k=m.take k
def HeadS (sp:Nat->Nat) (σ σ':St):Prop:=∀s,0<sp s->Xn (sp s) (σ.box s) (σ'.box s)
theorem HeadS.symm {sp:Nat->Nat} {σ τ:St} (h:HeadS sp σ τ):HeadS sp τ σ:=fun s hs=>by
 rcases h s hs with h | ⟨l,m,h1,h2,h3,h4,h5⟩
 ·exact .inl h.symm
 ·exact .inr ⟨m,l,h2,h1,h3.symm,by omega,h5.symm⟩
theorem UX {t:TS} {off k:Nat} {l m:List C} (hl:l.length=m.length) (hk:off+t.zs.length<=k) (h:l.take k=m.take k):part t off l=part t off m:=by
 have e:∀(j:Nat),(l.drop off).take j=(l.take (off+j)).drop off:=fun j=>by rw[List.drop_take]; congr 1; omega
 have e':∀(j:Nat),(m.drop off).take j=(m.take (off+j)).drop off:=fun j=>by rw[List.drop_take]; congr 1; omega
 have key:(l.drop off).take t.zs.length=(m.drop off).take t.zs.length:=by
  rw[e,e'];have hh:(l.take k).take (off+t.zs.length)=(m.take k).take (off+t.zs.length):=by rw[h]
  rw[List.take_take,List.take_take,Nat.min_eq_left hk] at hh;rw[hh]
 unfold part;rw[key,hl];cases t.agg with
 | true=>rfl
 | false =>
  simp only[cond_false];split
  ·rename_i z x r h1 h2
   rw[h1,h2] at key;cases hm:m.drop off with
   | nil=>rw[hm] at key; simp at key
   | cons y s=>rw[hm] at key; simp at key; rw[h1]; simp[key]
  ·rename_i hne
   split
   ·rename_i z x r h1 h2
    rw[h1,h2] at key;cases hl':l.drop off with
    | nil=>rw[hl'] at key; simp at key
    | cons y s=>exact absurd hl' (hne z y s h1)
   ·rfl
theorem U2 {t:TS} {s off k:Nat} (h:Xn k (σ.box s) (σ'.box s)) (hk:off+t.zs.length<=k):uJ t σ (.loc s off)=uJ t σ' (.loc s off):=by
 simp only[uJ];rcases h with h | ⟨l,m,h1,h2,h3,h4,h5⟩
 ·rw[h]
 ·rw[h1,h2]
  simp only;rw[UX h3 hk h5]
theorem Xs {all:List Oper} {o:Oper} (h:∀s∈looks all o,σ.env s=σ'.env s):uZ TI G Hh o σ=uZ TI G Hh o σ':=by
 have hx:=Zs (G:=G) h;unfold uZ;cases ho:o.op<;>try rfl
 simp only;rw[hx _ (by rw[ho]; simp[tq])]
theorem YF {all:List Oper} {o:Oper} (h:∀s∈looks all o,σ.env s=σ'.env s):ur TI G Hh o σ=ur TI G Hh o σ':=by
 unfold ur;rw[YT fun x hx=>Zs h x (VB hx),Xs h]
theorem YE {o:Oper}:0∈ur TI G Hh o σ:=by
 unfold ur;cases uZ TI G Hh o σ<;>simp
theorem XX {all:List Oper} {o:Oper} (h:∀s∈looks all o,σ.env s=σ'.env s) (hp:SameAt (ur TI G Hh o σ) σ σ') (hh:HeadS Hh.sp σ σ') :
  Zz TI G Hh Sg V VD all o σ=Zz TI G Hh Sg V VD all o σ':=by
 have hg:tM all o σ=tM all o σ':=by
  unfold tM;cases hgd:o.guard with
  | none=>rfl
  | some g =>
   simp only;cases hs:uy all g.1 with
   | none=>rfl
   | some s =>
    simp only;rw[h s (by unfold looks; simp[hgd,hs])]
 have he:Z1 TI G Hh Sg V VD o σ=Z1 TI G Hh Sg V VD o σ':=by
  unfold ur at hp;cases hb:uZ TI G Hh o σ with
  | false =>
   rw[hb] at hp;exact U9 (Zs h) fun x hx=>hp.mono fun y hy=>List.mem_cons_of_mem _ (Up (List.mem_map.2 ⟨x,hx,rfl⟩) y hy)
  | true =>
   unfold uZ at hb;split at hb<;>try simp at hb
   rename_i t x ho;split at hb<;>try simp at hb
   rename_i s off hx;obtain ⟨h1,h2⟩:=hb;have hx':=Zs (G:=G) h x (by rw[ho]; simp[tq]);have key:efG TI G Hh o σ=efG TI G Hh o σ':=by
    unfold efG;rw[ho];simp only;rw[<-hx',hx];exact U2 (hh s h1) h2
   unfold Z1 efK;rw[ho];simp only;rw[key]
 unfold Zz;rw[hg,he]
end
end Go.VS
namespace Go.VS
open Go
section
variable {TI:Nat->TS} {G:Nat->Option vD} {Hh:Hn} {Sg:Nat->Sig} {V:vP Sg} {VD:vk Hh} {N:Nat}
theorem YS {x:Nat}:∀{l:List Nat},U0 x l=true↔x∈l
 | []=>by simp[U0]
 | y::r=>by
  simp only[U0,Bool.or_eq_true,List.mem_cons,YS (l:=r)];constructor
  ·rintro (h | h)
   ·exact .inl (Nat.eq_of_beq_eq_true h).symm
   ·exact .inr h
  ·rintro (h | h)
   ·subst h; exact .inl (by simp)
   ·exact .inr h
theorem qA:∀{l k:List Nat},Tb l k=true->∀x∈l,x ∉ k
 | y::r,k,h,x,hx=>by
  simp only[Tb,Bool.and_eq_true,Bool.not_eq_true'] at h;rcases List.mem_cons.1 hx with rfl | hx
  ·intro hk; rw[YS.2 hk] at h; simp at h
  ·exact qA h.2 x hx
theorem q8 {d:Option Nat} {l:List Nat} (h:Vb d l=false):∀s,d=some s->s ∉ l:=by
 intro s hs hl;subst hs;simp[Vb,YS.2 hl] at h
def vt:List (Nat×DV)->Nat->Option (Option DV)
 | [],_=>none
 | (s,d)::r,p=>match vt r p with
  | some x=>some x
  | none=>if p=s then some (some d) else none
def ZU (dst:Option Nat):ME->Nat->Option (Option DV)
 | .newBox d,p=>if dst=some p then some (some d) else none
 | .setBox s d,p=>if p=s then some (some d) else none
 | .outs l,p=>vt l p
 | _,_=>none
def ZT (dst:Option Nat):ME->Nat->Option Th
 | .newOwn t l,p=>if dst=some p then some (.is ⟨t,l⟩) else none
 | .setOwn s t l,p=>if p=s then some (.is ⟨t,l⟩) else none
 | .grow r t l,p=>if dst=some p then some (.is ⟨t,l⟩) else if p=r then some .dead else none
 | _,_=>none
theorem tD:∀(l:List (Nat×DV)) (f:Nat->Option DV) (p:Nat),uh f l p=(vt l p).getD (f p)
 | [],_,_=>rfl
 | (s,d)::r,f,p=>by
  simp only[uh,vt];rw[tD r];cases vt r p with
  | some x=>rfl
  | none =>
   simp only[Option.getD_none];by_cases hp:p=s
   ·subst hp; simp[xC]
   ·simp[hp,wd _ _ hp]
theorem uQ {σ σ':St} {dst:Option Nat} {m:ME} (h:uq σ dst m=some σ') (h0:0 ∉ wr dst m) :
  σ'.env=σ.env/\(∀p,σ'.box p=(ZU dst m p).getD (σ.box p))/\(∀p,σ'.own p=(ZT dst m p).getD (σ.own p)):=by
 cases m<;>simp only[uq] at h
 case none=>simp at h; subst h; exact ⟨rfl,fun _=>rfl,fun _=>rfl⟩
 case newBox d =>
  split at h<;>try simp at h
  split at h<;>simp at h;subst h;refine ⟨rfl,fun p=>?_,fun _=>rfl⟩;rename_i s _ _;by_cases hp:p=s
  ·subst hp; simp[ZU,xC]
  ·simp[ZU,wd _ _ hp,Ne.symm hp]
 case newOwn t l =>
  split at h<;>try simp at h
  split at h<;>simp at h;subst h;refine ⟨rfl,fun _=>rfl,fun p=>?_⟩;rename_i s _ _;by_cases hp:p=s
  ·subst hp; simp[ZT,xC]
  ·simp[ZT,wd _ _ hp,Ne.symm hp]
 case setBox s d =>
  simp at h; subst h;refine ⟨rfl,fun p=>?_,fun _=>rfl⟩;by_cases hp:p=s
  ·subst hp; simp[ZU,xC]
  ·simp[ZU,wd _ _ hp,hp]
 case setOwn s t l =>
  simp at h; subst h;refine ⟨rfl,fun _=>rfl,fun p=>?_⟩;by_cases hp:p=s
  ·subst hp; simp[ZT,xC]
  ·simp[ZT,wd _ _ hp,hp]
 case grow r t l =>
  split at h<;>try simp at h
  split at h<;>simp at h;subst h;refine ⟨rfl,fun _=>rfl,fun p=>?_⟩;rename_i s _ _;by_cases hp:p=s
  ·subst hp; simp[ZT,xC]
  ·by_cases hr:p=r
   ·subst hr; simp[ZT,wd _ _ hp,xC,Ne.symm hp]
   ·simp[ZT,wd _ _ hp,wd _ _ hr,hr,Ne.symm hp]
 case outs l =>
  simp at h; subst h;exact ⟨rfl,fun p=>tD l _ p,fun _=>rfl⟩
 case freeze s l=>simp[wr] at h0
 case freeze2 s l s' l'=>simp[wr] at h0
theorem YM:∀{l:List (Nat×DV)} {p:Nat},(vt l p).isSome=true->2*p+1∈l.map fun x=>2*x.1+1
 | (s,d)::r,p,h=>by
  simp only[vt] at h;cases hr:vt r p with
  | some x=>exact List.mem_cons_of_mem _ (YM (by rw[hr]; rfl))
  | none =>
   rw[hr] at h;simp only at h;split at h
   ·rename_i e; subst e; simp
   ·simp at h
theorem YQ {dst:Option Nat} {m:ME} {p:Nat} (h:(ZU dst m p).isSome=true):2*p+1∈wr dst m:=by
 cases m<;>simp only[ZU] at h<;>try (simp at h; done)
 case newBox d=>split at h<;>simp at h; rename_i e; subst e; simp[wr]
 case setBox s d=>split at h<;>simp at h; rename_i e; subst e; simp[wr]
 case outs l=>exact YM h
theorem YP {dst:Option Nat} {m:ME} {p:Nat} (h:(ZT dst m p).isSome=true):2*p+2∈wr dst m:=by
 cases m<;>simp only[ZT] at h<;>try (simp at h; done)
 case newOwn t l=>split at h<;>simp at h; rename_i e; subst e; simp[wr]
 case setOwn s t l=>split at h<;>simp at h; rename_i e; subst e; simp[wr]
 case grow r t l =>
  split at h
  ·rename_i e; subst e; simp[wr]
  ·split at h<;>simp at h
   rename_i e; subst e; cases dst<;>simp[wr]
theorem XL {σ τ σ':St} {dst:Option Nat} {m:ME} (h:uq σ dst m=some σ') (hs:SameAt (wr dst m) σ τ):∃τ',uq τ dst m=some τ':=by
 cases m<;>simp only[uq] at h ⊢
 case none=>exact ⟨_,rfl⟩
 case newBox d =>
  split at h<;>try simp at h
  split at h<;>simp at h;rename_i s _ hb;rw[<-(hs s).1 (by simp[wr]),hb];exact ⟨_,rfl⟩
 case newOwn t l =>
  split at h<;>try simp at h
  split at h<;>simp at h;rename_i s _ hb;try simp only
  rw[<-(hs s).2 (by simp[wr]),hb];exact ⟨_,rfl⟩
 case setBox s d=>exact ⟨_,rfl⟩
 case setOwn s t l=>exact ⟨_,rfl⟩
 case grow r t l =>
  split at h<;>try simp at h
  split at h<;>simp at h;rename_i s _ hb;try simp only
  rw[<-(hs s).2 (by simp[wr]),hb];exact ⟨_,rfl⟩
 case outs l=>exact ⟨_,rfl⟩
 case freeze s l=>exact ⟨_,rfl⟩
 case freeze2 s l s' l'=>exact ⟨_,rfl⟩
def tH (f:Nat->Ent) (dst:Option Nat) (e:Ent):Nat->Ent:=match dst with | some s=>upd f s e | none=>f
theorem uF {sp:Nat->Nat} {σ σ1:St} {dst:Option Nat} {e:Eff} (h:vr sp N σ dst e=some σ1) :
  ∃σ',uq σ dst e.mem=some σ'/\σ1={σ' with env:=tH σ'.env dst e.ent}/\(∀s,dst=some s->s<N)/\qJ sp σ dst e.mem=some true:=by
 unfold vr at h;split at h<;>try simp at h
 rename_i b hh;cases b with
 | false=>simp at h
 | true =>
 simp only[cond_true] at h;split at h<;>try simp at h
 rename_i σ' hm;cases dst with
 | none=>simp at h; subst h; exact ⟨σ',hm,rfl,fun _ h=>(by cases h),hh⟩
 | some s =>
  simp only at h;cases hb:Nat.blt s N with
  | false=>simp[hb] at h
  | true =>
   simp[hb] at h;subst h;refine ⟨σ',hm,rfl,fun r hr=>?_,hh⟩;cases hr
   have:=Nat.le_of_ble_eq_true hb; omega
theorem X2 {sp:Nat->Nat} {σ σ':St} {dst:Option Nat} {e:Eff} (h:uq σ dst e.mem=some σ') (hd:∀s,dst=some s->s<N) (hh:qJ sp σ dst e.mem=some true) :
  vr sp N σ dst e=some {σ' with env:=tH σ'.env dst e.ent}:=by
 unfold vr;rw[hh,h];cases dst with
 | none=>rfl
 | some s =>
  have hb:Nat.blt s N=true:=by have:=hd s rfl; exact Nat.ble_eq_true_of_le (by omega)
  simp[hb,tH]
theorem Sw {a b:ByteArray} (h:(a==b)=true):a=b:=by
 rw[beq_toListBytes,ByteArray.toList_eq,ByteArray.toList_eq] at h;have h:=eq_of_beq h;obtain ⟨⟨x⟩⟩:=a;obtain ⟨⟨y⟩⟩:=b;simp at h;rw[h]
theorem Zx:∀{l m:List C},eqC l m=some true->l=m
 | [],[],_=>rfl
 | [],_::_,h=>by simp[eqC] at h
 | _::_,[],h=>by unfold eqC at h; split at h<;>simp_all
 | a::l,b::m,h=>by
  unfold eqC at h;split at h
  ·rename_i e _; cases e
  ·rename_i e1 e2; cases e1; cases e2
   split at h<;>try simp at h
   rename_i hk;split at h<;>simp at h;rename_i q hq;obtain ⟨h1,rfl⟩:=h;rw[hk,h1,Zx hq]
  ·rename_i e1 e2; cases e1; cases e2
   split at h<;>simp at h;rename_i q hq;obtain ⟨h1,rfl⟩:=h;rw[h1,Zx hq]
  ·rename_i e1 e2; cases e1; cases e2
   split at h<;>try simp only[Option.some.injEq,Bool.and_eq_true,reduceCtorEq] at h
   rename_i q hq;obtain ⟨h1,rfl⟩:=h;rw[Sw h1,Zx hq]
  ·simp at h
theorem VN {k:Nat} {a:Option DV} {d:DV} (h:UA k a d=some true):Xn k a (some d):=by
 unfold UA at h;split at h<;>try simp at h
 rename_i l m;cases hb:Nat.beq l.length m.length&&Nat.ble k l.length with
 | false=>simp[hb] at h
 | true =>
  simp only[hb,cond_true] at h;simp only[Bool.and_eq_true] at hb;exact .inr ⟨l,m,rfl,rfl,Nat.eq_of_beq_eq_true hb.1,Nat.le_of_ble_eq_true hb.2,Zx h⟩
theorem qW {sp:Nat->Nat} {σ:St}:∀{l:List (Nat×DV)},qK sp σ l=some true->∀s d,0<sp s->vt l s=some d->Xn (sp s) (σ.box s) d
 | [],_,s,d,_,hd=>by simp[vt] at hd
 | (r,x)::l,h,s,d,hs,hd=>by
  simp only[qK] at h;have hl:qK sp σ l=some true/\(0<sp r->UA (sp r) (σ.box r) x=some true):=by
   cases hb:Nat.beq (sp r) 0 with
   | true=>rw[hb] at h; simp only[cond_true] at h; have:=Nat.eq_of_beq_eq_true hb; exact ⟨h,fun hp=>by omega⟩
   | false =>
    rw[hb] at h;simp only[cond_false] at h;split at h<;>simp at h;rename_i a b ha hb';obtain ⟨rfl,rfl⟩:=h;exact ⟨hb',fun _=>ha⟩
  simp only[vt] at hd;cases ho:vt l s with
  | some y =>
   rw[ho] at hd;simp only at hd;have:=qW hl.1 s y hs ho;first | (simp at hd; subst hd; exact this) | (rw[<-hd]; exact this)
  | none =>
   rw[ho] at hd;simp only at hd;split at hd<;>simp at hd;rename_i e;subst e;subst hd;exact VN (hl.2 hs)
theorem VM {sp:Nat->Nat} {σ:St} {dst:Option Nat} {m:ME} (h:qJ sp σ dst m=some true) {s:Nat} {d:Option DV} (hs:0<sp s) (hd:ZU dst m s=some d):Xn (sp s) (σ.box s) d:=by
 cases m<;>simp only[ZU] at hd<;>try (simp at hd; done)
 case newBox x =>
  split at hd<;>simp at hd;rename_i e;subst e;simp only[qJ] at h;cases hb:Nat.beq (sp s) 0 with
  | true=>have:=Nat.eq_of_beq_eq_true hb; omega
  | false=>simp[hb] at h
 case setBox r x =>
  simp only[qJ] at h;refine qW h s d hs ?_;simp only[vt];exact hd
 case outs l=>exact qW h s d hs hd
theorem qX {sp:Nat->Nat} {σ τ:St}:∀{l:List (Nat×DV)},(∀p∈l,σ.box p.1=τ.box p.1)->qK sp σ l=qK sp τ l
 | [],_=>rfl
 | (s,d)::l,h=>by
  simp only[qK];rw[qX (l:=l) fun p hp=>h p (by simp[hp]),h (s,d) (by simp)]
theorem YX {sp:Nat->Nat} {σ τ:St} {dst:Option Nat} {m:ME} (h:SameAt (wr dst m) σ τ):qJ sp σ dst m=qJ sp τ dst m:=by
 cases m<;>try rfl
 case setBox s d=>exact qX fun p hp=>by simp at hp; subst hp; exact (h _).1 (by simp[wr])
 case outs l=>exact qX fun p hp=>(h _).1 (by simp only[wr]; exact List.mem_map.2 ⟨p,hp,rfl⟩)
theorem tG {f:Nat->Ent} {dst:Option Nat} {e:Ent} {s:Nat} (h:dst≠some s):tH f dst e s=f s:=by
 cases dst with
 | none=>rfl
 | some d=>exact wd _ _ fun hs=>h (by rw[hs])
theorem UW {f:Nat->Ent} {d d':Option Nat} {e e':Ent} (h:∀s,d=some s->d'≠some s):tH (tH f d e) d' e'=tH (tH f d' e') d e:=by
 funext x
 by_cases h1:d=some x
 ·rw[tG (h x h1)]
  subst h1; simp[tH,xC]
 ·rw[tG (dst:=d) h1]
  by_cases h2:d'=some x
  ·subst h2; simp[tH,xC]
  ·rw[tG h2,tG h2,tG h1]
theorem tf {sp:Nat->Nat} {σ σ1:St} {dst:Option Nat} {e:Eff} (h:vr sp N σ dst e=some σ1) {l:List Nat} (hd:∀x∈wr dst e.mem,x ∉ l) (h0:0∈l):SameAt l σ σ1:=by
 obtain ⟨σ',hm,rfl,_,_⟩:=uF h;obtain ⟨_,h2,h3⟩:=uQ hm fun hx=>hd 0 hx h0
 intro s;refine ⟨fun hs=>?_,fun hs=>?_⟩
 ·simp only
  rw[h2];cases hb:ZU dst e.mem s with
  | none=>rfl
  | some x=>exact absurd hs (hd _ (YQ (by rw[hb]; rfl)))
 ·simp only
  rw[h3];cases hb:ZT dst e.mem s with
  | none=>rfl
  | some x=>exact absurd hs (hd _ (YP (by rw[hb]; rfl)))
theorem Yh {sp:Nat->Nat} {σ σ1:St} {dst:Option Nat} {e:Eff} (h:vr sp N σ dst e=some σ1) (h0:0 ∉ wr dst e.mem):HeadS sp σ σ1:=by
 obtain ⟨σ',hm,rfl,_,hh⟩:=uF h;obtain ⟨_,h2,_⟩:=uQ hm h0;intro s hs;simp only;rw[h2];cases hb:ZU dst e.mem s with
 | none=>exact .inl rfl
 | some d=>exact VM hh hs hb
theorem SameAt.symm {l:List Nat} {σ τ:St} (h:SameAt l σ τ):SameAt l τ σ:=fun s=>⟨fun hx=>((h s).1 hx).symm,fun hx=>((h s).2 hx).symm⟩
theorem swap {all:List Oper} {oi oj:Oper} {σ σ1 σ2:St} {ei ej:Eff} {i j mi mj:Nat}
  (hi:Zz TI G Hh Sg V VD all oi σ=some ei) (ai:vr Hh.sp N σ oi.dst ei=some σ1) (hj:Zz TI G Hh Sg V VD all oj σ1=some ej) (aj:vr Hh.sp N σ1 oj.dst ej=some σ2)
  (hf:Wk ⟨i,oi.dst,looks all oi,ur TI G Hh oi σ,wr oi.dst ei.mem,mi⟩ ⟨j,oj.dst,looks all oj,ur TI G Hh oj σ1,wr oj.dst ej.mem,mj⟩=true) :
  ∃σ1',Zz TI G Hh Sg V VD all oj σ=some ej/\vr Hh.sp N σ oj.dst ej=some σ1'/\ur TI G Hh oj σ=ur TI G Hh oj σ1 /\
   Zz TI G Hh Sg V VD all oi σ1'=some ei/\vr Hh.sp N σ1' oi.dst ei=some σ2/\ur TI G Hh oi σ1'=ur TI G Hh oi σ:=by
 simp only[Wk,Bool.and_eq_true,Bool.not_eq_true'] at hf;obtain ⟨⟨⟨⟨⟨f1,f2⟩,f3⟩,f4⟩,f5⟩,f6⟩:=hf;have f1:=q8 f1;have f2:=q8 f2;have f4:=qA f4;have f5:=qA f5;have f6:=qA f6;have hne:∀s,oi.dst=some s->oj.dst≠some s:=fun s h1 h2=>by have:=q8 f3 s h1; rw[h2] at this; simp at this
 have t0j:0∈ur TI G Hh oj σ1:=YE;have t0i:0∈ur TI G Hh oi σ:=YE;obtain ⟨τ1,m1,rfl,n1,g1⟩:=uF ai;have z1:0 ∉ wr oi.dst ei.mem:=fun h=>f4 0 h t0j
 have z2:0 ∉ wr oj.dst ej.mem:=fun h=>f5 0 h t0i
 obtain ⟨b1,b2,b3⟩:=uQ m1 z1;have lj:∀s∈looks all oj,({τ1 with env:=tH τ1.env oi.dst ei.ent}:St).env s=σ.env s:=fun s hs=>by
  show tH τ1.env oi.dst ei.ent s=σ.env s;rw[tG fun h=>f1 s h hs,b1]
 have tj:=YF (TI:=TI) (G:=G) (Hh:=Hh) (o:=oj) lj;have sj:=(tf ai f4 t0j).symm;have hj':=XX (TI:=TI) (Hh:=Hh) (Sg:=Sg) (V:=V) (VD:=VD) lj sj (Yh ai z1).symm;obtain ⟨τ2,m2,rfl,n2,g2⟩:=uF aj;have sw:SameAt (0::wr oj.dst ej.mem) σ {τ1 with env:=tH τ1.env oi.dst ei.ent}:=tf ai (fun x hx=>by
  simp only[List.mem_cons,not_or]; exact ⟨fun e=>z1 (e ▸ hx),f6 x hx⟩) (by simp)
 obtain ⟨τ3,m3⟩:=XL m2 (τ:=σ) (sw.symm.mono fun x hx=>List.mem_cons_of_mem _ hx);have aj':=X2 (N:=N) m3 n2 ((YX (sw.mono fun x hx=>List.mem_cons_of_mem _ hx)).trans g2);obtain ⟨c1,c2,c3⟩:=uQ m3 z2;obtain ⟨d1,d2,d3⟩:=uQ m2 z2;have li:∀s∈looks all oi,σ.env s=({τ3 with env:=tH τ3.env oj.dst ej.ent}:St).env s:=fun s hs=>by
  show σ.env s=tH τ3.env oj.dst ej.ent s;rw[tG fun h=>f2 s h hs,c1]
 have ti:=YF (TI:=TI) (G:=G) (Hh:=Hh) (o:=oi) li;have si:=tf aj' f5 t0i;have hi':=XX (TI:=TI) (Hh:=Hh) (Sg:=Sg) (V:=V) (VD:=VD) li si (Yh aj' z2);have sw':SameAt (0::wr oi.dst ei.mem) σ {τ3 with env:=tH τ3.env oj.dst ej.ent}:=tf aj' (fun x hx=>by
  simp only[List.mem_cons,not_or]; exact ⟨fun e=>z2 (e ▸ hx),fun h=>f6 x h hx⟩) (by simp)
 obtain ⟨τ4,m4⟩:=XL m1 (τ:={τ3 with env:=tH τ3.env oj.dst ej.ent}) (sw'.mono fun x hx=>List.mem_cons_of_mem _ hx);obtain ⟨e1,e2,e3⟩:=uQ m4 z1;refine ⟨_,by rw[<-hj',hj],aj',tj.symm,by rw[<-hi',hi],?_,ti.symm⟩;rw[X2 m4 n1 ((YX (sw'.symm.mono fun x hx=>List.mem_cons_of_mem _ hx)).trans g1)];congr 1
 obtain ⟨env4,box4,own4⟩:=τ4;obtain ⟨env2,box2,own2⟩:=τ2;simp only at e1 e2 e3 d1 d2 d3 ⊢;have x1:tH env4 oi.dst ei.ent=tH env2 oj.dst ej.ent:=by
  rw[e1,d1,c1,b1];exact (UW hne).symm
 have x2:box4=box2:=by
  funext p
  rw[e2,d2,c2,b2];cases h1:ZU oi.dst ei.mem p with
  | none=>rfl
  | some y =>
   cases h2:ZU oj.dst ej.mem p with
   | none=>rfl
   | some z=>exact absurd (YQ (by rw[h2]; rfl)) (f6 _ (YQ (by rw[h1]; rfl)))
 have x3:own4=own2:=by
  funext p
  rw[e3,d3,c3,b3];cases h1:ZT oi.dst ei.mem p with
  | none=>rfl
  | some y =>
   cases h2:ZT oj.dst ej.mem p with
   | none=>rfl
   | some z=>exact absurd (YP (by rw[h2]; rfl)) (f6 _ (YP (by rw[h1]; rfl)))
 rw[x1,x2,x3]
end
end Go.VS
namespace Go.VS
open Go
section
variable {TI:Nat->TS} {G:Nat->Option vD} {Hh:Hn} {Sg:Nat->Sig} {V:vP Sg} {VD:vk Hh} {N:Nat} {R:Type}
def RunN (TI:Nat->TS) (G:Nat->Option vD) (Hh:Hn) (Sg:Nat->Sig) (V:vP Sg) (VD:vk Hh) (N:Nat) (all:List Oper):List (Oper×FP)->St->St->Prop
 | [],σ,σe=>σ=σe
 | x::l,σ,σe=>∃e σ1,Zz TI G Hh Sg V VD all x.1 σ=some e/\vr Hh.sp N σ x.1.dst e=some σ1/\x.2.dst=x.1.dst/\x.2.looks=looks all x.1/\x.2.T=ur TI G Hh x.1 σ /\
   x.2.W=wr x.1.dst e.mem/\RunN TI G Hh Sg V VD N all l σ1 σe
theorem RunN.front {all:List Oper}:∀(l1:List (Oper×FP)) {x:Oper×FP} {l2:List (Oper×FP)} {σ σe:St},RunN TI G Hh Sg V VD N all (l1++x::l2) σ σe->
  (∀y∈l1,Wk y.2 x.2=true)->RunN TI G Hh Sg V VD N all (x::(l1++l2)) σ σe
 | [],_,_,_,_,h,_=>h
 | y::l1,x,l2,σ,σe,h,hf=>by
  obtain ⟨e,σ1,h1,h2,h3,h4,h5,h6,h7⟩:=h;obtain ⟨e',σ2,k1,k2,k3,k4,k5,k6,k7⟩:=RunN.front l1 h7 fun z hz=>hf z (by simp[hz])
  have hfree:=hf y (by simp);obtain ⟨oy,⟨iy,dy,ly,Ty,Wy,my⟩⟩:=y;obtain ⟨ox,⟨ix,dx,lx,Tx,Wx,mx⟩⟩:=x;simp only at h1 h2 h3 h4 h5 h6 k1 k2 k3 k4 k5 k6 hfree;subst h3 h4 h5 h6 k3 k4 k5 k6;obtain ⟨σ1',s1,s2,s3,s4,s5,s6⟩:=swap h1 h2 k1 k2 hfree;exact ⟨e',σ1',s1,s2,rfl,rfl,s3.symm,rfl,e,σ2,s4,s5,rfl,rfl,s6.symm,rfl,k7⟩
def va (all:List Oper):List FP->Nat->List Oper->List (List Nat×List Nat)->List (Oper×FP)
 | done,j,o::r,p::q=>match qU done o.after.toList with
  | some m=>(o,⟨j,o.dst,looks all o,p.1,p.2,m⟩)::va all (⟨j,o.dst,looks all o,p.1,p.2,m⟩::done) (j+1) r q
  | none=>[]
 | _,_,_,_=>[]
theorem Yf:∀{l:List FP} {i:Nat} {p:FP},Wl i l=some p->p∈l/\p.i=i
 | q::r,i,p,h=>by
  simp only[Wl] at h;cases hb:Nat.beq q.i i with
  | true=>simp[hb] at h; subst h; exact ⟨by simp,Nat.eq_of_beq_eq_true hb⟩
  | false=>simp[hb] at h; have:=Yf h; exact ⟨by simp[this.1],this.2⟩
theorem qk {done:List FP}:∀{es:List Edge} {m:Nat},qU done es=some m->
  (∀a,m.testBit a=true->∃e∈es,Region.binds .any e=true/\∃p∈done,p.i=e.on/\(p.m.testBit a=true\/a=p.i)) /\
  (∀e∈es,Region.binds .any e=true->∃p∈done,p.i=e.on)
 | [],m,h=>by simp[qU] at h; subst h; exact ⟨fun a ha=>by simp at ha,fun e he=>by cases he⟩
 | e::r,m,h=>by
  simp only[qU] at h;cases hb:Region.binds .any e with
  | false =>
   simp only[hb,cond_false] at h;obtain ⟨h1,h2⟩:=qk h;refine ⟨fun a ha=>?_,fun e' he' hb'=>?_⟩
   ·obtain ⟨e',he',r'⟩:=h1 a ha; exact ⟨e',by simp[he'],r'⟩
   ·rcases List.mem_cons.1 he' with rfl | he'
    ·rw[hb] at hb'; cases hb'
    ·exact h2 e' he' hb'
  | true =>
   simp only[hb,cond_true] at h;split at h<;>simp at h;rename_i p m' hp hm;subst h;obtain ⟨h1,h2⟩:=qk hm;obtain ⟨p1,p2⟩:=Yf hp;refine ⟨fun a ha=>?_,fun e' he' hb'=>?_⟩
   ·rw[Nat.testBit_or,Nat.testBit_or,Nat.one_shiftLeft,Nat.testBit_two_pow] at ha
    simp only[Bool.or_eq_true,decide_eq_true_eq] at ha;rcases ha with (ha | ha) | ha
    ·obtain ⟨e',he',r'⟩:=h1 a ha; exact ⟨e',by simp[he'],r'⟩
    ·exact ⟨e,by simp,hb,p,p1,p2,.inl ha⟩
    ·exact ⟨e,by simp,hb,p,p1,p2,.inr ha.symm⟩
   ·rcases List.mem_cons.1 he' with rfl | he'
    ·exact ⟨p,p1,p2⟩
    ·exact h2 e' he' hb'
structure Sound (items:List (Oper×FP)):Prop where
 idx:∀(k:Nat) (x:Oper×FP),items[k]?=some x->x.2.i=k
 lt:items.Pairwise fun x y=>x.2.i<y.2.i
 pair:items.Pairwise fun x y=>y.2.m.testBit x.2.i=true\/Wk x.2 y.2=true
 clos:∀L:Nat->Prop,(∀x∈items,L x.2.i->∀e∈x.1.after.toList,Region.binds .any e=true->L e.on)->
  ∀x∈items,(∀e∈x.1.after.toList,Region.binds .any e=true->L e.on)->∀a,x.2.m.testBit a=true->L a
 edge:∀x∈items,∀e∈x.1.after.toList,Region.binds .any e=true->e.on<x.2.i
theorem qt {all:List Oper}:∀{ops:List Oper} {fs:List (List Nat×List Nat)} {done:List FP} {j:Nat},ue all done j ops fs=true->(∀p∈done,p.i<j)->
  (va all done j ops fs).map (·.1)=ops/\(∀(k:Nat) (x:Oper×FP),(va all done j ops fs)[k]?=some x->x.2.i=j+k)/\(∀x∈va all done j ops fs,j<=x.2.i) /\
  (va all done j ops fs).Pairwise (fun x y=>x.2.i<y.2.i) /\
  (va all done j ops fs).Pairwise (fun x y=>y.2.m.testBit x.2.i=true\/Wk x.2 y.2=true) /\
  (∀p∈done,∀x∈va all done j ops fs,x.2.m.testBit p.i=true\/Wk p x.2=true) /\
  (∀L:Nat->Prop,(∀p∈done,L p.i->∀a,p.m.testBit a=true->L a)->(∀x∈va all done j ops fs,L x.2.i->∀e∈x.1.after.toList,Region.binds .any e=true->L e.on)->
   ∀x∈va all done j ops fs,(∀e∈x.1.after.toList,Region.binds .any e=true->L e.on)->∀a,x.2.m.testBit a=true->L a) /\
  (∀x∈va all done j ops fs,∀e∈x.1.after.toList,Region.binds .any e=true->e.on<x.2.i)
 | [],[],done,j,_,_=>by simp[va]
 | [],_::_,done,j,h,_=>by simp[ue] at h
 | _::_,[],done,j,h,_=>by simp[ue] at h
 | o::r,p::q,done,j,h,hd=>by
  simp only[ue] at h;split at h<;>try simp at h
  rename_i m hm;obtain ⟨h1,h2⟩:=h;obtain ⟨m1,m2⟩:=qk hm;have hit:va all done j (o::r) (p::q)=(o,⟨j,o.dst,looks all o,p.1,p.2,m⟩)::va all (⟨j,o.dst,looks all o,p.1,p.2,m⟩::done) (j+1) r q:=by simp only[va,hm]
  obtain ⟨i1,i2,i3,i4,i5,i6,i7,i8⟩:=qt (done:=⟨j,o.dst,looks all o,p.1,p.2,m⟩::done) h2 (fun p' hp'=>by
   rcases List.mem_cons.1 hp' with rfl | hp'
   ·exact Nat.lt_succ_self j
   ·have:=hd p' hp'; omega)
  rw[hit];generalize hdd:(⟨j,o.dst,looks all o,p.1,p.2,m⟩:FP)=d at*;have hdi:d.i=j:=by rw[<-hdd]
  have hdm:d.m=m:=by rw[<-hdd]
  refine ⟨by simp[i1],fun k x hk=>?_,fun x hx=>?_,List.pairwise_cons.2 ⟨fun x hx=>?_,i4⟩,List.pairwise_cons.2 ⟨fun x hx=>i6 d (by simp) x hx,i5⟩,fun p' hp' x hx=>?_,fun L hL hc x hx=>?_,fun x hx e he hb=>?_⟩
  ·cases k with
   | zero=>simp at hk; subst hk; simpa using hdi
   | succ k=>simp at hk; have:=i2 k x hk; omega
  ·rcases List.mem_cons.1 hx with rfl | hx
   ·simp only; omega
   ·have:=i3 x hx; omega
  ·have:=i3 x hx; simp only; omega
  ·rcases List.mem_cons.1 hx with rfl | hx
   ·have:=h1 p' hp'
    rw[hdm];exact this
   ·exact i6 p' (by simp[hp']) x hx
  ·have hdL:(∀e∈o.after.toList,Region.binds .any e=true->L e.on)->∀a,d.m.testBit a=true->L a:=by
    intro he a ha;rw[hdm] at ha;obtain ⟨e,e1,e2,p',p1,p2,p3⟩:=m1 a ha;have hl:=he e e1 e2;rw[<-p2] at hl;rcases p3 with p3 | p3
    ·exact hL p' p1 hl a p3
    ·rw[p3]; exact hl
   rcases List.mem_cons.1 hx with rfl | hx
   ·exact hdL
   ·refine i7 L (fun p' hp' hl a ha=>?_) (fun y hy=>hc y (by simp[hy])) x hx
    rcases List.mem_cons.1 hp' with rfl | hp'
    ·exact hdL (hc (o,p') (by simp) hl) a ha
    ·exact hL p' hp' hl a ha
  ·rcases List.mem_cons.1 hx with rfl | hx
   ·obtain ⟨p',p1,p2⟩:=m2 e he hb
    have:=hd p' p1;simp only; omega
   ·exact i8 x hx e he hb
theorem XF (hV:Alg V) (hVD:Tj VD) {all:List Oper}:∀{ops:List Oper} {σ:St} {acc:List (List Nat×List Nat)} {K:St->List (List Nat×List Nat)->Option R} {r:R},
  ZS TI G Hh Sg V VD N all ops σ acc K=some r->∃fs σe,K σe (fs.reverse++acc)=some r /\
   ∀done j,ue all done j ops fs=true->RunN TI G Hh Sg V VD N all (va all done j ops fs) σ σe
 | [],σ,acc,K,r,h=>⟨[],σ,by simpa [ZS] using h,fun _ _ _=>rfl⟩
 | o::ops,σ,acc,K,r,h=>by
  simp only[ZS,oK_eq hV hVD] at h;cases he:Zz TI G Hh Sg V VD all o σ with
  | none=>simp[he] at h
  | some e =>
   simp only[he,Option.bind_some] at h;cases ha:vr Hh.sp N σ o.dst e with
   | none=>simp[ha] at h
   | some σ1 =>
    simp only[ha,Option.bind_some] at h;obtain ⟨fs,σe,h1,h2⟩:=XF hV hVD h;refine ⟨(ur TI G Hh o σ,wr o.dst e.mem)::fs,σe,by simpa using h1,fun done j hc=>?_⟩;simp only[ue] at hc;split at hc<;>try simp at hc
    rename_i m hm;simp only[va,hm];exact ⟨e,σ1,he,ha,rfl,rfl,rfl,rfl,h2 _ _ hc.2⟩
def StepW (cx:Cx) (Hh:Hn) (Sg:Nat->Sig) (V:vP Sg) (VD:vk Hh) (ops:Array Oper) (Q:Exit->Act->World->Prop):Prop :=
 ∀(i:Nat) (o:Oper) (σ:St) (e:Eff) (σ1:St) (m:Gh) (a:Act) (w:World) (next:Act->World->Prop),ops[i]?=some o->Rel cx m σ a w->
  Zz cx.TI cx.G Hh Sg V VD ops.toList o σ=some e->vr Hh.sp cx.N σ o.dst e=some σ1->(∀m1 a1 w1,Rel cx m1 σ1 a1 w1->next a1 w1)->wpOp cx.P ops Q i next a w
theorem any_wp {cx:Cx} {ops:Array Oper} {Q:Exit->Act->World->Prop} {items:List (Oper×FP)} {σe:St} (hS:Sound items) (hmap:items.map (·.1)=ops.toList) (hW:StepW cx Hh Sg V VD ops Q)
  (hQ:∀m a w,Rel cx m σe a w->Q .normal a w):∀(fuel:Nat) (listed:Array Bool) (σ:St) (m:Gh) (a:Act) (w:World),
  listed.size=ops.size->(∀x∈items,listed.getD x.2.i false=true->∀e∈x.1.after.toList,Region.binds .any e=true->listed.getD e.on false=true)->
  RunN cx.TI cx.G Hh Sg V VD cx.N ops.toList (items.filter fun x=>!(listed.getD x.2.i true)) σ σe->(items.filter fun x=>!(listed.getD x.2.i true)).length<=fuel->Rel cx m σ a w->
  wpAny cx.P .any ops Q fuel listed a w:=by
 have hops:∀(k:Nat) x,items[k]?=some x->ops[k]?=some x.1:=fun k x hk=>by
  rw[<-Array.getElem?_toList,<-hmap,List.getElem?_map,hk]; rfl
 have hlen:items.length=ops.size:=by have:=congrArg List.length hmap; simpa using this
 have hmem:∀x∈items,∃k:Nat,items[k]?=some x/\x.2.i=k:=fun x hx=>by
  obtain ⟨k,hk⟩:=List.getElem?_of_mem hx;exact ⟨k,hk,hS.idx k x hk⟩
 have hat:∀k,k<ops.size->∃x∈items,x.2.i=k/\items[k]?=some x:=fun k hk=>by
  have:k<items.length:=by omega
  exact ⟨items[k],List.getElem_mem _,hS.idx k _ (List.getElem?_eq_getElem this),List.getElem?_eq_getElem this⟩
 have hsame:∀(listed:Array Bool) (k:Nat),listed.size=ops.size->k<ops.size->listed.getD k true=listed.getD k false:=fun listed k h1 h2=>by
  have:k<listed.size:=by omega
  simp[this]
 have hready:∀(listed:Array Bool),listed.size=ops.size->∀x l,(items.filter fun x=>!(listed.getD x.2.i true))=x::l->x.2.i∈Region.ready .any ops listed:=by
  intro listed hsz x l hl;have hx:x∈items.filter fun x=>!(listed.getD x.2.i true):=by rw[hl]; simp
  rw[List.mem_filter] at hx;obtain ⟨k,hk,hki⟩:=hmem x hx.1;refine mem_ready.2 ⟨by simpa using hx.2,x.1,by rw[hki]; exact hops k x hk,fun e he hb=>?_⟩;have helt:=hS.edge x hx.1 e (Array.mem_toList_iff.2 he) hb;have hklt:k<ops.size:=by have:=hops k x hk; exact (Array.getElem?_eq_some_iff.1 this).1
  obtain ⟨y,hy,hyi,_⟩:=hat e.on (by omega);cases hle:listed.getD e.on true with
  | true=>rw[<-hsame listed _ hsz (by omega)]; exact hle
  | false =>
   exfalso
   have hyr:y∈items.filter fun x=>!(listed.getD x.2.i true):=List.mem_filter.2 ⟨hy,by rw[hyi,hle]; rfl⟩
   rw[hl] at hyr;have hpw:(x::l).Pairwise fun x y=>x.2.i<y.2.i:=by rw[<-hl]; exact hS.lt.filter _
   rcases List.mem_cons.1 hyr with rfl | hyr
   ·omega
   ·have:=(List.pairwise_cons.1 hpw).1 y hyr; omega
 have hfin:∀(listed:Array Bool) (σ:St) (m:Gh) (a:Act) (w:World),listed.size=ops.size->Region.ready .any ops listed=[]->
   RunN cx.TI cx.G Hh Sg V VD cx.N ops.toList (items.filter fun x=>!(listed.getD x.2.i true)) σ σe->Rel cx m σ a w->Q .normal a w:=by
  intro listed σ m a w hsz hr hrun hrel;cases hl:items.filter fun x=>!(listed.getD x.2.i true) with
  | nil=>rw[hl] at hrun; simp only[RunN] at hrun; subst hrun; exact hQ m a w hrel
  | cons x l=>have:=hready listed hsz x l hl; rw[hr] at this; cases this
 intro fuel;induction fuel with
 | zero =>
  intro listed σ m a w hsz hcl hrun hle hrel;have hnil:(items.filter fun x=>!(listed.getD x.2.i true))=[]:=List.eq_nil_of_length_eq_zero (by omega);have hr:Region.ready .any ops listed=[]:=by
   rw[List.eq_nil_iff_forall_not_mem];intro k hk;obtain ⟨h0,o,ho,_⟩:=mem_ready.1 hk;obtain ⟨x,hx,hxi,_⟩:=hat k (Array.getElem?_eq_some_iff.1 ho).1;have:x∈items.filter fun x=>!(listed.getD x.2.i true):=List.mem_filter.2 ⟨hx,by rw[hxi,h0]; rfl⟩
   rw[hnil] at this;cases this
  exact ⟨hr,hfin listed σ m a w hsz hr hrun hrel⟩
 | succ fuel ih =>
  intro listed σ m a w hsz hcl hrun hle hrel;refine ⟨fun hr=>hfin listed σ m a w hsz hr hrun hrel,fun k hk=>?_⟩;obtain ⟨h0,o,ho,hall⟩:=mem_ready.1 hk;have hklt:=(Array.getElem?_eq_some_iff.1 ho).1;obtain ⟨x,hx,hxi,hxk⟩:=hat k hklt;have hxo:x.1=o:=by have:=hops k x hxk; rw[ho] at this; simpa using this.symm
  have hxr:x∈items.filter fun x=>!(listed.getD x.2.i true):=List.mem_filter.2 ⟨hx,by rw[hxi,h0]; rfl⟩
  obtain ⟨l1,l2,hl⟩:=List.append_of_mem hxr;have hpw:(l1++x::l2).Pairwise fun x y=>x.2.i<y.2.i:=by rw[<-hl]; exact hS.lt.filter _
  have hpp:(l1++x::l2).Pairwise fun x y=>y.2.m.testBit x.2.i=true\/Wk x.2 y.2=true:=by rw[<-hl]; exact hS.pair.filter _
  have hbits:=hS.clos (fun a=>listed.getD a false=true) hcl x hx (fun e he hb=>hall e (by rw[<-hxo]; exact Array.mem_toList_iff.1 he) hb);have hfree:∀y∈l1,Wk y.2 x.2=true:=by
   intro y hy;rcases (List.pairwise_append.1 hpp).2.2 y hy x (by simp) with hb | hb
   ·exfalso
    have hyl:=hbits y.2.i hb;have hyr:y∈items.filter fun x=>!(listed.getD x.2.i true):=by rw[hl]; simp[hy]
    rw[List.mem_filter] at hyr;obtain ⟨k',hk',hk''⟩:=hmem y hyr.1;have hlt':y.2.i<ops.size:=by rw[hk'',<-hlen]; exact (List.getElem?_eq_some_iff.1 hk').1
    rw[hsame listed _ hsz hlt'] at hyr;rw[hyl] at hyr;simp at hyr
   ·exact hb
  rw[hl] at hrun;obtain ⟨e,σ1,r1,r2,_,_,_,_,r7⟩:=RunN.front l1 hrun hfree;rw[hxo] at r1 r2;have hfil:(items.filter fun y=>!((listed.setIfInBounds k true).getD y.2.i true))=l1++l2:=by
   have e1:(items.filter fun y=>!((listed.setIfInBounds k true).getD y.2.i true))=(items.filter fun x=>!(listed.getD x.2.i true)).filter fun y=>decide (y.2.i≠k):=by
    rw[List.filter_filter];apply List.filter_congr;intro y _;by_cases hyk:y.2.i=k
    ·have:k<listed.size:=by omega
     simp[hyk,this]
    ·rw[getD_set_ne true (Ne.symm hyk)]; simp[hyk]
   rw[e1,hl,List.filter_append,List.filter_cons];have q1:l1.filter (fun y=>decide (y.2.i≠k))=l1:=List.filter_eq_self.2 fun y hy=>by
    have:=(List.pairwise_append.1 hpw).2.2 y hy x (by simp);simp; omega
   have q2:l2.filter (fun y=>decide (y.2.i≠k))=l2:=List.filter_eq_self.2 fun y hy=>by
    have:=(List.pairwise_cons.1 (List.pairwise_append.1 hpw).2.1).1 y hy;simp; omega
   rw[q1,q2];simp[hxi]
  refine hW k o σ e σ1 m a w _ ho hrel r1 r2 fun m1 a1 w1 hrel1=>?_
  refine ih (listed.setIfInBounds k true) σ1 m1 a1 w1 (by simpa using hsz) ?_ (by rw[hfil]; exact r7) (by rw[hfil]; rw[hl] at hle; simp at hle ⊢; omega) hrel1;intro y hy hyl e' he' hb';by_cases hyk:y.2.i=k
  ·have:y=x:=by
    obtain ⟨k1,hk1,hk2⟩:=hmem y hy;rw[<-hk2,hyk,hxk] at hk1;simpa using hk1.symm
   subst this;exact getD_set_true (hall e' (by rw[<-hxo]; exact Array.mem_toList_iff.1 he') hb')
  ·rw[getD_set_ne false (Ne.symm hyk)] at hyl
   exact getD_set_true (hcl y hy hyl e' he' hb')
end
end Go.VS
namespace Go.VS
open Go
def CallsTo (P:Program) (f:FuncId) (args:Array Value) (w:World) (R:Value->World->Prop):Prop :=
 (∃v w',(callFunc f args).run P w=.ok (.value v) w'/\R v w') \/
 ((callFunc f args).run P w=.ok (.enter f args) w/\Calls P f args w fun | .returned v,w'=>R v w' | _,_=>False)
def Xi:(k:KS)->k.T->Ent
 | .p t,x=>.adr (t.enc x [])
 | k,x=>.d (VX k x)
def qM (w:World) (q:Q) (blk:Nat->Option Nat):Nat->(as:List AT)->TA as->List Value->Prop
 | i,[],_,[]=>∀j,i<=j->blk j=none
 | i,.d k::as,x,v::vs=>blk i=none/\RE w q (Xi k x.1) v/\qM w q blk (i+1) as x.2 vs
 | i,.io t::as,x,v::vs=>(∃b cs T,blk i=some b/\v=.pointer (some ⟨b,0,none⟩)/\w.heap[b]?=some (.cells cs T (0,0))/\RT w q.ok q.okb t x.1 cs.toList) /\
  qM w q blk (i+1) as x.2 vs
 | _,_,_,_=>False
def SM (w:World) (q:Q):List DV->Value->Prop
 | [d],v=>RD w q d v
 | l,v=>∃vs,v=.tuple vs/\All2 (RD w q) l vs.toList
def Ti (w w':World) (q:Q) (blk:Nat->Option Nat):Nat->(as:List AT)->TIo as->Prop
 | _,[],_=>True
 | i,.d _::as,y=>Ti w w' q blk (i+1) as y
 | i,.io t::as,y=>(∃b cs cs' T,blk i=some b/\w.heap[b]?=some (.cells cs T (0,0))/\w'.heap[b]?=some (.cells cs' T (0,0))/\cs'.size=cs.size/\RT w' q.ok q.okb t y.1 cs'.toList) /\
  Ti w w' q blk (i+1) as y.2
def u6 (G:Nat->Option vD) (w:World) (Iq:Nat->Prop):Prop :=
 ∀g o,G g=some o->g<w.heap.size/\¬Iq g/\∀i (h:i<o.l.length),∃us,us.length=o.t.size/\wb w g (0+i*o.t.size) us /\
  ∀w ok okb,RT w ok okb o.t o.l[i] us
def TP:Gh:=⟨fun _=>none,fun _=>none⟩
def qIn (w:World) (X Iq:Nat->Prop):Q:=⟨fun b=>b<w.heap.size/\¬X b/\¬Iq b,fun b=>b<w.heap.size/\¬Iq b,TP⟩
def Zm (w:World) (X Iq:Nat->Prop):Q:=⟨fun b=>b<w.heap.size/\¬X b/\¬Iq b,fun b=>b<w.heap.size/\¬X b/\¬Iq b,TP⟩
structure Xo (G:Nat->Option vD) (w:World) (X Iq:Nat->Prop) (blk:Nat->Option Nat) (as:List AT) (x:TA as) (vs:List Value):Prop where
 glob:u6 G w Iq
 old:∀b,X b\/Iq b->b<w.heap.size
 io:∀b,Iq b↔∃i,blk i=some b
 inj:∀i j b,blk i=some b->blk j=some b->i=j
 args:qM w (qIn w X Iq) blk 0 as x vs
structure Ud (w w':World) (X Iq:Nat->Prop) (blk:Nat->Option Nat) (s:Sig) (y:s.R) (v:Value):Prop where
 size:w.heap.size<=w'.heap.size
 mem:∀b,b<w.heap.size->¬Iq b->w'.heap[b]?=w.heap[b]?
 os:w'.os=w.os
 tape:w'.tape=w.tape
 output:w'.output=w.output
 ret:SM w' (Zm w' X Iq) (qp s.res y.1) v
 ios:Ti w w' (Zm w' X Iq) blk 0 s.args y.2
def vj (P:Program) (G:Nat->Option vD) (f:FuncId) (s:Sig) (x:TA s.args) (y:s.R):Prop :=
 ∀w X Iq blk vs,Xo G w X Iq blk s.args x vs->CallsTo P f vs.toArray w fun v w'=>Ud w w' X Iq blk s y v
theorem tJ {s:Nat}:∀{l:List (Nat×Bool)},Yc s l=true->∀b,(s,b) ∉ l
 | (r,c)::l,h,b,hm=>by
  simp only[Yc,Bool.and_eq_true,Bool.not_eq_true'] at h;rcases List.mem_cons.1 hm with e | hm
  ·cases e; simp at h
  ·exact tJ h.2 b hm
theorem Yj:∀{l:List (Nat×Bool)},wZ l=true->∀{s:Nat} {b c:Bool},(s,b)∈l->(s,c)∈l->b=c
 | (r,d)::l,h,s,b,c,h1,h2=>by
  simp only[wZ,Bool.and_eq_true] at h;rcases List.mem_cons.1 h1 with e1 | h1<;>rcases List.mem_cons.1 h2 with e2 | h2
  ·cases e1; cases e2; rfl
  ·cases e1; exact absurd h2 (tJ h.1 _)
  ·cases e2; exact absurd h1 (tJ h.1 _)
  ·exact Yj h.2 h1 h2
theorem XG {s:Nat}:∀{l k:List (Nat×Bool)},Yc s (l++k)=true->Yc s l=true/\Yc s k=true
 | [],k,h=>⟨rfl,h⟩
 | (r,c)::l,k,h=>by
  simp only[List.cons_append,Yc,Bool.and_eq_true] at h ⊢;have:=XG h.2;exact ⟨⟨h.1,this.1⟩,this.2⟩
theorem tV:∀{l k:List (Nat×Bool)},wZ (l++k)=true->wZ l=true/\wZ k=true/\∀s b c,(s,b)∈l->(s,c) ∉ k
 | [],k,h=>⟨rfl,h,fun _ _ _ h=>by cases h⟩
 | (r,d)::l,k,h=>by
  simp only[List.cons_append,wZ,Bool.and_eq_true] at h ⊢;have h1:=XG h.1;have h2:=tV h.2;refine ⟨⟨h1.1,h2.1⟩,h2.2.1,fun s b c hm hk=>?_⟩;rcases List.mem_cons.1 hm with e | hm
  ·cases e; exact tJ h1.2 c hk
  ·exact h2.2.2 s b c hm hk
def wI (m:Gh):Nat->List AT->List Ent->Nat->Option Nat
 | i,.io _::as,.loc s _::es,n=>if n=i then m.blk s else wI m (i+1) as es n
 | i,_::as,_::es,n=>wI m (i+1) as es n
 | _,_,_,_=>none
section
variable {cx:Cx} {Hh:Hn} {Sg:Nat->Sig} {m:Gh} {σ:St} {a:Act} {w w':World}
theorem Xe:∀{as:List AT} {es:List Ent} {i n:Nat},n<i->wI m i as es n=none
 | [],_,_,_,_=>by simp[wI]
 | .io t::as,[],_,_,_=>by simp[wI]
 | .d k::as,[],_,_,_=>by simp[wI]
 | .d k::as,e::es,i,n,h=>by simp only[wI]; exact Xe (by omega)
 | .io t::as,e::es,i,n,h=>by
  have:=Xe (as:=as) (es:=es) (i:=i+1) (n:=n) (by omega);cases e<;>simp only[wI]<;>first | exact this | skip
  rw[if_neg (by omega)]; exact this
theorem Wi {σ:St} {e:Ent} {t:Ty} {x:t.T} {ss:List (Nat×Bool)} (h:wR σ e (.io t)=some (x,ss)):∃s l,e=.loc s 0/\σ.box s=some (.g l)/\t.decA l=some x/\ss=[(s,true)]:=by
 cases e<;>simp only[wR] at h<;>try (simp at h; done)
 rename_i s off;cases h0:Nat.beq off 0 with
 | false=>simp[h0] at h
 | true =>
  simp only[h0,cond_true] at h;have h0:=xl h0;subst h0;split at h<;>try simp at h
  rename_i l hl;split at h<;>simp at h;rename_i y hy;obtain ⟨rfl,rfl⟩:=h;exact ⟨s,l,rfl,hl,hy,rfl⟩
theorem d_arg {σ:St} {e:Ent} {k:KS} {x:k.T} {ss:List (Nat×Bool)} (h:wR σ e (.d k)=some (x,ss)):∀s b,(s,b)∈ss->b=false:=by
 intro s b hs;cases k with
 | p t =>
  cases e<;>simp only[wR] at h<;>try (simp at h; done)
  ·rename_i s' off
   cases h0:Nat.beq off 0 with
   | false=>simp[h0] at h
   | true =>
    simp only[h0,cond_true] at h;split at h<;>try simp at h
    split at h<;>simp at h;obtain ⟨_,rfl⟩:=h;simp at hs;exact hs.2
  ·split at h<;>simp at h
   obtain ⟨_,rfl⟩:=h;cases hs
 | _ =>
  simp only[wR] at h
  (repeat' (split at h))<;>(try simp at h)<;>(try (obtain ⟨_,rfl⟩:=h; cases hs; done))
  all_goals (try (obtain ⟨_,_,rfl⟩:=h; cases hs; done))
theorem vn {σ:St} {a:AT} {as:List AT} {e:Ent} {es:List Ent} {x:TA (a::as)} {ss:List (Nat×Bool)} (h:xM σ (a::as) (e::es)=some (x,ss)) :
  ∃ss1 ss2,wR σ e a=some (x.1,ss1)/\xM σ as es=some (x.2,ss2)/\ss=ss1++ss2:=by
 simp only[xM] at h;split at h<;>simp at h;rename_i x1 x2 h1 h2;obtain ⟨rfl,rfl⟩:=h;exact ⟨x1.2,x2.2,h1,h2,rfl⟩
theorem qC:∀{as:List AT} {es:List Ent} {x:TA as} {ss:List (Nat×Bool)} {i n b:Nat},xM σ as es=some (x,ss)->wI m i as es n=some b->∃s,(s,true)∈ss/\m.blk s=some b/\i<=n
 | [],[],_,_,_,_,_,_,h=>by simp[wI] at h
 | [],_::_,_,_,_,_,_,h,_=>by simp[xM] at h
 | _::_,[],_,_,_,_,_,h,_=>by simp[xM] at h
 | .d k::as,e::es,x,ss,i,n,b,h,hb=>by
  obtain ⟨s1,s2,h1,h2,rfl⟩:=vn h;simp only[wI] at hb;obtain ⟨s,k1,k2,k3⟩:=qC h2 hb;exact ⟨s,by simp[k1],k2,by omega⟩
 | .io t::as,e::es,x,ss,i,n,b,h,hb=>by
  obtain ⟨s1,s2,h1,h2,rfl⟩:=vn h;obtain ⟨s,l,rfl,_,_,rfl⟩:=Wi h1;simp only[wI] at hb;split at hb
  ·rename_i hn; exact ⟨s,by simp,hb,by omega⟩
  ·obtain ⟨s,k1,k2,k3⟩:=qC h2 hb
   exact ⟨s,by simp[k1],k2,by omega⟩
theorem Z2 (hi:∀s r b,m.blk s=some b->m.blk r=some b->s=r):∀{as:List AT} {es:List Ent} {x:TA as} {ss:List (Nat×Bool)} {i n n' b:Nat},xM σ as es=some (x,ss)->wZ ss=true->
  wI m i as es n=some b->wI m i as es n'=some b->n=n'
 | [],[],_,_,_,_,_,_,_,_,h,_=>by simp[wI] at h
 | [],_::_,_,_,_,_,_,_,h,_,_,_=>by simp[xM] at h
 | _::_,[],_,_,_,_,_,_,h,_,_,_=>by simp[xM] at h
 | .d k::as,e::es,x,ss,i,n,n',b,h,ha,hb,hb'=>by
  obtain ⟨s1,s2,h1,h2,rfl⟩:=vn h;simp only[wI] at hb hb';exact Z2 hi h2 (tV ha).2.1 hb hb'
 | .io t::as,e::es,x,ss,i,n,n',b,h,ha,hb,hb'=>by
  obtain ⟨s1,s2,h1,h2,rfl⟩:=vn h;obtain ⟨s,l,rfl,_,_,rfl⟩:=Wi h1;have key:∀{n:Nat},m.blk s=some b->wI m (i+1) as es n=some b->False:=fun k1 k2=>by
   obtain ⟨r,r1,r2,_⟩:=qC h2 k2;have:=hi s r b k1 r2;subst this;exact (tV ha).2.2 s true true (by simp) r1
  simp only[wI] at hb hb';split at hb<;>split at hb'
  ·omega
  ·exact (key hb hb').elim
  ·exact (key hb' hb).elim
  ·exact Z2 hi h2 (tV ha).2.1 hb hb'
theorem VW {w:World} {q:Q} {t:Ty} {y:t.T} {v:Value} (h:RT w q.ok q.okb t y [v]):RD w q (VX (.c t) y) v:=by
 have h1:=wm h;simp only[VX];split
 ·rename_i c hc
  rw[hc] at h1;exact h1.1
 ·rename_i hno
  have:=h1.len;simp at this;obtain ⟨c,hc⟩:=List.length_eq_one_iff.1 this;exact absurd hc (hno c)
end
end Go.VS
namespace Go.VS
open Go
section
variable {cx:Cx} {Hh:Hn} {Sg:Nat->Sig} {m:Gh} {σ:St} {a:Act} {w w':World}
def uL (cx:Cx) (σ:St) (m:Gh) (b:Nat):Prop:=cx.X b\/cx.Iq b\/qg σ m b
def qr (blk:Nat->Option Nat) (b:Nat):Prop:=∃i,blk i=some b
theorem WA (h:Rel cx m σ a w):∀s r b,m.blk s=some b->m.blk r=some b->s=r:=fun s r b h1 h2=>by
 have:=h.inj (.inl s) (.inl r) b h1 h2; simpa using this
theorem uE (h:Rel cx m σ a w) {as:List AT} {es:List Ent} {x:TA as} {ss:List (Nat×Bool)} {i:Nat} (hr:xM σ as es=some (x,ss)) {b:Nat} (hb:qr (wI m i as es) b) :
  ∃s,(s,true)∈ss/\m.blk s=some b:=by
 obtain ⟨n,hn⟩:=hb;obtain ⟨s,h1,h2,_⟩:=qC hr hn;exact ⟨s,h1,h2⟩
theorem q_in (h:Rel cx m σ a w) {Iq:Nat->Prop} (hio:∀b,Iq b->∃s,m.blk s=some b):QLe w w (cx.q σ m w) (qIn w (uL cx σ m) Iq) where
 ok b hb:=⟨⟨hb.1,fun hx=>by
  rcases hx with hx | hx | hx
  ·exact hb.2.2.1 hx
  ·exact hb.2.2.2 hx
  ·exact hb.2.1 hx,fun hi=>by
  obtain ⟨s,hs⟩:=hio b hi;exact hb.2.1 ⟨.inl s,hs⟩⟩,fun _ _ h=>h⟩
 okb b hb:=⟨⟨hb.1,fun hi=>by
  obtain ⟨s,hs⟩:=hio b hi;exact hb.2.1 ⟨.inl s,hs⟩⟩,fun _ _ h=>h⟩
theorem lend_ok (h:Rel cx m σ a w) {Iq:Nat->Prop} (hio:∀b,Iq b->∃s,m.blk s=some b) {c:C} {v:Value} (hr:RC w (cx.q σ m w) c v) (hp:vG (qa σ c)=true):RC w (qIn w (uL cx σ m) Iq) (qa σ c) v:=by
 have lent:∀b,Lent cx σ m w b->(qIn w (uL cx σ m) Iq).okb b:=by
  intro b hb;refine ⟨hb.1,fun hi=>?_⟩;obtain ⟨s,hs⟩:=hio b hi;rcases hb.2 with h1 | ⟨r,hr⟩
  ·exact h1.2.1 ⟨.inl s,hs⟩
  ·have:=h.inj (.inl s) (.inr r) b hs hr; simp at this
 have hq:=q_in h hio;cases c with
 | own s =>
  simp only[qa] at hp ⊢;split
  ·rename_i ow how
   have:=uU h (ow:=ow) (e:=.d (.c (.own s))) (by simp only[ug,how]) hr;exact SlR.mono (fun b hb=>⟨lent b hb,fun _ _ h=>h⟩) (RT.mono hq.ok hq.okb _) this
  ·rename_i hno; split at hp<;>simp_all [vG]
 | vw s lo hi =>
  simp only[qa] at hp ⊢;split
  ·rename_i ow how
   have:=uU h (ow:=⟨ow.t,(ow.l.take hi).drop lo⟩) (e:=.d (.c (.vw s lo hi))) (by simp only[ug,how]) hr;exact SlR.mono (fun b hb=>⟨lent b hb,fun _ _ h=>h⟩) (RT.mono hq.ok hq.okb _) this
  ·rename_i hno; split at hp<;>simp_all [vG]
 | _=>exact RC.mono_plain hq (by rfl) hr
theorem Tc:∀(t:Ty) (l:List C) (x:t.T) (r:List C),t.dec l=some (x,r)->∀c∈l,c∈r\/vG c=true:=by
 intro t;induction t with
 | pair a b iha ihb =>
  intro l x r h c hc;simp only[Ty.dec] at h;split at h<;>try simp at h
  rename_i x1 r1 h1;split at h<;>simp at h;rename_i x2 r2 h2;obtain ⟨_,rfl⟩:=h;rcases iha _ _ _ h1 c hc with hc | hc
  ·exact ihb _ _ _ h2 c hc
  ·exact .inr hc
 | unit=>intro l x r h c hc; simp[Ty.dec] at h; obtain ⟨_,rfl⟩:=h; exact .inl hc
 | _ =>
  intro l x r h c hc;simp only[Ty.dec,V6,Wu,V5,So,Sm,V7,Sn,V8] at h
  (repeat' (split at h))<;>(try simp at h)
  all_goals (first
   | (obtain ⟨_,_,rfl⟩:=h; rcases List.mem_cons.1 hc with rfl | hc<;>first | exact .inr rfl | exact .inl hc)
   | (obtain ⟨_,rfl⟩:=h; rcases List.mem_cons.1 hc with rfl | hc<;>first | exact .inr rfl | exact .inl hc))
theorem vB {t:Ty} {l:List C} {x:t.T} (h:t.decA l=some x):∀c∈l,vG c=true:=by
 intro c hc;unfold Ty.decA at h;split at h<;>simp at h;rename_i e;rcases Tc t _ _ _ e c hc with h | h
 ·cases h
 ·exact h
theorem TB (w:World) (X Iq:Nat->Prop):∀b,(qIn w X Iq).ok b->(qIn w X Iq).okb b:=fun _ h=>⟨h.1,h.2.2⟩
theorem qe {q q':Q} (hq:QLe w w q q'):∀{l:List C} {vs:List Value},(∀c∈l,vG c=true)->All2 (RC w q) l vs->All2 (RC w q') l vs
 | [],[],_,_=>trivial
 | c::l,v::vs,hp,⟨h1,h2⟩=>⟨RC.mono_plain hq (hp c (by simp)) h1,qe hq (fun d hd=>hp d (by simp[hd])) h2⟩
theorem Ux (h:Rel cx m σ a w) {Iq:Nat->Prop} (hio:∀b,Iq b->∃s,m.blk s=some b) {e:Ent} {v:Value} {ow:vD} {t:Ty} {l:List t.T} (he:ug σ e=some ow) (hc:uv ow.t t ow.l=some l) (hr:RE w (cx.q σ m w) e v) :
  SlR w (qIn w (uL cx σ m) Iq).okb t.size (RT w (qIn w (uL cx σ m) Iq).ok (qIn w (uL cx σ m) Iq).okb t) l v:=by
 have hq:=q_in h hio;obtain ⟨e1,e2⟩:=vQ hc;have:=uU h he hr;subst e1;subst e2;refine SlR.mono (fun b hb=>⟨⟨hb.1,fun hi=>?_⟩,fun _ _ h=>h⟩) (RT.mono hq.ok hq.okb _) this;obtain ⟨s,hs⟩:=hio b hi;rcases hb.2 with h1 | ⟨r,hr⟩
 ·exact h1.2.1 ⟨.inl s,hs⟩
 ·have:=h.inj (.inl s) (.inr r) b hs hr; simp at this
theorem arg_in (h:Rel cx m σ a w) {Iq:Nat->Prop} (hio:∀b,Iq b->∃s,m.blk s=some b) {k:KS} {e:Ent} {v:Value} {x:k.T} {ss:List (Nat×Bool)} (hr:wR σ e (.d k)=some (x,ss))
  (hno:∀s b,(s,b)∈ss->∀k,m.blk s=some k->¬Iq k) (he:RE w (cx.q σ m w) e v):RE w (qIn w (uL cx σ m) Iq) (Xi k x) v:=by
 have hq:=q_in h hio;have hok:=TB w (uL cx σ m) Iq;cases k with
 | c t =>
  simp only[wR] at hr;split at hr<;>try simp at hr
  rename_i c;split at hr<;>simp at hr;rename_i y hy;obtain ⟨rfl,rfl⟩:=hr;have hp:=vB hy c (by simp);have h1:All2 (RC w (qIn w (uL cx σ m) Iq)) [c] [v]:=⟨RC.mono_plain hq hp he,trivial⟩;exact VW (wO hok hy h1)
 | b t =>
  simp only[wR] at hr;split at hr
  ·simp at hr
   obtain ⟨rfl,rfl⟩:=hr;obtain ⟨e1,_⟩:=he.v_eq;subst e1;exact SlR.nil
  ·rename_i s lo hi
   split at hr<;>try simp at hr
   rename_i ow how;split at hr<;>simp at hr;rename_i l hl;obtain ⟨rfl,rfl⟩:=hr;exact Ux h hio (e:=.d (.c (.vw s lo hi))) (ow:=⟨ow.t,(ow.l.take hi).drop lo⟩) (by simp only[ug,how]) hl he
  ·split at hr<;>try simp at hr
   rename_i ow how;split at hr<;>simp at hr;rename_i l hl;obtain ⟨rfl,rfl⟩:=hr;exact Ux h hio how hl he
 | g t =>
  simp only[wR] at hr;split at hr<;>try simp at hr
  rename_i l;split at hr<;>simp at hr;rename_i y hy;obtain ⟨rfl,rfl⟩:=hr;obtain ⟨cs,e1,e2⟩:=he;have hp:=vB hy;have h1:All2 (RC w (qIn w (uL cx σ m) Iq)) (l.map (qa σ)) cs.toList:=by
   rw[All2.map_left];generalize cs.toList=vs at e2;clear hy e1;induction l generalizing vs with
   | nil=>cases vs<;>simp_all [All2]
   | cons c l ih =>
    cases vs with
    | nil=>exact e2.elim
    | cons u vs=>exact ⟨lend_ok h hio e2.1 (hp _ (by simp)),ih (fun d hd=>hp d (by simp at hd ⊢; exact .inr hd)) vs e2.2⟩
  exact ⟨cs,e1,wm (wO hok hy h1)⟩
 | a k =>
  simp only[wR] at hr;split at hr<;>try simp at hr
  obtain ⟨rfl,rfl,rfl⟩:=hr;exact he
 | p t =>
  simp only[wR] at hr;split at hr<;>try simp at hr
  ·rename_i l
   split at hr<;>simp at hr;rename_i y hy;obtain ⟨rfl,rfl⟩:=hr;obtain ⟨b,off,vs,e1,e2,e3,e4,e5⟩:=he;exact ⟨b,off,vs,e1,(hq.okb b e2).1,e3,wm (wO hok hy (qe hq e5 e4)),vJ _ _ _ (by simp)⟩
  ·rename_i s off
   cases h0:Nat.beq off 0 with
   | false=>simp[h0] at hr
   | true =>
    simp only[h0,cond_true] at hr;have h0:=xl h0;subst h0;split at hr<;>try simp at hr
    rename_i l hl;split at hr<;>simp at hr;rename_i y hy;obtain ⟨rfl,rfl⟩:=hr;obtain ⟨b,hb,ev⟩:=he;have hb:m.blk s=some b:=hb;obtain ⟨b',cs,T,k1,k2,k3⟩:=h.box s _ hl;rw[hb] at k1;simp at k1;subst k1;refine ⟨b,0,cs.toList,ev,⟨h.lt k2,hno s false (by simp) b hb⟩,wD k2,wm (wO hok hy (qe hq (vB hy) k3)),vJ _ _ _ (by simp)⟩
 | cl t =>
  simp only[wR] at hr;split at hr<;>try simp at hr
  rename_i f t' y';split at hr<;>simp at hr;rename_i y hy;obtain ⟨rfl,rfl⟩:=hr;obtain ⟨e1,e2⟩:=tA hy;subst e1;subst e2;exact RC.mono_plain (c:=.clo f t' y') hq rfl he
 | _=>simp[wR] at hr
theorem WC (h:Rel cx m σ a w) {Iq:Nat->Prop} (hio:∀b,Iq b->∃s,m.blk s=some b) {all:List (Nat×Bool)} (hap:wZ all=true) (hmem:∀b,Iq b->∃s,(s,true)∈all/\m.blk s=some b) {blk:Nat->Option Nat} :
  ∀{as:List AT} {es:List Ent} {vs:List Value} {x:TA as} {ss:List (Nat×Bool)} {i:Nat},xM σ as es=some (x,ss)->(∀y∈ss,y∈all)->All2 (RE w (cx.q σ m w)) es vs->
   (∀n,i<=n->blk n=wI m i as es n)->qM w (qIn w (uL cx σ m) Iq) blk i as x vs
 | [],[],[],_,_,i,_,_,_,hb=>fun j hj=>by rw[hb j hj]; simp[wI]
 | [],[],_::_,_,_,_,_,_,h,_=>h.elim
 | [],_::_,_,_,_,_,h,_,_,_=>by simp[xM] at h
 | _::_,[],_,_,_,_,h,_,_,_=>by simp[xM] at h
 | _::_,_::_,[],_,_,_,_,_,h,_=>h.elim
 | .d k::as,e::es,v::vs,x,ss,i,hr,hs,⟨he,hes⟩,hb=>by
  obtain ⟨s1,s2,h1,h2,rfl⟩:=vn hr;refine ⟨?_,arg_in h hio h1 (fun s b hsb kb hk hi=>?_) he,WC h hio hap hmem h2 (fun y hy=>hs y (by simp[hy])) hes fun n hn=>?_⟩
  ·rw[hb i (Nat.le_refl _)]; simp only[wI]; exact Xe (by omega)
  ·have hbf:=d_arg h1 s b hsb
   subst hbf;obtain ⟨r,r1,r2⟩:=hmem kb hi;have:=WA h s r kb hk r2;subst this;have:=Yj hap (hs (s,false) (List.mem_append_left _ hsb)) r1;simp at this
  ·rw[hb n (by omega)]; simp only[wI]
 | .io t::as,e::es,v::vs,x,ss,i,hr,hs,⟨he,hes⟩,hb=>by
  obtain ⟨s1,s2,h1,h2,rfl⟩:=vn hr;obtain ⟨s,l,rfl,hl,hy,rfl⟩:=Wi h1;have hq:=q_in h hio;refine ⟨?_,WC h hio hap hmem h2 (fun y hy=>hs y (by simp[hy])) hes fun n hn=>?_⟩
  ·obtain ⟨b,hbk,ev⟩:=he
   have hbk:m.blk s=some b:=hbk;obtain ⟨b',cs,T,k1,k2,k3⟩:=h.box s _ hl;rw[hbk] at k1;simp at k1;subst k1;refine ⟨b,cs,T,?_,ev,k2,wO (TB _ _ _) hy (qe hq (vB hy) k3)⟩;rw[hb i (Nat.le_refl _)]; simp only[wI,if_true]; exact hbk
  ·rw[hb n (by omega)]; simp only[wI]; rw[if_neg (by omega)]
theorem Sd (hG:wJ cx) (h:Rel cx m σ a w) {as:List AT} {es:List Ent} {vs:List Value} {x:TA as} {ss:List (Nat×Bool)} (hr:xM σ as es=some (x,ss)) (hap:wZ ss=true)
  (he:All2 (RE w (cx.q σ m w)) es vs):Xo cx.G w (uL cx σ m) (qr (wI m 0 as es)) (wI m 0 as es) as x vs where
 glob g o hg:=by
  obtain ⟨h1,h2,h3⟩:=hG.at_ g o hg;refine ⟨Nat.lt_of_lt_of_le h1 h.grown,fun hi=>?_,fun i hi=>?_⟩
  ·obtain ⟨s,_,hs⟩:=uE h hr hi
   rcases (h.dom (.inl s) g hs).2 with h' | h'
   ·omega
   ·exact h2 h'.1
  ·obtain ⟨us,u1,u2,u3⟩:=h3 i hi
   exact ⟨us,u1,xY (fun off v hv=>by rw[v7 (h.mem g h1 h2)]; exact hv) u2,u3⟩
 old b hb:=by
  rcases hb with (hb | hb | ⟨p,hp⟩) | hb
  ·exact Nat.lt_of_lt_of_le (h.oldX b (.inl hb)) h.grown
  ·exact Nat.lt_of_lt_of_le (h.oldX b (.inr hb)) h.grown
  ·exact (h.dom p b hp).1
  ·obtain ⟨s,_,hs⟩:=uE h hr hb
   exact (h.dom (.inl s) b hs).1
 io b:=Iff.rfl
 inj i j b h1 h2:=Z2 (WA h) hr hap h1 h2
 args:=WC h (fun b hb=>by obtain ⟨s,_,hs⟩:=uE h hr hb; exact ⟨s,hs⟩) hap (fun b hb=>uE h hr hb) hr (fun _ h=>h) he fun _ _=>rfl
end
end Go.VS
namespace Go.VS
open Go
section
variable {cx:Cx} {Hh:Hn} {Sg:Nat->Sig} {m:Gh} {σ:St} {a:Act} {w w':World}
theorem qy:∀(l k:List (Nat×Bool)),vH (l++k)=vH l++vH k
 | [],_=>rfl
 | (s,true)::l,k=>by simp only[List.cons_append,vH,cond_true,qy l k]
 | (s,false)::l,k=>by simp only[List.cons_append,vH,cond_false,qy l k]
theorem YV:∀{l:List (Nat×Bool)},(∀s b,(s,b)∈l->b=false)->vH l=[]
 | [],_=>rfl
 | (s,b)::l,h=>by
  have:=h s b (by simp);subst this;simp only[vH,cond_false];exact YV fun r c hr=>h r c (by simp[hr])
theorem Vw {q:Q} {blk:Nat->Option Nat}:∀{as:List AT} {es:List Ent} {x:TA as} {ss:List (Nat×Bool)} {i:Nat} {y:TIo as},xM σ as es=some (x,ss)->Ti w w' q blk i as y->
  (∀n,i<=n->blk n=wI m i as es n)->
  (∀p z,vt ((vH ss).zip (ud as y)) p=some z->∃b cs cs' T t y',m.blk p=some b/\w.heap[b]?=some (Obj.cells cs T (0,0))/\w'.heap[b]?=some (Obj.cells cs' T (0,0))/\cs'.size=cs.size /\
   z=some (.g (Ty.enc t y' []))/\RT w' q.ok q.okb t y' cs'.toList) /\
  (∀p,(p,true)∈ss->∃z,vt ((vH ss).zip (ud as y)) p=some z)
 | [],[],x,ss,i,y,hr,_,_=>by
  simp[xM] at hr;obtain ⟨_,rfl⟩:=hr;exact ⟨fun p z h=>by simp[vH,vt] at h,fun p h=>by cases h⟩
 | [],_::_,_,_,_,_,h,_,_=>by simp[xM] at h
 | _::_,[],_,_,_,_,h,_,_=>by simp[xM] at h
 | .d k::as,e::es,x,ss,i,y,hr,hio,hb=>by
  obtain ⟨s1,s2,h1,h2,rfl⟩:=vn hr;have hn:=d_arg h1;obtain ⟨i1,i2⟩:=Vw (as:=as) (i:=i+1) (y:=(y:TIo as)) h2 hio (fun n hn=>by rw[hb n (by omega)]; simp only[wI]);have hz:ud (.d k::as) y=ud as y:=rfl;rw[hz];rw[qy,YV hn,List.nil_append];refine ⟨i1,fun p hp=>?_⟩;rcases List.mem_append.1 hp with hp | hp
  ·have:=hn p true hp; simp at this
  ·exact i2 p hp
 | .io t::as,e::es,x,ss,i,y,hr,⟨hh,hio⟩,hb=>by
  obtain ⟨s1,s2,h1,h2,rfl⟩:=vn hr;obtain ⟨s,l,rfl,hl,hy,rfl⟩:=Wi h1;obtain ⟨i1,i2⟩:=Vw (i:=i+1) (y:=y.2) h2 hio (fun n hn=>by rw[hb n (by omega)]; simp only[wI]; rw[if_neg (by omega)]);have hz:(vH ([(s,true)]++s2)).zip (ud (.io t::as) y)=(s,.g (t.enc y.1 []))::(vH s2).zip (ud as y.2):=by
   rw[qy]; rfl
  rw[hz];refine ⟨fun p z hp=>?_,fun p hp=>?_⟩
  ·simp only[vt] at hp
   cases ht:vt ((vH s2).zip (ud as y.2)) p with
   | some z'=>rw[ht] at hp; simp at hp; subst hp; exact i1 p _ ht
   | none =>
    rw[ht] at hp;simp only at hp;split at hp<;>simp at hp;rename_i hps;subst hps;subst hp;obtain ⟨b,cs,cs',T,b1,b2,b3,b4,b5⟩:=hh;have hbi:=hb i (Nat.le_refl _);simp only[wI,if_true] at hbi;exact ⟨b,cs,cs',T,t,y.1,by rw[<-hbi,b1],b2,b3,b4,rfl,b5⟩
  ·simp only[vt]
   cases ht:vt ((vH s2).zip (ud as y.2)) p with
   | some z'=>exact ⟨_,rfl⟩
   | none =>
    rcases List.mem_append.1 hp with hp | hp
    ·simp at hp
     subst hp;exact ⟨_,by simp only[if_true]; rfl⟩
    ·obtain ⟨z,hz⟩:=i2 p hp
     rw[ht] at hz; cases hz
theorem Sv (h:Rel cx m σ a w) {s:Sig} {es:List Ent} {x:TA s.args} {ss:List (Nat×Bool)} (hr:xM σ s.args es=some (x,ss)) {y:s.R} {v:Value}
  (hp:Ud w w' (uL cx σ m) (qr (wI m 0 s.args es)) (wI m 0 s.args es) s y v) :
  Rel cx m {σ with box:=uh σ.box ((vH ss).zip (ud s.args y.2))} a w' /\
   RE w' (cx.q {σ with box:=uh σ.box ((vH ss).zip (ud s.args y.2))} m w') (X7 s ss y).ent v:=by
 obtain ⟨oA,oB⟩:=Vw hr hp.ios (fun _ _=>rfl);have how:∀p b,w9 {σ with box:=uh σ.box ((vH ss).zip (ud s.args y.2))} m p b↔w9 σ m p b:=fun p b=>by cases p<;>exact Iff.rfl
 have hown:∀b,qg {σ with box:=uh σ.box ((vH ss).zip (ud s.args y.2))} m b↔qg σ m b:=fun b=>exists_congr fun p=>how p b
 have hio:∀b,qr (wI m 0 s.args es) b->∃p cs cs' T,m.blk p=some b/\w.heap[b]?=some (Obj.cells cs T (0,0))/\w'.heap[b]?=some (Obj.cells cs' T (0,0))/\cs'.size=cs.size:=by
  intro b hb;obtain ⟨p,p1,p2⟩:=uE h hr hb;obtain ⟨z,hz⟩:=oB p p1;obtain ⟨b',cs,cs',T,_,_,q1,q2,q3,q4,_⟩:=oA p z hz;rw[p2] at q1;simp at q1;subst q1;exact ⟨p,cs,cs',T,p2,q2,q3,q4⟩
 have hq:QLe w w' (cx.q σ m w) (cx.q {σ with box:=uh σ.box ((vH ss).zip (ud s.args y.2))} m w') :=
  Cx.qle hp.size (fun b _ hb=>(hown b).1 hb) (fun b hb hnb _=>hp.mem b hb fun hi=>by
   obtain ⟨p,_,_,_,hpb,_⟩:=hio b hi;exact hnb ⟨.inl p,hpb⟩)
 have hle:Le w w' (cx.q σ m w) (cx.q {σ with box:=uh σ.box ((vH ss).zip (ud s.args y.2))} m w'):={
  toQLe:=hq
  hd:=fun _ _ h=>h
  blk:=fun _ _ h=>h
  sz:=fun b cs T hb=>by
   by_cases hi:qr (wI m 0 s.args es) b
   ·obtain ⟨p,cs1,cs',T',_,q2,q3,q4⟩:=hio b hi
    rw[hb] at q2;simp at q2;obtain ⟨rfl,rfl⟩:=q2;exact ⟨cs',q3,q4⟩
   ·exact ⟨cs,by rw[hp.mem b (h.lt hb) hi]; exact hb,rfl⟩}
 have hqo:QLeH w' w' (Zm w' (uL cx σ m) (qr (wI m 0 s.args es))) (cx.q {σ with box:=uh σ.box ((vH ss).zip (ud s.args y.2))} m w'):={
  ok:=fun b hb=>⟨⟨hb.1,fun ho=>hb.2.1 (.inr (.inr ((hown b).1 ho))),fun hx=>hb.2.1 (.inl hx),fun hx=>hb.2.1 (.inr (.inl hx))⟩,fun _ _ h=>h⟩
  okb:=fun b hb=>⟨⟨hb.1,fun ho=>hb.2.1 (.inr (.inr ((hown b).1 ho))),fun hx=>hb.2.1 (.inr (.inl hx))⟩,fun _ _ h=>h⟩
  hd:=fun _ _ h=>by simp[Zm,TP] at h}
 refine ⟨?_,?_⟩
 ·exact {
   size:=h.size
   defers:=h.defers
   env:=fun t=>RE.mono hle (h.env t)
   box:=fun p d hd=>by
    simp only[tD] at hd;cases hz:vt ((vH ss).zip (ud s.args y.2)) p with
    | some z =>
     rw[hz] at hd;simp only[Option.getD_some] at hd;obtain ⟨b,cs,cs',T,t,y',q1,q2,q3,q4,q5,q6⟩:=oA p z hz;rw[hd] at q5;simp at q5;subst q5;exact ⟨b,cs',T,q1,q3,wm (RT.mono hqo.ok hqo.okb _ _ _ q6)⟩
    | none =>
     rw[hz] at hd;simp only[Option.getD_none] at hd;obtain ⟨b,cs,T,e1,e2,e3⟩:=h.box p d hd;refine ⟨b,cs,T,e1,?_,RB.mono hle.toQLeH e3⟩;rw[hp.mem b (h.lt e2) fun hi=>?_]
     ·exact e2
     ·obtain ⟨p',p1,p2⟩:=uE h hr hi
      have:=WA h p p' b e1 p2;subst this;obtain ⟨z,hz'⟩:=oB p p1;rw[hz] at hz'; cases hz'
   nobox:=fun p b hb=>by
    simp only[tD];cases hz:vt ((vH ss).zip (ud s.args y.2)) p with
    | some z =>
     obtain ⟨_,_,_,_,_,_,_,_,_,_,q5,_⟩:=oA p z hz;rw[q5]; simp
    | none=>exact h.nobox p b hb
   own:=fun p o ho=>by
    obtain ⟨hd,e1,l⟩:=h.own p o ho;refine ⟨hd,e1,l.mono hq fun b off hb hc=>?_⟩;have hob:w9 σ m (.inr p) b:=⟨o,hd,off,ho,e1,hb,hc⟩;refine hp.mem b (h.dom _ b hob).1 fun hi=>?_
    obtain ⟨p',_,p2⟩:=uE h hr hi;have:=h.inj (.inr p) (.inl p') b hob p2;simp at this
   noown:=h.noown
   dom:=fun p b hb=>⟨Nat.lt_of_lt_of_le (h.dom p b ((how p b).1 hb)).1 hp.size,(h.dom p b ((how p b).1 hb)).2⟩
   inj:=fun p p' b h1 h2=>h.inj p p' b ((how p b).1 h1) ((how p' b).1 h2)
   mem:=fun b hb hi=>by
    rw[hp.mem b (Nat.lt_of_lt_of_le hb h.grown) fun hc=>?_]
    ·exact h.mem b hb hi
    ·obtain ⟨p,_,p2⟩:=uE h hr hc
     rcases (h.dom (.inl p) b p2).2 with h' | h'
     ·omega
     ·exact hi h'.1
   grown:=Nat.le_trans h.grown hp.size
   oldX:=h.oldX
   argna:=h.argna
   arg:=h.arg
   iosz:=fun b cs T hi h0=>let ⟨cs1,h1,s1⟩:=h.iosz b cs T hi h0; let ⟨cs2,h2,s2⟩:=hle.sz b cs1 T h1; ⟨cs2,h2,s2.trans s1⟩
   os:=hp.os.trans h.os
   tape:=hp.tape.trans h.tape
   output:=hp.output.trans h.output}
 ·have hret:=hp.ret
  simp only[X7];generalize qp s.res y.1=l at hret;have tup:∀l,(∃vs,v=.tuple vs/\All2 (RD w' (Zm w' (uL cx σ m) (qr (wI m 0 s.args es)))) l vs.toList)->
    ∃vs,v=.tuple vs/\All2 (RD w' (cx.q {σ with box:=uh σ.box ((vH ss).zip (ud s.args y.2))} m w')) l vs.toList :=
   fun l ⟨vs,e,r⟩=>⟨vs,e,r.mono fun _ _=>RD.mono hqo⟩
  match l,hret with
  | [],hret=>exact tup _ hret
  | [d],hret=>exact RD.mono hqo hret
  | d::d'::r,hret=>exact tup _ hret
end
section
variable {cx:Cx} {m:Gh} {σ:St} {a:Act} {w:World}
theorem Rel.give (h:Rel cx m σ a w) (s:Nat):Rel cx m (T7 σ s) a w:=by
 unfold T7;split;case h_2=>exact h
 rename_i o ho;let σ':St:={env:=fun x=>UB s o.t o.l (σ.env x),box:=fun x=>match σ.box x with | some d=>some (Ye s o.t o.l d) | none=>none,own:=upd σ.own s .dead}
 show Rel cx m σ' a w;have hown':∀r x,σ'.own r=.is x->r≠s/\σ.own r=.is x:=by
  intro r x hr;have hr:upd σ.own s .dead r=.is x:=hr;by_cases e:r=s
  ·subst e; rw[xC] at hr; cases hr
  ·rw[wd _ _ e] at hr; exact ⟨e,hr⟩
 have how:∀p b,w9 σ' m p b->w9 σ m p b/\p≠.inr s:=by
  intro p b hp;cases p with
  | inl r=>exact ⟨hp,by simp⟩
  | inr r =>
   obtain ⟨x,hd,off,h1,h2,h3,h4⟩:=hp;obtain ⟨e1,e2⟩:=hown' r x h1;exact ⟨⟨x,hd,off,e2,h2,h3,h4⟩,by simpa using e1⟩
 have hq:QLe w w (cx.q σ m w) (cx.q σ' m w):=Cx.qle (Nat.le_refl _) (fun b _ ⟨p,hp⟩=>⟨p,(how p b hp).1⟩) (fun _ _ _ _=>rfl);have hqH:QLeH w w (cx.q σ m w) (cx.q σ' m w):={hq with hd:=fun _ _ h=>h};have hLe:Le w w (cx.q σ m w) (cx.q σ' m w):={hqH with blk:=fun _ _ h=>h,sz:=fun b cs T h=>⟨cs,h,rfl⟩};obtain ⟨hd,g1,g2⟩:=h.own s o ho;have good:∀b off,hd.a=some ⟨b,off,none⟩->0<hd.cap->(cx.q σ' m w).ok b:=by
  intro b off hb hc;have hob:w9 σ m (.inr s) b:=⟨o,hd,off,ho,g1,hb,hc⟩;have hdm:=h.dom _ b hob;have hge:cx.w0.heap.size<=b:=by
   rcases hdm.2 with h' | ⟨_,_,h',_⟩
   ·exact h'
   ·simp at h'
  refine ⟨hdm.1,fun ⟨p,hp⟩=>?_,fun hx=>by have:=h.oldX b (.inl hx); omega,fun hx=>by have:=h.oldX b (.inr hx); omega⟩;obtain ⟨h1,h2⟩:=how p b hp;exact h2 (h.inj _ _ b h1 hob)
 have hsl:SlR w (cx.q σ' m w).ok o.t.size (RT w (cx.q σ' m w).ok (cx.q σ' m w).okb o.t) o.l (.slice hd.a hd.len hd.cap) :=
  SlR.mono (fun b hb=>⟨hb,fun _ _ h=>h⟩) (RT.mono hq.ok hq.okb o.t) (g2.slr good)
 have hC:∀c v,RC w (cx.q σ m w) c v->RC w (cx.q σ' m w) (W6 s o.t o.l c) v:=by
  intro c v hc;cases c with
  | own r =>
   simp only[W6];cases hb:Nat.beq r s with
   | false=>exact RC.mono hqH hc
   | true =>
    have e:=xl hb;subst e;obtain ⟨hd',e1,e2⟩:=hc;rw[show (cx.q σ m w).m.hd r=m.hd r from rfl,g1] at e1;simp at e1;subst e1;rw[e2];exact hsl
  | vw r lo hi =>
   simp only[W6];cases hb:Nat.beq r s with
   | false=>exact RC.mono hqH hc
   | true =>
    have e:=xl hb;subst e;obtain ⟨hd',e1,e2,e3,e4⟩:=hc;rw[show (cx.q σ m w).m.hd r=m.hd r from rfl,g1] at e1;simp at e1;subst e1;rw[e4,g2.2.1];exact hsl.cut e2 (by rw[<-g2.1]; exact e3)
  | _=>exact RC.mono hqH hc
 have hD:∀d v,RD w (cx.q σ m w) d v->RD w (cx.q σ' m w) (Ye s o.t o.l d) v:=by
  intro d v hd;cases d with
  | c x=>exact hC x v hd
  | g k =>
   obtain ⟨cs,e,r⟩:=hd;exact ⟨cs,e,All2.map_left.2 (r.mono fun c v=>hC c v)⟩
  | a k x=>exact hd
 have hE:∀e v,RE w (cx.q σ m w) e v->RE w (cx.q σ' m w) (UB s o.t o.l e) v:=by
  intro e v he;cases e with
  | d x=>exact hD x v he
  | t k =>
   obtain ⟨vs,e,r⟩:=he;exact ⟨vs,e,All2.map_left.2 (r.mono fun c v=>hD c v)⟩
  | opos r i off =>
   simp only[UB];cases hb:Nat.beq r s with
   | false=>exact RE.mono hLe he
   | true=>exact trivial
  | _=>exact RE.mono hLe he
 have hbox:∀r d',σ'.box r=some d'->∃d,σ.box r=some d/\d'=Ye s o.t o.l d:=by
  intro r d' hr;have hr:(match σ.box r with | some d=>some (Ye s o.t o.l d) | none=>none)=some d':=hr
  split at hr<;>simp at hr;rename_i d hd;exact ⟨d,hd,hr.symm⟩
 exact {
  size:=h.size
  defers:=h.defers
  env:=fun t=>hE _ _ (h.env t)
  box:=fun r d' hr=>by
   obtain ⟨d,h1,rfl⟩:=hbox r d' hr;obtain ⟨b,cs,T,e1,e2,e3⟩:=h.box r d h1;refine ⟨b,cs,T,e1,e2,?_⟩;cases d with
   | c x=>obtain ⟨v,r1,r2⟩:=e3; exact ⟨v,r1,hC x v r2⟩
   | g k=>exact All2.map_left.2 (All2.mono (fun c v=>hC c v) e3)
   | a k x=>exact e3
  nobox:=fun r b hb hno=>by
   have hno:(match σ.box r with | some d=>some (Ye s o.t o.l d) | none=>none)=none:=hno
   split at hno
   ·cases hno
   ·rename_i h0; exact h.nobox r b hb h0
  own:=fun r x hr=>by
   obtain ⟨e1,e2⟩:=hown' r x hr;obtain ⟨hd',k1,k2⟩:=h.own r x e2;exact ⟨hd',k1,k2.mono hq fun _ _ _ _=>rfl⟩
  noown:=fun r hd' hr hno=>by
   have hno:upd σ.own s .dead r=.no:=hno;by_cases e:r=s
   ·subst e; rw[xC] at hno; cases hno
   ·rw[wd _ _ e] at hno; exact h.noown r hd' hr hno
  dom:=fun p b hp=>h.dom p b (how p b hp).1
  inj:=fun p p' b hp hp'=>h.inj p p' b (how p b hp).1 (how p' b hp').1
  mem:=h.mem
  grown:=h.grown
  oldX:=h.oldX
  argna:=h.argna
  arg:=h.arg
  iosz:=h.iosz
  os:=h.os
  tape:=h.tape
  output:=h.output}
theorem Rel.giveL:∀(l:List Nat) {σ:St},Rel cx m σ a w->Rel cx m (giveL σ l) a w
 | [],_,h=>h
 | s::r,_,h=>Rel.giveL r (h.give s)
end
end Go.VS
namespace Go.VS
open Go
section
variable {cx:Cx} {Hh:Hn} {Sg:Nat->Sig} {V:vP Sg} {VD:vk Hh} {m:Gh} {σ σ1:St} {a:Act} {w w':World} {o:Oper} {e:Eff} {next:Act->World->Prop} {Q:Exit->Act->World->Prop}
structure Yk (cx:Cx) (Hh:Hn) (Sg:Nat->Sig) (V:vP Sg) (VD:vk Hh):Prop where
 na:cx.na=Hh.na
 ts:∀t,uk cx.P t (cx.TI t)
 glob:wJ cx
 alg:Alg V
 algD:Tj VD
 V:∀f x y,V f x some=some y->vj cx.P cx.G f (Sg f) x y
 VD:∀d f x y,VD d f x some=some y->∃g,f=g+1/\vj cx.P cx.G g (Hh.sig d) x y
theorem tm {m':Gh} {σ':St} {v:Value} (ha:vr Hh.sp cx.N σ o.dst e=some σ1) (h:∀σ',uq σ o.dst e.mem=some σ'->Rel cx m' σ' a w'/\RE w' (cx.q σ' m' w') e.ent v):Rel cx m' σ1 (a.put o.dst v) w':=by
 obtain ⟨σ',hm,rfl,hd,_⟩:=uF ha;obtain ⟨h1,h2⟩:=h σ' hm;cases hdst:o.dst with
 | none=>exact h1
 | some s=>exact h1.put (hd s hdst) h2
theorem ZB (hL:Yk cx Hh Sg V VD) (h:Rel cx m σ a w) {s:Sig} {f:Nat} {es:List Ent} {vs:List Value} {x:TA s.args} {ss:List (Nat×Bool)} {y:s.R}
  (hrun:execOp a.eval o=callFunc f vs.toArray) (hr:xM σ s.args es=some (x,ss)) (hap:wZ ss=true) (hes:All2 (RE w (cx.q σ m w)) es vs) (hc:vj cx.P cx.G f s x y)
  (ha:vr Hh.sp cx.N σ o.dst (X7 s ss y)=some σ1) (hn:∀m1 a1 w1,Rel cx m1 σ1 a1 w1->next a1 w1):o.wp cx.P a w next Q:=by
 have hE:=Sd hL.glob h hr hap hes;have hcall:=hc w _ _ _ vs hE;have fin:∀v w',Ud w w' (uL cx σ m) (qr (wI m 0 s.args es)) (wI m 0 s.args es) s y v->next (a.put o.dst v) w':=by
  intro v w' hp;refine hn m _ _ (tm (σ':=σ) ha fun σ' hm=>?_);simp only[X7,uq,Option.some.injEq] at hm;subst hm;exact Sv h hr hp
 unfold Oper.wp;rw[hrun];rcases hcall with ⟨v,w',h1,h2⟩ | ⟨h1,h2⟩
 ·rw[h1]; exact fin v w' h2
 ·rw[h1,Oper.upon_enter]
  refine Calls.mono h2 fun e w'' he=>?_
  cases e with
  | returned v=>exact fin v w'' he
  | panicked c=>exact he.elim
  | outgrown=>exact he.elim
theorem Xr {t:TypeId} {x i:Operand} {b:Bool} {en:Ent} {me:ME} (hg:efG cx.TI cx.G Hh o σ=some (b,⟨en,me⟩)) (ho:o.op=.indexAddr t x i):me=.none:=by
 unfold efG at hg;rw[ho] at hg;simp only at hg;unfold ui at hg;split at hg<;>try simp at hg
 split at hg<;>try simp at hg
 ·cases hz:(cx.TI t).elSz _<;>rw[hz] at hg<;>simp at hg; exact hg.2.2.symm
 ·cases hz:(cx.TI t).elSz _<;>rw[hz] at hg<;>simp at hg; exact hg.2.2.symm
 ·split at hg<;>try simp at hg
  cases hz:(cx.TI t).elSz _<;>rw[hz] at hg<;>simp at hg; exact hg.2.2.symm
 ·split at hg<;>try simp at hg
  cases hz:(cx.TI t).elSz _<;>rw[hz] at hg<;>simp at hg; exact hg.2.2.symm
 ·split at hg
  ·cases hz:Nat.beq _ 0<;>rw[hz] at hg<;>simp at hg; exact hg.2.2.symm
  ·split at hg<;>try simp at hg
   cases hz:Nat.beq _ 0<;>rw[hz] at hg<;>simp at hg; exact hg.2.2.symm
  ·simp at hg
 ·split at hg<;>try simp at hg
  cases hz:(Nat.beq _ _&&Nat.beq _ _)<;>rw[hz] at hg<;>simp at hg; exact hg.2.2.symm
theorem effS_wp (hL:Yk cx Hh Sg V VD) (h:Rel cx m σ a w) (he:Z1 cx.TI cx.G Hh Sg V VD o σ=some e) (ha:vr Hh.sp cx.N σ o.dst e=some σ1)
  (hn:∀m1 a1 w1,Rel cx m1 σ1 a1 w1->next a1 w1):o.wp cx.P a w next Q:=by
 unfold Z1 efK at he;split at he
 ·
  rename_i c x y ho;have hc:=vo hL.glob h c;have hx:=vo hL.glob h x;have hy:=vo hL.glob h y;split at he<;>try simp at he
  rename_i t ht;rw[ht] at hc;obtain ⟨hc,_⟩:=hc.v_eq;have hrun:∀t',t=t'->(execOp a.eval o).run cx.P w=.ok (.value (if t' then a.eval x else a.eval y)) w:=by
   intro t' e; subst e;simp[execOp,ho,hc,asBool]
  unfold Oper.wp;cases t
  ·simp at he
   subst he;rw[hrun false rfl];exact hn m _ _ (tm (σ':=σ) ha fun σ' hm=>by simp only[uq,Option.some.injEq] at hm; subst hm; exact ⟨h,by simpa using hy⟩)
  ·simp at he
   subst he;rw[hrun true rfl];exact hn m _ _ (tm (σ':=σ) ha fun σ' hm=>by simp only[uq,Option.some.injEq] at hm; subst hm; exact ⟨h,by simpa using hx⟩)
 ·
  rename_i f args _ ho;have hf:=vo hL.glob h f;have hargs:=WB hL.glob h args.toList;have hmap:args.map a.eval=(args.toList.map a.eval).toArray:=by apply Array.ext'; simp
  generalize σ.ev cx.G f=ef at he hf;split at he
  ·rename_i fid0
   have hf:a.eval f=fnV fid0:=hf;have hrun:∀fid,fid0=fid+1->execOp a.eval o=callFunc fid (args.toList.map a.eval).toArray:=by
    rintro fid rfl
    simp only[execOp,ho,resolve,hf,fnV,Deferred.ofValue,invoke,hmap];simp[pure_bind]
   split at he
   ·split at he<;>try simp at he
    skip
    have hrun:=hrun _ rfl;split at he<;>try simp at he
    rename_i x hx;cases hap:wZ x.2 with
    | false=>simp[hap] at he
    | true =>
     simp only[hap,cond_true] at he;rw[hL.alg] at he;generalize hv:V _ x.1 some=ov at he;cases ov with
     | none=>simp at he
     | some y =>
      simp at he;subst he;exact ZB hL h hrun hx hap hargs (hL.V _ _ _ hv) ha hn
   ·split at he<;>try simp at he
    rename_i x hx;cases hap:wZ x.2 with
    | false=>simp[hap] at he
    | true =>
     simp only[hap,cond_true] at he;rw[hL.algD] at he;cases hv:VD (o.dst.getD 0) fid0 x.1 some with
     | none=>simp[hv] at he
     | some y =>
      simp[hv] at he;subst he;obtain ⟨g,hg,hcon⟩:=hL.VD _ _ _ _ hv;exact ZB hL h (hrun g hg) hx hap hargs hcon ha hn
  ·rename_i fid t y0
   obtain ⟨b,off,us,hf,k1,k2,k3,k4⟩:=hf;have hrun:execOp a.eval o=callFunc fid (args.toList.map a.eval++[Value.pointer (some ⟨b,off,none⟩)]).toArray:=by
    simp only[execOp,ho,resolve,hf,Deferred.ofValue,invoke,hmap];simp[pure_bind]
   split at he<;>try simp at he
   rename_i x hx;cases hap:wZ x.2 with
   | false=>simp[hap] at he
   | true =>
    simp only[hap,cond_true] at he;rw[hL.algD] at he;cases hv:VD (o.dst.getD 0) (fid+1) x.1 some with
    | none=>simp[hv] at he
    | some y =>
     simp[hv] at he;subst he;obtain ⟨g,hg,hcon⟩:=hL.VD _ _ _ _ hv;have hg:fid=g:=by omega
     subst hg;refine ZB hL h hrun hx hap (hargs.app ⟨?_,trivial⟩) hcon ha hn;exact ⟨b,off,us,rfl,k1,k3,wm k4,vJ _ _ _ (by simp)⟩
  ·rename_i fid t y0 u z0
   obtain ⟨b,off,us,b',off',us',hf,⟨k1,k2,k3,k4⟩,⟨k1',k2',k3',k4'⟩⟩:=hf;have hrun:execOp a.eval o=callFunc fid (args.toList.map a.eval++[Value.pointer (some ⟨b,off,none⟩),Value.pointer (some ⟨b',off',none⟩)]).toArray:=by
    simp only[execOp,ho,resolve,hf,Deferred.ofValue,invoke,hmap];simp[pure_bind]
   split at he<;>try simp at he
   rename_i x hx;cases hap:wZ x.2 with
   | false=>simp[hap] at he
   | true =>
    simp only[hap,cond_true] at he;rw[hL.algD] at he;cases hv:VD (o.dst.getD 0) (fid+1) x.1 some with
    | none=>simp[hv] at he
    | some y =>
     simp[hv] at he;subst he;obtain ⟨g,hg,hcon⟩:=hL.VD _ _ _ _ hv;have hg:fid=g:=by omega
     subst hg;refine ZB hL h hrun hx hap (hargs.app ⟨?_,?_,trivial⟩) hcon ha hn
     ·exact ⟨b,off,us,rfl,k1,k3,wm k4,vJ _ _ _ (by simp)⟩
     ·exact ⟨b',off',us',rfl,k1',k3',wm k4',vJ _ _ _ (by simp)⟩
  ·rename_i fid t y0
   split at he<;>try simp at he
   rename_i x hx;cases hap:wZ x.2 with
   | false=>simp[hap] at he
   | true =>
    simp only[hap,cond_true] at he;rw[hL.algD] at he;cases hv:VD (o.dst.getD 0) fid x.1 some with
    | none=>simp[hv] at he
    | some y =>
     simp[hv] at he;subst he;obtain ⟨g,hg,hcon⟩:=hL.VD _ _ _ _ hv;rcases hf with ⟨h0,_⟩ | ⟨f',us,h0,hf,k4⟩
     ·exact absurd h0 (by omega)
     have h0:g=f':=by omega
     subst h0;have hrun:execOp a.eval o=callFunc g (Value.agg us::args.toList.map a.eval).toArray:=by
      simp only[execOp,ho,resolve,hf,Deferred.ofValue,invoke,hmap];simp[pure_bind]
     exact ZB hL h hrun hx hap ⟨⟨us,rfl,wm k4⟩,hargs⟩ hcon ha hn
  ·simp at he
 ·
  split at he<;>try simp at he
  rename_i b e' hg;cases b with
  | false=>simp at he
  | true =>
   simp only[cond_true] at he;have he:e=e':=by
    split at he
    ·rename_i s off mm sz h1 _ _
     have:=Z6 he;subst this;obtain ⟨en,me⟩:=e';simp only at h1;subst h1;rw[Xr hg (by assumption)]
    ·simpa using he.symm
   subst he;obtain ⟨v,w',m',hr,hd⟩:=Si hL.na hL.ts hL.glob h hg;have key:next (a.put o.dst v) w':=hn m' _ _ (tm (σ':=σ) ha hd)
   unfold Oper.wp;rcases hr with hr | ⟨hr,rfl⟩
   ·rw[hr]; exact key
   ·rw[hr]; exact key
 ·
  split at he<;>try simp at he
  rename_i b e' hg;cases b with
  | false=>simp at he
  | true =>
   simp at he;subst he;obtain ⟨v,w',m',hr,hd⟩:=Si hL.na hL.ts hL.glob h hg;have key:next (a.put o.dst v) w':=hn m' _ _ (tm (σ':=σ) ha hd)
   unfold Oper.wp;rcases hr with hr | ⟨hr,rfl⟩
   ·rw[hr]; exact key
   ·rw[hr]; exact key
theorem W5 {ops:Array Oper} {all:List Oper} (hall:ops.toList=all) (h:Rel cx m σ a w) {b:Bool} (hg:tM all o σ=some b):Region.wanted o (yielded ops a.tmps)=b:=by
 unfold tM at hg;unfold Region.wanted;cases hgd:o.guard with
 | none=>rw[hgd] at hg; simp at hg; simpa using hg
 | some gw =>
  obtain ⟨g,want⟩:=gw;rw[hgd] at hg;simp only at hg ⊢;cases hs:uy all g with
  | none=>rw[hs] at hg; simp at hg
  | some s =>
   rw[hs] at hg;simp only at hg;have hop:(ops[g]?).bind (·.dst)=some s:=by
    unfold uy at hs;rw[<-hall,Array.getElem?_toList] at hs;cases ho:ops[g]? with
    | none=>rw[ho] at hs; simp at hs
    | some o'=>rw[ho] at hs; simpa using hs
   have henv:=h.env s;have hy:yielded ops a.tmps g=match a.tmps[s]? with | some (.bool b)=>some b | _=>none:=by
    unfold yielded;rw[hop];rfl
   split at hg<;>try simp at hg
   ·rename_i c hc
    rw[hc] at henv;obtain ⟨hv,_⟩:=henv.v_eq;have ht:a.tmps[s]?=some (.bool c):=by
     simp only[Array.getD_eq_getD_getElem?] at hv;cases hq:a.tmps[s]? with
     | none=>rw[hq] at hv; simp[Go.undef] at hv
     | some u=>rw[hq] at hv; simpa using hv
    rw[hy,ht,<-hg];cases c<;>cases want<;>rfl
   ·rename_i hc
    rw[hc] at henv;have hv:a.tmps.getD s Go.undef=Go.undef:=henv;have:yielded ops a.tmps g=none:=by
     rw[hy];simp only[Array.getD_eq_getD_getElem?] at hv;cases hq:a.tmps[s]? with
     | none=>rfl
     | some u=>rw[hq] at hv; simp at hv; subst hv; rfl
    rw[this,hg];rfl
theorem Ui (hL:Yk cx Hh Sg V VD) (ops:Array Oper):StepW cx Hh Sg V VD ops Q:=by
 intro i o σ e σ1 m a w next ho h he ha hn
 unfold wpOp;rw[ho];unfold Zz at he;split at he<;>try simp at he
 ·rename_i hg
  simp only[W5 rfl h hg,if_true];exact .inl (effS_wp hL h he ha hn)
 ·rename_i hg
  subst he;simp only[W5 rfl h hg,Bool.false_eq_true,if_false];exact hn m _ _ (tm (σ':=σ) ha fun σ' hm=>by simp only[uq,Option.some.injEq] at hm; subst hm; exact ⟨h,rfl⟩)
theorem ops_wp (hL:Yk cx Hh Sg V VD) {ops:Array Oper} {R:Type} {K:St->Option R} {r:R} (hQ:∀m σ a w,Rel cx m σ a w->K σ=some r->Q .normal a w) :
  ∀(n j:Nat) (σ:St) (m:Gh) (a:Act) (w:World),j+n=ops.size->Rel cx m σ a w->TJ cx.TI cx.G Hh Sg V VD cx.N ops.toList (ops.toList.drop j) σ K=some r->
   wpOps cx.P ops Q (List.range' j n) a w:=by
 intro n;induction n with
 | zero =>
  intro j σ m a w hj h hk;have:ops.toList.drop j=[]:=List.drop_eq_nil_of_le (by simp; omega);rw[this] at hk;exact hQ m σ a w h hk
 | succ n ih =>
  intro j σ m a w hj h hk;have hlt:j<ops.toList.length:=by simp; omega
  rw[List.drop_eq_getElem_cons hlt] at hk;have ho:ops[j]?=some ops.toList[j]:=by rw[<-Array.getElem?_toList]; exact List.getElem?_eq_getElem hlt
  obtain ⟨oj,hoj⟩:∃oj,oj=ops.toList[j]:=⟨_,rfl⟩;rw[<-hoj] at hk ho;simp only[TJ,oK_eq hL.alg hL.algD] at hk;rw[List.range'_succ,wpOps_cons];cases he:Zz cx.TI cx.G Hh Sg V VD ops.toList oj (giveL σ (T8 Hh oj)) with
  | none=>simp[he] at hk
  | some e =>
   simp only[he,Option.bind_some] at hk;cases ha:vr Hh.sp cx.N (giveL σ (T8 Hh oj)) oj.dst e with
   | none=>simp[ha] at hk
   | some σ1 =>
    simp only[ha,Option.bind_some] at hk;exact Ui hL ops j _ _ e σ1 m a w _ ho (h.giveL _) he ha fun m1 a1 w1 h1=>ih (j+1) σ1 m1 a1 w1 (by omega) h1 hk
theorem Rel.drew (h:Rel cx m σ a w):Rel cx m σ a {w with drawn:=w.drawn+1}:=(h.same (w':={w with drawn:=w.drawn+1}) (Nat.le_refl _) (fun _ _=>rfl) rfl rfl rfl).1
theorem UU (hL:Yk cx Hh Sg V VD) {id:Nat} {ops:Array Oper} {R:Type} {K:St->Option R} {r:R} (h:Rel cx m σ a w)
  (hk:TJ cx.TI cx.G Hh Sg V VD cx.N ops.toList ops.toList σ K=some r) (hQ:∀m σ a w,Rel cx m σ a w->K σ=some r->Q .normal a w):(Code.region id ops false).wp cx.P Q a w:=by
 refine wp_region ?_;rw[List.range_eq_range'];exact ops_wp hL hQ ops.size 0 σ m a w (by simp) h (by simpa using hk)
theorem Sj (hm:cx.P.follows .mixedOrders=true) (hL:Yk cx Hh Sg V VD) {id:Nat} {ops:Array Oper} {R:Type} {K:St->Option R} {r:R} (h:Rel cx m σ a w)
  (hk:ZS cx.TI cx.G Hh Sg V VD cx.N ops.toList ops.toList σ [] (fun σ' acc=>bif ue ops.toList [] 0 ops.toList acc.reverse then K σ' else none)=some r)
  (hQ:∀m σ a w,Rel cx m σ a w->K σ=some r->Q .normal a w):(Code.region id ops true).wp cx.P Q a w:=by
 obtain ⟨fs,σe,h1,h2⟩:=XF hL.alg hL.algD hk;simp only[List.append_nil,List.reverse_reverse] at h1;cases hc:ue ops.toList [] 0 ops.toList fs with
 | false=>simp[hc] at h1
 | true =>
  simp only[hc,cond_true] at h1;obtain ⟨i1,i2,_,i4,i5,_,i7,i8⟩:=qt (done:=[]) hc (by simp);have hS:Sound (va ops.toList [] 0 ops.toList fs):={
   idx:=fun k x hx=>by have:=i2 k x hx; omega
   lt:=i4
   pair:=i5
   clos:=fun L hl=>i7 L (by simp) hl
   edge:=i8}
  have hlen:(va ops.toList [] 0 ops.toList fs).length=ops.size:=by have:=congrArg List.length i1; simpa using this
  have hall:((va ops.toList [] 0 ops.toList fs).filter fun x=>!((Array.replicate ops.size false).getD x.2.i true))=va ops.toList [] 0 ops.toList fs:=by
   rw[List.filter_eq_self];intro x hx;obtain ⟨k,hk⟩:=List.getElem?_of_mem hx;have hki:=hS.idx k x hk;have hlt:x.2.i<ops.size:=by rw[hki,<-hlen]; exact (List.getElem?_eq_some_iff.1 hk).1
   simp[hlt]
  refine wp_region_any hm ?_;refine any_wp hS i1 (Ui hL ops) (fun m a w hr=>hQ m σe a w hr h1) ops.size _ σ m a _ (by simp) ?_ (by rw[hall]; exact h2 [] 0 hc) (by rw[hall,hlen]; exact Nat.le_refl _) h.drew;intro x hx hl;obtain ⟨k,hk⟩:=List.getElem?_of_mem hx;have hki:=hS.idx k x hk;have hlt:x.2.i<ops.size:=by rw[hki,<-hlen]; exact (List.getElem?_eq_some_iff.1 hk).1
  simp[hlt] at hl
end
end Go.VS
namespace Go.VS
open Go
theorem All2.of_get {α β:Type} {R:α->β->Prop}:∀{l:List α} {k:List β},l.length=k.length->(∀(i:Nat) a b,l[i]?=some a->k[i]?=some b->R a b)->All2 R l k
 | [],[],_,_=>trivial
 | [],_::_,h,_=>by simp at h
 | _::_,[],h,_=>by simp at h
 | x::l,y::k,h,hr=>⟨hr 0 x y rfl rfl,All2.of_get (by simpa using h) fun i a b h1 h2=>hr (i+1) a b (by simpa using h1) (by simpa using h2)⟩
def Z3 (l:List Value):List (Nat×Nat)->List Value
 | []=>l
 | (j,_)::r=>Z3 (l.set j (.slice none 0 0)) r
section
variable {cx:Cx} {m:Gh} {σ:St} {a:Act} {w:World}
theorem Vk {q:Q}:∀{ows:List (Nat×Nat)} {l:List C} {vs:List Value},All2 (RC w q) l vs->All2 (RC w q) (SB l ows) (Z3 vs ows)
 | [],_,_,h=>h
 | (j,_)::r,l,vs,h=>Vk (ows:=r) (h.set j ⟨rfl,rfl⟩)
theorem Xg:∀{ows:List (Nat×Nat)} {vs:List Value} {i:Nat},(∀n,(i,n) ∉ ows)->(Z3 vs ows)[i]?=vs[i]?
 | [],_,_,_=>rfl
 | (j,n)::r,vs,i,h=>by
  simp only[Z3];rw[Xg fun n hn=>h n (by simp[hn]),List.getElem?_set_ne];intro e; subst e; exact h n (by simp)
theorem Xf:∀{ows:List (Nat×Nat)} {vs:List Value},(Z3 vs ows).length=vs.length
 | [],_=>rfl
 | (j,n)::r,vs=>by simp only[Z3]; rw[Xf]; simp
theorem Z4:∀{ows:List (Nat×Nat)} {l:List C},(qw l ows).length=l.length
 | [],_=>rfl
 | (j,n)::r,l=>by simp only[qw,List.length_set]; exact Z4
theorem Z5:∀{ows:List (Nat×Nat)} {l:List C} {i:Nat} {c:C},(qw l ows)[i]?=some c->(∃n,(i,n)∈ows/\c=.own n)\/((∀n,(i,n) ∉ ows)/\l[i]?=some c)
 | [],_,_,_,h=>.inr ⟨fun _ h=>(by cases h),h⟩
 | (j,n)::r,l,i,c,h=>by
  simp only[qw,List.getElem?_set] at h;by_cases hj:j=i
  ·subst hj
   simp only[if_true] at h;split at h
   ·simp at h; exact .inl ⟨n,by simp,h.symm⟩
   ·simp at h
  ·simp only[hj,if_false] at h
   rcases Z5 h with ⟨k,h1,h2⟩ | ⟨h1,h2⟩
   ·exact .inl ⟨k,by simp[h1],h2⟩
   ·refine .inr ⟨fun k hk=>?_,h2⟩
    rcases List.mem_cons.1 hk with e | hk
    ·cases e; exact hj rfl
    ·exact h1 k hk
def qj (σ:St) (m:Gh) (os:List uf) (n:Nat):Option Hd :=
 match tc os n with
 | some p=>match vL σ (vA σ p.src) with
  | some (s,none)=>m.hd s
  | some (s,some hi)=>(m.hd s).map fun h=>⟨if h.cap=0 then h.a else h.a.map (·.add (0*h.sz)),hi,h.cap,h.sz⟩
  | none=>some ⟨none,0,0,p.t.size⟩
 | none=>none
def keptGh (σ:St) (m:Gh) (h:Shape) (x:h.T):Gh:=⟨fun s=>match (xa h x).box s with | some _=>m.blk s | none=>none,qj σ m h.own⟩
def From (σ:St) (p:uf) (l:List p.t.T):Prop :=
 (∃s o,vL σ (vA σ p.src)=some (s,none)/\σ.own s=.is o/\uv o.t p.t o.l=some l) \/
 (∃s hi o,vL σ (vA σ p.src)=some (s,some hi)/\σ.own s=.is o/\uv o.t p.t (o.l.take hi)=some l) \/
 (vL σ (vA σ p.src)=none/\W3 (vA σ p.src)=true/\l=[])
theorem Zk:∀{os:List uf} {z:TO os},WP σ os=some z->∀n,(tc os n=none/\W9 os z n=.no)\/∃p l,tc os n=some p/\p∈os/\p.n=n/\W9 os z n=.is ⟨p.t,l⟩/\From σ p l
 | [],_,_,n=>.inl ⟨rfl,rfl⟩
 | p::r,z,h,n=>by
  simp only[WP] at h;split at h<;>try simp at h
  rename_i x y hx hy;subst h;simp only[tc,W9];cases hb:Nat.beq n p.n with
  | true =>
   have e:=xl hb;have hb':Nat.beq p.n n=true:=by rw[e]; simp
   refine .inr ⟨p,x,by simp[hb'],by simp,e.symm,by simp,?_⟩;split at hx
   ·rename_i s ho
    split at hx<;>try simp at hx
    rename_i o hs;exact .inl ⟨s,o,ho,hs,hx⟩
   ·rename_i s hi ho
    split at hx<;>try simp at hx
    rename_i o hs;exact .inr (.inl ⟨s,hi,o,ho,hs,hx⟩)
   ·rename_i ho
    cases hn:W3 (vA σ p.src) with
    | false=>simp[hn] at hx
    | true=>simp[hn] at hx; exact .inr (.inr ⟨ho,hn,hx⟩)
  | false =>
   have hb':Nat.beq p.n n=false:=by
    cases hc:Nat.beq p.n n with
    | false=>rfl
    | true=>have:=xl hc; rw[this] at hb; simp at hb
   rcases Zk hy n with ⟨h1,h2⟩ | ⟨p',l,h1,h2,h3,h4,h5⟩
   ·exact .inl ⟨by simp[hb',h1],by simpa using h2⟩
   ·exact .inr ⟨p',l,by simp[hb',h1],by simp[h2],h3,by simpa using h4,h5⟩
theorem Uj (h:Rel cx m σ a w) (s:Src):∃v,RE w (cx.q σ m w) (vA σ s) v:=by
 cases s with
 | env t=>exact ⟨_,h.env t⟩
 | cell s j =>
  simp only[vA];split
  ·rename_i l hl
   split
   ·rename_i c hc
    obtain ⟨b,cs,T,e1,e2,e3⟩:=h.box s _ hl;obtain ⟨v,_,r⟩:=All2.get e3 hc;exact ⟨v,r⟩
   ·exact ⟨.bool true,trivial⟩
  ·exact ⟨.bool true,trivial⟩
theorem own_hd {e:Ent} {v:Value} {s:Nat} (he:vL σ e=some (s,none)) (hr:RE w (cx.q σ m w) e v):∃h,m.hd s=some h/\v=.slice h.a h.len h.cap:=by
 unfold vL at he;split at he<;>try simp at he
 ·subst he; exact hr
 ·rename_i s' lo hi
  cases hb:Nat.beq lo 0<;>simp[hb] at he
theorem vw_hd {e:Ent} {v:Value} {s hi:Nat} (he:vL σ e=some (s,some hi)) (hr:RE w (cx.q σ m w) e v) :
  ∃h,m.hd s=some h/\hi<=h.len/\v=.slice (if h.cap=0 then h.a else h.a.map (·.add (0*h.sz))) hi h.cap:=by
 unfold vL at he;split at he<;>try simp at he
 rename_i s' lo hi';cases hb:Nat.beq lo 0 with
 | false=>simp[hb] at he
 | true =>
  simp[hb] at he;have:=xl hb;subst this;obtain ⟨rfl,rfl⟩:=he;obtain ⟨h,e1,_,e3,e4⟩:=hr;exact ⟨h,e1,e3,by simpa using e4⟩
theorem nil_hd {e:Ent} {v:Value} (he:W3 e=true) (hr:RE w (cx.q σ m w) e v):v=.slice none 0 0:=by
 unfold W3 at he;split at he<;>simp at he;exact hr.v_eq.1
theorem XP (h:Rel cx m σ a w) {os:List uf} {z:TO os} (hz:WP σ os=some z) {src:Src} {n:Nat} (ho:UY σ os src n=true) {v:Value} (hv:RE w (cx.q σ m w) (vA σ src) v) :
  ∃hd,qj σ m os n=some hd/\v=.slice hd.a hd.len hd.cap:=by
 unfold UY at ho;split at ho<;>try simp at ho
 rename_i p hp;have hf:∃l,From σ p l:=by
  rcases Zk hz n with ⟨h1,_⟩ | ⟨p',l,h1,_,_,_,h5⟩
  ·rw[h1] at hp; cases hp
  ·rw[h1] at hp; simp at hp; subst hp; exact ⟨l,h5⟩
 obtain ⟨l,hf⟩:=hf;have same:∀{u:Value},RE w (cx.q σ m w) (vA σ p.src) u->∃hd,qj σ m os n=some hd/\u=.slice hd.a hd.len hd.cap:=by
  intro u hu;unfold qj;rw[hp];simp only;rcases hf with ⟨s,o,f1,f2,_⟩ | ⟨s,hi,o,f1,f2,_⟩ | ⟨f1,f2,_⟩
  ·rw[f1]
   obtain ⟨hd,e1,e2⟩:=own_hd f1 hu;exact ⟨hd,e1,e2⟩
  ·rw[f1]
   obtain ⟨hd,e1,e2,e3⟩:=vw_hd f1 hu;exact ⟨⟨if hd.cap=0 then hd.a else hd.a.map (·.add (0*hd.sz)),hi,hd.cap,hd.sz⟩,by simp only[e1,Option.map_some],e3⟩
  ·rw[f1]
   exact ⟨_,rfl,nil_hd f2 hu⟩
 rcases ho with ho | ho
 ·have:src=p.src:=by
   generalize p.src=s' at ho;cases src<;>cases s'<;>simp[isSrc] at ho
   ·have:=xl (by simpa using ho); rw[this]
   ·obtain ⟨h1,h2⟩:=ho
    rw[h1,h2]
  rw[this] at hv;exact same hv
 ·obtain ⟨u,hu⟩:=Uj h p.src
  obtain ⟨hd,e1,e2⟩:=same hu;refine ⟨hd,e1,?_⟩;rw[<-e2];unfold sameC at ho;split at ho<;>try simp at ho
  ·rename_i s r h1 h2
   rw[h1] at hv;rw[h2] at hu;subst ho;obtain ⟨k1,a1,a2⟩:=hv;obtain ⟨k2,b1,b2⟩:=hu;rw[a1] at b1;simp at b1;subst b1;rw[a2,b2]
  ·rename_i h1 h2
   rw[h1] at hv;rw[h2] at hu;rw[hv.v_eq.1,hu.v_eq.1]
theorem Yi:∀{os:List uf},Xj σ os=true->∀{n n':Nat} {p p':uf} {x x':Nat×Option Nat},tc os n=some p->tc os n'=some p'->vL σ (vA σ p.src)=some x->
  vL σ (vA σ p'.src)=some x'->x.1=x'.1->n=n'
 | q::r,h,n,n',p,p',x,x',h1,h2,h3,h4,he=>by
  simp only[Xj,Bool.and_eq_true,List.all_eq_true] at h;have mem:∀{k:Nat} {y:uf} {os:List uf},tc os k=some y->y∈os/\y.n=k:=by
   intro k y os;induction os with
   | nil=>intro h; simp[tc] at h
   | cons z os ih =>
    intro h;simp only[tc] at h;cases hb:Nat.beq z.n k with
    | true=>simp[hb] at h; subst h; exact ⟨by simp,xl hb⟩
    | false=>simp[hb] at h; have:=ih h; exact ⟨by simp[this.1],this.2⟩
  simp only[tc] at h1 h2;cases hb:Nat.beq q.n n with
  | true =>
   cases hb':Nat.beq q.n n' with
   | true=>rw[<-xl hb,<-xl hb']
   | false =>
    simp[hb] at h1;simp[hb'] at h2;subst h1;have:=(h.1 p' (mem h2).1).2;rw[h3,h4] at this;simp[he] at this
  | false =>
   cases hb':Nat.beq q.n n' with
   | true =>
    simp[hb] at h1;simp[hb'] at h2;subst h2;have:=(h.1 p (mem h1).1).2;rw[h3,h4] at this;simp[he] at this
   | false =>
    simp[hb] at h1;simp[hb'] at h2;exact Yi h.2 h1 h2 h3 h4 he
end
end Go.VS
namespace Go.VS
open Go
section
variable {cx:Cx} {m:Gh} {σ:St} {a:Act} {w:World}
theorem VV {q:Q} {t:Ty} {y:t.T} {v:Value} (h:RT w q.ok q.okb t y [v]):RE w q (Wp (.c t) y) v:=by
 have h1:=wm h;simp only[Wp];split
 ·rename_i c hc
  rw[hc] at h1;exact h1.1
 ·exact trivial
theorem Yd {s:Nat}:∀{l:List (Nat×KS)},YY s l=true->∃k,(s,k)∈l
 | p::r,h=>by
  simp only[YY,Bool.or_eq_true] at h;rcases h with h | h
  ·exact ⟨p.2,by rw[xl h]; simp⟩
  ·obtain ⟨k,hk⟩:=Yd h; exact ⟨k,by simp[hk]⟩
theorem YB:∀{l:List (Nat×KS)} {x:TE l} {f:Nat->Ent} {os:List uf} (_:WQ σ os f l=some x) (n:Nat),
  (Wq l x n=.undef/\∀k,(n,k) ∉ l)\/∃k y,(n,k)∈l/\vv σ os n (f n) k=some y/\Wq l x n=Wp k y
 | [],_,_,_,_,n=>.inl ⟨rfl,fun _ h=>by cases h⟩
 | p::r,x,f,os,h,n=>by
  simp only[WQ] at h;split at h<;>try simp at h
  rename_i x1 x2 h1 h2;subst h;simp only[Wq];cases hb:Nat.beq n p.1 with
  | true =>
   have e:=xl hb;subst e;exact .inr ⟨p.2,x1,by simp,h1,rfl⟩
  | false =>
   rcases YB h2 n with ⟨h3,h4⟩ | ⟨k,y,h3,h4,h5⟩
   ·refine .inl ⟨h3,fun k hk=>?_⟩
    rcases List.mem_cons.1 hk with e | hk
    ·rw[<-e] at hb; simp at hb
    ·exact h4 k hk
   ·exact .inr ⟨k,y,by simp[h3],h4,h5⟩
theorem YO {os:List uf} {s:Nat}:∀{ows:List (Nat×Nat)},WU σ os s ows=true->∀j n,(j,n)∈ows->UY σ os (.cell s j) n=true
 | (j,n)::r,h,j',n',hm=>by
  simp only[WU,Bool.and_eq_true] at h;rcases List.mem_cons.1 hm with e | hm
  ·cases e; exact h.1
  ·exact YO h.2 j' n' hm
theorem Rel.kept (h:Rel cx m σ a w) {sh:Shape} {x:sh.T} (hx:tY sh σ=some x):∃m',Rel cx m' (xa sh x) a w:=by
 unfold tY at hx;cases hok:Wf sh&&Xj σ sh.own with
 | false=>simp[hok] at hx
 | true =>
 simp only[hok,cond_true] at hx;simp only[Bool.and_eq_true] at hok;obtain ⟨hshape,hapart⟩:=hok;split at hx<;>try simp at hx
 rename_i xe xb xo he hb ho;subst hx;simp only[Wf,Bool.and_eq_true,List.all_eq_true] at hshape;obtain ⟨hs1,hs2⟩:=hshape;let σ':St:=xa sh (xe,xb,xo)
 let m':Gh:=keptGh σ m sh (xe,xb,xo)
 have hown:∀n o,σ'.own n=.is o->∃p hd,tc sh.own n=some p/\qj σ m sh.own n=some hd/\OwnRep w (cx.q σ m w) hd o /\
   (0<hd.cap->∃s ow h0 y,vL σ (vA σ p.src)=some (s,y)/\σ.own s=.is ow/\m.hd s=some h0/\0<h0.cap/\∀b off,hd.a=some ⟨b,off,none⟩->∃off',h0.a=some ⟨b,off',none⟩):=by
  intro n o hn;rcases Zk ho n with ⟨_,h2⟩ | ⟨p,l,h1,h2,h3,h4,h5⟩
  ·have:σ'.own n=W9 sh.own xo n:=rfl
   rw[this,h2] at hn; cases hn
  ·have:σ'.own n=W9 sh.own xo n:=rfl
   rw[this,h4] at hn;simp at hn;subst hn;obtain ⟨v,hv⟩:=Uj h p.src;rcases h5 with ⟨s,ow,f1,f2,f3⟩ | ⟨s,hi,ow,f1,f2,f3⟩ | ⟨f1,f2,f3⟩
   ·obtain ⟨hd,e1,l0⟩:=h.own s ow f2
    obtain ⟨e2,e3⟩:=vQ f3;refine ⟨p,hd,h1,by unfold qj; rw[h1]; simp only[f1]; exact e1,?_,fun hc=>⟨s,ow,hd,_,f1,f2,e1,hc,fun b off hb=>⟨off,hb⟩⟩⟩;obtain ⟨t0,l1⟩:=ow;obtain ⟨pn,psrc,pt⟩:=p;simp only at e2 e3 ⊢;subst e2;simp only at e3;subst e3;exact l0
   ·obtain ⟨hd,e1,l0⟩:=h.own s ow f2
    obtain ⟨e2,e3⟩:=vQ f3;obtain ⟨hd',e4,e5,e6⟩:=vw_hd f1 hv;rw[e1] at e4;simp at e4;subst e4;refine ⟨p,⟨if hd.cap=0 then hd.a else hd.a.map (·.add (0*hd.sz)),hi,hd.cap,hd.sz⟩,h1,by unfold qj; rw[h1]; simp only[f1,e1,Option.map_some],?_,fun hc=>⟨s,ow,hd,_,f1,f2,e1,hc,fun b off hb=>?_⟩⟩
    ·obtain ⟨t0,l1⟩:=ow
     obtain ⟨pn,psrc,pt⟩:=p;simp only at e2 e3 ⊢;subst e2;simp only at e3;subst e3;exact l0.front e5
    ·simp only at hc hb
     rw[if_neg (by omega)] at hb;obtain ⟨bb,oo,cs,T,q1,_⟩:=l0.2.2.2 hc;rw[q1] at hb;simp[u5] at hb;exact ⟨oo,by rw[q1,hb.1]⟩
   ·refine ⟨p,⟨none,0,0,p.t.size⟩,h1,by unfold qj; rw[h1]; simp only[f1],?_,fun hc=>absurd hc (by simp)⟩
    subst f3;exact OwnRep.emp p.t
 have how:∀p b,w9 σ' m' p b->∃p',w9 σ m p' b/\(∀s,p=.inl s->p'=.inl s)/\(∀n,p=.inr n->∃s q y,p'=.inr s/\tc sh.own n=some q/\vL σ (vA σ q.src)=some (s,y)):=by
  intro p b hp;cases p with
  | inl s =>
   refine ⟨.inl s,?_,fun _ h=>h,fun _ h=>by cases h⟩;have hp:(match σ'.box s with | some _=>m.blk s | none=>none)=some b:=hp
   split at hp
   ·exact hp
   ·cases hp
  | inr n =>
   obtain ⟨o,hd,off,o1,o2,o3,o4⟩:=hp;obtain ⟨q,hd',q1,q2,_,q3⟩:=hown n o o1;have o2:qj σ m sh.own n=some hd:=o2;rw[q2] at o2;simp at o2;subst o2;obtain ⟨s,ow,h0,y,r1,r2,r3,r4,r5⟩:=q3 o4;obtain ⟨off',r6⟩:=r5 b off o3;exact ⟨.inr s,⟨ow,h0,off',r2,r3,r6,r4⟩,fun _ h=>(by cases h),fun n' hn=>by cases hn; exact ⟨s,q,y,rfl,q1,r1⟩⟩
 have hq:QLe w w (cx.q σ m w) (cx.q σ' m' w):=Cx.qle (Nat.le_refl _) (fun b _ ⟨p,hp⟩=>by obtain ⟨p',hp',_⟩:=how p b hp; exact ⟨p',hp'⟩) (fun _ _ _ _=>rfl);have hok':=cx.q_ok σ' m' w;have hbox:∀s d',σ'.box s=some d'->∃d,σ.box s=some d/\∀cs,RB w (cx.q σ m w) d cs->RB w (cx.q σ' m' w) d' cs:=by
  intro s d' hd;have hd:tO (Wq sh.box xb s)=some d':=hd;rcases YB hb s with ⟨h1,_⟩ | ⟨k,y,h1,h2,h3⟩
  ·rw[h1] at hd; simp[tO] at hd
  ·rw[h3] at hd
   have hpl:=hs2 (s,k) h1;cases hbx:σ.box s with
   | none =>
    rw[hbx] at h2;cases k<;>simp[Wb] at hpl<;>simp[qs,vv] at h2
   | some d =>
    rw[hbx] at h2;refine ⟨d,rfl,fun cs hcs=>?_⟩;simp only[qs] at h2;cases k with
    | c t =>
     simp only[vv] at h2;split at h2<;>try simp at h2
     rename_i c hc;cases hc
     obtain ⟨v,e1,e2⟩:=hcs;have hp:=vB h2 c (by simp);have h4:All2 (RC w (cx.q σ' m' w)) [c] [v]:=⟨RC.mono_plain hq hp e2,trivial⟩;have hrt:=wO hok' h2 h4;have henc:=wm hrt;simp only[Wp] at hd;split at hd
     ·rename_i c' hc'
      rw[hc'] at henc;simp[tO] at hd;subst hd;exact ⟨v,e1,henc.1⟩
     ·simp[tO] at hd
    | g t =>
     simp only[vv] at h2;split at h2<;>try simp at h2
     rename_i l hc;cases hc
     simp[Wp,tO] at hd;subst hd;exact wm (wO hok' h2 (qe hq (vB h2) hcs))
    | a k =>
     simp only[vv] at h2;split at h2<;>try simp at h2
     rename_i k' l hc;obtain ⟨hk,rfl⟩:=h2;subst hk;cases hc
     simp[Wp,tO] at hd;subst hd;exact hcs
    | go t ows =>
     simp only[vv] at h2;split at h2<;>try simp at h2
     rename_i l hc;cases hc
     cases hok:WU σ sh.own s ows with
     | false=>simp[hok] at h2
     | true =>
      simp[hok] at h2;simp[Wp,tO] at hd;subst hd;have hbl:=Vk (ows:=ows) hcs;have hrt:=wO hok' h2 (qe hq (vB h2) hbl);have henc:=wm hrt;refine All2.of_get ?_ fun i c v hi hv=>?_
      ·rw[Z4,henc.len,Xf]
      ·rcases Z5 hi with ⟨n,n1,rfl⟩ | ⟨n1,n2⟩
       ·have hcell:∃c0,l[i]?=some c0:=by
         have:i<l.length:=by
          rw[All2.len hcs];exact (List.getElem?_eq_some_iff.1 hv).1
         exact ⟨_,List.getElem?_eq_getElem this⟩
        obtain ⟨c0,hc0⟩:=hcell;obtain ⟨v',hv',hr⟩:=All2.get hcs hc0;rw[hv] at hv';simp at hv';subst hv';have:=XP h ho (YO hok i n n1) (v:=v) (by simp only[vA,hbx,hc0]; exact hr);obtain ⟨hd,g1,g2⟩:=this;exact ⟨hd,g1,g2⟩
       ·obtain ⟨v',hv',hr⟩:=henc.get n2
        rw[Xg n1,hv] at hv';simp at hv';subst hv';exact hr
    | _=>simp[Wb] at hpl
 refine ⟨m',?_⟩;exact {
  size:=h.size
  defers:=h.defers
  env:=fun t=>by
   have ht:=h.env t;have:(xa sh (xe,xb,xo)).env t=Wq sh.env xe t:=rfl;rw[this];rcases YB he t with ⟨h1,_⟩ | ⟨k,y,h1,h2,h3⟩
   ·rw[h1]; exact trivial
   ·rw[h3]
    have hpl:=hs1 (t,k) h1;generalize σ.env t=e at ht h2;cases k with
    | c t' =>
     simp only[vv] at h2;split at h2<;>try simp at h2
     rename_i c;have hp:=vB h2 c (by simp);have h4:All2 (RC w (cx.q σ' m' w)) [c] [a.tmps.getD t Go.undef]:=⟨RC.mono_plain hq hp ht,trivial⟩;exact VV (wO hok' h2 h4)
    | b t' =>
     simp only[vv] at h2;split at h2<;>try simp at h2
     ·subst h2
      rw[ht.v_eq.1];exact SlR.nil
     ·rename_i t'' l
      obtain ⟨e1,e2⟩:=vQ h2;subst e1;subst e2;exact SlR.mono (fun b hb=>⟨hok' b (hq.ok b hb).1,fun _ _ h=>h⟩) (RT.mono hq.ok hq.okb _) ht
     ·rename_i t'' l
      obtain ⟨e1,e2⟩:=vQ h2;subst e1;subst e2;exact RC.mono_plain (c:=.bs t'' l) hq rfl ht
    | g t' =>
     simp only[vv] at h2;split at h2<;>try simp at h2
     rename_i l;obtain ⟨cs,e1,e2⟩:=ht;exact ⟨cs,e1,wm (wO hok' h2 (qe hq (vB h2) e2))⟩
    | a k =>
     simp only[vv] at h2;split at h2<;>try simp at h2
     obtain ⟨rfl,rfl⟩:=h2;exact ht
    | loc s =>
     simp only[vv] at h2;split at h2<;>try simp at h2
     rename_i s' off;cases hc:Nat.beq s' s&&Nat.beq off 0 with
     | false=>rw[hc] at h2; simp at h2
     | true =>
      simp only[Bool.and_eq_true] at hc;have e1:=xl hc.1;have e2:=xl hc.2;subst e1;subst e2;obtain ⟨b,hb1,hb2⟩:=ht;have hk:YY s' sh.box=true:=by
       have:=hpl;simp only[Bool.and_eq_true] at this;exact this.2
      obtain ⟨k',hk'⟩:=Yd hk;have hbx:∃d,σ'.box s'=some d:=by
       rcases YB hb s' with ⟨_,hno⟩ | ⟨k2,y2,g1,g2,g3⟩
       ·exact absurd hk' (hno k')
       ·have hpb:=hs2 (s',k2) g1
        show ∃d,tO (Wq sh.box xb s')=some d;rw[g3];cases k2 with
        | c t2 =>
         simp only[Wp];split
         ·exact ⟨_,rfl⟩
         ·rename_i hno
          exfalso
          cases hbx:σ.box s' with
          | none=>rw[hbx] at g2; simp[qs,vv] at g2
          | some d =>
           rw[hbx] at g2;simp only[qs,vv] at g2;split at g2<;>try simp at g2
           rename_i c hc';cases hc'
           obtain ⟨_,cs,_,_,_,v,_,e4⟩:=h.box s' _ hbx;have h4:All2 (RC w (cx.q σ' m' w)) [c] [v]:=⟨RC.mono_plain hq (vB g2 c (by simp)) e4,trivial⟩;have henc:=(wm (wO hok' g2 h4)).len;simp at henc;obtain ⟨c2,hc2⟩:=List.length_eq_one_iff.1 henc;exact hno c2 hc2
        | g t2=>exact ⟨_,rfl⟩
        | a k2=>exact ⟨_,rfl⟩
        | go t2 ows=>exact ⟨_,rfl⟩
        | _=>simp[Wb] at hpb
      obtain ⟨d,hbx⟩:=hbx;refine ⟨b,?_,hb2⟩;show (match σ'.box s' with | some _=>m.blk s' | none=>none)=some b
      rw[hbx];exact hb1
    | ow n =>
     simp only[vv] at h2;cases hok:UY σ sh.own (.env t) n with
     | false=>simp[hok] at h2
     | true =>
      obtain ⟨hd,g1,g2⟩:=XP h ho hok (v:=a.tmps.getD t Go.undef) (h.env t);exact ⟨hd,g1,g2⟩
    | go t ows=>simp[TC] at hpl
    | p t' =>
     simp only[vv] at h2;split at h2<;>try simp at h2
     obtain ⟨b,off,vs,e1,e2,e3,e4,e5⟩:=ht;exact ⟨b,off,vs,e1,(hq.okb b e2).1,e3,wm (wO hok' h2 (qe hq e5 e4)),vJ _ _ _ (by simp)⟩
    | cl t' =>
     simp only[vv] at h2;split at h2<;>try simp at h2
     rename_i f t'' y';split at h2<;>simp at h2;rename_i y2 hy;subst h2;obtain ⟨e1,e2⟩:=tA hy;subst e1;subst e2;exact RC.mono_plain (c:=.clo f t'' y') hq rfl ht
    | cl2 t' u' =>
     simp only[vv] at h2;split at h2<;>try simp at h2
     rename_i f t'' y' u'' z';split at h2<;>simp at h2;rename_i y2 z2 hy hz;subst h2;obtain ⟨e1,e2⟩:=tA hy;obtain ⟨e3,e4⟩:=tA hz;subst e1;subst e2;subst e3;subst e4;exact RC.mono_plain (c:=.clo2 f t'' y' u'' z') hq rfl ht
  box:=fun s d' hd=>by
   obtain ⟨d,h1,h2⟩:=hbox s d' hd;obtain ⟨b,cs,T,e1,e2,e3⟩:=h.box s d h1;refine ⟨b,cs,T,?_,e2,h2 _ e3⟩;show (match σ'.box s with | some _=>m.blk s | none=>none)=some b
   rw[show σ'.box s=some d' from hd];exact e1
  nobox:=fun s b hb hno=>by
   have hb:(match σ'.box s with | some _=>m.blk s | none=>none)=some b:=hb
   rw[show σ'.box s=none from hno] at hb;cases hb
  own:=fun n o ho'=>by
   obtain ⟨p,hd,_,g1,g2,_⟩:=hown n o ho';exact ⟨hd,g1,g2.mono hq fun _ _ _ _=>rfl⟩
  noown:=fun n hd hn hno=>by
   have hn:qj σ m sh.own n=some hd:=hn;rcases Zk ho n with ⟨h1,_⟩ | ⟨p,l,h1,h2,h3,h4,h5⟩
   ·unfold qj at hn; rw[h1] at hn; cases hn
   ·have:(xa sh (xe,xb,xo)).own n=W9 sh.own xo n:=rfl
    rw[this,h4] at hno; cases hno
  dom:=fun p b hp=>by
   obtain ⟨p',hp',h1,h2⟩:=how p b hp;refine ⟨(h.dom p' b hp').1,?_⟩;rcases (h.dom p' b hp').2 with h3 | ⟨h3,s,h4,h5⟩
   ·exact .inl h3
   ·cases p with
    | inl s'=>have:=h1 s' rfl; rw[this] at h4; exact .inr ⟨h3,s,h4,h5⟩
    | inr n=>obtain ⟨s',_,_,h6,_⟩:=h2 n rfl; rw[h6] at h4; cases h4
  inj:=fun p p' b hp hp'=>by
   obtain ⟨q,hq1,hq2,hq3⟩:=how p b hp;obtain ⟨q',hr1,hr2,hr3⟩:=how p' b hp';have e:=h.inj q q' b hq1 hr1;cases p with
   | inl s =>
    have e1:=hq2 s rfl;cases p' with
    | inl s'=>have e2:=hr2 s' rfl; rw[e1,e2] at e; exact e
    | inr n'=>obtain ⟨s',_,_,e2,_⟩:=hr3 n' rfl; rw[e1,e2] at e; cases e
   | inr n =>
    obtain ⟨s,p1,y,e1,e3,e4⟩:=hq3 n rfl;cases p' with
    | inl s'=>have e2:=hr2 s' rfl; rw[e1,e2] at e; cases e
    | inr n' =>
     obtain ⟨s',p2,y',e2,e5,e6⟩:=hr3 n' rfl;rw[e1,e2] at e;cases e
     rw[Yi hapart e3 e5 e4 e6 rfl]
  mem:=h.mem
  grown:=h.grown
  oldX:=h.oldX
  argna:=h.argna
  arg:=fun s b b0 hb h0=>by
   have hb:(match σ'.box s with | some _=>m.blk s | none=>none)=some b:=hb
   split at hb
   ·exact h.arg s b b0 hb h0
   ·cases hb
  iosz:=h.iosz
  os:=h.os
  tape:=h.tape
  output:=h.output}
end
end Go.VS
namespace Go.VS
open Go
def exOf:Ex->Exit
 | .normal=>.normal
 | .exit id=>.exit id
 | .ret=>.ret
section
variable {P:Program}
theorem X4 {c:Code} {Q:Exit->Act->World->Prop} (S:Nat->Act->World->Prop)
  (round:∀n a w,S n a w->c.wp P (Exit.then (fun a' w'=>∃n',n'<n/\S n' a' w') Q) a w) {n:Nat} {a:Act} {w:World} (h:S n a w):(Code.loop c).wp P Q a w:=by
 intro b k cs;have key:∀n a w,S n a w->∃e a' w',Q e a' w'/\Arrives P (lone (b.at a (.code c::.inLoop c::k)) cs w) b k cs e a' w':=by
  intro n;induction n using Nat.strongRecOn with
  | _ n ih =>
   intro a w hS;obtain ⟨e,a₁,w₁,hq,harr⟩:=round n a w hS b (.inLoop c::k) cs;cases e with
   | normal =>
    obtain ⟨n',hlt,hS'⟩:=hq;obtain ⟨e₂,a₂,w₂,hq₂,harr₂⟩:=ih n' hlt a₁ w₁ hS';exact ⟨e₂,a₂,w₂,hq₂,.of_steps (Steps.trans harr (.one step_inLoop)) harr₂⟩
   | exit id=>exact ⟨_,a₁,w₁,hq,.pass (x:=.inLoop c) rfl (fun _ _=>.inl (by simp)) harr⟩
   | goto l=>exact ⟨_,a₁,w₁,hq,.pass (x:=.inLoop c) rfl (fun _ _=>.inl (by simp)) harr⟩
   | ret=>exact ⟨_,a₁,w₁,hq,.pass (x:=.inLoop c) rfl (fun _ _=>.inl (by simp)) harr⟩
   | panic ch=>exact ⟨_,a₁,w₁,hq,.pass (x:=.inLoop c) rfl (fun _ _=>.inl (by simp)) harr⟩
   | outgrown=>exact ⟨_,a₁,w₁,hq,.pass (x:=.inLoop c) rfl (fun _ _=>.inl (by simp)) harr⟩
 obtain ⟨e,a',w',hq,harr⟩:=key n a w h;exact ⟨e,a',w',hq,.of_steps (.one step_loop) harr⟩
end
section
variable {cx:Cx} {Hh:Hn} {Sg:Nat->Sig} {V:vP Sg} {VD:vk Hh} {H HL:Nat->Shape} {HJ:Nat->Option Shape} {L:uA HL} {J:uB HJ}
def tX (cx:Cx) (Hh:Hn) (Sg:Nat->Sig) (V:vP Sg) (VD:vk Hh) (H HL:Nat->Shape) (HJ:Nat->Option Shape) (L:uA HL) (J:uB HJ) (c0:Code):Prop :=
 ∀c∈wS c0,∀(x:(HL (rid c)).T) (R:Type) (K:Ex->St->Option R),∃n,L (rid c) x K=YU cx.TI cx.G Hh Sg V VD cx.N H HL HJ L J c (rid c) K n x
def Zc (cx:Cx) (Hh:Hn) (Sg:Nat->Sig) (V:vP Sg) (VD:vk Hh) (H HL:Nat->Shape) (HJ:Nat->Option Shape) (L:uA HL) (J:uB HJ) (c0:Code):Prop :=
 ∀c∈vC HJ c0,∀(x:(shJ HJ (rid c)).T) (R:Type) (K:Ex->St->Option R),J (rid c) x K=uK cx.TI cx.G Hh Sg V VD cx.N H HL HJ L J c (xa (shJ HJ (rid c)) x) K
theorem code_ok (hmix:cx.P.follows .mixedOrders=true) (hL:Yk cx Hh Sg V VD):∀(c:Code),tX cx Hh Sg V VD H HL HJ L J c->Zc cx Hh Sg V VD H HL HJ L J c->
  ∀{R:Type} {σ:St} {K:Ex->St->Option R} {r:R} {m:Gh} {a:Act} {w:World} {Q:Exit->Act->World->Prop},uK cx.TI cx.G Hh Sg V VD cx.N H HL HJ L J c σ K=some r->Rel cx m σ a w->
   (∀e σ' m' a' w',Rel cx m' σ' a' w'->K e σ'=some r->Q (exOf e) a' w')->c.wp cx.P Q a w:=by
 intro c;induction c with
 | skip=>intro _ _ R σ K r m a w Q h hr hQ; exact wp_skip (hQ .normal σ m a w hr h)
 | label l=>intro _ _ R σ K r m a w Q h hr hQ; exact wp_label (hQ .normal σ m a w hr h)
 | exit id=>intro _ _ R σ K r m a w Q h hr hQ; exact wp_exit (hQ (.exit id) σ m a w hr h)
 | ret=>intro _ _ R σ K r m a w Q h hr hQ; exact wp_ret (hQ .ret σ m a w hr h)
 | region id ops draw =>
  intro _ _ R σ K r m a w Q h hr hQ;have hend:∀(m:Gh) (σ:St) (a:Act) (w:World),Rel cx m σ a w->(match tY (H id) (giveL σ (Hh.fz id)) with | some x=>K .normal (xa (H id) x) | none=>none)=some r->Q .normal a w:=by
   intro m σ a w hr hk;split at hk<;>try simp at hk
   rename_i x hx;obtain ⟨m',hm'⟩:=(hr.giveL (Hh.fz id)).kept hx;exact hQ .normal _ m' a w hm' hk
  cases draw with
  | false=>exact UU (K:=fun σ'=>match tY (H id) (giveL σ' (Hh.fz id)) with | some x=>K .normal (xa (H id) x) | none=>none) hL hr h hend
  | true=>exact Sj (K:=fun σ'=>match tY (H id) (giveL σ' (Hh.fz id)) with | some x=>K .normal (xa (H id) x) | none=>none) hmix hL hr h hend
 | seq x y ihx ihy =>
  intro hl hc R σ K r m a w Q h hr hQ;have hl1:tX cx Hh Sg V VD H HL HJ L J x:=fun c hc=>hl c (by simp[wS,hc])
  have hl2:tX cx Hh Sg V VD H HL HJ L J y:=fun c hc=>hl c (by simp[wS,hc])
  have hc1:Zc cx Hh Sg V VD H HL HJ L J x:=fun c h=>hc c (by simp[vC,h])
  have hc2:Zc cx Hh Sg V VD H HL HJ L J y:=fun c h=>hc c (by simp[vC,h])
  refine wp_seq (ihx hl1 hc1 (K:=seqK (cutK Hh HJ J (rid y) (uK cx.TI cx.G Hh Sg V VD cx.N H HL HJ L J y)) K) h hr fun e σ' m' a' w' hr' hk=>?_);cases e with
  | exit id=>exact hQ (.exit id) σ' m' a' w' hr' hk
  | ret=>exact hQ .ret σ' m' a' w' hr' hk
  | normal =>
   show y.wp cx.P Q a' w';have hk:cutK Hh HJ J (rid y) (uK cx.TI cx.G Hh Sg V VD cx.N H HL HJ L J y) σ' K=some r:=hk;unfold cutK at hk;split at hk
   ·exact ihy hl2 hc2 hk hr' hQ
   ·rename_i sh hsh
    split at hk<;>try simp at hk
    rename_i x' hx';rw[hc y (by simp[vC,hsh])] at hk;obtain ⟨m2,hm2⟩:=(hr'.giveL (Hh.fzJ (rid y))).kept hx';exact ihy hl2 hc2 hk hm2 hQ
 | cond c x y ihx ihy =>
  intro hl hc R σ K r m a w Q h hr hQ;have hl1:tX cx Hh Sg V VD H HL HJ L J x:=fun c hc=>hl c (by simp[wS,hc])
  have hl2:tX cx Hh Sg V VD H HL HJ L J y:=fun c hc=>hl c (by simp[wS,hc])
  have hc1:Zc cx Hh Sg V VD H HL HJ L J x:=fun c h=>hc c (by simp[vC,h])
  have hc2:Zc cx Hh Sg V VD H HL HJ L J y:=fun c h=>hc c (by simp[vC,h])
  have hev:=vo hL.glob hr c;simp only[uK] at h;split at h<;>try simp at h
  rename_i t ht;rw[ht] at hev;obtain ⟨hv,_⟩:=hev.v_eq;cases t with
  | true=>exact wp_cond_true hv (ihx hl1 hc1 h hr hQ)
  | false=>exact wp_cond_false hv (ihy hl2 hc2 h hr hQ)
 | block id x ih =>
  intro hl hc R σ K r m a w Q h hr hQ;refine wp_block (ih (fun c h=>hl c (by simpa [wS] using h)) (fun c h=>hc c (by simpa [vC] using h)) (K:=Ua id K) h hr fun e σ' m' a' w' hr' hk=>?_);cases e with
  | normal=>exact hQ .normal σ' m' a' w' hr' hk
  | ret=>exact hQ .ret σ' m' a' w' hr' hk
  | exit id' =>
   simp only[exOf,Exit.inBlock];simp only[Ua] at hk;cases hb:Nat.beq id' id with
   | true =>
    rw[hb] at hk;rw[if_pos (xl hb)];exact hQ .normal σ' m' a' w' hr' hk
   | false =>
    rw[hb] at hk;rw[if_neg (fun e=>by subst e; simp at hb)];exact hQ (.exit id') σ' m' a' w' hr' hk
 | loop x ih =>
  intro hl hc R σ K r m a w Q h hr hQ;have hl1:tX cx Hh Sg V VD H HL HJ L J x:=fun c hc=>hl c (by simp[wS,hc])
  have hc1:Zc cx Hh Sg V VD H HL HJ L J x:=fun c h=>hc c (by simp[vC,h])
  simp only[uK] at h;split at h<;>try simp at h
  rename_i y hy;obtain ⟨n,hn⟩:=hl x (by simp[wS]) y R K;rw[hn] at h;obtain ⟨m',hm'⟩:=hr.kept hy;refine X4 (fun n a w=>∃m y,Rel cx m (xa (HL (rid x)) y) a w/\YU cx.TI cx.G Hh Sg V VD cx.N H HL HJ L J x (rid x) K n y=some r) ?_ (n:=n) ⟨m',y,hm',h⟩;rintro n a w ⟨m,y,hr,hk⟩
  cases n with
  | zero=>simp[YU] at hk
  | succ n =>
   simp only[YU] at hk;refine ih hl1 hc1 hk hr fun e σ' m' a' w' hr' hk'=>?_
   cases e with
   | exit id=>exact hQ (.exit id) σ' m' a' w' hr' hk'
   | ret=>exact hQ .ret σ' m' a' w' hr' hk'
   | normal =>
    simp only[UM] at hk';split at hk'<;>try simp at hk'
    rename_i z hz;obtain ⟨m2,hm2⟩:=hr'.kept hz;exact ⟨n,Nat.lt_succ_self n,m2,z,hm2,hk'⟩
 | _=>intro _ _ R σ K r m a w Q h; simp[uK] at h
end
end Go.VS
namespace Go.VS
open Go
section
variable {cx:Cx} {m:Gh} {σ:St} {a:Act} {w w':World}
theorem tW {ok okb ok' okb':Nat->Prop} (h1:∀b,ok b->ok' b/\∀off v,w.cell? ⟨b,off,none⟩=some v->w'.cell? ⟨b,off,none⟩=some v) :
  ∀(t:Ty) (x:t.T) (vs:List Value),noB t=true->RT w ok okb t x vs->RT w' ok' okb' t x vs
 | .int _,_,_,_,h=>h
 | .bool,_,_,_,h=>h
 | .str,_,_,_,h=>h
 | .fn,_,_,_,h=>h
 | .sl t,_,_,hn,⟨v,e,h⟩=>⟨v,e,h.mono h1 (fun x us=>tW h1 t x us hn)⟩
 | .bsl t,_,_,hn,_=>by simp[noB] at hn
 | .pt t,_,_,hn,⟨b,off,us,e,hb,hl,hc,h⟩=>⟨b,off,us,e,(h1 b hb).1,hl,xY (h1 b hb).2 hc,tW h1 t _ _ hn h⟩
 | .bnd t,_,_,hn,h=>h.imp (fun h=>h) fun ⟨f,us,e1,e2,e3⟩=>⟨f,us,e1,e2,tW h1 t _ _ hn e3⟩
 | .unit,_,_,_,h=>h
 | .pair a b,_,_,hn,⟨us,ws,e,p,q⟩=>by
  simp only[noB,Bool.and_eq_true] at hn;exact ⟨us,ws,e,tW h1 a _ _ hn.1 p,tW h1 b _ _ hn.2 q⟩
theorem q_out (cx:Cx) (σ:St) (m:Gh) (w:World):∀b,(cx.q σ m w).ok b->(Zm w cx.X cx.Iq).ok b/\∀off v,w.cell? ⟨b,off,none⟩=some v->w.cell? ⟨b,off,none⟩=some v :=
 fun _ h=>⟨⟨h.1,h.2.2.1,h.2.2.2⟩,fun _ _ h=>h⟩
theorem WR (h:Rel cx m σ a w) {k:KS} {e:Ent} {x:k.T} {v:Value} (hk:Ul k=true) (hx:XA σ k e=some x) (hr:RE w (cx.q σ m w) e v):RD w (Zm w cx.X cx.Iq) (VX k x) v:=by
 have hq:=q_out cx σ m w;have hok:=cx.q_ok σ m w;cases k with
 | c t =>
  have plain:∀{e:Ent},RE w (cx.q σ m w) e v->vv σ [] 0 e (.c t)=some x->RD w (Zm w cx.X cx.Iq) (VX (.c t) x) v:=by
   intro e hr hx;simp only[vv] at hx;split at hx<;>try simp at hx
   exact VW (tW hq t _ _ hk (wO hok hx (⟨hr,trivial⟩:All2 (RC w (cx.q σ m w)) [_] [v])))
  cases t<;>simp only[XA] at hx<;>try exact plain hr hx
  rename_i t;split at hx
  ·rename_i s
   split at hx<;>try simp at hx
   rename_i ow how;obtain ⟨e1,e2⟩:=vQ hx;obtain ⟨hd,g1,g2⟩:=hr;obtain ⟨hd',g3,l⟩:=h.own s ow how;rw[show (cx.q σ m w).m.hd s=m.hd s from rfl] at g1;rw[g1] at g3;simp at g3;subst g3;obtain ⟨t0,l0⟩:=ow;simp only at e1 e2;subst e1;simp only at e2;subst e2;have hslr:=l.slr (good:=(Zm w cx.X cx.Iq).ok) fun b off hb hc=>by
    have hob:w9 σ m (.inr s) b:=⟨_,hd,off,how,g1,hb,hc⟩;have hd':=h.dom _ b hob;have hge:cx.w0.heap.size<=b:=by
     rcases hd'.2 with h' | ⟨_,_,h',_⟩
     ·exact h'
     ·simp at h'
    exact ⟨hd'.1,fun hx=>by have:=h.oldX b (.inl hx); omega,fun hx=>by have:=h.oldX b (.inr hx); omega⟩
   rw[g2];exact SlR.mono (fun b hb=>⟨hb,fun _ _ h=>h⟩) (fun y us hy=>tW hq t0 y us hk hy) hslr
  ·exact plain hr hx
 | g t =>
  simp only[XA,vv] at hx;split at hx<;>try simp at hx
  obtain ⟨cs,e1,e2⟩:=hr;exact ⟨cs,e1,wm (tW hq t _ _ hk (wO hok hx e2))⟩
 | a k =>
  simp only[XA,vv] at hx;split at hx<;>try simp at hx
  obtain ⟨rfl,rfl⟩:=hx;exact hr
 | _=>simp[Ul] at hk
theorem WN {P:Program} {t:TypeId} {b off:Nat} {v:Value} (h:(Instr.loadAt t (.pointer (some ⟨b,off,none⟩))).run P w=.ok v w):(loadVar t ⟨b,off,none⟩).run P w=.ok v w:=by
 simpa [Instr.loadAt,Instr.sureAddr] using h
def Vu (tmps:Array Value):ResultVar->Sem Value
 | .tmp t=>pure (tmps.getD t Go.undef)
 | .cell p t=>do loadVar t (<-asAddr (tmps.getD p Go.undef))
theorem qQ (hT:∀t,uk cx.P t (cx.TI t)) (hG:wJ cx) (h:Rel cx m σ a w):∀{ks:List KS} {rv:List ResultVar} {x:TK ks},(∀k∈ks,Ul k=true)->tS cx.TI σ rv=true->uO cx.TI σ ks rv=some x->
  ∃vs:List Value,(rv.mapM (Vu a.tmps)).run cx.P w=.ok vs w /\
   All2 (RD w (Zm w cx.X cx.Iq)) (qp ks x) vs
 | [],[],_,_,_,_=>⟨[],by simp,trivial⟩
 | [],_::_,_,_,_,h=>by simp[uO] at h
 | _::_,[],_,_,_,h=>by simp[uO] at h
 | k::ks,.tmp t::r,x,hk,hc,hx=>by
  simp only[uO] at hx;split at hx<;>try simp at hx
  rename_i y z hy hz;subst hx;obtain ⟨vs,h1,h2⟩:=qQ (ks:=ks) (rv:=r) hT hG h (fun k hk'=>hk k (List.mem_cons_of_mem _ hk')) hc hz;refine ⟨a.tmps.getD t Go.undef::vs,?_,WR h (hk k (by simp)) hy (h.env t),h2⟩;simp only[List.mapM_cons,Vu,Sem.run_bind,Sem.run_pure,Result.andThen_ok];rw[h1];rfl
 | k::ks,.cell p t::r,x,hk,hc,hx=>by
  have hp:=h.env p;simp only[uO,tS] at hx hc;generalize hld:uJ (cx.TI t) σ (σ.env p)=ld at hx hc;cases ld with
  | none=>simp at hx
  | some ld =>
  obtain ⟨b,ee,em⟩:=ld;simp only[Bool.and_eq_true] at hc;obtain ⟨hb,hc⟩:=hc;subst hb;split at hx<;>try simp at hx
  rename_i b' z hzz;cases hzz
  split at hx<;>try simp at hx
  rename_i y z' hy hz;subst hx;obtain ⟨vs,h1,h2⟩:=qQ (ks:=ks) (rv:=r) hT hG h (fun k hk'=>hk k (List.mem_cons_of_mem _ hk')) hc hz;have hval:∃bb off,a.tmps.getD p Go.undef=.pointer (some ⟨bb,off,none⟩):=by
   generalize σ.env p=e at hp hld;cases e with
   | loc s off=>obtain ⟨bb,_,e⟩:=hp; exact ⟨bb,off,e⟩
   | locx s i=>obtain ⟨bb,_,_,_,e,_⟩:=hp; exact ⟨bb,i,e⟩
   | opos s i off=>obtain ⟨hd,bb,o',_,_,_,e⟩:=hp; exact ⟨bb,_,e⟩
   | adr l=>obtain ⟨bb,off,_,e,_⟩:=hp; exact ⟨bb,off,e⟩
   | _=>simp[uJ] at hld
  obtain ⟨bb,off,hval⟩:=hval;obtain ⟨_,v,u1,u2⟩:=W0 hT hG h (t:=t) (x:=.tmp p) hld;rw[show a.eval (.tmp p)=.pointer (some ⟨bb,off,none⟩) from hval] at u1;have hload:(loadVar t ⟨bb,off,none⟩).run cx.P w=.ok v w/\RE w (cx.q σ m w) (.d z) v:=⟨WN u1,u2⟩;refine ⟨v::vs,?_,WR h (hk k (by simp)) hy hload.2,h2⟩;simp only[List.mapM_cons,Vu,Sem.run_bind,hval,asAddr,Sem.run_pure,Result.andThen_ok,hload.1];rw[h1];rfl
theorem Vt (fn:Func) (tmps:Array Value):results fn tmps=(do let vs <-fn.results.mapM (Vu tmps); pure (if h:vs.size=1 then vs[0] else .tuple vs)):=by
 unfold results;have:(fun x:ResultVar=>(match x with | .tmp t=>pure (tmps.getD t Go.undef) | .cell a t=>do loadVar t (<-asAddr (tmps.getD a Go.undef)):Sem Value))=Vu tmps:=by
  funext r; cases r<;>rfl
 rw[<-this];rfl
end
end Go.VS
namespace Go.VS
open Go
section
variable {P:Program} {TI:Nat->TS} {G:Nat->Option vD} {w:World} {X Iq:Nat->Prop} {blk:Nat->Option Nat}
theorem ZD {q:Q}:∀{as:List AT} {x:TA as} {vs:List Value} {i:Nat},qM w q blk i as x vs->(∀j b,i<=j->blk j=some b->j<i+as.length)/\vs.length=as.length
 | [],_,[],i,h=>⟨fun j b hj hb=>(by rw[h j hj] at hb; cases hb),rfl⟩
 | [],_,_::_,_,h=>h.elim
 | .d k::as,_,[],_,h=>h.elim
 | .io t::as,_,[],_,h=>h.elim
 | .d k::as,x,v::vs,i,⟨h1,_,h3⟩=>by
  obtain ⟨i1,i2⟩:=ZD h3;refine ⟨fun j b hj hb=>?_,by simp[i2]⟩;rcases Nat.eq_or_lt_of_le hj with e | hlt
  ·subst e; rw[h1] at hb; cases hb
  ·have:=i1 j b hlt hb; simp; omega
 | .io t::as,x,v::vs,i,⟨_,h3⟩=>by
  obtain ⟨i1,i2⟩:=ZD h3;refine ⟨fun j b hj hb=>?_,by simp[i2]⟩;rcases Nat.eq_or_lt_of_le hj with e | hlt
  ·subst e; simp
  ·have:=i1 j b hlt hb; simp; omega
theorem Xh {q q':Q} (hq:Le w w q q') (hblk:∀i b,blk i=some b->q'.m.blk i=some b):∀{as:List AT} {x:TA as} {vs:List Value} {i:Nat},qM w q blk i as x vs->
  ∀{u:Nat->Value},(∀j v,vs[j]?=some v->u (i+j)=v)->∀t,RE w q' (tU i as x t) (u t)
 | [],_,_,i,_,_,_,t=>by simp only[tU]; exact trivial
 | .d k::as,_,[],_,h,_,_,_=>h.elim
 | .io t::as,_,[],_,h,_,_,_=>h.elim
 | .d k::as,x,v::vs,i,⟨_,h2,h3⟩,u,hu,t=>by
  have ih:=Xh hq hblk h3 (u:=u) (fun j v hj=>by rw[show i+1+j=i+(j+1) by omega]; exact hu (j+1) v (by simpa using hj)) t;have hv:u i=v:=hu 0 v rfl;have hd:tU i (.d k::as) x t=bif Nat.beq t i then Xi k x.1 else tU (i+1) as x.2 t:=by cases k<;>rfl
  rw[hd];cases hb:Nat.beq t i with
  | true=>rw[xl hb,hv]; exact RE.mono hq h2
  | false=>exact ih
 | .io ty::as,x,v::vs,i,⟨⟨b,cs,T,h1,h2,_⟩,h3⟩,u,hu,t=>by
  have ih:=Xh hq hblk h3 (u:=u) (fun j v hj=>by rw[show i+1+j=i+(j+1) by omega]; exact hu (j+1) v (by simpa using hj)) t;have hv:u i=v:=hu 0 v rfl;simp only[tU];cases hb:Nat.beq t i with
  | true=>rw[xl hb,hv]; exact ⟨b,hblk i b h1,h2⟩
  | false=>exact ih
theorem ZC {q:Q}:∀{as:List AT} {x:TA as} {vs:List Value} {i:Nat},qM w q blk i as x vs->∀s,
  (∀d,Za i as x s=some d->∃b cs T t y,blk s=some b/\w.heap[b]?=some (Obj.cells cs T (0,0))/\d=.g (Ty.enc t y [])/\RT w q.ok q.okb t y cs.toList) /\
  (∀b,i<=s->blk s=some b->Za i as x s≠none)
 | [],_,[],i,h,s=>⟨fun d hd=>(by simp[Za] at hd),fun b hs hb=>(by rw[h s hs] at hb; cases hb)⟩
 | [],_,_::_,_,h,_=>h.elim
 | .d k::as,_,[],_,h,_=>h.elim
 | .io t::as,_,[],_,h,_=>h.elim
 | .d k::as,x,v::vs,i,⟨h1,_,h3⟩,s=>by
  obtain ⟨i1,i2⟩:=ZC h3 s;refine ⟨i1,fun b hs hb=>?_⟩;rcases Nat.eq_or_lt_of_le hs with e | hlt
  ·subst e; rw[h1] at hb; cases hb
  ·exact i2 b hlt hb
 | .io t::as,x,v::vs,i,⟨⟨b,cs,T,h1,_,h4,h5⟩,h3⟩,s=>by
  obtain ⟨i1,i2⟩:=ZC h3 s;simp only[Za];cases hb:Nat.beq s i with
  | true =>
   have e:=xl hb;subst e;exact ⟨fun d hd=>by simp at hd; subst hd; exact ⟨b,cs,T,t,x.1,h1,h4,rfl,h5⟩,fun _ _ _=>by simp⟩
  | false =>
   refine ⟨by simpa using i1,fun b' hs hb'=>?_⟩;rcases Nat.eq_or_lt_of_le hs with e | hlt
   ·subst e; simp at hb
   ·simpa using i2 b' hlt hb'
theorem Sf {as:List AT} {x:TA as} {vs:List Value} (hE:Xo G w X Iq blk as x vs) {N:Nat} {tmps:Array Value} (hsz:N<=tmps.size) (ht:∀(j:Nat) v,vs[j]?=some v->tmps.getD j Go.undef=v) :
  Rel ⟨P,TI,G,N,w,X,Iq,as.length,blk⟩ ⟨blk,fun _=>none⟩ (YW as x) ⟨tmps,[]⟩ w:=by
 let cx:Cx:=⟨P,TI,G,N,w,X,Iq,as.length,blk⟩
 let m:Gh:=⟨blk,fun _=>none⟩
 have how:∀p b,w9 (YW as x) m p b->Iq b/\∃s,p=.inl s/\blk s=some b:=by
  intro p b hp;cases p with
  | inl s=>exact ⟨(hE.io b).2 ⟨s,hp⟩,s,rfl,hp⟩
  | inr s=>obtain ⟨o,hd,off,o1,_⟩:=hp; cases o1
 have hq:Le w w (qIn w X Iq) (cx.q (YW as x) m w):={
  ok:=fun b hb=>⟨⟨hb.1,fun ⟨p,hp⟩=>hb.2.2 (how p b hp).1,hb.2.1,hb.2.2⟩,fun _ _ h=>h⟩
  okb:=fun b hb=>⟨⟨hb.1,fun ⟨p,hp⟩=>hb.2 (how p b hp).1,hb.2⟩,fun _ _ h=>h⟩
  hd:=fun _ _ h=>by simp[qIn,TP] at h
  blk:=fun _ _ h=>by simp[qIn,TP] at h
  sz:=fun b cs T h=>⟨cs,h,rfl⟩}
 exact {
  size:=hsz
  defers:=rfl
  env:=fun t=>Xh hq (fun _ _ h=>h) hE.args (u:=fun t=>tmps.getD t Go.undef) (fun j v hj=>by rw[Nat.zero_add]; exact ht j v hj) t
  box:=fun s d hd=>by
   obtain ⟨b,cs,T,t,y,h1,h2,h3,h4⟩:=(ZC hE.args s).1 d hd;subst h3;exact ⟨b,cs,T,h1,h2,wm (RT.mono hq.ok hq.okb _ _ _ h4)⟩
  nobox:=fun s b hb=>(ZC hE.args s).2 b (Nat.zero_le _) hb
  own:=fun s o ho=>by cases ho
  noown:=fun s hd h=>by cases h
  dom:=fun p b hp=>by
   obtain ⟨h1,s,h2,h3⟩:=how p b hp;exact ⟨hE.old b (.inr h1),.inr ⟨h1,s,h2,by have:=(ZD hE.args).1 s b (Nat.zero_le _) h3; simpa using this⟩⟩
  inj:=fun p p' b h1 h2=>by
   obtain ⟨_,s,e1,e2⟩:=how p b h1;obtain ⟨_,s',e3,e4⟩:=how p' b h2;rw[e1,e3,hE.inj s s' b e2 e4]
  mem:=fun _ _ _=>rfl
  grown:=Nat.le_refl _
  oldX:=hE.old
  argna:=fun s b hb=>by have:=(ZD hE.args).1 s b (Nat.zero_le _) hb; simpa using this
  arg:=fun s b b0 h1 h2=>by
   have h1:blk s=some b:=h1;have h2:blk s=some b0:=h2;rw[h1] at h2; simpa using h2
  iosz:=fun b cs T _ h=>⟨cs,h,rfl⟩
  os:=rfl
  tape:=rfl
  output:=rfl}
theorem ZM {cx:Cx} {m:Gh} {σ:St} {a:Act} {w':World} (h:Rel cx m σ a w') (hblk:cx.blk0=blk) (hw:cx.w0=w) {q0:Q} (hio:∀i b,blk i=some b->cx.Iq b):∀{as:List AT} {x:TA as} {vs:List Value} {y:TIo as} {i:Nat},
  qM w q0 blk i as x vs->(∀k∈as,argOK k=true)->qR σ i as=some y->Ti w w' (Zm w' cx.X cx.Iq) blk i as y
 | [],_,_,_,_,_,_,_=>trivial
 | .d k::as,_,[],_,_,h,_,_=>h.elim
 | .io t::as,_,[],_,_,h,_,_=>h.elim
 | .d k::as,x,v::vs,y,i,⟨_,_,h3⟩,hk,hr=>ZM h hblk hw hio h3 (fun k hk'=>hk k (by simp[hk'])) (i:=i+1) (by simpa only [qR] using hr)
 | .io t::as,x,v::vs,y,i,⟨⟨b,cs,T,h1,_,h4,_⟩,h3⟩,hk,hr=>by
  simp only[qR] at hr;split at hr<;>try simp at hr
  rename_i z z' hz hz';subst hr;refine ⟨?_,ZM h hblk hw hio h3 (fun k hk'=>hk k (by simp[hk'])) hz'⟩;cases hb:σ.box i with
  | none=>rw[hb] at hz; simp[qs,vv] at hz
  | some d =>
   rw[hb] at hz;simp only[qs,vv] at hz;split at hz<;>try simp at hz
   rename_i l hl;cases hl
   obtain ⟨b',cs',T',e1,e2,e3⟩:=h.box i _ hb;have:=h.arg i b' b e1 (by rw[hblk]; exact h1);subst this;obtain ⟨cs2,f1,f2⟩:=h.iosz b' cs T (hio i b' h1) (by rw[hw]; exact h4);rw[e2] at f1;simp at f1;obtain ⟨rfl,rfl⟩:=f1;exact ⟨b',cs,cs',T',h1,h4,e2,f2,tW (q_out cx σ m w') t _ _ (hk (.io t) (by simp)) (wO (cx.q_ok σ m w') hz e3)⟩
variable {Hh:Hn} {Sg:Nat->Sig} {V:vP Sg} {VD:vk Hh} {H HL:Nat->Shape} {HJ:Nat->Option Shape} {L:uA HL} {J:uB HJ}
theorem func_ok (hmix:P.follows .mixedOrders=true) (hT:∀t,uk P t (TI t)) (hV:Alg V) (hVD:Tj VD) (cV:∀f x y,V f x some=some y->vj P G f (Sg f) x y)
  (cVD:∀ d f x y,VD d f x some = some y→∃ g,f = g + 1∧vj P G g (Hh.sig d) x y) {f:FuncId} {fn:Func} {c:Code} (hf:P.funcs[f]? = some fn) (hb:fn.body = some c) (hname:(fn.name == "runtime.NumGoroutine") = false)
  (hl:∀cx:Cx,cx.P=P->cx.TI=TI->cx.G=G->cx.N=fn.ntmps->tX cx Hh Sg V VD H HL HJ L J c) (hc:∀cx:Cx,cx.P=P->cx.TI=TI->cx.G=G->cx.N=fn.ntmps->Zc cx Hh Sg V VD H HL HJ L J c)
  {s:Sig} {x:TA s.args} {y:s.R} (h:UC TI G Hh Sg V VD fn.ntmps H HL HJ L J fn s c x=some y):vj P G f s x y:=by
 intro w X Iq blk vs hE;unfold UC at h;cases hok:Tp s&&Nat.beq s.args.length Hh.na with
 | false=>simp[hok] at h
 | true =>
 simp only[hok,cond_true] at h;simp only[Bool.and_eq_true,Tp,List.all_eq_true] at hok;obtain ⟨⟨hres,hargs⟩,hna⟩:=hok;have hna:=xl hna;refine .inr ⟨?_,?_⟩
 ·simp[callFunc,hf,hb]
  simpa using hname
 let cx:Cx:=⟨P,TI,G,fn.ntmps,w,X,Iq,s.args.length,blk⟩
 have hlen:=(ZD hE.args).2;have hG:wJ cx:=⟨fun g o hg=>hE.glob g o hg⟩;have hL:Yk cx Hh Sg V VD:={na:=hna,ts:=hT,glob:=hG,alg:=hV,algD:=hVD,V:=cV,VD:=cVD};have hrel:Rel cx ⟨blk,fun _=>none⟩ (YW s.args x) ⟨vs.toArray++Array.replicate (fn.ntmps-vs.toArray.size) Go.undef,[]⟩ w :=
  Sf hE (by simp; omega) (fun j v hj=>by
   have hjl:j<vs.length:=(List.getElem?_eq_some_iff.1 hj).1;simp only[Array.getD_eq_getD_getElem?];rw[Array.getElem?_append_left (by simpa using hjl)];simp[hj])
 refine calls_of_wp hf hb (code_ok hmix hL c (hl cx rfl rfl rfl rfl) (hc cx rfl rfl rfl rfl) h hrel fun e σ' m' a' w' hr hk=>?_);have fin:(bif tS TI σ' fn.results.toList then (match uO TI σ' s.res fn.results.toList,qR σ' 0 s.args with | some r,some o=>some (r,o) | _,_=>none) else none)=some y->
   a'.defers=[]/\∃v,(results fn a'.tmps).run P w'=.ok v w'/\Ud w w' X Iq blk s y v:=by
  intro hk;cases hcell:tS TI σ' fn.results.toList with
  | false=>simp[hcell] at hk
  | true =>
  simp only[hcell,cond_true] at hk;split at hk<;>try simp at hk
  rename_i r o hres' hio';subst hk;refine ⟨hr.defers,?_⟩;obtain ⟨vs',h1,h2⟩:=qQ hT hG hr hres hcell hres';refine ⟨if h:vs'.toArray.size=1 then vs'.toArray[0] else .tuple vs'.toArray,?_,?_⟩
  ·rw[Vt]
   have:(fn.results.mapM (Vu a'.tmps)).run P w'=.ok vs'.toArray w':=by
    have h1':(fn.results.toList.mapM (Vu a'.tmps)).run P w'=.ok vs' w':=h1;rw[Array.mapM_eq_mapM_toList];simp[h1']
   simp only[Sem.run_bind,this,Result.andThen_ok];rfl
  ·refine {
    size:=hr.grown
    mem:=fun b hb hi=>hr.mem b hb hi
    os:=hr.os
    tape:=hr.tape
    output:=hr.output
    ret:=?_
    ios:=ZM hr rfl rfl (fun i b hb=>(hE.io b).2 ⟨i,hb⟩) hE.args hargs hio'}
   show SM w' (Zm w' X Iq) (qp s.res r) _;generalize qp s.res r=l at h2;match l,vs',h2 with
   | [],[],h2=>exact ⟨#[],by simp,trivial⟩
   | [d],[v],h2=>simpa [SM] using h2.1
   | d::d'::l,v::v'::vs',h2=>exact ⟨(v::v'::vs').toArray,by simp,by simpa using h2⟩
 cases e with
 | exit id=>simp[finK] at hk
 | normal=>obtain ⟨h1,v,h2,h3⟩:=fin hk; exact ⟨h1,v,h2,h3⟩
 | ret=>obtain ⟨h1,v,h2,h3⟩:=fin hk; exact ⟨h1,v,h2,h3⟩
end
end Go.VS
namespace Go.VS
open Go
section
variable {P:Program} {G:Nat->Option vD} {Sg:Nat->Sig} {Hh:Hn}
theorem Uu:∀(l:List ((f:Nat)×(TA (Sg f).args->Option (Sg f).R))),Alg (mkV Sg l)
 | [],_,_,_,_=>rfl
 | p::r,f,x,R,K=>by
  simp only[mkV];split
  ·rename_i h
   subst h;unfold oB;cases p.2 x<;>rfl
  ·exact Uu r f x R K
theorem Uv:∀(l:List ((d:Nat)×(Nat->TA (Hh.sig d).args->Option (Hh.sig d).R))),Tj (mkD Hh l)
 | [],_,_,_,_,_=>rfl
 | p::r,d,f,x,R,K=>by
  simp only[mkD];split
  ·rename_i h
   subst h;unfold oB;cases p.2 f x<;>rfl
  ·exact Uv r d f x R K
def SQ (P:Program) (G:Nat->Option vD) (Sg:Nat->Sig):List ((f:Nat)×(TA (Sg f).args->Option (Sg f).R))->Prop
 | []=>True
 | p::r=>(∀x y,p.2 x=some y->vj P G p.1 (Sg p.1) x y)/\SQ P G Sg r
def SR (P:Program) (G:Nat->Option vD) (Hh:Hn):List ((d:Nat)×(Nat->TA (Hh.sig d).args->Option (Hh.sig d).R))->Prop
 | []=>True
 | p::r=>(∀f x y,p.2 f x=some y->∃g,f=g+1/\vj P G g (Hh.sig p.1) x y)/\SR P G Hh r
theorem TW:∀{l:List ((f:Nat)×(TA (Sg f).args->Option (Sg f).R))},SQ P G Sg l->∀f x y,mkV Sg l f x some=some y->vj P G f (Sg f) x y
 | [],_,f,x,y,h=>by simp[mkV] at h
 | p::r,⟨h1,h2⟩,f,x,y,h=>by
  simp only[mkV] at h;split at h
  ·rename_i e
   subst e;unfold oB at h;split at h<;>simp at h;rename_i z hz;subst h;exact h1 x z hz
  ·exact TW h2 f x y h
theorem TX:∀{l:List ((d:Nat)×(Nat->TA (Hh.sig d).args->Option (Hh.sig d).R))},SR P G Hh l->∀d f x y,mkD Hh l d f x some=some y->∃g,f=g+1/\vj P G g (Hh.sig d) x y
 | [],_,d,f,x,y,h=>by simp[mkD] at h
 | p::r,⟨h1,h2⟩,d,f,x,y,h=>by
  simp only[mkD] at h;split at h
  ·rename_i e
   subst e;unfold oB at h;split at h<;>simp at h;rename_i z hz;subst h;exact h1 f x z hz
  ·exact TX h2 d f x y h
theorem Vm {p:Code->Prop}:∀{l:List Code} {n:Nat},l.length=n->(∀i,i<n->p (l.getD i .skip))->∀c∈l,p c:=by
 intro l n hn h c hc;obtain ⟨i,hi⟩:=List.getElem?_of_mem hc;have hlt:=(List.getElem?_eq_some_iff.1 hi).1;have:=h i (by omega);rwa [List.getD_eq_getElem?_getD,hi] at this
variable {TI:Nat->TS} {N:Nat} {V:vP Sg} {VD:vk Hh} {H HL:Nat->Shape} {HJ:Nat->Option Shape} {L:uA HL} {J:uB HJ}
def Ue (TI:Nat->TS) (G:Nat->Option vD) (Hh:Hn) (Sg:Nat->Sig) (V:vP Sg) (VD:vk Hh) (N:Nat) (H HL:Nat->Shape) (HJ:Nat->Option Shape) (L:uA HL) (J:uB HJ) (c:Code) (r:Nat):Prop :=
 ∀(x:(HL r).T) (R:Type) (K:Ex->St->Option R),∃n,L r x K=YU TI G Hh Sg V VD N H HL HJ L J c r K n x
def SO (TI:Nat->TS) (G:Nat->Option vD) (Hh:Hn) (Sg:Nat->Sig) (V:vP Sg) (VD:vk Hh) (N:Nat) (H HL:Nat->Shape) (HJ:Nat->Option Shape) (L:uA HL) (J:uB HJ) (c:Code) (r:Nat):Prop :=
 ∀(x:(shJ HJ r).T) (R:Type) (K:Ex->St->Option R),J r x K=uK TI G Hh Sg V VD N H HL HJ L J c (xa (shJ HJ r) x) K
theorem U7 (hmix:P.follows .mixedOrders=true) (hT:∀t,uk P t (TI t)) {lv:List ((f:Nat)×(TA (Sg f).args->Option (Sg f).R))} {ld:List ((d:Nat)×(Nat->TA (Hh.sig d).args->Option (Hh.sig d).R))}
  (cV:SQ P G Sg lv) (cD:SR P G Hh ld) {f:FuncId} {fn:Func} {c:Code} (hf:P.funcs[f]? = some fn) (hb:fn.body = some c) (hname:(fn.name == "runtime.NumGoroutine") = false) (hN:fn.ntmps = N)
  {nl nc:Nat} (hnl:(wS c).length=nl) (hl:∀i,i<nl->Ue TI G Hh Sg (mkV Sg lv) (mkD Hh ld) N H HL HJ L J ((wS c).getD i .skip) (rid ((wS c).getD i .skip)))
  (hnc:(vC HJ c).length=nc) (hc:∀i,i<nc->SO TI G Hh Sg (mkV Sg lv) (mkD Hh ld) N H HL HJ L J ((vC HJ c).getD i .skip) (rid ((vC HJ c).getD i .skip)))
  {s:Sig} {x:TA s.args} {y:s.R} (h:UC TI G Hh Sg (mkV Sg lv) (mkD Hh ld) N H HL HJ L J fn s c x=some y):vj P G f s x y:=by
 subst hN;refine func_ok hmix hT (Uu lv) (Uv ld) (TW cV) (TX cD) hf hb hname ?_ ?_ h
 ·rintro cx rfl rfl rfl hN
  intro c hc x R K;rw[hN];exact Vm (p:=fun c=>Ue cx.TI cx.G Hh Sg (mkV Sg lv) (mkD Hh ld) fn.ntmps H HL HJ L J c (rid c)) hnl hl c hc x R K
 ·rintro cx rfl rfl rfl hN
  intro c hc' x R K;rw[hN];exact Vm (p:=fun c=>SO cx.TI cx.G Hh Sg (mkV Sg lv) (mkD Hh ld) fn.ntmps H HL HJ L J c (rid c)) hnc hc c hc' x R K
end
end Go.VS
namespace Go.VS
open Go
theorem u0:∀{s:Nat} {xs ys:List Value} {b:Bool},uc xs ys=some b->∃b1 b2,uc (xs.take s) (ys.take s)=some b1/\uc (xs.drop s) (ys.drop s)=some b2/\b=(b1&&b2)
 | 0,xs,ys,b,h=>⟨true,b,by simp[uc],by simpa using h,by simp⟩
 | s+1,[],ys,b,h=>by
  cases ys with
  | nil=>exact ⟨true,b,by simp[uc],by simpa using h,by simp⟩
  | cons y ys=>simp[uc] at h
 | s+1,x::xs,[],b,h=>by unfold uc at h; split at h<;>simp_all
 | s+1,x::xs,y::ys,b,h=>by
  unfold uc at h;split at h<;>try simp at h
  all_goals (rename_i e1 e2; cases e1<;>cases e2)
  ·split at h<;>simp at h
   rename_i q hq;obtain ⟨hk,h⟩:=h;obtain ⟨b1,b2,h1,h2,h3⟩:=u0 (s:=s) hq;refine ⟨_,b2,by simp only[List.take_succ_cons,uc,hk,if_true,h1]; rfl,by simpa using h2,?_⟩;rw[<-h,h3,Bool.and_assoc]
  ·split at h<;>simp at h
   rename_i q hq;obtain ⟨b1,b2,h1,h2,h3⟩:=u0 (s:=s) hq;refine ⟨_,b2,by simp only[List.take_succ_cons,uc,h1]; rfl,by simpa using h2,?_⟩;rw[<-h,h3,Bool.and_assoc]
  ·split at h<;>simp at h
   rename_i q hq;obtain ⟨b1,b2,h1,h2,h3⟩:=u0 (s:=s) hq;refine ⟨_,b2,by simp only[List.take_succ_cons,uc,h1]; rfl,by simpa using h2,?_⟩;rw[<-h,h3,Bool.and_assoc]
theorem vu:∀{zs cs:List Value},wk zs cs=true->cs.length=zs.length
 | [],[],_=>rfl
 | [],_::_,h=>by simp[wk] at h
 | z::zs,[],h=>by unfold wk at h; split at h<;>simp_all
 | z::zs,c::cs,h=>by
  unfold wk at h;split at h
  ·rename_i e _; cases e
  ·rename_i e1 e2; cases e1; cases e2; simp only[Bool.and_eq_true] at h; simp[vu h.2]
  ·rename_i e1 e2; cases e1; cases e2; simp[vu h]
  ·rename_i e1 e2; cases e1; cases e2; simp[vu h]
  ·simp at h
theorem vU:∀{zs ws cs:List Value},wk (zs++ws) cs=true->wk zs (cs.take zs.length)=true/\wk ws (cs.drop zs.length)=true
 | [],ws,cs,h=>⟨by simp[wk],by simpa using h⟩
 | z::zs,ws,[],h=>by simp only[List.cons_append] at h; unfold wk at h; split at h<;>simp_all
 | z::zs,ws,c::cs,h=>by
  simp only[List.cons_append] at h;unfold wk at h;split at h
  ·rename_i e _; cases e
  ·rename_i e1 e2; cases e1; cases e2
   simp only[Bool.and_eq_true] at h;obtain ⟨h1,h2⟩:=vU h.2;exact ⟨by simp only[List.length_cons,List.take_succ_cons,wk,h1,h.1,Bool.and_self],by simpa using h2⟩
  ·rename_i e1 e2; cases e1; cases e2
   obtain ⟨h1,h2⟩:=vU h;exact ⟨by simp only[List.length_cons,List.take_succ_cons,wk,h1],by simpa using h2⟩
  ·rename_i e1 e2; cases e1; cases e2
   obtain ⟨h1,h2⟩:=vU h;exact ⟨by simp only[List.length_cons,List.take_succ_cons,wk,h1],by simpa using h2⟩
  ·simp at h
section
variable {P:Program} {w:World}
def Sc (ks:TypeId->Option (List Value)):Nat->List Field->Option (List Value)
 | _,[]=>some []
 | off,f :: r=>bif Nat.beq f.offset off && !(f.name == "_") then (match ks f.type with
  | some z=>match Sc ks (off+z.length) r with
   | some zs=>bif z.isEmpty then none else some (z++zs)
   | none=>none
  | none=>none) else none
def Xp (z:List Value):Nat->List Value
 | 0=>[]
 | n+1=>z++Xp z n
def Z0 (P:Program):Nat->TypeId->Option (List Value)
 | 0,_=>none
 | k+1,t=>match P.underlying t,P.info? t with
  | some .bool,some i=>bif Nat.beq i.size 1 then some [.bool false] else none
  | some (.int k),some i=>bif Nat.beq i.size 1 then some [.int k 0] else none
  | some .string,some i=>bif Nat.beq i.size 1 then some [.string ByteArray.empty] else none
  | some (.struct fs),some i=>bif P.stoodInHeld t then none else (match Sc (Z0 P k) 0 fs.toList with
   | some z=>bif Nat.beq i.size z.length then some z else none
   | none=>none)
  | some (.array n e),some i=>match Z0 P k e with
   | some z=>bif Nat.beq i.size (Xp z n).length&&Nat.beq (P.cellsOf e) z.length&&!z.isEmpty then some (Xp z n) else none
   | none=>none
  | _,_=>none
end
end Go.VS
namespace Go.VS
open Go
section
variable {P:Program} {w:World}
def tZ (P:Program) (t:TypeId) (cs:List Value):Value:=match P.underlying t with
 | some d=>if qu d then .agg cs.toArray else cs.headD (.bool true)
 | none=>.bool true
theorem XJ {t:TypeId} {d:TypeDesc} (hu:P.underlying t=some d) (ha:qu d=false) (v:Value):tZ P t [v]=v:=by simp[tZ,hu,ha]
theorem XK {t:TypeId} {d:TypeDesc} (hu:P.underlying t=some d) (ha:qu d=true) (cs:List Value):tZ P t cs=.agg cs.toArray:=by simp[tZ,hu,ha]
theorem XW:∀{k:Nat} {t:TypeId} {z:List Value},Z0 P k t=some z->∃i d,P.info? t=some i/\i.size=z.length/\P.underlying t=some d
 | 0,_,_,h=>by simp[Z0] at h
 | k+1,t,z,h=>by
  simp only[Z0] at h;split at h<;>try simp at h
  ·rename_i i hu hi
   cases hb:Nat.beq i.size 1<;>simp[hb] at h
   subst h;exact ⟨i,_,hi,xl hb,hu⟩
  ·rename_i i hu hi
   cases hb:Nat.beq i.size 1<;>simp[hb] at h
   subst h;exact ⟨i,_,hi,xl hb,hu⟩
  ·rename_i i hu hi
   cases hb:Nat.beq i.size 1<;>simp[hb] at h
   subst h;exact ⟨i,_,hi,xl hb,hu⟩
  ·rename_i fs i hu hi
   cases hs:P.stoodInHeld t<;>simp[hs] at h
   split at h<;>try simp at h
   rename_i m hm;cases hb:Nat.beq i.size m.length<;>simp[hb] at h
   subst h;exact ⟨i,_,hi,xl hb,hu⟩
  ·rename_i m e i hu hi
   split at h<;>try simp at h
   rename_i s hs;cases hb:Nat.beq i.size (Xp s m).length&&Nat.beq (P.cellsOf e) s.length&&!s.isEmpty with
   | false=>rw[hb] at h; simp at h
   | true =>
   rw[hb] at h;simp at h;subst h;simp only[Bool.and_eq_true] at hb;exact ⟨i,_,hi,xl hb.1.1,hu⟩
theorem Yu {t:TypeId} {z:List Value} {k:Nat} {cs:Array Value} {off:Nat} (hz:Z0 P k t=some z) (hl:off+z.length<=cs.size) (hp:z≠[]) :
  (Go.part t cs off).run P w=.ok (tZ P t ((cs.toList.drop off).take z.length)) w:=by
 obtain ⟨i,d,hi,hs,hu⟩:=XW hz;have hp':0<z.length:=List.length_pos_iff.2 hp;rw[Zi hu hi,hs];unfold tZ;rw[hu];simp only;cases ha:qu d with
 | true =>
  simp only[if_true];congr 2
  apply Array.ext';simp[List.take_drop]
 | false =>
  simp only[Bool.false_eq_true,if_false];have:off<cs.size:=by omega
  rw[Array.getElem?_eq_getElem this];simp only;congr 1
  rw[List.drop_eq_getElem_cons (by simpa using this)];cases hs:z.length with
  | zero=>omega
  | succ n=>simp
theorem uR {v:Value} {cs:List Value} (h:wk [v] cs=true):∃c,cs=[c]:=List.length_eq_one_iff.1 (by have:=vu h; simpa using this)
theorem UH {ks:TypeId->Option (List Value)} {k:Nat} (hks:ks=Z0 P k) {d:Nat}
  (ih:∀t z,Z0 P k t=some z->∀(xs ys:List Value) (b:Bool),wk z xs=true->wk z ys=true->uc xs ys=some b->∀w,(Op.equalIn d t (tZ P t xs) (tZ P t ys)).run P w=.ok b w) :
  ∀{fs:List Field} {off:Nat} {z:List Value},Sc ks off fs=some z->∀(xs ys:Array Value) (b:Bool),wk z (xs.toList.drop off)=true->wk z (ys.toList.drop off)=true->uc (xs.toList.drop off) (ys.toList.drop off)=some b->
   ∀w,(Op.eqFields d xs ys fs).run P w=.ok b w
 | [],off,z,h,xs,ys,b,hx,hy,he,w=>by
  simp[Sc] at h;subst h;have h1:xs.toList.drop off=[]:=by have:=vu hx; exact List.eq_nil_of_length_eq_zero (by simpa using this)
  have h2:ys.toList.drop off=[]:=by have:=vu hy; exact List.eq_nil_of_length_eq_zero (by simpa using this)
  rw[h1,h2] at he;simp[uc] at he;subst he;simp[Op.eqFields]
 | f::r,off,z,h,xs,ys,b,hx,hy,he,w=>by
  simp only[Sc] at h;cases hb:Nat.beq f.offset off && !(f.name == "_") with
  | false=>simp[hb] at h
  | true =>
  simp only[hb,cond_true] at h;simp only[Bool.and_eq_true] at hb;split at h<;>try simp at h
  rename_i z1 hz1;split at h<;>try simp at h
  rename_i z2 hz2;cases hem:z1.isEmpty with
  | true=>simp[hem] at h
  | false =>
  simp[hem] at h;subst h;have hne:z1≠[]:=by intro e; simp[e] at hem
  obtain ⟨x1,x2⟩:=vU hx;obtain ⟨y1,y2⟩:=vU hy;obtain ⟨b1,b2,e1,e2,e3⟩:=u0 (s:=z1.length) he;rw[List.drop_drop] at x2 y2 e2;rw[List.drop_drop] at e2;have lx:off+z1.length<=xs.size:=by have:=vu hx; have hp:=List.length_pos_iff.2 hne; simp at this; omega
  have ly:off+z1.length<=ys.size:=by have:=vu hy; have hp:=List.length_pos_iff.2 hne; simp at this; omega
  rw[hks] at hz1;have hname:f.name ≠ "_":=by simpa using hb.2
  have hoff:=xl hb.1;have ih2:=UH hks ih hz2 xs ys b2 (by simpa [Nat.add_comm] using x2) (by simpa [Nat.add_comm] using y2) (by simpa [Nat.add_comm] using e2);simp only[Op.eqFields,hoff];rw[if_pos hname];simp only[Sem.run_bind,Yu hz1 lx hne,Yu hz1 ly hne,Result.andThen_ok,ih _ _ hz1 _ _ b1 x1 y1 e1];cases b1
  ·simp[e3]
  ·simp[e3,ih2]
end
end Go.VS
namespace Go.VS
open Go
section
variable {P:Program} {w:World}
theorem Y7 {e:TypeId} {k:Nat} {z1:List Value} (hz1:Z0 P k e=some z1) (hne:z1≠[]) {d:Nat}
  (ih:∀(xs ys:List Value) (b:Bool),wk z1 xs=true->wk z1 ys=true->uc xs ys=some b->∀w,(Op.equalIn d e (tZ P e xs) (tZ P e ys)).run P w=.ok b w) :
  ∀(n j:Nat) (xs ys:Array Value) (b:Bool),wk (Xp z1 n) (xs.toList.drop (j*z1.length))=true->wk (Xp z1 n) (ys.toList.drop (j*z1.length))=true->
   uc (xs.toList.drop (j*z1.length)) (ys.toList.drop (j*z1.length))=some b->∀w,(Op.eqItems d e z1.length xs ys (List.range' j n)).run P w=.ok b w
 | 0,j,xs,ys,b,hx,hy,he,w=>by
  have h1:xs.toList.drop (j*z1.length)=[]:=by have:=vu hx; exact List.eq_nil_of_length_eq_zero (by simpa [Xp] using this)
  have h2:ys.toList.drop (j*z1.length)=[]:=by have:=vu hy; exact List.eq_nil_of_length_eq_zero (by simpa [Xp] using this)
  rw[h1,h2] at he;simp[uc] at he;subst he;simp[Op.eqItems]
 | n+1,j,xs,ys,b,hx,hy,he,w=>by
  simp only[Xp] at hx hy;obtain ⟨x1,x2⟩:=vU hx;obtain ⟨y1,y2⟩:=vU hy;obtain ⟨b1,b2,e1,e2,e3⟩:=u0 (s:=z1.length) he;rw[List.drop_drop] at x2 y2 e2;rw[List.drop_drop] at e2;have hj:j*z1.length+z1.length=(j+1)*z1.length:=by rw[Nat.succ_mul]
  rw[hj] at x2 y2 e2;have hp:=List.length_pos_iff.2 hne;have lx:j*z1.length+z1.length<=xs.size:=by have:=vu hx; simp at this; omega
  have ly:j*z1.length+z1.length<=ys.size:=by have:=vu hy; simp at this; omega
  have ih2:=Y7 hz1 hne ih n (j+1) xs ys b2 x2 y2 e2;rw[List.range'_succ];simp only[Op.eqItems,Sem.run_bind,Yu hz1 lx hne,Yu hz1 ly hne,Result.andThen_ok,ih _ _ b1 x1 y1 e1];cases b1
  ·simp[e3]
  ·simp[e3,ih2]
theorem eqKs_ok:∀(k:Nat) (t:TypeId) (z:List Value),Z0 P k t=some z->∀(d:Nat),k<=d->∀(xs ys:List Value) (b:Bool),wk z xs=true->wk z ys=true->uc xs ys=some b->
  ∀w,(Op.equalIn d t (tZ P t xs) (tZ P t ys)).run P w=.ok b w:=by
 intro k;induction k with
 | zero=>intro t z h; simp[Z0] at h
 | succ k ih =>
  intro t z h d hd xs ys b hx hy he w;obtain ⟨d,rfl⟩:∃d',d=d'+1:=⟨d-1,by omega⟩;have hd':k<=d:=by omega
  simp only[Z0] at h;split at h<;>try simp at h
  ·rename_i i hu hi
   cases hb:Nat.beq i.size 1<;>simp[hb] at h
   subst h;obtain ⟨x,rfl⟩:=uR hx;obtain ⟨y,rfl⟩:=uR hy;rw[XJ hu rfl,XJ hu rfl];cases x<;>simp[wk] at hx
   cases y<;>simp[wk] at hy
   simp[uc] at he;rw[run_equalIn_bool' w d t _ _ hu,he]
  ·rename_i k' i hu hi
   cases hb:Nat.beq i.size 1<;>simp[hb] at h
   subst h;obtain ⟨x,rfl⟩:=uR hx;obtain ⟨y,rfl⟩:=uR hy;rw[XJ hu rfl,XJ hu rfl];cases x<;>simp[wk] at hx
   cases y<;>simp[wk] at hy
   subst hx;subst hy;simp[uc] at he;rw[run_equalIn_int w d t _ _ _ _ hu,he]
  ·rename_i i hu hi
   cases hb:Nat.beq i.size 1<;>simp[hb] at h
   subst h;obtain ⟨x,rfl⟩:=uR hx;obtain ⟨y,rfl⟩:=uR hy;rw[XJ hu rfl,XJ hu rfl];cases x<;>simp[wk] at hx
   cases y<;>simp[wk] at hy
   simp[uc] at he;rw[run_equalIn_string w d t _ _ hu,<-beq_toListBytes,he]
  ·rename_i fs i hu hi
   cases hs:P.stoodInHeld t<;>simp[hs] at h
   split at h<;>try simp at h
   rename_i m hm;cases hb:Nat.beq i.size m.length<;>simp[hb] at h
   subst h;have hf:P.fieldsOf t=fs:=by simp[Program.fieldsOf,hu]
   rw[XK hu rfl,XK hu rfl,run_equalIn_struct w d t _ _ (by rw[hf]; exact hu) hs,hf];exact UH rfl (fun t z hz xs ys b h1 h2 h3 w=>ih t z hz d hd' xs ys b h1 h2 h3 w) hm xs.toArray ys.toArray b (by simpa using hx) (by simpa using hy) (by simpa using he) w
  ·rename_i m e i hu hi
   split at h<;>try simp at h
   rename_i s hs;cases hb:Nat.beq i.size (Xp s m).length&&Nat.beq (P.cellsOf e) s.length&&!s.isEmpty with
   | false=>rw[hb] at h; simp at h
   | true =>
   rw[hb] at h;simp at h;subst h;simp only[Bool.and_eq_true] at hb;have hne:s≠[]:=by intro e; rw[e] at hb; simp at hb
   obtain ⟨ie,de,hie,_,_⟩:=XW hs;rw[XK hu rfl,XK hu rfl,run_equalIn_array w d _ _ hu hie,xl hb.1.2,List.range_eq_range'];exact Y7 hs hne (fun xs ys b h1 h2 h3 w=>ih e s hs d hd' xs ys b h1 h2 h3 w) m 0 xs.toArray ys.toArray b (by simpa using hx) (by simpa using hy) (by simpa using he) w
end
end Go.VS
namespace Go.VS
open Go
section
variable {P:Program}
def Tr:Value->Value->Bool
 | .int k a,.int k' b=>decide (k=k')&&decide (a=b)
 | .bool a,.bool b=>a==b
 | .string a,.string b=>a.size==0&&b.size==0
 | .slice none 0 0,.slice none 0 0=>true
 | .nilFunc,.nilFunc=>true
 | .nilIface,.nilIface=>true
 | .pointer none,.pointer none=>true
 | .map none,.map none=>true
 | _,_=>false
theorem Tq:∀{v u:Value},Tr v u=true->v=u/\scalar v=true:=by
 intro v u h;unfold Tr at h;split at h<;>try simp at h
 ·obtain ⟨rfl,rfl⟩:=h; exact ⟨rfl,rfl⟩
 ·subst h; exact ⟨rfl,rfl⟩
 ·rw[h.1,h.2]; exact ⟨rfl,rfl⟩
 ·exact ⟨rfl,rfl⟩
 ·exact ⟨rfl,rfl⟩
 ·exact ⟨rfl,rfl⟩
 ·exact ⟨rfl,rfl⟩
 ·exact ⟨rfl,rfl⟩
def tg:List Value->List Value->Bool
 | [],[]=>true
 | a::r,b::s=>Tr a b&&tg r s
 | _,_=>false
theorem uP:∀{l k:List Value},tg l k=true->l=k/\∀v∈l,scalar v=true
 | [],[],_=>⟨rfl,by simp⟩
 | [],_::_,h=>by simp[tg] at h
 | _::_,[],h=>by simp[tg] at h
 | a::r,b::s,h=>by
  simp only[tg,Bool.and_eq_true] at h;obtain ⟨e1,e2⟩:=Tq h.1;obtain ⟨e3,e4⟩:=uP h.2;subst e1;subst e3;exact ⟨rfl,fun v hv=>by rcases List.mem_cons.1 hv with rfl | hv; (·exact e2); (·exact e4 v hv)⟩
end
end Go.VS
namespace Go.VS
open Go
section
variable {P:Program}
def ul:Ty->Option (List Value)
 | .int k=>some [.int k 0]
 | .bool=>some [.bool false]
 | .str=>some [.string ⟨#[]⟩]
 | .fn=>some [.nilFunc]
 | .sl _ | .bsl _=>some [.slice none 0 0]
 | .pt _=>none
 | .bnd _=>some [.nilFunc]
 | .unit=>some []
 | .pair a b=>match ul a,ul b with
  | some x,some y=>some (x++y)
  | _,_=>none
theorem ZE:∀{t:Ty} {l:List Value},ul t=some l->∀(w:World) (ok okb:Nat->Prop),RT w ok okb t t.dflt l
 | .int k,l,h,w,ok,okb=>by simp[ul] at h; subst h; rfl
 | .bool,l,h,w,ok,okb=>by simp[ul] at h; subst h; rfl
 | .str,l,h,w,ok,okb=>by simp[ul] at h; subst h; rfl
 | .fn,l,h,w,ok,okb=>by simp[ul] at h; subst h; rfl
 | .sl t,l,h,w,ok,okb=>by simp[ul] at h; subst h; exact ⟨_,rfl,none,0,rfl,Nat.le_refl _,fun h=>absurd rfl h⟩
 | .bsl t,l,h,w,ok,okb=>by simp[ul] at h; subst h; exact ⟨_,rfl,none,0,rfl,Nat.le_refl _,fun h=>absurd rfl h⟩
 | .pt t,l,h,w,ok,okb=>by simp[ul] at h
 | .bnd t,l,h,w,ok,okb=>by simp[ul] at h; subst h; exact .inl ⟨rfl,rfl⟩
 | .unit,l,h,w,ok,okb=>by simp[ul] at h; subst h; rfl
 | .pair a b,l,h,w,ok,okb=>by
  simp only[ul] at h;split at h<;>simp at h;rename_i x y hx hy;subst h;exact ⟨_,_,rfl,ZE hx w ok okb,ZE hy w ok okb⟩
def v8 (P:Program):List Field->List (Nat×Nat×Bool)->Bool
 | [],[]=>true
 | f::r,(off,sz,ag)::q=>Nat.beq f.offset off&&(match P.info? f.type,P.underlying f.type with
  | some i,some d=>Nat.beq i.size sz&&Nat.blt 0 sz&&(qu d==ag)
  | _,_=>false)&&v8 P r q
 | _,_=>false
theorem Zn:∀{l:List Field} {q:List (Nat×Nat×Bool)},v8 P l q=true->q.length=l.length
 | [],[],_=>rfl
 | [],_::_,h=>by simp[v8] at h
 | _::_,[],h=>by simp[v8] at h
 | _::_,(_,_,_)::_,h=>by
  simp only[v8,Bool.and_eq_true] at h;simp[Zn h.2]
theorem Yb:∀{l:List Field} {q:List (Nat×Nat×Bool)},v8 P l q=true->∀(j off sz:Nat) (ag:Bool),q[j]?=some (off,sz,ag)->
  ∃f i d,l[j]?=some f/\f.offset=off/\P.info? f.type=some i/\i.size=sz/\0<sz/\P.underlying f.type=some d/\qu d=ag
 | [],[],_,_,_,_,_,h=>by simp at h
 | [],_::_,h,_,_,_,_,_=>by simp[v8] at h
 | _::_,[],h,_,_,_,_,_=>by simp[v8] at h
 | f::l,(o,s,a)::q,h,j,off,sz,ag,e=>by
  simp only[v8,Bool.and_eq_true] at h;obtain ⟨⟨h1,h2⟩,h3⟩:=h;cases j with
  | zero =>
   simp at e;obtain ⟨rfl,rfl,rfl⟩:=e;split at h2<;>try simp at h2
   rename_i i d hi hd;exact ⟨f,i,d,by simp,xl h1,hi,h2.1.1,h2.1.2,hd,h2.2⟩
  | succ j=>simpa using Yb h3 j off sz ag (by simpa using e)
def okFs (P:Program) (d:TypeDesc) (ts:TS):Bool:=match d with
 | .struct fs=>v8 P fs.toList ts.fields&&ts.agg
 | _=>ts.fields.isEmpty&&(!ts.agg||ts.arr.isSome||ts.alen.isSome)
def okSc (d:TypeDesc) (ts:TS):Bool:=match ts.agg,ts.zs with
 | false,[.int k _]=>(match d with | .int k'=>decide (k=k') | _=>false)
 | false,[.bool _]=>(match d with | .bool=>true | _=>false)
 | _,_=>true
def okStr (d:TypeDesc) (ts:TS):Bool:=bif ts.str then (match d with | .string=>true | _=>false) else true
def okEl (P:Program) (d:TypeDesc):Option Ty->Bool
 | none=>true
 | some e=>match d with
  | .slice et=>(match P.info? et,ul e with
   | some i,some zs=>Nat.beq i.size e.size&&Nat.blt 0 e.size&&Nat.ble i.bytes 128&&(match i.zero with | some z=>tg z.cells.toList zs | none=>false)
   | _,_=>false)
  | _=>false
def okArr (P:Program) (d:TypeDesc) (ts:TS):Bool:=match ts.arr with
 | none=>true
 | some (k,n)=>ts.agg&&tg ts.zs (List.replicate n (.int k 0))&&(match d with
  | .array m et=>Nat.beq m n&&(match P.info? et,P.underlying et with
   | some i,some (.int k')=>Nat.beq i.size 1&&decide (k'=k)
   | _,_=>false)
  | _=>false)
def TM (P:Program) (d:TypeDesc) (ts:TS):Bool:=match ts.alen with
 | none=>true
 | some (n,sz)=>(match d with
  | .array m et=>Nat.beq m n&&(match P.info? et with
   | some i=>Nat.beq i.size sz
   | _=>false)
  | _=>false)
def okEq (P:Program) (t:Nat) (ts:TS):Bool:=bif ts.eqOK then ts.agg&&!(P.eqGuardType P.depth t)&&(match Z0 P 8 t with | some z=>tg z ts.zs | none=>false) else true
def okZ (i:TypeInfo) (ts:TS):Bool:=match i.zero with
 | some (.agg zc)=>ts.agg&&tg zc.toList ts.zs
 | some z=>!ts.agg&&tg [z] ts.zs
 | none=>false
def okTS (P:Program) (t:Nat) (ts:TS):Bool:=match P.info? t,P.underlying t with
 | some i,some d=>Nat.beq i.size ts.zs.length&&(qu d==ts.agg)&&okZ i ts&&okFs P d ts&&okSc d ts&&okStr d ts&&okEl P d ts.el&&okArr P d ts&&TM P d ts&&okEq P t ts
 | _,_=>false
theorem Vx {i:TypeInfo} {ts:TS} (h:okZ i ts=true):(ts.agg=true/\∃zc,i.zero=some (.agg zc)/\zc.toList=ts.zs/\∀v∈ts.zs,scalar v=true) \/
  (ts.agg=false/\∃z,i.zero=some z/\ts.zs=[z]/\scalar z=true):=by
 unfold okZ at h;split at h
 ·rename_i zc hz
  simp only[Bool.and_eq_true] at h;obtain ⟨e1,e2⟩:=uP h.2;exact .inl ⟨h.1,zc,hz,e1,by rw[<-e1]; exact e2⟩
 ·rename_i z _ hz
  simp only[Bool.and_eq_true,Bool.not_eq_true'] at h;obtain ⟨e1,e2⟩:=uP h.2;exact .inr ⟨h.1,z,hz,e1.symm,e2 z (by simp)⟩
 ·simp at h
theorem okTS_ok {t:Nat} {ts:TS} (h:okTS P t ts=true):uk P t ts:=by
 unfold okTS at h;split at h<;>try simp at h
 rename_i i d hi hd;simp only[and_assoc] at h;obtain ⟨hs,ha,hz,hf,hsc,hstr,hel,harr,halen,heq⟩:=h;have hs:i.size=ts.zs.length:=by simpa using hs
 refine ⟨fun _=>⟨i,d,hi,hs,hd,ha⟩,?_,?_,?_,?_,?_,?_,?_,?_,?_,?_,?_,?_⟩
 ·intro hag _
  rcases Vx hz with ⟨h,_⟩ | ⟨_,z,_,h,_⟩
  ·rw[h] at hag; simp at hag
  ·exact ⟨z,h⟩
 ·intro z hzs hag
  rcases Vx hz with ⟨h,_⟩ | ⟨h0,z',h1,h2,h3⟩
  ·rw[h] at hag; simp at hag
  ·rw[hzs] at h2
   simp at h2;subst h2;exact ⟨i,d,hi,h1,by rw[hs,hzs]; rfl,hd,by rw[ha,hag],h3⟩
 ·intro hag
  rcases Vx hz with ⟨h,zc,h1,h2,h3⟩ | ⟨h,_⟩
  ·exact ⟨i,d,zc,hi,h1,h2,hs,hd,by rw[ha,hag],h3⟩
  ·rw[h] at hag; simp at hag
 ·intro j off sz ag e
  unfold okFs at hf;split at hf
  ·rename_i fs
   simp only[Bool.and_eq_true] at hf;obtain ⟨f,i',d',h1,h2,h3,h4,h5,h6,h7⟩:=Yb hf.1 j off sz ag e;exact ⟨hf.2,fs,f,i',d',hd,by simpa using h1,h2,h3,h4,h5,h6,h7⟩
  ·simp only[Bool.and_eq_true,List.isEmpty_iff] at hf
   rw[hf.1] at e;simp at e
 ·intro hag h1 h2
  unfold okFs at hf;split at hf
  ·rename_i fs
   simp only[Bool.and_eq_true] at hf;refine ⟨fs,hd,fun j f e=>?_⟩;have hl:=Zn hf.1;have hj:j<ts.fields.length:=by rw[hl]; have:=(Array.getElem?_eq_some_iff.1 e).1; simpa using this
   exact ⟨_,_,_,List.getElem?_eq_getElem hj⟩
  ·simp[hag,h1,h2] at hf
 ·intro k n hzs hag
  unfold okSc at hsc;rw[hag,hzs] at hsc;simp at hsc;split at hsc<;>simp at hsc;rw[hd,hsc]
 ·intro b hzs hag
  unfold okSc at hsc;rw[hag,hzs] at hsc;simp at hsc;split at hsc<;>simp at hsc;exact hd
 ·intro hst
  unfold okStr at hstr;rw[hst] at hstr;simp at hstr;split at hstr<;>simp at hstr;exact hd
 ·intro e he
  unfold okEl at hel;rw[he] at hel;simp only at hel;split at hel<;>try simp at hel
  rename_i et;split at hel<;>try simp at hel
  rename_i i' zs hi' hzs;simp only[and_assoc] at hel;obtain ⟨h1,h2,h3,h4⟩:=hel;split at h4<;>try simp at h4
  rename_i z hz';obtain ⟨e1,e2⟩:=uP h4;have hR:∀w ok okb,RT w ok okb e e.dflt z.cells.toList:=fun w ok okb=>by rw[e1]; exact ZE hzs w ok okb
  exact ⟨et,i',z,hd,hi',hz',by have:=(hR default (fun _=>True) (fun _=>True)).len; simpa using this,h1,h2,h3,hR⟩
 ·intro k n he
  unfold okArr at harr;rw[he] at harr;simp only at harr;simp only[Bool.and_eq_true] at harr;obtain ⟨⟨h1,h2⟩,h3⟩:=harr;refine ⟨h1,(uP h2).1,?_⟩;split at h3<;>try simp at h3
  rename_i m et;obtain ⟨h4,h3⟩:=h3;split at h3<;>try simp at h3
  rename_i i' k' hi' hk';subst h4;exact ⟨et,i',hd,hi',h3.1,by rw[hk',h3.2]⟩
 ·intro n sz he
  unfold TM at halen;rw[he] at halen;simp only at halen;split at halen<;>try simp at halen
  rename_i m et;obtain ⟨h4,h3⟩:=halen;split at h3<;>try simp at h3
  rename_i i' hi';subst h4;exact ⟨et,i',hd,hi',h3⟩
 ·intro he xs ys b hx hy hv x y w
  unfold okEq at heq;rw[he] at heq;simp only[cond_true,Bool.and_eq_true,Bool.not_eq_true'] at heq;obtain ⟨⟨h1,h2⟩,h3⟩:=heq;split at h3<;>try simp at h3
  rename_i z hz';obtain ⟨e1,_⟩:=uP h3;subst e1;have hk:=eqKs_ok 8 t _ hz' Op.maxDepth (Nat.le_of_ble_eq_true rfl) xs.toList ys.toList b hx hy hv w;rw[XK hd (by rw[ha,h1]),XK hd (by rw[ha,h1])] at hk;simp only[Array.toArray_toList] at hk;constructor
  ·simp[eqGuard,Go.binOp,Op.equal,hk,h2]
  ·simp[eqGuard,Go.binOp,Op.equal,hk,h2]
theorem Tg (P:Program) (t:Nat):uk P t {}:=by
 refine ⟨?_,?_,?_,?_,?_,?_,?_,?_,?_,?_,?_,?_,?_⟩<;>simp
def Vy (P:Program):List (Nat×TS)->Bool
 | []=>true
 | (t,ts)::r=>okTS P t ts&&Vy P r
theorem XE:∀{rows:List (Nat×TS)},Vy P rows=true->∀t,uk P t (lk {} t rows)
 | [],_,t=>Tg P t
 | (k,ts)::r,h,t=>by
  simp only[Vy,Bool.and_eq_true] at h;simp only[lk];cases hb:Nat.beq t k with
  | false=>exact XE h.2 t
  | true=>rw[xl hb]; exact okTS_ok h.1
end
end Go.VS
namespace Go.VS
open Go
section
variable {P:Program}
mutual
def tI (P:Program):Nat->TypeId->Ty->Bool
 | 0,_,_=>false
 | n+1,t,c=>match P.underlying t with
  | some (.int k)=>(match c with | .int k'=>decide (k'=k) | _=>false)
  | some .bool=>(match c with | .bool=>true | _=>false)
  | some .string=>(match c with | .str=>true | _=>false)
  | some (.slice e)=>(match c with
   | .sl c'=>tI P n e c'&&Nat.beq (P.cellsOf e) c'.size&&Nat.blt 0 c'.size
   | .bsl c'=>tI P n e c'&&Nat.beq (P.cellsOf e) c'.size&&Nat.blt 0 c'.size
   | _=>false)
  | some (.struct fs)=>Nat.beq (P.cellsOf t) c.size&&WV P n 0 fs.toList c
  | _=>false
def WV (P:Program):Nat->Nat->List Field->Ty->Bool
 | 0,_,_,_=>false
 | n+1,off,[f],c=>Nat.beq f.offset off&&Nat.beq (P.cellsOf f.type) c.size&&tI P n f.type c
 | n+1,off,f::r,.pair a b=>Nat.beq f.offset off&&Nat.beq (P.cellsOf f.type) a.size&&tI P n f.type a&&WV P n (off+a.size) r b
 | _,_,_,_=>false
end
def wfT:(t:Ty)->t.T->Prop
 | .int k,x=>k.min<=x/\x<=k.max
 | .str,s=>s.size<=maxLen
 | .sl t,l=>l.length<=maxLen/\∀y∈l,wfT t y
 | .bsl t,l=>l.length<=maxLen/\∀y∈l,wfT t y
 | .pair a b,x=>wfT a x.1/\wfT b x.2
 | _,_=>True
def uM:(t:Ty)->t.T->Nat
 | .str,s=>s.size+1
 | .sl t,l=>(l.map (uM t)).sum+1
 | .bsl t,l=>(l.map (uM t)).sum+1
 | .pair a b,x=>uM a x.1+uM b x.2
 | .unit,_=>0
 | _,_=>1
structure qv {H:Type} (B:DataW H->Nat) (BA:List (DataW H)->Nat):Prop where
 lit:∀bytes,bytes.length+1<=B (.lit (.string bytes))
 one:∀d,1<=B d
 slice:∀es sp,BA es+1<=B (.slice es sp)
 agg:∀ps,BA ps<=B (.agg ps)
 cons:∀d r,B d+BA r<=BA (d::r)
variable {H:Type} {enc:TypeId×Value->H} {w:World} {base:Nat} {spare:Nat->Bool} {held:Bool} {B:DataW H->Nat} {BA:List (DataW H)->Nat}
theorem Sq {a:Addr} {n:Nat} {cs:List Value} (h:w.cells? base a n=some cs) (hn:0<n):a.spot=none/\a.block<w.heap.size/\cs.length=n/\wb w a.block a.off cs:=by
 obtain ⟨_,hl,hc⟩:=World.cells?_some h;have hb:=World.cells?_block h hn;have hs:a.spot=none:=by
  have h0:=hc 0 hn;have:cs[0]?=some cs[0]:=List.getElem?_eq_getElem (by omega);rw[this] at h0;simp only[Addr.add,if_true] at h0;unfold World.cell? at h0;split at h0<;>try simp at h0
  exact h0.1
 refine ⟨hs,hb,hl,?_⟩;have key:∀(l:List Value) (k:Nat),(∀i,i<l.length->w.cell? ⟨a.block,a.off+k+i,none⟩=l[i]?)->wb w a.block (a.off+k) l:=by
  intro l;induction l with
  | nil=>intro k _; trivial
  | cons v r ih =>
   intro k hk;refine ⟨by simpa using hk 0 (by simp),?_⟩;have:=ih (k+1) (fun i hi=>by have:=hk (i+1) (by simp; omega); simpa [Nat.add_assoc,Nat.add_comm 1] using this);simpa [Nat.add_assoc] using this
 have:=key cs 0 (fun i hi=>by
  have:=hc i (by omega);rw[<-this];simp only[Addr.add];split
  ·rename_i h0; subst h0; obtain ⟨b,o,s⟩:=a; simp at hs; subst hs; simp
  ·simp)
 simpa using this
theorem Uw {α:Type} {p:Nat->α->Prop}:∀(n:Nat),(∀i,i<n->∃y,p i y)->∃l:List α,l.length=n/\∀i (h:i<l.length),p i l[i]
 | 0,_=>⟨[],rfl,fun i h=>by simp at h⟩
 | n+1,h=>by
  obtain ⟨l,hl,hp⟩:=Uw n (fun i hi=>h i (by omega));obtain ⟨y,hy⟩:=h n (by omega);refine ⟨l++[y],by simp[hl],fun i hi=>?_⟩;by_cases e:i<l.length
  ·rw[List.getElem_append_left e]; exact hp i e
  ·have:i=n:=by simp at hi; omega
   subst this;rw[List.getElem_append_right (by omega)];simpa [hl] using hy
theorem Vj (hB:qv B BA) {α:Type} {f:α->Nat}:∀{l:List α} {m:List (DataW H)},l.length=m.length->(∀i (h:i<l.length) (h':i<m.length),f l[i]<=B m[i])->(l.map f).sum<=BA m
 | [],[],_,_=>by simp
 | [],_::_,h,_=>by simp at h
 | _::_,[],h,_=>by simp at h
 | a::l,d::m,h,hi=>by
  have h0:=hi 0 (by simp) (by simp);have:=Vj hB (l:=l) (m:=m) (by simpa using h) (fun i h1 h2=>hi (i+1) (by simpa using h1) (by simpa using h2));have hc:=hB.cons d m;simp at h0 ⊢;omega
theorem We (hB:qv B BA) {ok okb:Nat->Prop} (hok:∀b,b<w.heap.size->ok b) (hokb:∀b,b<w.heap.size->okb b):∀(n:Nat),
  (∀(t:TypeId) (c:Ty),tI P n t c=true->∀(fuel:Nat) (cs:List Value) (x:DataW H×List MemPlace),DataW.trod enc P w base spare held fuel t cs=some x->
   ∃y:c.T,RT w ok okb c y cs/\wfT c y/\uM c y<=B x.1) /\
  (∀(off:Nat) (fs:List Field) (c:Ty),WV P n off fs c=true->∀(fuel:Nat) (cs:List Value) (xs:List (DataW H×List MemPlace)),cs.length=off+c.size->xs.length=fs.length->
   (∀(i:Nat) (f:Field),fs[i]?=some f->DataW.trod enc P w base spare held fuel f.type ((cs.drop f.offset).take (P.cellsOf f.type))=xs[i]?)->
   ∃y:c.T,RT w ok okb c y (cs.drop off)/\wfT c y/\uM c y<=BA (xs.map (·.1))):=by
 intro n;induction n with
 | zero=>exact ⟨fun t c h=>by simp[tI] at h,fun off fs c h=>by simp[WV] at h⟩
 | succ n ih =>
  obtain ⟨ih1,ih2⟩:=ih;constructor
  ·intro t c hc fuel cs x hx
   simp only[tI] at hc;split at hc
   ·rename_i k hu
    split at hc<;>simp at hc;subst hc;obtain ⟨m,rfl,rfl,hw⟩:=DataW.trod_int hu hx;simp only[Lit.wf,Bool.and_eq_true,decide_eq_true_eq] at hw;exact ⟨m,rfl,hw,by simp only[uM]; exact hB.one _⟩
   ·rename_i hu
    split at hc<;>simp at hc;obtain ⟨m,rfl,rfl⟩:=DataW.trod_bool hu hx;exact ⟨m,rfl,trivial,by simp only[uM]; exact hB.one _⟩
   ·rename_i hu
    split at hc<;>simp at hc;obtain ⟨m,rfl,rfl,hw⟩:=DataW.trod_string hu hx;exact ⟨m,rfl,hw,by simp only[uM]; have:=hB.lit m.data.toList; simpa using this⟩
   ·rename_i e hu
    have main:∀(c':Ty) (good:Nat->Prop),(∀b,b<w.heap.size->good b)->tI P n e c'=true->P.cellsOf e=c'.size->0<c'.size->
      ∃l:List c'.T,(∃v,cs=[v]/\SlR w good c'.size (RT w ok okb c') l v)/\(l.length<=maxLen/\∀y∈l,wfT c' y)/\(l.map (uM c')).sum+1<=B x.1:=by
     intro c' good hg h1 h2 h3;rcases DataW.trod_slice hu hx with ⟨rfl,rfl⟩ | ⟨a,len,cap,tv,rest,m,_,rfl,rfl,hb,hl,hm,hlen,hel,_⟩
     ·exact ⟨[],⟨_,rfl,none,0,rfl,Nat.le_refl _,fun h=>absurd rfl h⟩,⟨by simp,by simp⟩,by simpa using hB.one _⟩
     ·have each:∀i,i<len->∃y:c'.T,(∃us,us.length=c'.size/\(a.add (i*c'.size)).spot=none/\a.block<w.heap.size/\wb w a.block (a.add (i*c'.size)).off us/\RT w ok okb c' y us) /\
        wfT c' y/\∀(h:i<tv.length),uM c' y<=B (tv[i]).1:=by
       intro i hi;have:=hel i hi;rw[h2,List.getElem?_eq_getElem (by omega),Option.bind_eq_some_iff] at this;obtain ⟨us,hus,ht⟩:=this;obtain ⟨c1,c2,c3,c4⟩:=Sq hus h3;obtain ⟨y,r1,r2,r3⟩:=ih1 e c' h1 m us _ ht;have hab:(a.add (i*c'.size)).block=a.block:=by simp only[Addr.add]; split<;>rfl
       rw[hab] at c2 c4;exact ⟨y,⟨us,c3,c1,c2,c4,r1⟩,r2,fun _=>r3⟩
      obtain ⟨l,hll,hp⟩:=Uw len each;refine ⟨l,⟨_,rfl,some a,cap,by rw[hll],by omega,fun hne=>?_⟩,⟨by omega,fun y hy=>?_⟩,?_⟩
      ·have h0:0<l.length:=List.length_pos_iff.2 hne
       obtain ⟨⟨us,_,hs,hblk,_⟩,_⟩:=hp 0 h0;have hs':a.spot=none:=by simpa [Addr.add] using hs
       refine ⟨a.block,a.off,by obtain ⟨b,o,s⟩:=a; simp at hs'; subst hs'; rfl,hg _ hblk,fun i hi=>?_⟩;obtain ⟨⟨us,e1,_,_,e2,e3⟩,_⟩:=hp i hi;have ho:(a.add (i*c'.size)).off=a.off+i*c'.size:=by simp only[Addr.add]; split<;>simp_all
       rw[ho] at e2;exact ⟨us,e1,e2,e3⟩
      ·obtain ⟨i,hi,rfl⟩:=List.getElem_of_mem hy
       exact (hp i hi).2.1
      ·have hs:=hB.slice (tv.map (·.1)) (rest.map (·.1))
       have:=Vj hB (f:=uM c') (l:=l) (m:=tv.map (·.1)) (by simp; omega) (fun i h1 h2=>by
        simp only[List.getElem_map];exact (hp i h1).2.2 (by simpa using h2))
       simp only at hs ⊢;omega
    split at hc
    ·rename_i c'
     simp only[Bool.and_eq_true] at hc;obtain ⟨l,h1,h2,h3⟩:=main c' ok hok hc.1.1 (xl hc.1.2) (by have:=hc.2; simpa using this);exact ⟨l,h1,h2,h3⟩
    ·rename_i c'
     simp only[Bool.and_eq_true] at hc;obtain ⟨l,h1,h2,h3⟩:=main c' okb hokb hc.1.1 (xl hc.1.2) (by have:=hc.2; simpa using this);exact ⟨l,h1,h2,h3⟩
    ·simp at hc
   ·rename_i fs hu
    simp only[Bool.and_eq_true] at hc;obtain ⟨xs,m,_,rfl,hl,hlen,hf⟩:=DataW.trod_struct hu hx;obtain ⟨y,r1,r2,r3⟩:=ih2 0 fs.toList c hc.2 m cs xs (by rw[hl,xl hc.1]; simp) (by simpa using hlen) (fun i f hif=>hf i f (by simpa using hif));exact ⟨y,by simpa using r1,r2,Nat.le_trans r3 (hB.agg _)⟩
   ·simp at hc
  ·intro off fs c hc fuel cs xs hl hxl hf
   unfold WV at hc;split at hc
   ·simp_all
   ·rename_i f e1
    cases e1
    simp only[Bool.and_eq_true] at hc;obtain ⟨⟨h1,h2⟩,h3⟩:=hc;have h0:=hf 0 f rfl;match xs,hxl with
    | [x],_ =>
     rw[xl h1,xl h2,List.take_of_length_le (by simp; omega)] at h0;obtain ⟨y,r1,r2,r3⟩:=ih1 f.type _ h3 fuel _ x h0;refine ⟨y,r1,r2,Nat.le_trans r3 ?_⟩;have:=hB.cons x.1 [];simp;omega
   ·rename_i f r a b _ e1
    cases e1
    simp only[Bool.and_eq_true] at hc;obtain ⟨⟨⟨h1,h2⟩,h3⟩,h4⟩:=hc;have h0:=hf 0 f rfl;match xs,hxl with
    | x::xs,hxl =>
     rw[xl h1,xl h2] at h0;obtain ⟨y,r1,r2,r3⟩:=ih1 f.type a h3 fuel _ x h0;obtain ⟨z,s1,s2,s3⟩:=ih2 _ r b h4 fuel cs xs (by rw[hl]; simp[Ty.size]; omega) (by simpa using hxl) (fun i g hg=>by simpa using hf (i+1) g (by simpa using hg));refine ⟨(y,z),⟨_,_,?_,r1,s1⟩,⟨r2,s2⟩,?_⟩
     ·rw[<-List.drop_drop,List.take_append_drop]
     ·have:=hB.cons x.1 (xs.map (·.1))
      simp[uM];omega
   ·simp at hc
end
end Go.VS
namespace Go.VS
open Go Go.ChangeShapes Go.RowKit
section
variable {P:Program} {H:Type} {enc:TypeId×Value->H} {w:World} {base:Nat} {spare:Nat->Bool} {held:Bool} {B:DataW H->Nat} {BA:List (DataW H)->Nat}
def XN (P:Program) (t:TypeId):Bool:=match P.underlying t with
 | some (.struct _)=>true
 | _=>false
def okArg (P:Program) (n:Nat) (t:TypeId):AT->Bool
 | .d (.c c)=>tI P n t c&&!XN P t
 | .d (.b e)=>tI P n t (.bsl e)&&!XN P t
 | .d (.g c)=>tI P n t c&&XN P t
 | _=>false
def ZQ (P:Program) (n:Nat):List TypeId->List AT->Bool
 | [],[]=>true
 | t::ts,a::as=>okArg P n t a&&ZQ P n ts as
 | _,_=>false
def wfK:(k:KS)->k.T->Prop
 | .c t,x=>wfT t x
 | .b t,x=>wfT (.bsl t) x
 | .g t,x=>wfT t x
 | _,_=>True
def UL:(k:KS)->k.T->Nat
 | .c t,x=>uM t x
 | .b t,x=>uM (.bsl t) x
 | .g t,x=>uM t x
 | _,_=>0
def wfA:(as:List AT)->TA as->Prop
 | [],_=>True
 | .d k::r,x=>wfK k x.1/\wfA r x.2
 | .io _::r,x=>wfA r x.2
def Xd:(as:List AT)->TA as->Nat
 | [],_=>0
 | .d k::r,x=>UL k x.1+Xd r x.2
 | .io _::r,x=>Xd r x.2
theorem XD {n:Nat} {t:TypeId} {c:Ty} (h:tI P n t c=true):∃d,P.underlying t=some d/\(∀m e,d≠.array m e)/\(XN P t=false->∀fs,d≠.struct fs):=by
 cases n with
 | zero=>simp[tI] at h
 | succ n =>
  simp only[tI] at h;split at h<;>first | (simp at h; done) | skip
  all_goals (rename_i hu; refine ⟨_,hu,by simp,fun hs fs e=>?_⟩; simp[XN,hu] at hs; try simp at e)
theorem TN {t:TypeId} {v:Value} {d:TypeDesc} (hu:P.underlying t=some d) (ha:∀m e,d≠.array m e) (hs:∀fs,d≠.struct fs) {r:Reach} (h:Value.okWide P w r base t v):∀cs,v≠.agg cs:=by
 rintro cs rfl
 unfold Value.okWide at h;rw[hu] at h;cases d<;>first | exact absurd rfl (hs _) | exact absurd rfl (ha _ _) | (simp[Cell.okWide,Cell.ok,hu] at h)
theorem XZ {v:Value} (h:∀cs,v≠.agg cs):v.cells.toList=[v]:=by
 cases v<;>first | rfl | exact absurd rfl (h _)
def noX:Nat->Prop:=fun _=>False
def VA:Nat->Option Nat:=fun _=>none
theorem X1 (hB:qv B BA):∀{ts:List TypeId} {as:List AT} {n i:Nat} {vs:List Value} {ds:List (DataW H)} {ps:List MemPlace},
  ZQ P n ts as=true->DataW.TrodAll enc P w base spare held ts vs ds ps->(∀(j:Nat) t v,ts[j]?=some t->vs[j]?=some v->Value.okWide P w .any base t v)->
  ∃x:TA as,qM w (qIn w noX noX) VA i as x vs/\wfA as x/\Xd as x<=BA ds
 | [],[],n,i,vs,ds,ps,_,h,_=>by
  obtain ⟨rfl,rfl,rfl⟩:=trodAll_nil h;exact ⟨(),fun j _=>rfl,trivial,Nat.zero_le _⟩
 | [],_::_,_,_,_,_,_,h,_,_=>by simp[ZQ] at h
 | _::_,[],_,_,_,_,_,h,_,_=>by simp[ZQ] at h
 | t::ts,a::as,n,i,vs,ds,ps,hk,h,hv=>by
  simp only[ZQ,Bool.and_eq_true] at hk;obtain ⟨v,vs',d,ds',p,q,rfl,rfl,rfl,⟨fuel,h1⟩,h2⟩:=trodAll_cons h;obtain ⟨xr,r1,r2,r3⟩:=X1 hB (n:=n) (i:=i+1) hk.2 h2 (fun j t v ht hv'=>hv (j+1) t v (by simpa using ht) (by simpa using hv'));have hv0:=hv 0 t v rfl rfl;have hc:=hB.cons d ds';have hok:∀b,b<w.heap.size->(qIn w noX noX).ok b:=fun b hb=>⟨hb,id,id⟩
  have hokb:∀b,b<w.heap.size->(qIn w noX noX).okb b:=fun b hb=>⟨hb,id⟩
  have ha:=hk.1;unfold okArg at ha;split at ha
  ·rename_i c
   simp only[Bool.and_eq_true,Bool.not_eq_true'] at ha;obtain ⟨dd,hu,g1,g2⟩:=XD ha.1;have hna:=XZ (TN hu g1 (g2 ha.2) hv0);rw[hna] at h1;obtain ⟨y,s1,s2,s3⟩:=(We hB hok hokb n).1 t c ha.1 fuel _ _ h1;exact ⟨(y,xr),⟨rfl,VW s1,r1⟩,⟨s2,r2⟩,by simp only[Xd,UL]; simp only at s3; omega⟩
  ·rename_i e
   simp only[Bool.and_eq_true,Bool.not_eq_true'] at ha;obtain ⟨dd,hu,g1,g2⟩:=XD ha.1;have hna:=XZ (TN hu g1 (g2 ha.2) hv0);rw[hna] at h1;obtain ⟨y,⟨v',e1,s1⟩,s2,s3⟩:=(We hB hok hokb n).1 t (.bsl e) ha.1 fuel _ _ h1;simp at e1;subst e1;exact ⟨(y,xr),⟨rfl,s1,r1⟩,⟨s2,r2⟩,by simp only[Xd,UL]; simp only at s3; omega⟩
  ·rename_i c
   simp only[Bool.and_eq_true] at ha;have hs:=ha.2;unfold XN at hs;split at hs<;>try simp at hs
   rename_i fs hu;unfold Value.okWide at hv0;rw[hu] at hv0;obtain ⟨cs,rfl,_,_⟩:=hv0;obtain ⟨y,s1,s2,s3⟩:=(We hB hok hokb n).1 t c ha.1 fuel _ _ h1;exact ⟨(y,xr),⟨rfl,⟨cs,rfl,UI.2 s1⟩,r1⟩,⟨s2,r2⟩,by simp only[Xd,UL]; simp only at s3; omega⟩
  ·simp at ha
def ut:Ty->Bool
 | .int _ | .bool | .str=>true
 | .pair a b=>ut a&&ut b
 | _=>false
def tQ:(t:Ty)->t.T->List Value
 | .int k,x=>[.int k x]
 | .bool,x=>[.bool x]
 | .str,x=>[.string x]
 | .pair a b,x=>tQ a x.1++tQ b x.2
 | _,_=>[]
theorem Yx:∀{t:Ty} (x:t.T),ut t=true->∀(w:World) (ok okb:Nat->Prop),RT w ok okb t x (tQ t x)
 | .int _,_,_,_,_,_=>rfl
 | .bool,_,_,_,_,_=>rfl
 | .str,_,_,_,_,_=>rfl
 | .fn,_,h,_,_,_=>by simp[ut] at h
 | .sl _,_,h,_,_,_=>by simp[ut] at h
 | .bsl _,_,h,_,_,_=>by simp[ut] at h
 | .pt _,_,h,_,_,_=>by simp[ut] at h
 | .bnd _,_,h,_,_,_=>by simp[ut] at h
 | .unit,_,h,_,_,_=>by simp[ut] at h
 | .pair a b,x,h,w,ok,okb=>by
  simp only[ut,Bool.and_eq_true] at h;exact ⟨_,_,rfl,Yx x.1 h.1 w ok okb,Yx x.2 h.2 w ok okb⟩
mutual
def Zd:DataW H->List Value
 | .lit (.int k n)=>[.int k n]
 | .lit (.bool b)=>[.bool b]
 | .lit (.string l)=>[.string ⟨l.toArray⟩]
 | .agg ps=>qc ps
 | _=>[]
def qc:List (DataW H)->List Value
 | []=>[]
 | d::r=>Zd d++qc r
end
theorem VP (n:Nat) :
  (∀(t:TypeId) (c:Ty),tI P n t c=true->ut c=true->∀(fuel:Nat) (cs:List Value) (x:DataW H×List MemPlace),DataW.trod enc P w base spare held fuel t cs=some x->cs=Zd x.1) /\
  (∀(off:Nat) (fs:List Field) (c:Ty),WV P n off fs c=true->ut c=true->∀(fuel:Nat) (cs:List Value) (xs:List (DataW H×List MemPlace)),cs.length=off+c.size->xs.length=fs.length->
   (∀(i:Nat) (f:Field),fs[i]?=some f->DataW.trod enc P w base spare held fuel f.type ((cs.drop f.offset).take (P.cellsOf f.type))=xs[i]?)->
   cs.drop off=qc (xs.map (·.1))):=by
 induction n with
 | zero=>exact ⟨fun t c h=>by simp[tI] at h,fun off fs c h=>by simp[WV] at h⟩
 | succ n ih =>
  obtain ⟨ih1,ih2⟩:=ih;constructor
  ·intro t c hc hfl fuel cs x hx
   simp only[tI] at hc;split at hc
   ·rename_i k hu
    obtain ⟨m,rfl,rfl,hw⟩:=DataW.trod_int hu hx;simp[Zd]
   ·rename_i hu
    obtain ⟨m,rfl,rfl⟩:=DataW.trod_bool hu hx;simp[Zd]
   ·rename_i hu
    obtain ⟨m,rfl,rfl,hw⟩:=DataW.trod_string hu hx;simp[Zd]
   ·split at hc<;>simp[ut] at hfl hc
   ·rename_i fs hu
    simp only[Bool.and_eq_true] at hc;obtain ⟨xs,m,_,rfl,hl,hlen,hf⟩:=DataW.trod_struct hu hx;have:=ih2 0 fs.toList c hc.2 hfl m cs xs (by rw[hl,xl hc.1]; simp) (by simpa using hlen) (fun i f hif=>hf i f (by simpa using hif));simpa [Zd] using this
   ·simp at hc
  ·intro off fs c hc hfl fuel cs xs hl hxl hf
   unfold WV at hc;split at hc
   ·simp_all
   ·rename_i f e1
    cases e1
    simp only[Bool.and_eq_true] at hc;obtain ⟨⟨h1,h2⟩,h3⟩:=hc;have h0:=hf 0 f rfl;match xs,hxl with
    | [x],_ =>
     rw[xl h1,xl h2,List.take_of_length_le (by simp; omega)] at h0;have:=ih1 f.type _ h3 hfl fuel _ x h0;simp[qc,this]
   ·rename_i f r a b _ e1
    cases e1
    simp only[Bool.and_eq_true] at hc;simp only[ut,Bool.and_eq_true] at hfl;obtain ⟨⟨⟨h1,h2⟩,h3⟩,h4⟩:=hc;have h0:=hf 0 f rfl;match xs,hxl with
    | x::xs,hxl =>
     rw[xl h1,xl h2] at h0;have e1:=ih1 f.type a h3 hfl.1 fuel _ x h0;have e2:=ih2 _ r b h4 hfl.2 fuel cs xs (by rw[hl]; simp[Ty.size]; omega) (by simpa using hxl) (fun i g hg=>by simpa using hf (i+1) g (by simpa using hg));simp only[List.map_cons,qc,<-e1,<-e2];rw[<-List.drop_drop,List.take_append_drop]
   ·simp at hc
theorem Tf {t e:TypeId} {m n:Nat} {c:Ty} (hu:P.underlying t=some (.array m e)) (hc:tI P n e c=true) (hfl:ut c=true) (hs:P.cellsOf e=c.size) (hst:P.cellsOf t=m*c.size)
  {fuel:Nat} {cs:List Value} {x:DataW H×List MemPlace} (h:DataW.trod enc P w base spare held fuel t cs=some x):cs=Zd x.1:=by
 obtain ⟨xs,k,_,rfl,hl,hlen,hf⟩:=DataW.trod_array hu h;simp only[Zd];rw[hst] at hl;have key:∀(r i:Nat) (ys:List (DataW H×List MemPlace)),i+r=m->ys=xs.drop i->cs.drop (i*c.size)=qc (ys.map (·.1)):=by
  intro r;induction r with
  | zero =>
   intro i ys hi hy;have e1:xs.drop i=[]:=List.drop_of_length_le (by omega);have e2:cs.drop (i*c.size)=[]:=List.drop_of_length_le (by rw[hl,<-hi,Nat.add_zero]; exact Nat.le_refl _);rw[hy,e1,e2];simp[qc]
  | succ r ih =>
   intro i ys hi hy;have him:i<xs.length:=by omega
   rw[hy,List.drop_eq_getElem_cons him];have h1:=hf i (by omega);rw[hs,List.getElem?_eq_getElem him] at h1;have e1:=(VP n).1 e c hc hfl k _ _ h1;have e2:=ih (i+1) (xs.drop (i+1)) (by omega) rfl;simp only[List.map_cons,qc,<-e1,<-e2];rw[Nat.succ_mul,<-List.drop_drop,List.take_append_drop]
 simpa using key m 0 xs (by omega) rfl
theorem u4:∀{t:Ty} (x:t.T),ut t=true->(tQ t x).length=t.size:=fun x h=>(Yx x h default (fun _=>True) (fun _=>True)).len
theorem Y2 {t:Ty} (hfl:ut t=true):∀(l:List t.T) (i:Nat) (h:i<l.length),((l.flatMap (tQ t)).drop (i*t.size)).take t.size=tQ t l[i]
 | x::l,0,_=>by simp[<-u4 x hfl]
 | x::l,i+1,h=>by
  have:=Y2 hfl l i (by simpa using h);simp only[List.flatMap_cons,List.getElem_cons_succ];rw[Nat.succ_mul,Nat.add_comm,<-List.drop_drop,<-u4 x hfl,List.drop_left,u4 x hfl];exact this
theorem glob_of {name:String} {d:DataW Unit} {g:Nat} {t e:TypeId} {m n:Nat} {c:Ty} {l:List c.T} (hg:P.globalNamed name=some g) (hty:(P.globals[g]?).map (·.type)=some t)
  (hu:P.underlying t=some (.array m e)) (hc:tI P n e c=true) (hfl:ut c=true) (hs:P.cellsOf e=c.size) (hst:P.cellsOf t=m*c.size) (hd:Zd d=l.flatMap (tQ c))
  (h:laidMet P [(name,d)] w):u6 (fun k=>lk none k [(g,some ⟨c,l⟩)]) w noX:=by
 obtain ⟨ps,⟨g',t',cs,fuel,p,q,hg',ht',hvar,htr,_,_⟩,_⟩:=h;obtain rfl:=Option.some.inj (hg.symm.trans hg');obtain rfl:=Option.some.inj (hty.symm.trans ht');have hcs:=Tf hu hc hfl hs hst htr;simp only at hcs;rw[hd] at hcs;intro k o ho;simp only[lk] at ho;cases hb:Nat.beq k g with
 | false=>rw[hb] at ho; simp at ho
 | true =>
  rw[hb] at ho;have hk:=xl hb;subst hk;simp at ho;subst ho;refine ⟨?_,id,fun i hi=>⟨tQ c l[i],u4 _ hfl,?_,Yx _ hfl⟩⟩
  ·unfold World.var? at hvar
   rw[hg] at hvar;simp only[Option.bind_some] at hvar;split at hvar<;>try simp at hvar
   rename_i e2;exact (Array.getElem?_eq_some_iff.1 e2).1
  ·refine uj fun j v hj=>?_
   have hj':j<c.size:=by have:=(List.getElem?_eq_some_iff.1 hj).1; rw[u4 _ hfl] at this; exact this
   rw[World.var?_cell hg hvar,<-hj,<-Y2 hfl l i hi];rw[List.getElem?_take_of_lt hj',List.getElem?_drop,<-hcs,Nat.zero_add];simp
end
end Go.VS
namespace Go.VS
open Go Go.ChangeShapes Go.RowKit
section
variable {P:Program} {H:Type} {enc:TypeId×Value->H} {W W':World} {G:Nat->Option vD}
theorem U3 {f:FuncId} {fn:Func} {s:Sig} {x:TA s.args} {y:s.R} {vs:List Value} (hf:P.funcs[f]? = some fn) (hb:fn.body.isSome = true) (hname:(fn.name == "runtime.NumGoroutine") = false)
  (c:vj P G f s x y) (hE:Xo G W noX noX VA s.args x vs) (hr:qp s.res y.1=[.c (.v (.bool true))]) :
  Calls P f vs.toArray W fun e W'=>e=.returned (.bool true)/\Below W.heap.size W W':=by
 have hcall:(callFunc f vs.toArray).run P W=.ok (.enter f vs.toArray) W:=by
  have hn:fn.body.isNone=false:=by cases h:fn.body<;>simp_all
  simp only[callFunc,Sem.run_bind,run_program,Result.andThen_ok,hf,hname,hn,Bool.false_eq_true,if_false];rfl
 rcases c W noX noX VA vs hE with ⟨v,w',h,_⟩ | ⟨_,h⟩
 ·rw[hcall] at h; simp at h
 ·refine h.mono fun e W' he=>?_
  cases e with
  | returned v =>
   obtain ⟨h1,h2,h3,h4,h5,h6,_⟩:=he;rw[hr] at h6;simp only[SM,RD,RC] at h6;obtain ⟨rfl,_⟩:=h6;exact ⟨rfl,h3,h4,h5,h1,fun k hk=>h2 k hk id⟩
  | panicked _=>exact he.elim
  | outgrown=>exact he.elim
theorem qI (hl:laidOutB P=true) (hb:Below W.heap.size W W'):∀{ts:List TypeId} {vs:List Value} {ds:List (DataW H)} {ps:List MemPlace},ts.all (fun t=>P.readableRec t&&decide (t<P.types.size))=true->
  DataW.TrodAll enc P W 0 (fun _=>true) true ts vs ds ps->DataW.TrodAll enc P W' 0 (fun b=>decide (b<W.heap.size)) true ts vs ds ps
 | [],vs,ds,ps,_,h=>by
  obtain ⟨rfl,rfl,rfl⟩:=trodAll_nil h;exact rfl
 | t::ts,vs,ds,ps,ht,h=>by
  have hlt:=h.lt;obtain ⟨v,vs',d,ds',p,q,rfl,rfl,rfl,h1,h2⟩:=trodAll_cons h;simp only[List.all_cons,Bool.and_eq_true,decide_eq_true_eq] at ht;exact ⟨p,q,Below.trod hl ht.1.1 ht.1.2 h1 hb (fun x hx=>hlt x (List.mem_append.2 (.inl hx))),qI hl hb (by simpa using ht.2) h2,rfl⟩
theorem T0 {fn:Func} {s:ChangeSpec} {tb:TypeId} {args:Array Value} {ds gs:List (DataW H)} {before:List MemPlace} {fresh handsOn:Bool} (hl:laidOutB P=true)
  (ht:fn.params.toList.all (fun t=>P.readableRec t&&decide (t<P.types.size))=true) (hv:s.vars=[]) (hfn:s.fn H ds={results:=[.lit (.bool true)],args:=ds}) (hr:fn.resultTypes=#[tb]) (hb:P.underlying tb=some .bool)
  (hW:DataW.Whole enc P fn.params.toList s.vars false W args.toList ds gs before) (hB:Below W.heap.size W W'):s.post enc P fn false fresh handsOn false W args (.bool true) W':=by
 obtain ⟨p,q,hA,hV,rfl,hz,hn⟩:=hW;have hgs:gs=[]/\q=[]:=by
  rw[hv] at hV;cases gs with
  | nil=>exact ⟨rfl,hV⟩
  | cons g gs=>exact hV.elim
 obtain ⟨rfl,rfl⟩:=hgs;refine ⟨ds,[],p++[],[],p,[],⟨p,[],hA,hV,rfl,hz,hn⟩,?_,?_,?_,?_,fun h=>by cases h⟩
 ·rw[List.append_nil,hfn,hr]
  exact ⟨[],[],shut_bool hb true,rfl,rfl⟩
 ·rw[List.append_nil,hfn]
  exact qI hl hB ht hA
 ·rw[List.append_nil,hfn,hv]
  rfl
 ·exact hB.frame _
theorem Se {as:List AT} {x:TA as} {vs:List Value} (hg:u6 G W noX) (ha:qM W (qIn W noX noX) VA 0 as x vs):Xo G W noX noX VA as x vs where
 glob:=hg
 old:=fun b h=>by rcases h with h | h<;>exact h.elim
 io:=fun b=>⟨fun h=>h.elim,fun ⟨i,h⟩=>by simp[VA] at h⟩
 inj:=fun i j b h=>by simp[VA] at h
 args:=ha
theorem law_row {base:Nat} {f:FuncId} {fn:Func} {sg:Sig} {s:ChangeSpec} {tb:TypeId} {n:Nat} {B:DataW H->Nat} {BA:List (DataW H)->Nat} (hBL:qv B BA) (hf:P.funcs[f]?=some fn) (hb:fn.body.isSome=true)
  (hname:(fn.name == "runtime.NumGoroutine") = false) (hk:ZQ P n fn.params.toList sg.args = true) (hl:laidOutB P = true) (ht:fn.params.toList.all (fun t=>P.readableRec t && decide (t < P.types.size)) = true) (hv:s.vars = [])
  (hr:fn.resultTypes=#[tb]) (htb:P.underlying tb=some .bool) {fresh handsOn:Bool} {args:Array Value} {ds gs:List (DataW H)} {before:List MemPlace} (hfn:s.fn H ds={results:=[.lit (.bool true)],args:=ds})
  (hval:∀(j:Nat) t v,fn.params[j]?=some t->args[j]?=some v->Value.okWide P W .any base t v)
  (hW:DataW.Whole enc P fn.params.toList s.vars false W args.toList ds gs before) (hG:u6 G W noX)
  (law:∀x:TA sg.args,wfA sg.args x->Xd sg.args x<=BA ds->∃y:sg.R,vj P G f sg x y/\qp sg.res y.1=[.c (.v (.bool true))]) :
  Calls P f args W fun e W'=>∃v,e=.returned v/\s.post enc P fn false fresh handsOn false W args v W':=by
 have hW':=hW;obtain ⟨p,q,hA,hV,rfl,hz,hn⟩:=hW;obtain ⟨x,h1,h2,h3⟩:=X1 (i:=0) hBL hk hA (fun j t v h h'=>hval j t v (by simpa using h) (by simpa using h'));obtain ⟨y,hc,hy⟩:=law x h2 h3;refine (U3 hf hb hname hc (Se hG h1) hy).mono fun e W' ⟨he,hB⟩=>⟨_,he,?_⟩
 exact T0 hl ht hv hfn hr htb hW' hB
end
end Go.VS
namespace Go.VS
open Go
structure FX (TI:Nat->TS) (G:Nat->Option vD) (Sg:Nat->Sig) where
 hn:Hn:={}
 lv:List ((f:Nat)×(TA (Sg f).args->Option (Sg f).R)):=[]
 ld:List ((d:Nat)×(Nat->TA (hn.sig d).args->Option (hn.sig d).R)):=[]
 N:Nat
 H:Nat->Shape:=fun _=>{}
 HL:Nat->Shape:=fun _=>{}
 HJ:Nat->Option Shape:=fun _=>none
 L:uA HL:=mkL HL []
 J:uB HJ:=mkJ HJ []
def WS {α:Type} (m:Nat):Nat->List α->List α
 | _,[]=>[]
 | i,a::r=>bif Nat.testBit m i then a::WS m (i+1) r else WS m (i+1) r
def shS (te tb:List (Nat×KS)) (to:List uf) (x:Nat×Nat×Nat):Shape:={env:=WS x.1 0 te,box:=WS x.2.1 0 tb,own:=WS x.2.2 0 to}
def shN (te tb:List (Nat×KS)) (to:List uf) (l:List (Nat×Nat×Nat×Nat)):Nat->Shape:=fun r=>shS te tb to (lk (0,0,0) r l)
def shO (te tb:List (Nat×KS)) (to:List uf) (l:List (Nat×Nat×Nat×Nat)):Nat->Option Shape:=fun r=>(lk none r (l.map fun p=>(p.1,some p.2))).map (shS te tb to)
def bd (fn:Func):Code:=fn.body.getD .skip
section
variable {TI:Nat->TS} {G:Nat->Option vD} {Sg:Nat->Sig} {P:Program}
def FX.code (X:FX TI G Sg) {R:Type} (c:Code) (σ:St) (K:Ex->St->Option R):Option R :=
 uK TI G X.hn Sg (mkV Sg X.lv) (mkD X.hn X.ld) X.N X.H X.HL X.HJ X.L X.J c σ K
def FX.func (X:FX TI G Sg) (fn:Func) (s:Sig) (x:TA s.args):Option s.R :=
 UC TI G X.hn Sg (mkV Sg X.lv) (mkD X.hn X.ld) X.N X.H X.HL X.HJ X.L X.J fn s (bd fn) x
def FX.lp (X:FX TI G Sg) (cs:List Code) (i:Nat):Prop:=Ue TI G X.hn Sg (mkV Sg X.lv) (mkD X.hn X.ld) X.N X.H X.HL X.HJ X.L X.J (cs.getD i .skip) (rid (cs.getD i .skip))
def FX.ct (X:FX TI G Sg) (cs:List Code) (i:Nat):Prop:=SO TI G X.hn Sg (mkV Sg X.lv) (mkD X.hn X.ld) X.N X.H X.HL X.HJ X.L X.J (cs.getD i .skip) (rid (cs.getD i .skip))
theorem FX.loop (X:FX TI G Sg) (cs:List Code) (i r F:Nat) (hr:rid (cs.getD i .skip)=r) (lf:(R:Type)->(Ex->St->Option R)->Nat->(X.HL r).T->Option R) (h0:∀R K x,lf R K 0 x=none)
  (hs:∀R K n x,X.code (cs.getD i .skip) (xa (X.HL r) x) (UM (tY (X.HL r)) (lf R K n) K)=lf R K (n+1) x) (hL:∀R K x,X.L r x K=lf R K F x):X.lp cs i:=by
 unfold FX.lp;rw[hr];intro x R K;refine ⟨F,(hL R K x).trans ?_⟩;have key:∀n,lf R K n=YU TI G X.hn Sg (mkV Sg X.lv) (mkD X.hn X.ld) X.N X.H X.HL X.HJ X.L X.J (cs.getD i .skip) r K n:=by
  intro n;induction n with
  | zero=>funext x; rw[h0]; rfl
  | succ n ih =>
   funext x
   rw[<-hs,ih];rfl
 rw[key]
theorem FX.cut (X:FX TI G Sg) (cs:List Code) (i r:Nat) (hr:rid (cs.getD i .skip)=r) (h:∀(R:Type) (K:Ex->St->Option R) x,X.J r x K=X.code (cs.getD i .skip) (xa (shJ X.HJ r) x) K):X.ct cs i:=by
 unfold FX.ct;rw[hr];intro x R K;exact h R K x
abbrev TEs:=List (Nat×KS)
def kI:KS:=.c (.int .i64)
def kB:KS:=.c .bool
def kL (k:Nat):Nat×KS:=(k,.loc k)
abbrev SH:=Nat->Shape
abbrev KK (R:Type):Type:=Ex->St->Option R
theorem FX.loopk {X:FX TI G Sg} {cs:List Code} {i:Nat} (r F:Nat) (lf:(R:Type)->(Ex->St->Option R)->Nat->(X.HL r).T->Option R) (hr:rid (cs.getD i .skip)=r:=by kernel_rfl) (h0:∀R K x,lf R K 0 x=none:=by intro _ _ _; kernel_rfl)
  (hs:∀R K n x,X.code (cs.getD i .skip) (xa (X.HL r) x) (UM (tY (X.HL r)) (lf R K n) K)=lf R K (n+1) x:=by intro _ _ _ _; kernel_rfl) (hL:∀R K x,X.L r x K=lf R K F x:=by intro _ _ _; kernel_rfl):X.lp cs i:=FX.loop X cs i r F hr lf h0 hs hL
theorem FX.cutk {X:FX TI G Sg} {cs:List Code} {i:Nat} (r:Nat) (hr:rid (cs.getD i .skip)=r:=by kernel_rfl) (h:∀(R:Type) (K:Ex->St->Option R) x,X.J r x K=X.code (cs.getD i .skip) (xa (shJ X.HJ r) x) K:=by intro _ _ _; kernel_rfl):X.ct cs i:=FX.cut X cs i r hr h
theorem zm {p:Nat->Prop}:∀i,i<0->p i:=fun _ h=>absurd h (Nat.not_lt_zero _)
theorem yh {p:Nat->Prop} {n:Nat} (h:p n) (hr:∀i,i<n->p i):∀i,i<n+1->p i:=fun i hi=>by
 by_cases e:i=n
 ·subst e; exact h
 ·exact hr i (by omega)
def OK (P:Program) (G:Nat->Option vD) (f:Nat) (s:Sig) (sp:TA s.args->Option s.R):Prop:=∀x y,sp x=some y->vj P G f s x y
def chkF (fn:Func) (N nl nc:Nat) (ls cs:List Code):Bool:=fn.body.isSome && (!(fn.name == "runtime.NumGoroutine") && (Nat.beq fn.ntmps N && (Nat.beq ls.length nl && Nat.beq cs.length nc)))
theorem func_x (X:FX TI G Sg) (hmix:P.follows .mixedOrders=true) (hT:∀t,uk P t (TI t)) (cV:SQ P G Sg X.lv) (cD:SR P G X.hn X.ld) {f:FuncId} {fn:Func} (hf:P.funcs[f]?=some fn)
  {s:Sig} {sp:TA s.args->Option s.R} (nl nc:Nat) (hk:chkF fn X.N nl nc (wS (bd fn)) (vC X.HJ (bd fn))=true)
  (hl:∀i,i<nl->X.lp (wS (bd fn)) i) (hc:∀i,i<nc->X.ct (vC X.HJ (bd fn)) i) (hm:∀x,X.func fn s x=sp x):OK P G f s sp:=by
 intro x y h;simp only[chkF,Bool.and_eq_true,Bool.not_eq_true'] at hk;obtain ⟨h1,h2,h3,h4,h5⟩:=hk;have hb:fn.body=some (bd fn):=by
  unfold bd;cases hb:fn.body with
  | none=>rw[hb] at h1; simp at h1
  | some c=>rfl
 exact U7 hmix hT cV cD hf hb h2 (Nat.eq_of_beq_eq_true h3) (Nat.eq_of_beq_eq_true h4) hl (Nat.eq_of_beq_eq_true h5) hc ((hm x).trans h)
def mkT (s:Sig):List (Nat×(TA s.args->Option s.R))->Nat->TA s.args->Option s.R
 | [],_,_=>none
 | p::r,f,x=>bif Nat.beq p.1 f then p.2 x else mkT s r f x
def AllT (P:Program) (G:Nat->Option vD) (s:Sig):List (Nat×(TA s.args->Option s.R))->Prop
 | []=>True
 | p::r=>(∃g,p.1=g+1/\OK P G g s p.2)/\AllT P G s r
theorem ux {s:Sig}:∀{l:List (Nat×(TA s.args->Option s.R))},AllT P G s l->∀f x y,mkT s l f x=some y->∃g,f=g+1/\vj P G g s x y
 | [],_,_,_,_,h=>by simp[mkT] at h
 | p::r,⟨h1,h2⟩,f,x,y,h=>by
  simp only[mkT] at h;cases hb:Nat.beq p.1 f with
  | true =>
   rw[hb] at h;obtain ⟨g,hg,h1⟩:=h1;exact ⟨g,by rw[<-Nat.eq_of_beq_eq_true hb,hg],h1 x y h⟩
  | false=>rw[hb] at h; exact ux h2 f x y h
theorem XU {f:FuncId} {fn:Func} (hf:P.funcs[f]? = some fn) (hk:(!fn.body.isSome && !(fn.name == "runtime.NumGoroutine")) = true) (hn:Extern.findNext fn = none) {e:Array Value→Sem Value} (he:Extern.find fn = some e)
  {s:Sig} {sp:TA s.args->Option s.R} (h:∀x y,sp x=some y->∀w X Iq blk vs,Xo G w X Iq blk s.args x vs->∃v,(e vs.toArray).run P w=.ok v w/\Ud w w X Iq blk s y v):OK P G f s sp:=by
 intro x y hx w X Iq blk vs hE;obtain ⟨v,h1,h2⟩:=h x y hx w X Iq blk vs hE;refine .inl ⟨v,w,?_,h2⟩;simp only[Bool.and_eq_true,Bool.not_eq_true'] at hk;have hb:fn.body.isNone=true:=by cases hb:fn.body<;>simp_all
 rw[run_callFunc_extern hf hk.2 hb hn he,h1];rfl
theorem ZO {w:World} {X Iq:Nat->Prop} {blk:Nat->Option Nat} {s:Sig} {y:s.R} {v:Value} (hr:SM w (Zm w X Iq) (qp s.res y.1) v) (hi:Ti w w (Zm w X Iq) blk 0 s.args y.2):Ud w w X Iq blk s y v :=
 ⟨Nat.le_refl _,fun _ _ _=>rfl,rfl,rfl,rfl,hr,hi⟩
end
end Go.VS
