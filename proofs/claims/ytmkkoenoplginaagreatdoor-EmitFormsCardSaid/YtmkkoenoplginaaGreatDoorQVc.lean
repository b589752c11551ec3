/- A semantics by values for the translated code, joined from smaller texts. -/
import Derived.Lib.SlBytesConst
import Derived.Laws.StructEq
import Derived.ChangeKeysEq
import Derived.OpenShut
import Derived.ChangeArms
import Derived.FnData
import Derived.ChangeSame
import Derived.Carry
import Derived.ShutString
import Derived.Laws.Externs
import Derived.Lib.IndexMore
import Derived.Test.YtmkkoenoplginaaGreatDoorQVb
set_option linter.unusedVariables false
set_option linter.unusedSimpArgs false
set_option linter.unusedSectionVars false
namespace Go.VS
open Go IntKind
section
variable {cx:Cx} {Hh:Hn} {Sg:Nat->Sig} {V:vj Sg} {VD:wy Hh} {m:Gh} {σ σ1:St} {a:Act} {w w':World} {o:Oper} {e:Eff} {next:Act->World->Prop} {Q:Exit->Act->World->Prop}
structure Xq (cx:Cx) (Hh:Hn) (Sg:Nat->Sig) (V:vj Sg) (VD:wy Hh):Prop where
 na:cx.na=Hh.na
 me:cx.me=Hh.me
 ts:∀t,vo cx.P t (cx.TI t)
 glob:xU cx
 alg:Alg V
 algD:Qt VD
 V:∀f x y,V f x some=some y->wt cx.P cx.G f (Sg f) x y
 VD:∀d f x y,VD d f x some=some y->∃g,f=g+1/\wt cx.P cx.G g (Hh.sig d) x y
theorem qL {m':Gh} {σ':St} {v:Value} (ha:ww Hh.sp cx.N σ o.dst e=some σ1) (h:∀σ',vL σ o.dst e.mem=some σ'->Rel cx m' σ' a w'/\RE w' (cx.q σ' m' w') e.ent v):Rel cx m' σ1 (a.put o.dst v) w':=by
 obtain ⟨σ',hm,rfl,hd,_⟩:=vR ha;obtain ⟨h1,h2⟩:=h σ' hm;cases hdst:o.dst with
 | none=>exact h1
 | some s=>exact h1.put (hd s hdst) h2
theorem RS {v:Value} (ha:ww Hh.sp cx.N σ o.dst e=some σ1) (h:∀σ',vL σ o.dst e.mem=some σ'->∃m',Rel cx m' σ' a w'/\RE w' (cx.q σ' m' w') e.ent v):∃m',Rel cx m' σ1 (a.put o.dst v) w':=by
 obtain ⟨σ',hm,rfl,hd,_⟩:=vR ha;obtain ⟨m',h1,h2⟩:=h σ' hm;cases hdst:o.dst with
 | none=>exact ⟨m',h1⟩
 | some s=>exact ⟨m',h1.put (hd s hdst) h2⟩
theorem U0 {σ:St} {s off:Nat} {at_:AT} {y:at_.T×List Lk} (h:xA σ (.loc s off) at_=some y):∃d,σ.box s=some d:=by
 cases hb:σ.box s with
 | some d=>exact ⟨d,rfl⟩
 | none =>
  exfalso
  cases at_ with
  | d k=>cases k<;>simp[xA,hb] at h
  | io t ms=>simp[xA,hb] at h
  | ios t=>simp[xA] at h
theorem VW {σ:St} {s off:Nat} {as:List AT} {es:List Ent} {y:TA as×List Lk} (h:yO σ as (.loc s off::es)=some y):∃d,σ.box s=some d:=by
 cases as with
 | nil=>simp[yO] at h
 | cons b as =>
  simp only[yO] at h;split at h
  ·rename_i hx _; exact U0 hx
  ·simp at h
theorem Zv (hL:Xq cx Hh Sg V VD) (h:Rel cx m σ a w) {s:Sig} {f:Nat} {es:List Ent} {vs:List Value} {x:TA s.args} {ss:List Lk} {y:s.R}
  (hrun:execOp a.eval o=callFunc f vs.toArray) (hr:yO σ s.args es=some (x,ss)) (hap:vQ Hh s.args es ss=true) (hes:All2 (RE w (cx.q σ m w)) es vs) (hc:wt cx.P cx.G f s x y)
  (ha:ww Hh.sp cx.N σ o.dst (WS o.dst s ss y)=some σ1) (hn:∀m1 a1 w1,Rel cx m1 σ1 a1 w1->next a1 w1):o.wp cx.P a w next Q:=by
 simp only[vQ,Bool.and_eq_true] at hap;obtain ⟨hap,hma⟩:=hap;obtain ⟨g,hgb,hgm,hmv,hI,hE⟩:=Q7 hL.me hL.glob h hr hap hma hes;have hcall:=hc w _ _ _ vs (Z0 o.dst) hE;have fin:∀v w',Post w w' (qC cx σ m g) (v6 (xy m 0 s.args es)) g s x y v (Z0 o.dst)->next (a.put o.dst v) w':=by
  intro v w' hp;obtain ⟨m',hm'⟩:=RS ha fun σ' hm=>zam h hr hap hes hgb hgm hmv hI hp hm
  exact hn m' _ _ hm'
 unfold Oper.wp;rw[hrun];rcases hcall with ⟨v,w',h1,h2⟩ | ⟨h1,h2⟩
 ·rw[h1]; exact fin v w' h2
 ·rw[h1,Oper.upon_enter]
  refine Calls.mono h2 fun e w'' he=>?_
  cases e with
  | returned v=>exact fin v w'' he
  | panicked c=>exact he.elim
  | outgrown=>exact he.elim
theorem WV {t:TypeId} {x i:Operand} {b:Bool} {en:Ent} {me:ME} (hg:efG cx.TI cx.G Hh o σ=some (b,⟨en,me⟩)) (ho:o.op=.indexAddr t x i):me=.none:=by
 unfold efG at hg;rw[ho] at hg;simp only at hg;unfold vM at hg;split at hg<;>try simp at hg
 split at hg<;>try simp at hg
 ·cases hz:(cx.TI t).elSz _<;>rw[hz] at hg<;>simp at hg; exact hg.2.2.symm
 ·cases hz:(cx.TI t).elSz _<;>rw[hz] at hg<;>simp at hg; exact hg.2.2.symm
 ·split at hg<;>try simp at hg
  cases hz:(cx.TI t).elSz _<;>rw[hz] at hg<;>simp at hg; exact hg.2.2.symm
 ·split at hg<;>try simp at hg
  cases hz:(cx.TI t).elSz _<;>rw[hz] at hg<;>simp at hg; exact hg.2.2.symm
 ·split at hg
  ·cases hz:Nat.beq _ 0<;>rw[hz] at hg<;>simp at hg; exact hg.2.2.symm
  ·split at hg<;>try simp at hg
   cases hz:Nat.beq _ 0<;>rw[hz] at hg<;>simp at hg; exact hg.2.2.symm
  ·simp at hg
 ·split at hg<;>try simp at hg
  cases hz:(Nat.beq _ _&&Nat.beq _ _)<;>rw[hz] at hg<;>simp at hg; exact hg.2.2.symm
theorem effS_wp (hL:Xq cx Hh Sg V VD) (h:Rel cx m σ a w) (he:Y3 cx.TI cx.G Hh Sg V VD o σ=some e) (ha:ww Hh.sp cx.N σ o.dst e=some σ1)
  (hn:∀m1 a1 w1,Rel cx m1 σ1 a1 w1->next a1 w1):o.wp cx.P a w next Q:=by
 unfold Y3 efK at he;split at he
 ·
  rename_i c x y ho;have hc:=wn hL.glob h c;have hx:=wn hL.glob h x;have hy:=wn hL.glob h y;split at he<;>try simp at he
  rename_i t ht;rw[ht] at hc;obtain ⟨hc,_⟩:=hc.v_eq;have hrun:∀t',t=t'->(execOp a.eval o).run cx.P w=.ok (.value (if t' then a.eval x else a.eval y)) w:=by
   intro t' e; subst e;simp[execOp,ho,hc,asBool]
  unfold Oper.wp;cases t
  ·simp at he
   subst he;rw[hrun false rfl];exact hn m _ _ (qL (σ':=σ) ha fun σ' hm=>by simp only[vL,Option.some.injEq] at hm; subst hm; exact ⟨h,by simpa using hy⟩)
  ·simp at he
   subst he;rw[hrun true rfl];exact hn m _ _ (qL (σ':=σ) ha fun σ' hm=>by simp only[vL,Option.some.injEq] at hm; subst hm; exact ⟨h,by simpa using hx⟩)
 ·
  rename_i f args _ ho;have hf:=wn hL.glob h f;have hargs:=UD hL.glob h args.toList;have hmap:args.map a.eval=(args.toList.map a.eval).toArray:=by apply Array.ext'; simp
  generalize σ.ev cx.G f=ef at he hf;split at he
  ·rename_i fid0
   have hf:a.eval f=fnV fid0:=hf;have hrun:∀fid,fid0=fid+1->execOp a.eval o=callFunc fid (args.toList.map a.eval).toArray:=by
    rintro fid rfl
    simp only[execOp,ho,resolve,hf,fnV,Deferred.ofValue,invoke,hmap];simp[pure_bind]
   split at he
   ·split at he<;>try simp at he
    skip
    have hrun:=hrun _ rfl;split at he<;>try simp at he
    rename_i x hx;generalize hap:vQ Hh _ _ x.2=cb at he;cases cb with
    | false=>simp at he
    | true =>
     simp only[cond_true] at he;rw[hL.alg] at he;generalize hv:V _ x.1 some=ov at he;cases ov with
     | none=>simp at he
     | some y =>
      simp at he;subst he;exact Zv hL h hrun hx hap hargs (hL.V _ _ _ hv) ha hn
   ·split at he<;>try simp at he
    rename_i x hx;generalize hap:vQ Hh _ _ x.2=cb at he;cases cb with
    | false=>simp at he
    | true =>
     simp only[cond_true] at he;rw[hL.algD] at he;cases hv:VD (o.dst.getD 0) fid0 x.1 some with
     | none=>simp[hv] at he
     | some y =>
      simp[hv] at he;subst he;obtain ⟨g,hg,hcon⟩:=hL.VD _ _ _ _ hv;exact Zv hL h (hrun g hg) hx hap hargs hcon ha hn
  ·rename_i fid t y0
   obtain ⟨b,off,us,hf,k1,k2,k3,k4⟩:=hf;have hrun:execOp a.eval o=callFunc fid (args.toList.map a.eval++[Value.pointer (some ⟨b,off,none⟩)]).toArray:=by
    simp only[execOp,ho,resolve,hf,Deferred.ofValue,invoke,hmap];simp[pure_bind]
   split at he<;>try simp at he
   rename_i x hx;generalize hap:vQ Hh _ _ x.2=cb at he;cases cb with
   | false=>simp at he
   | true =>
    simp only[cond_true] at he;rw[hL.algD] at he;cases hv:VD (o.dst.getD 0) (fid+1) x.1 some with
    | none=>simp[hv] at he
    | some y =>
     simp[hv] at he;subst he;obtain ⟨g,hg,hcon⟩:=hL.VD _ _ _ _ hv;have hg:fid=g:=by omega
     subst hg;refine Zv hL h hrun hx hap (hargs.app ⟨?_,trivial⟩) hcon ha hn;exact ⟨b,off,us,rfl,k1,k3,xJ k4,wM _ _ _ (by simp)⟩
  ·rename_i fid t y0 u z0
   obtain ⟨b,off,us,b',off',us',hf,⟨k1,k2,k3,k4⟩,⟨k1',k2',k3',k4'⟩⟩:=hf;have hrun:execOp a.eval o=callFunc fid (args.toList.map a.eval++[Value.pointer (some ⟨b,off,none⟩),Value.pointer (some ⟨b',off',none⟩)]).toArray:=by
    simp only[execOp,ho,resolve,hf,Deferred.ofValue,invoke,hmap];simp[pure_bind]
   split at he<;>try simp at he
   rename_i x hx;generalize hap:vQ Hh _ _ x.2=cb at he;cases cb with
   | false=>simp at he
   | true =>
    simp only[cond_true] at he;rw[hL.algD] at he;cases hv:VD (o.dst.getD 0) (fid+1) x.1 some with
    | none=>simp[hv] at he
    | some y =>
     simp[hv] at he;subst he;obtain ⟨g,hg,hcon⟩:=hL.VD _ _ _ _ hv;have hg:fid=g:=by omega
     subst hg;refine Zv hL h hrun hx hap (hargs.app ⟨?_,?_,trivial⟩) hcon ha hn
     ·exact ⟨b,off,us,rfl,k1,k3,xJ k4,wM _ _ _ (by simp)⟩
     ·exact ⟨b',off',us',rfl,k1',k3',xJ k4',wM _ _ _ (by simp)⟩
  ·rename_i fid t y0
   split at he<;>try simp at he
   rename_i x hx;generalize hap:vQ Hh _ _ x.2=cb at he;cases cb with
   | false=>simp at he
   | true =>
    simp only[cond_true] at he;rw[hL.algD] at he;cases hv:VD (o.dst.getD 0) fid x.1 some with
    | none=>simp[hv] at he
    | some y =>
     simp[hv] at he;subst he;obtain ⟨g,hg,hcon⟩:=hL.VD _ _ _ _ hv;rcases hf with ⟨h0,_⟩ | ⟨f',us,h0,hf,k4⟩
     ·exact absurd h0 (by omega)
     have h0:g=f':=by omega
     subst h0;have hrun:execOp a.eval o=callFunc g (Value.agg us::args.toList.map a.eval).toArray:=by
      simp only[execOp,ho,resolve,hf,Deferred.ofValue,invoke,hmap];simp[pure_bind]
     exact Zv hL h hrun hx hap ⟨⟨us,rfl,xJ k4⟩,hargs⟩ hcon ha hn
  ·rename_i fid
   split at he<;>try simp at he
   rename_i r hrm;split at he<;>try simp at he
   rename_i x hx;generalize hap:vQ Hh _ _ x.2=cb at he;cases cb with
   | false=>simp at he
   | true =>
    simp only[cond_true] at he;rw[hL.algD] at he;cases hv:VD (o.dst.getD 0) fid x.1 some with
    | none=>simp[hv] at he
    | some y =>
     simp[hv] at he;subst he;obtain ⟨g,hg,hcon⟩:=hL.VD _ _ _ _ hv;rcases hf with ⟨h0,_⟩ | ⟨f',b,h0,hmb,hf⟩
     ·exact absurd h0 (by omega)
     have h0:g=f':=by omega
     subst h0;have hrun:execOp a.eval o=callFunc g (Value.pointer (some ⟨b,0,none⟩)::args.toList.map a.eval).toArray:=by
      simp only[execOp,ho,resolve,hf,Deferred.ofValue,invoke,hmap];simp[pure_bind]
     obtain ⟨d,hd⟩:=VW hx;obtain ⟨b2,_,_,e1,_⟩:=h.box r d hd;have e2:=h.mebox r b2 (hL.me.trans hrm) e1;have hmb:m.me=some b:=hmb;rw[hmb] at e2;have e2:b=b2:=by simpa using e2
     subst e2;exact Zv hL h hrun hx hap ⟨⟨b,e1,rfl⟩,hargs⟩ hcon ha hn
  ·simp at he
 ·
  split at he<;>try simp at he
  rename_i b e' hg;cases b with
  | false=>simp at he
  | true =>
   simp only[cond_true] at he;have he:e=e':=by
    split at he
    ·rename_i s off mm sz h1 _ _
     have:=Y8 he;subst this;obtain ⟨en,me⟩:=e';simp only at h1;subst h1;rw[WV hg (by assumption)]
    ·simpa using he.symm
   subst he;obtain ⟨v,w',m',hr,hd⟩:=za5 hL.na hL.me hL.ts hL.glob h hg;have key:next (a.put o.dst v) w':=hn m' _ _ (qL (σ':=σ) ha hd)
   unfold Oper.wp;rcases hr with hr | ⟨hr,rfl⟩
   ·rw[hr]; exact key
   ·rw[hr]; exact key
 ·
  split at he<;>try simp at he
  rename_i b e' hg;cases b with
  | false=>simp at he
  | true =>
   simp at he;subst he;obtain ⟨v,w',m',hr,hd⟩:=za5 hL.na hL.me hL.ts hL.glob h hg;have key:next (a.put o.dst v) w':=hn m' _ _ (qL (σ':=σ) ha hd)
   unfold Oper.wp;rcases hr with hr | ⟨hr,rfl⟩
   ·rw[hr]; exact key
   ·rw[hr]; exact key
theorem Tq {ops:Array Oper} {all:List Oper} (hall:ops.toList=all) (h:Rel cx m σ a w) {b:Bool} (hg:qk all o σ=some b):Region.wanted o (yielded ops a.tmps)=b:=by
 unfold qk at hg;unfold Region.wanted;cases hgd:o.guard with
 | none=>rw[hgd] at hg; simp at hg; simpa using hg
 | some gw =>
  obtain ⟨g,want⟩:=gw;rw[hgd] at hg;simp only at hg ⊢;cases hs:uh all g with
  | none=>rw[hs] at hg; simp at hg
  | some s =>
   rw[hs] at hg;simp only at hg;have hop:(ops[g]?).bind (·.dst)=some s:=by
    unfold uh at hs;rw[<-hall,Array.getElem?_toList] at hs;cases ho:ops[g]? with
    | none=>rw[ho] at hs; simp at hs
    | some o'=>rw[ho] at hs; simpa using hs
   have henv:=h.env s;have hy:yielded ops a.tmps g=match a.tmps[s]? with | some (.bool b)=>some b | _=>none:=by
    unfold yielded;rw[hop];rfl
   split at hg<;>try simp at hg
   ·rename_i c hc
    rw[hc] at henv;obtain ⟨hv,_⟩:=henv.v_eq;have ht:a.tmps[s]?=some (.bool c):=by
     simp only[Array.getD_eq_getD_getElem?] at hv;cases hq:a.tmps[s]? with
     | none=>rw[hq] at hv; simp[Go.undef] at hv
     | some u=>rw[hq] at hv; simpa using hv
    rw[hy,ht,<-hg];cases c<;>cases want<;>rfl
   ·rename_i hc
    rw[hc] at henv;have hv:a.tmps.getD s Go.undef=Go.undef:=henv;have:yielded ops a.tmps g=none:=by
     rw[hy];simp only[Array.getD_eq_getD_getElem?] at hv;cases hq:a.tmps[s]? with
     | none=>rfl
     | some u=>rw[hq] at hv; simp at hv; subst hv; rfl
    rw[this,hg];rfl
theorem SR (hL:Xq cx Hh Sg V VD) (ops:Array Oper):StepW cx Hh Sg V VD ops Q:=by
 intro i o σ e σ1 m a w next ho h he ha hn
 unfold wpOp;rw[ho];unfold Yz at he;split at he<;>try simp at he
 ·rename_i hg
  simp only[Tq rfl h hg,if_true];exact .inl (effS_wp hL h he ha hn)
 ·rename_i hg
  subst he;simp only[Tq rfl h hg,Bool.false_eq_true,if_false];exact hn m _ _ (qL (σ':=σ) ha fun σ' hm=>by simp only[vL,Option.some.injEq] at hm; subst hm; exact ⟨h,rfl⟩)
def PRel (cx:Cx) (m:Gh) (σ:St) (a:Act) (w:World):Pn->Prop
 | .no=>Rel cx m σ a w
 | .map p=>∃a0 w0 es c,Rel cx m σ a0 w0/\w.heap=w0.heap.push (.map es c)/\w.os=w0.os/\w.tape=w0.tape/\w.output=w0.output/\a=a0.put (some p.d) (.map (some w0.heap.size)) /\
   (cx.TI p.t).mp=some (p.k,p.j)/\p.d<cx.N/\es.toList.map (fun e=>(e.key,e.val))=p.l.map fun q=>(Value.int p.k q.1,Value.int p.j q.2)
 | .lit d t e l=>∃a0 w0 et cs,Rel cx m σ a0 w0/\w=w0.alloc (.cells cs et)/\a=a0.put (some d) (.slice (some ⟨w0.heap.size,0,none⟩) l.length l.length)/\d<cx.N/\cx.P.underlying t=some (.slice et)/\cx.P.underlying et=some (.int .u8) /\
   cs.size=l.length/\e.size=1/\Elems (RT w0 (cx.q σ m w0).ok (cx.q σ m w0).okb m.me e) e.size l cs.toList
theorem PRel.done {p:Pn} (h:PRel cx m σ a w p):Rel cx m (V9 p σ) a w:=by
 cases p with
 | no=>exact h
 | map p =>
  obtain ⟨a0,w0,es,c,h0,e1,e2,e3,e4,e5,e6,e7,e8⟩:=h;have hr:=(h0.same (w':=w) (by rw[e1]; simp) (fun b hb=>uk e1 hb) e2 e3 e4).1;rw[e5];exact hr.put e7 ⟨w0.heap.size,es,c,rfl,qM e1,e8⟩
 | lit d t e l =>
  obtain ⟨a0,w0,et,cs,h0,rfl,e5,e7,_⟩:=h;have hr:=(h0.same (w':=w0.alloc (.cells cs et)) (by simp) (fun b hb=>heap_alloc_old w0 _ b hb) rfl rfl rfl).1;rw[e5];exact hr.put e7 trivial
theorem Si {d t:Nat} {e:Ty} {l:List e.T} {σ':St} (h:PRel cx m σ a w (.lit d t e l)) (hs:Ub cx.N d t e l o σ=some σ'):o.guard=none /\
  ∃v w',(execOp a.eval o).run cx.P w=.ok (.value v) w'/\Rel cx m σ' (a.put o.dst v) w':=by
 unfold Ub at hs;split at hs<;>try simp at hs
 rename_i u v d' s ho hd hg;cases hb:Nat.beq u t&&Nat.beq v t&&Nat.beq d' d&&Nat.blt s cx.N with
 | false=>rw[hb] at hs; simp at hs
 | true =>
 rw[hb] at hs;simp at hs;subst hs;simp only[Bool.and_eq_true] at hb;obtain ⟨⟨⟨h1,h2⟩,h3⟩,h4⟩:=hb;have h1:=yx h1; have h2:=yx h2; have h3:=yx h3;subst h1; subst h2; subst h3;have h4:s<cx.N:=Nat.le_of_ble_eq_true h4;obtain ⟨a0,w0,et,cs,h0,rfl,rfl,e7,t1,t2,e8,e9,e10⟩:=h;have hev:(a0.put (some d') (.slice (some ⟨w0.heap.size,0,none⟩) l.length l.length)).eval (.tmp d')=.slice (some ⟨w0.heap.size,0,none⟩) l.length l.length:=by
  have:=h0.size;have hl:d'<a0.tmps.size:=Nat.lt_of_lt_of_le e7 this;simp[Act.eval,Act.put,hl]
 have hrun:=Go.Lib.run_convert_bytes_const (P:=cx.P) w0 v et cs l.length l.length t1 t2;refine ⟨hg,.slice (some ⟨w0.heap.size,0,none⟩) l.length l.length,w0.alloc (.cells cs et (cs.size,cs.size+1)),?_,?_⟩
 ·simp only[execOp,ho,hev,Sem.run_bind,hrun]
  rfl
 ·obtain ⟨hr,hle⟩:=h0.same (w':=w0.alloc (.cells cs et (cs.size,cs.size+1))) (by simp) (fun b hb=>heap_alloc_old w0 _ b hb) rfl rfl rfl
  rw[hd];have hr1:=hr.put (v:=.slice (some ⟨w0.heap.size,0,none⟩) l.length l.length) e7 (e:=.undef) trivial;refine hr1.put h4 ⟨?_,_,rfl⟩;refine ⟨_,_,rfl,Nat.le_refl _,fun _=>⟨w0.heap.size,0,rfl,?_,fun j hj=>?_⟩⟩
  ·exact ⟨by simp,h0.fresh,fun hx=>by have:=h0.oldX _ (.inl hx); have:=h0.grown; omega,fun hx=>by have:=h0.oldX _ (.inr hx); have:=h0.grown; omega⟩
  ·have hnew:(w0.alloc (.cells cs et (cs.size,cs.size+1))).heap[w0.heap.size]?=some (.cells cs et (cs.size,cs.size+1)):=heap_alloc_new w0 _
   have hcells:xc (w0.alloc (.cells cs et (cs.size,cs.size+1))) w0.heap.size 0 cs.toList:=wT fun j u hj=>by
    simp only[World.cell?,hnew];simpa using hj
   exact (Elems.mono (fun x us h=>RT.mono hle.ok hle.okb hle.me e x us h) e10).at hcells j hj
theorem Ti {p':Qr} (h:Rel cx m σ a w) (hs:X9 cx.TI cx.N o=some p'):o.guard=none /\
  ∃v w',(execOp a.eval o).run cx.P w=.ok (.value v) w'/\PRel cx m σ (a.put o.dst v) w' (.map p'):=by
  simp only[X9] at hs;split at hs<;>try simp at hs
  rename_i t d ho hd hg;split at hs<;>try simp at hs
  rename_i k j hmp;cases hb:Nat.blt d cx.N with
  | false=>rw[hb] at hs; simp at hs
  | true =>
  rw[hb] at hs;simp at hs;subst hs;have hlt:d<cx.N:=Nat.le_of_ble_eq_true hb;exact ⟨hg,.map (some w.heap.size),w.alloc (.map #[] 0),by simp[execOp,ho,Instr.makeMap,newObj,Sem.run],a,w,#[],0,h,rfl,rfl,rfl,rfl,by rw[hd],hmp,hlt,rfl⟩
theorem Sf (hT:∀t,vo cx.P t (cx.TI t)) {p p':Qr} (h:PRel cx m σ a w (.map p)) (hs:V8 p o=some p'):o.guard=none /\
  ∃w',(execOp a.eval o).run cx.P w=.ok .skip w'/\o.dst=none/\PRel cx m σ a w' (.map p'):=by
  simp only[V8] at hs;split at hs<;>try simp at hs
  rename_i t d k x j y ho hd hg;obtain ⟨⟨hk,hj⟩,hs⟩:=hs;cases hb:Nat.beq t p.t&&Nat.beq d p.d&&!(Sr x p.l) with
  | false=>rw[hb] at hs; simp at hs
  | true =>
  rw[hb] at hs;simp at hs;subst hs;simp only[Bool.and_eq_true,Bool.not_eq_true'] at hb;obtain ⟨⟨h1,h2⟩,h3⟩:=hb;have h1:=yx h1;have h2:=yx h2;subst h1;subst h2;obtain ⟨a0,w0,es,c,h0,e1,e2,e3,e4,e5,e6,e7,e8⟩:=h;obtain ⟨kt,et,inf,t1,t2,t3,t4⟩:=(hT _).mp _ _ e6;have hheap:w.heap[w0.heap.size]?=some (.map es c):=qM e1;have hev:a.eval (.tmp p.d)=.map (some w0.heap.size):=by
   rw[e5];have:=h0.size;have hl:p.d<a0.tmps.size:=by omega
   simp[Act.eval,Act.put,hl]
  have hf:Instr.findNow (.int p.k) (.int p.k x) es.toList 0=some none:=by
   rcases qU (k:=p.k) (j:=p.j) (n:=x) (i:=0) e8 with ⟨f1,_,_⟩ | ⟨q,_,f2⟩
   ·exact f1
   ·rw[h3] at f2; cases f2
  subst hk;subst hj;refine ⟨hg,{w with heap:=w.heap.setIfInBounds w0.heap.size (.map (es.push {key:=.int p.k x,val:=.int p.j y,born:=c}) (c+1))},?_,hd,a0,w0,es.push {key:=.int p.k x,val:=.int p.j y,born:=c},c+1,h0,?_,e2,e3,e4,e5,e6,e7,?_⟩
  ·have hck:=Yf (w:=w) (a:=x) t2 false 9999
   simp only[execOp,ho,hev,Instr.mapUpdate];simp[Act.eval,run_underlying t1,ZO hheap,hck,qK t2 hf,T5 _ hheap,Result.andThen]
  ·show w.heap.setIfInBounds w0.heap.size _=_
   rw[e1];apply Array.ext';simp
  ·simp[e8]
theorem Tk (hT:∀t,vo cx.P t (cx.TI t)) (hG:xU cx) {p':Pn} (h:Rel cx m σ a w) (hs:Wb cx.TI cx.G Hh cx.N o σ=some p'):o.guard=none /\
  ∃v w',(execOp a.eval o).run cx.P w=.ok (.value v) w'/\PRel cx m σ (a.put o.dst v) w' p':=by
 unfold Wb at hs;split at hs<;>try simp at hs
 rename_i t n ps d ho hd hg;cases hb:Hh.LS d&&(cx.TI t).u8&&Nat.blt d cx.N with
 | false=>rw[hb] at hs; simp at hs
 | true =>
 rw[hb] at hs;simp only[cond_true] at hs;simp only[Bool.and_eq_true] at hb;split at hs<;>try simp at hs
 rename_i e l hel hl;split at hs<;>try simp at hs
 rename_i xs hxs;cases hb2:Nat.ble (n*e.size) 16777216&&Nat.beq e.size 1 with
 | false=>rw[hb2] at hs; simp at hs
 | true =>
 rw[hb2] at hs;simp at hs;subst hs;simp only[Bool.and_eq_true] at hb2;have hsz:=yx hb2.2;obtain ⟨et,cells,t1,n1,n2,hrun,hel2⟩:=qY hT hG h ho hel hl hxs (Nat.le_of_ble_eq_true hb2.1);obtain ⟨et',t2,t3⟩:=(hT t).u8 hb.1.2;rw[t1] at t2;cases t2
 rw[n1] at hrun;refine ⟨hg,_,_,hrun,a,w,et,cells,h,rfl,by rw[hd,n1],Nat.le_of_ble_eq_true hb.2,t1,t3,by rw[n2,n1,hsz,Nat.mul_one],hsz,hel2⟩
theorem pend_ok (hT:∀t,vo cx.P t (cx.TI t)) (hG:xU cx) {p p':Pn} {σ':St} (h:PRel cx m σ a w p) (hs:Yr cx.TI cx.G Hh cx.N σ p o=some (σ',p')):o.guard=none /\
  ((∃v w',(execOp a.eval o).run cx.P w=.ok (.value v) w'/\PRel cx m σ' (a.put o.dst v) w' p')\/∃w',(execOp a.eval o).run cx.P w=.ok .skip w'/\o.dst=none/\PRel cx m σ' a w' p'):=by
 cases p with
 | no =>
  simp only[Yr] at hs;split at hs
  ·rename_i p hp
   cases hs
   obtain ⟨h1,h2⟩:=Ti h hp;exact ⟨h1,.inl h2⟩
  ·split at hs<;>try simp at hs
   rename_i p hp;obtain ⟨rfl,rfl⟩:=hs;obtain ⟨h1,h2⟩:=Tk hT hG h hp;exact ⟨h1,.inl h2⟩
 | map p =>
  simp only[Yr] at hs;split at hs<;>try simp at hs
  rename_i p2 hp;obtain ⟨rfl,rfl⟩:=hs;obtain ⟨h1,h2⟩:=Sf hT h hp;exact ⟨h1,.inr h2⟩
 | lit d t e l =>
  simp only[Yr] at hs;split at hs<;>try simp at hs
  rename_i σ2 hp;obtain ⟨rfl,rfl⟩:=hs;obtain ⟨h1,h2⟩:=Si h hp;exact ⟨h1,.inl h2⟩
theorem ops_wp (hL:Xq cx Hh Sg V VD) {ops:Array Oper} {R:Type} {K:St->Option R} {r:R} (hQ:∀m σ a w,Rel cx m σ a w->K σ=some r->Q .normal a w) :
  ∀(n j:Nat) (σ:St) (p:Pn) (m:Gh) (a:Act) (w:World),j+n=ops.size->PRel cx m σ a w p->RW cx.TI cx.G Hh Sg V VD cx.N ops.toList (ops.toList.drop j) σ p K=some r->
   wpOps cx.P ops Q (List.range' j n) a w:=by
 intro n;induction n with
 | zero =>
  intro j σ p m a w hj h hk;have:ops.toList.drop j=[]:=List.drop_eq_nil_of_le (by simp; omega);rw[this] at hk;exact hQ m _ a w h.done hk
 | succ n ih =>
  intro j σ p m a w hj h hk;have hlt:j<ops.toList.length:=by simp; omega
  rw[List.drop_eq_getElem_cons hlt] at hk;have ho:ops[j]?=some ops.toList[j]:=by rw[<-Array.getElem?_toList]; exact List.getElem?_eq_getElem hlt
  obtain ⟨oj,hoj⟩:∃oj,oj=ops.toList[j]:=⟨_,rfl⟩;rw[<-hoj] at hk ho;simp only[RW,oK_eq hL.alg hL.algD] at hk;rw[List.range'_succ,wpOps_cons];split at hk
  ·rename_i σ' p' hp'
   obtain ⟨hg,hstep⟩:=pend_ok hL.ts hL.glob h hp';unfold wpOp;rw[ho];have hw:Region.wanted oj (yielded ops a.tmps)=true:=by unfold Region.wanted; rw[hg]
   simp only[hw,if_true];refine .inl ?_;unfold Oper.wp;rcases hstep with ⟨v,w',hr,h'⟩ | ⟨w',hr,hd,h'⟩
   ·rw[hr]; exact ih (j+1) σ' p' m _ w' (by omega) h' hk
   ·rw[hr]; exact ih (j+1) σ' p' m _ w' (by omega) (by rw[show a.put oj.dst Go.undef=a by rw[hd]; rfl]; exact h') hk
  ·have h:=h.done
   generalize V9 p σ=σ at h hk;cases he:Yz cx.TI cx.G Hh Sg V VD ops.toList oj (giveL Hh σ (Rg Hh oj)) with
   | none=>simp[he] at hk
   | some e =>
    simp only[he,Option.bind_some] at hk;cases ha:ww Hh.sp cx.N (giveL Hh σ (Rg Hh oj)) oj.dst e with
    | none=>simp[ha] at hk
    | some σ1 =>
     simp only[ha,Option.bind_some] at hk;obtain ⟨m0,h0⟩:=h.giveL hL.na hL.me (Rg Hh oj);exact SR hL ops j _ _ e σ1 m0 a w _ ho h0 he ha fun m1 a1 w1 h1=>ih (j+1) σ1 .no m1 a1 w1 (by omega) h1 hk
theorem Rel.drew (h:Rel cx m σ a w):Rel cx m σ a {w with drawn:=w.drawn+1}:=(h.same (w':={w with drawn:=w.drawn+1}) (Nat.le_refl _) (fun _ _=>rfl) rfl rfl rfl).1
theorem RR (hL:Xq cx Hh Sg V VD) {id:Nat} {ops:Array Oper} {R:Type} {K:St->Option R} {r:R} (h:Rel cx m σ a w)
  (hk:RW cx.TI cx.G Hh Sg V VD cx.N ops.toList ops.toList σ .no K=some r) (hQ:∀m σ a w,Rel cx m σ a w->K σ=some r->Q .normal a w):(Code.region id ops false).wp cx.P Q a w:=by
 refine wp_region ?_;rw[List.range_eq_range'];exact ops_wp hL hQ ops.size 0 σ .no m a w (by simp) h (by simpa using hk)
theorem za6 (hm:cx.P.follows .mixedOrders=true) (hL:Xq cx Hh Sg V VD) {id:Nat} {ops:Array Oper} {R:Type} {K:St->Option R} {r:R} (h:Rel cx m σ a w)
  (hk:YT cx.TI cx.G Hh Sg V VD cx.N ops.toList ops.toList σ [] (fun σ' acc=>bif vI ops.toList [] 0 ops.toList acc.reverse then K σ' else none)=some r)
  (hQ:∀m σ a w,Rel cx m σ a w->K σ=some r->Q .normal a w):(Code.region id ops true).wp cx.P Q a w:=by
 obtain ⟨fs,σe,h1,h2⟩:=Vd hL.alg hL.algD hk;simp only[List.append_nil,List.reverse_reverse] at h1;cases hc:vI ops.toList [] 0 ops.toList fs with
 | false=>simp[hc] at h1
 | true =>
  simp only[hc,cond_true] at h1;obtain ⟨i1,i2,_,i4,i5,_,i7,i8⟩:=Za (done:=[]) hc (by simp);have hS:Sound (wm ops.toList [] 0 ops.toList fs):={
   idx:=fun k x hx=>by have:=i2 k x hx; omega
   lt:=i4
   pair:=i5
   clos:=fun L hl=>i7 L (by simp) hl
   edge:=i8}
  have hlen:(wm ops.toList [] 0 ops.toList fs).length=ops.size:=by have:=congrArg List.length i1; simpa using this
  have hall:((wm ops.toList [] 0 ops.toList fs).filter fun x=>!((Array.replicate ops.size false).getD x.2.i true))=wm ops.toList [] 0 ops.toList fs:=by
   rw[List.filter_eq_self];intro x hx;obtain ⟨k,hk⟩:=List.getElem?_of_mem hx;have hki:=hS.idx k x hk;have hlt:x.2.i<ops.size:=by rw[hki,<-hlen]; exact (List.getElem?_eq_some_iff.1 hk).1
   simp[hlt]
  refine wp_region_any hm ?_;refine any_wp hS i1 (SR hL ops) (fun m a w hr=>hQ m σe a w hr h1) ops.size _ σ m a _ (by simp) ?_ (by rw[hall]; exact h2 [] 0 hc) (by rw[hall,hlen]; exact Nat.le_refl _) h.drew;intro x hx hl;obtain ⟨k,hk⟩:=List.getElem?_of_mem hx;have hki:=hS.idx k x hk;have hlt:x.2.i<ops.size:=by rw[hki,<-hlen]; exact (List.getElem?_eq_some_iff.1 hk).1
  simp[hlt] at hl
end
end Go.VS
namespace Go.VS
open Go IntKind
theorem All2.of_get {α β:Type} {R:α->β->Prop}:∀{l:List α} {k:List β},l.length=k.length->(∀(i:Nat) a b,l[i]?=some a->k[i]?=some b->R a b)->All2 R l k
 | [],[],_,_=>trivial
 | [],_::_,h,_=>by simp at h
 | _::_,[],h,_=>by simp at h
 | x::l,y::k,h,hr=>⟨hr 0 x y rfl rfl,All2.of_get (by simpa using h) fun i a b h1 h2=>hr (i+1) a b (by simpa using h1) (by simpa using h2)⟩
def Y5 (l:List Value):List (Nat×Nat)->List Value
 | []=>l
 | (j,_)::r=>Y5 (l.set j (.slice none 0 0)) r
section
variable {cx:Cx} {m:Gh} {σ:St} {a:Act} {w:World}
theorem TT {q:Q}:∀{ows:List (Nat×Nat)} {l:List C} {vs:List Value},All2 (RC w q) l vs->All2 (RC w q) (zaq l ows) (Y5 vs ows)
 | [],_,_,h=>h
 | (j,_)::r,l,vs,h=>TT (ows:=r) (h.set j ⟨rfl,rfl⟩)
theorem WK:∀{ows:List (Nat×Nat)} {vs:List Value} {i:Nat},(∀n,(i,n) ∉ ows)->(Y5 vs ows)[i]?=vs[i]?
 | [],_,_,_=>rfl
 | (j,n)::r,vs,i,h=>by
  simp only[Y5];rw[WK fun n hn=>h n (by simp[hn]),List.getElem?_set_ne];intro e; subst e; exact h n (by simp)
theorem WJ:∀{ows:List (Nat×Nat)} {vs:List Value},(Y5 vs ows).length=vs.length
 | [],_=>rfl
 | (j,n)::r,vs=>by simp only[Y5]; rw[WJ]; simp
theorem Y6:∀{ows:List (Nat×Nat)} {l:List C},(Zg l ows).length=l.length
 | [],_=>rfl
 | (j,n)::r,l=>by simp only[Zg,List.length_set]; exact Y6
theorem Y7:∀{ows:List (Nat×Nat)} {l:List C} {i:Nat} {c:C},(Zg l ows)[i]?=some c->(∃n,(i,n)∈ows/\c=.own n)\/((∀n,(i,n) ∉ ows)/\l[i]?=some c)
 | [],_,_,_,h=>.inr ⟨fun _ h=>(by cases h),h⟩
 | (j,n)::r,l,i,c,h=>by
  simp only[Zg,List.getElem?_set] at h;by_cases hj:j=i
  ·subst hj
   simp only[if_true] at h;split at h
   ·simp at h; exact .inl ⟨n,by simp,h.symm⟩
   ·simp at h
  ·simp only[hj,if_false] at h
   rcases Y7 h with ⟨k,h1,h2⟩ | ⟨h1,h2⟩
   ·exact .inl ⟨k,by simp[h1],h2⟩
   ·refine .inr ⟨fun k hk=>?_,h2⟩
    rcases List.mem_cons.1 hk with e | hk
    ·cases e; exact hj rfl
    ·exact h1 k hk
def tL (σ:St) (m:Gh) (os:List wx) (n:Nat):Option Hd :=
 match uw os n with
 | some p=>match wZ σ (wD σ p.src) with
  | some (s,none)=>m.hd s
  | some (s,some hi)=>(m.hd s).map fun h=>⟨if h.cap=0 then h.a else h.a.map (·.add (0*h.sz)),hi,h.cap,h.sz⟩
  | none=>some ⟨none,0,0,p.t.size⟩
 | none=>none
def keptGh (σ:St) (m:Gh) (h:Shape) (x:h.T):Gh:=⟨fun s=>match (yW h x).box s with | some _=>m.blk s | none=>none,tL σ m h.own,m.me⟩
def From (σ:St) (p:wx) (l:List p.t.T):Prop :=
 (∃s o,wZ σ (wD σ p.src)=some (s,none)/\σ.own s=.is o/\vP o.t p.t o.l=some l) \/
 (∃s hi o,wZ σ (wD σ p.src)=some (s,some hi)/\σ.own s=.is o/\vP o.t p.t (o.l.take hi)=some l) \/
 (wZ σ (wD σ p.src)=none/\Vm (wD σ p.src)=true/\l=[])
theorem tK {α:Type} {b:Bool} {x:Option α} {y:α} (h:(bif b then none else x)=some y):b=false/\x=some y:=by
 cases b<;>simp_all
theorem Yi:∀{os:List wx} {z:TO os},XX σ os=some z->∀n,(uw os n=none/\Tv os z n=.no)\/∃p l,uw os n=some p/\p∈os/\p.n=n/\Tv os z n=.is ⟨p.t,l⟩/\From σ p l
 | [],_,_,n=>.inl ⟨rfl,rfl⟩
 | p::r,z,h,n=>by
  simp only[XX] at h;split at h<;>try simp at h
  rename_i x y hx hy;subst h;simp only[uw,Tv];cases hb:Nat.beq n p.n with
  | true =>
   have e:=yx hb;have hb':Nat.beq p.n n=true:=by rw[e]; simp
   refine .inr ⟨p,x,by simp[hb'],by simp,e.symm,by simp,?_⟩;split at hx
   ·rename_i s ho
    split at hx<;>try simp at hx
    rename_i o hs;exact .inl ⟨s,o,ho,hs,(tK hx).2⟩
   ·rename_i s hi ho
    split at hx<;>try simp at hx
    rename_i o hs;exact .inr (.inl ⟨s,hi,o,ho,hs,(tK hx).2⟩)
   ·rename_i ho
    cases hn:Vm (wD σ p.src) with
    | false=>simp[hn] at hx
    | true=>simp[hn] at hx; have:=(tK hx).2; simp at this; exact .inr (.inr ⟨ho,hn,this⟩)
  | false =>
   have hb':Nat.beq p.n n=false:=by
    cases hc:Nat.beq p.n n with
    | false=>rfl
    | true=>have:=yx hc; rw[this] at hb; simp at hb
   rcases Yi hy n with ⟨h1,h2⟩ | ⟨p',l,h1,h2,h3,h4,h5⟩
   ·exact .inl ⟨by simp[hb',h1],by simpa using h2⟩
   ·exact .inr ⟨p',l,by simp[hb',h1],by simp[h2],h3,by simpa using h4,h5⟩
theorem W7:∀{os:List wx} {z:TO os},XX σ os=some z->∀n p,uw os n=some p->uF n=true->wZ σ (wD σ p.src)=some (n,none)
 | [],_,_,n,p,h,_=>by simp[uw] at h
 | p::r,z,h,n,p',hf,hp=>by
  simp only[XX] at h;split at h<;>try simp at h
  rename_i x y hx hy;subst h;simp only[uw] at hf;cases hb:Nat.beq p.n n with
  | false=>simp[hb] at hf; exact W7 hy n p' hf hp
  | true =>
   simp[hb] at hf;subst hf;have e:=yx hb;subst e;split at hx
   ·rename_i s ho
    split at hx<;>try simp at hx
    have:=(tK hx).1;rw[hp] at this;simp at this;rw[ho,this]
   ·split at hx<;>try simp at hx
    have:=(tK hx).1;rw[hp] at this; cases this
   ·cases hn:Vm (wD σ p.src) with
    | false=>simp[hn] at hx
    | true=>simp[hn,hp] at hx
theorem SS (h:Rel cx m σ a w) (s:Src):∃v,RE w (cx.q σ m w) (wD σ s) v:=by
 cases s with
 | env t=>exact ⟨_,h.env t⟩
 | cell s j =>
  simp only[wD];split
  ·rename_i l hl
   split
   ·rename_i c hc
    obtain ⟨b,cs,T,e1,e2,e3⟩:=h.box s _ hl;obtain ⟨v,_,r⟩:=All2.get e3 hc;exact ⟨v,r⟩
   ·exact ⟨.bool true,trivial⟩
  ·exact ⟨.bool true,trivial⟩
theorem own_hd {e:Ent} {v:Value} {s:Nat} (he:wZ σ e=some (s,none)) (hr:RE w (cx.q σ m w) e v):∃h,m.hd s=some h/\v=.slice h.a h.len h.cap:=by
 unfold wZ at he;split at he<;>try simp at he
 ·subst he; exact hr
 ·rename_i s' lo hi
  cases hb:Nat.beq lo 0<;>simp[hb] at he
theorem vw_hd {e:Ent} {v:Value} {s hi:Nat} (he:wZ σ e=some (s,some hi)) (hr:RE w (cx.q σ m w) e v) :
  ∃h,m.hd s=some h/\hi<=h.len/\v=.slice (if h.cap=0 then h.a else h.a.map (·.add (0*h.sz))) hi h.cap:=by
 unfold wZ at he;split at he<;>try simp at he
 rename_i s' lo hi';cases hb:Nat.beq lo 0 with
 | false=>simp[hb] at he
 | true =>
  simp[hb] at he;have:=yx hb;subst this;obtain ⟨rfl,rfl⟩:=he;obtain ⟨h,e1,_,e3,e4⟩:=hr;exact ⟨h,e1,e3,by simpa using e4⟩
theorem nil_hd {e:Ent} {v:Value} (he:Vm e=true) (hr:RE w (cx.q σ m w) e v):v=.slice none 0 0:=by
 unfold Vm at he;split at he<;>simp at he;exact hr.v_eq.1
theorem Vs (h:Rel cx m σ a w) {os:List wx} {z:TO os} (hz:XX σ os=some z) {src:Src} {n:Nat} (ho:RY σ os src n=true) {v:Value} (hv:RE w (cx.q σ m w) (wD σ src) v) :
  ∃hd,tL σ m os n=some hd/\v=.slice hd.a hd.len hd.cap:=by
 unfold RY at ho;split at ho<;>try simp at ho
 rename_i p hp;have hf:∃l,From σ p l:=by
  rcases Yi hz n with ⟨h1,_⟩ | ⟨p',l,h1,_,_,_,h5⟩
  ·rw[h1] at hp; cases hp
  ·rw[h1] at hp; simp at hp; subst hp; exact ⟨l,h5⟩
 obtain ⟨l,hf⟩:=hf;have same:∀{u:Value},RE w (cx.q σ m w) (wD σ p.src) u->∃hd,tL σ m os n=some hd/\u=.slice hd.a hd.len hd.cap:=by
  intro u hu;unfold tL;rw[hp];simp only;rcases hf with ⟨s,o,f1,f2,_⟩ | ⟨s,hi,o,f1,f2,_⟩ | ⟨f1,f2,_⟩
  ·rw[f1]
   obtain ⟨hd,e1,e2⟩:=own_hd f1 hu;exact ⟨hd,e1,e2⟩
  ·rw[f1]
   obtain ⟨hd,e1,e2,e3⟩:=vw_hd f1 hu;exact ⟨⟨if hd.cap=0 then hd.a else hd.a.map (·.add (0*hd.sz)),hi,hd.cap,hd.sz⟩,by simp only[e1,Option.map_some],e3⟩
  ·rw[f1]
   exact ⟨_,rfl,nil_hd f2 hu⟩
 rcases ho with ho | ho
 ·have:src=p.src:=by
   generalize p.src=s' at ho;cases src<;>cases s'<;>simp[isSrc] at ho
   ·have:=yx (by simpa using ho); rw[this]
   ·obtain ⟨h1,h2⟩:=ho
    rw[h1,h2]
  rw[this] at hv;exact same hv
 ·obtain ⟨u,hu⟩:=SS h p.src
  obtain ⟨hd,e1,e2⟩:=same hu;refine ⟨hd,e1,?_⟩;rw[<-e2];unfold sameC at ho;split at ho<;>try simp at ho
  ·rename_i s r h1 h2
   rw[h1] at hv;rw[h2] at hu;subst ho;obtain ⟨k1,a1,a2⟩:=hv;obtain ⟨k2,b1,b2⟩:=hu;rw[a1] at b1;simp at b1;subst b1;rw[a2,b2]
  ·rename_i h1 h2
   rw[h1] at hv;rw[h2] at hu;rw[hv.v_eq.1,hu.v_eq.1]
theorem Xp:∀{os:List wx},WM σ os=true->∀{n n':Nat} {p p':wx} {x x':Nat×Option Nat},uw os n=some p->uw os n'=some p'->wZ σ (wD σ p.src)=some x->
  wZ σ (wD σ p'.src)=some x'->x.1=x'.1->n=n'
 | q::r,h,n,n',p,p',x,x',h1,h2,h3,h4,he=>by
  simp only[WM,Bool.and_eq_true,List.all_eq_true] at h;have mem:∀{k:Nat} {y:wx} {os:List wx},uw os k=some y->y∈os/\y.n=k:=by
   intro k y os;induction os with
   | nil=>intro h; simp[uw] at h
   | cons z os ih =>
    intro h;simp only[uw] at h;cases hb:Nat.beq z.n k with
    | true=>simp[hb] at h; subst h; exact ⟨by simp,yx hb⟩
    | false=>simp[hb] at h; have:=ih h; exact ⟨by simp[this.1],this.2⟩
  simp only[uw] at h1 h2;cases hb:Nat.beq q.n n with
  | true =>
   cases hb':Nat.beq q.n n' with
   | true=>rw[<-yx hb,<-yx hb']
   | false =>
    simp[hb] at h1;simp[hb'] at h2;subst h1;have:=(h.1 p' (mem h2).1).2;rw[h3,h4] at this;simp[he] at this
  | false =>
   cases hb':Nat.beq q.n n' with
   | true =>
    simp[hb] at h1;simp[hb'] at h2;subst h2;have:=(h.1 p (mem h1).1).2;rw[h3,h4] at this;simp[he] at this
   | false =>
    simp[hb] at h1;simp[hb'] at h2;exact Xp h.2 h1 h2 h3 h4 he
end
end Go.VS
namespace Go.VS
open Go IntKind
section
variable {cx:Cx} {m:Gh} {σ:St} {a:Act} {w:World}
theorem Sx {q:Q} {t:Ty} {y:t.T} {v:Value} (h:RT w q.ok q.okb q.m.me t y [v]):RE w q (Uo (.c t) y) v:=by
 have h1:=xJ h;simp only[Uo];split
 ·rename_i c hc
  rw[hc] at h1;exact h1.1
 ·exact trivial
theorem Xi {s:Nat}:∀{l:List (Nat×KS)},Wl s l=true->∃k,(s,k)∈l
 | p::r,h=>by
  simp only[Wl,Bool.or_eq_true] at h;rcases h with h | h
  ·exact ⟨p.2,by rw[yx h]; simp⟩
  ·obtain ⟨k,hk⟩:=Xi h; exact ⟨k,by simp[hk]⟩
theorem XG:∀{l:List (Nat×KS)} {x:TE l} {f:Nat->Ent} {os:List wx} (_:UY σ os f l=some x) (n:Nat),
  (Wz l x n=.undef/\∀k,(n,k) ∉ l)\/∃k y,(n,k)∈l/\wV σ os n (f n) k=some y/\Wz l x n=Uo k y
 | [],_,_,_,_,n=>.inl ⟨rfl,fun _ h=>by cases h⟩
 | p::r,x,f,os,h,n=>by
  simp only[UY] at h;split at h<;>try simp at h
  rename_i x1 x2 h1 h2;subst h;simp only[Wz];cases hb:Nat.beq n p.1 with
  | true =>
   have e:=yx hb;subst e;exact .inr ⟨p.2,x1,by simp,h1,rfl⟩
  | false =>
   rcases XG h2 n with ⟨h3,h4⟩ | ⟨k,y,h3,h4,h5⟩
   ·refine .inl ⟨h3,fun k hk=>?_⟩
    rcases List.mem_cons.1 hk with e | hk
    ·rw[<-e] at hb; simp at hb
    ·exact h4 k hk
   ·exact .inr ⟨k,y,by simp[h3],h4,h5⟩
theorem X2 {os:List wx} {s:Nat}:∀{ows:List (Nat×Nat)},U9 σ os s ows=true->∀j n,(j,n)∈ows->RY σ os (.cell s j) n=true
 | (j,n)::r,h,j',n',hm=>by
  simp only[U9,Bool.and_eq_true] at h;rcases List.mem_cons.1 hm with e | hm
  ·cases e; exact h.1
  ·exact X2 h.2 j' n' hm
theorem Tg {s:Nat}:∀{l:List (Nat×KS)},Th s l=true->∀x:TE l,∃k,tH (Wz l x s)=some (.g k)
 | [],h,_=>by simp[Th] at h
 | p::r,h,x=>by
  simp only[Th] at h;simp only[Wz];cases hb:Nat.beq s p.1 with
  | true =>
   simp only[hb,cond_true] at h ⊢;obtain ⟨n,k⟩:=p;cases k with
   | g t=>exact ⟨_,rfl⟩
   | go t ows=>exact ⟨_,rfl⟩
   | _=>cases h
  | false=>simp only[hb,cond_false] at h ⊢; exact Tg h x.2
theorem Rel.kept (h:Rel cx m σ a w) {sh:Shape} {x:sh.T} (hk:Uc cx.me sh σ=true) (hx:QJ sh σ=some x):∃m',Rel cx m' (yW sh x) a w:=by
 unfold QJ at hx;cases hok:V6 sh&&WM σ sh.own with
 | false=>simp[hok] at hx
 | true =>
 simp only[hok,cond_true] at hx;simp only[Bool.and_eq_true] at hok;obtain ⟨hshape,hapart⟩:=hok;split at hx<;>try simp at hx
 rename_i xe xb xo he hb ho;subst hx;simp only[V6,Bool.and_eq_true,List.all_eq_true] at hshape;obtain ⟨hs1,hs2⟩:=hshape;let σ':St:=yW sh (xe,xb,xo)
 let m':Gh:=keptGh σ m sh (xe,xb,xo)
 have hown:∀n o,σ'.own n=.is o->∃p hd,uw sh.own n=some p/\tL σ m sh.own n=some hd/\OwnRep w (cx.q σ m w) hd o /\
   (0<hd.cap->∃s ow h0 y,wZ σ (wD σ p.src)=some (s,y)/\σ.own s=.is ow/\m.hd s=some h0/\0<h0.cap/\∀b off,hd.a=some ⟨b,off,none⟩->∃off',h0.a=some ⟨b,off',none⟩):=by
  intro n o hn;rcases Yi ho n with ⟨_,h2⟩ | ⟨p,l,h1,h2,h3,h4,h5⟩
  ·have:σ'.own n=Tv sh.own xo n:=rfl
   rw[this,h2] at hn; cases hn
  ·have:σ'.own n=Tv sh.own xo n:=rfl
   rw[this,h4] at hn;simp at hn;subst hn;obtain ⟨v,hv⟩:=SS h p.src;rcases h5 with ⟨s,ow,f1,f2,f3⟩ | ⟨s,hi,ow,f1,f2,f3⟩ | ⟨f1,f2,f3⟩
   ·obtain ⟨hd,e1,l0⟩:=h.own s ow f2
    obtain ⟨e2,e3⟩:=x6 f3;refine ⟨p,hd,h1,by unfold tL; rw[h1]; simp only[f1]; exact e1,?_,fun hc=>⟨s,ow,hd,_,f1,f2,e1,hc,fun b off hb=>⟨off,hb⟩⟩⟩;obtain ⟨t0,l1⟩:=ow;obtain ⟨pn,psrc,pt⟩:=p;simp only at e2 e3 ⊢;subst e2;simp only at e3;subst e3;exact l0
   ·obtain ⟨hd,e1,l0⟩:=h.own s ow f2
    obtain ⟨e2,e3⟩:=x6 f3;obtain ⟨hd',e4,e5,e6⟩:=vw_hd f1 hv;rw[e1] at e4;simp at e4;subst e4;refine ⟨p,⟨if hd.cap=0 then hd.a else hd.a.map (·.add (0*hd.sz)),hi,hd.cap,hd.sz⟩,h1,by unfold tL; rw[h1]; simp only[f1,e1,Option.map_some],?_,fun hc=>⟨s,ow,hd,_,f1,f2,e1,hc,fun b off hb=>?_⟩⟩
    ·obtain ⟨t0,l1⟩:=ow
     obtain ⟨pn,psrc,pt⟩:=p;simp only at e2 e3 ⊢;subst e2;simp only at e3;subst e3;exact l0.front e5
    ·simp only at hc hb
     rw[if_neg (by omega)] at hb;obtain ⟨bb,oo,cs,T,q1,_⟩:=l0.2.2.2 hc;rw[q1] at hb;simp[ui] at hb;exact ⟨oo,by rw[q1,hb.1]⟩
   ·refine ⟨p,⟨none,0,0,p.t.size⟩,h1,by unfold tL; rw[h1]; simp only[f1],?_,fun hc=>absurd hc (by simp)⟩
    subst f3;exact OwnRep.emp p.t
 have how:∀p b,xz σ' m' p b->∃p',xz σ m p' b/\(∀s,p=.inl s->p'=.inl s)/\(∀n,p=.inr n->∃s q y,p'=.inr s/\uw sh.own n=some q/\wZ σ (wD σ q.src)=some (s,y)):=by
  intro p b hp;cases p with
  | inl s =>
   refine ⟨.inl s,?_,fun _ h=>h,fun _ h=>by cases h⟩;have hp:(match σ'.box s with | some _=>m.blk s | none=>none)=some b:=hp
   split at hp
   ·exact hp
   ·cases hp
  | inr n =>
   obtain ⟨o,hd,off,o1,o2,o3,o4⟩:=hp;obtain ⟨q,hd',q1,q2,_,q3⟩:=hown n o o1;have o2:tL σ m sh.own n=some hd:=o2;rw[q2] at o2;simp at o2;subst o2;obtain ⟨s,ow,h0,y,r1,r2,r3,r4,r5⟩:=q3 o4;obtain ⟨off',r6⟩:=r5 b off o3;exact ⟨.inr s,⟨ow,h0,off',r2,r3,r6,r4⟩,fun _ h=>(by cases h),fun n' hn=>by cases hn; exact ⟨s,q,y,rfl,q1,r1⟩⟩
 have hq:QLe w w (cx.q σ m w) (cx.q σ' m' w):=Cx.qle (Nat.le_refl _) (fun b _ ⟨p,hp⟩=>by obtain ⟨p',hp',_⟩:=how p b hp; exact ⟨p',hp'⟩) (fun _ _ _ _=>rfl);have hok':=cx.q_ok σ' m' w;have hbox:∀s d',σ'.box s=some d'->∃d,σ.box s=some d/\∀cs,RB w (cx.q σ m w) d cs->RB w (cx.q σ' m' w) d' cs:=by
  intro s d' hd;have hd:tH (Wz sh.box xb s)=some d':=hd;rcases XG hb s with ⟨h1,_⟩ | ⟨k,y,h1,h2,h3⟩
  ·rw[h1] at hd; simp[tH] at hd
  ·rw[h3] at hd
   have hpl:=hs2 (s,k) h1;cases hbx:σ.box s with
   | none =>
    rw[hbx] at h2;cases k<;>simp[VZ] at hpl<;>simp[WI,wV] at h2
   | some d =>
    rw[hbx] at h2;refine ⟨d,rfl,fun cs hcs=>?_⟩;simp only[WI] at h2;cases k with
    | c t =>
     simp only[wV] at h2;split at h2<;>try simp at h2
     rename_i c hc;cases hc
     obtain ⟨v,e1,e2⟩:=hcs;have hp:=wR h2 c (by simp);have h4:All2 (RC w (cx.q σ' m' w)) [c] [v]:=⟨RC.mono_plain hq hp e2,trivial⟩;have hrt:=wh hok' h2 h4;have henc:=xJ hrt;simp only[Uo] at hd;split at hd
     ·rename_i c' hc'
      rw[hc'] at henc;simp[tH] at hd;subst hd;exact ⟨v,e1,henc.1⟩
     ·simp[tH] at hd
    | g t =>
     simp only[wV] at h2;split at h2<;>try simp at h2
     rename_i l hc;cases hc
     simp[Uo,tH] at hd;subst hd;exact xJ (wh hok' h2 (qN hq (wR h2) hcs))
    | a k =>
     simp only[wV] at h2;split at h2<;>try simp at h2
     rename_i k' l hc;obtain ⟨hk,rfl⟩:=h2;subst hk;cases hc
     simp[Uo,tH] at hd;subst hd;exact hcs
    | go t ows =>
     simp only[wV] at h2;split at h2<;>try simp at h2
     rename_i l hc;cases hc
     cases hok:U9 σ sh.own s ows with
     | false=>simp[hok] at h2
     | true =>
      simp[hok] at h2;simp[Uo,tH] at hd;subst hd;have hbl:=TT (ows:=ows) hcs;have hrt:=wh hok' h2 (qN hq (wR h2) hbl);have henc:=xJ hrt;refine All2.of_get ?_ fun i c v hi hv=>?_
      ·rw[Y6,henc.len,WJ]
      ·rcases Y7 hi with ⟨n,n1,rfl⟩ | ⟨n1,n2⟩
       ·have hcell:∃c0,l[i]?=some c0:=by
         have:i<l.length:=by
          rw[All2.len hcs];exact (List.getElem?_eq_some_iff.1 hv).1
         exact ⟨_,List.getElem?_eq_getElem this⟩
        obtain ⟨c0,hc0⟩:=hcell;obtain ⟨v',hv',hr⟩:=All2.get hcs hc0;rw[hv] at hv';simp at hv';subst hv';have:=Vs h ho (X2 hok i n n1) (v:=v) (by simp only[wD,hbx,hc0]; exact hr);obtain ⟨hd,g1,g2⟩:=this;exact ⟨hd,g1,g2⟩
       ·obtain ⟨v',hv',hr⟩:=henc.get n2
        rw[WK n1,hv] at hv';simp at hv';subst hv';exact hr
    | _=>simp[VZ] at hpl
 refine ⟨m',?_⟩;exact {
  size:=h.size
  defers:=h.defers
  env:=fun t=>by
   have ht:=h.env t;have:(yW sh (xe,xb,xo)).env t=Wz sh.env xe t:=rfl;rw[this];rcases XG he t with ⟨h1,_⟩ | ⟨k,y,h1,h2,h3⟩
   ·rw[h1]; exact trivial
   ·rw[h3]
    have hpl:=hs1 (t,k) h1;generalize σ.env t=e at ht h2;cases k with
    | c t' =>
     simp only[wV] at h2;split at h2<;>try simp at h2
     rename_i c;have hp:=wR h2 c (by simp);have h4:All2 (RC w (cx.q σ' m' w)) [c] [a.tmps.getD t Go.undef]:=⟨RC.mono_plain hq hp ht,trivial⟩;exact Sx (wh hok' h2 h4)
    | b t' =>
     simp only[wV] at h2;split at h2<;>try simp at h2
     ·subst h2
      rw[ht.v_eq.1];exact SlR.nil
     ·rename_i t'' l
      obtain ⟨e1,e2⟩:=x6 h2;subst e1;subst e2;exact SlR.mono (fun b hb=>⟨hok' b (hq.ok b hb).1,fun _ _ h=>h⟩) (RT.mono hq.ok hq.okb hq.me _) ht
     ·rename_i t'' l
      obtain ⟨e1,e2⟩:=x6 h2;subst e1;subst e2;exact RC.mono_plain (c:=.bs t'' l) hq rfl ht
    | g t' =>
     simp only[wV] at h2;split at h2<;>try simp at h2
     rename_i l;obtain ⟨cs,e1,e2⟩:=ht;exact ⟨cs,e1,xJ (wh hok' h2 (qN hq (wR h2) e2))⟩
    | a k =>
     simp only[wV] at h2;split at h2<;>try simp at h2
     obtain ⟨rfl,rfl⟩:=h2;exact ht
    | loc s =>
     simp only[wV] at h2;split at h2<;>try simp at h2
     rename_i s' off;cases hc:Nat.beq s' s&&Nat.beq off 0 with
     | false=>rw[hc] at h2; simp at h2
     | true =>
      simp only[Bool.and_eq_true] at hc;have e1:=yx hc.1;have e2:=yx hc.2;subst e1;subst e2;obtain ⟨b,hb1,hb2⟩:=ht;have hk:Wl s' sh.box=true:=by
       have:=hpl;simp only[Bool.and_eq_true] at this;exact this.2
      obtain ⟨k',hk'⟩:=Xi hk;have hbx:∃d,σ'.box s'=some d:=by
       rcases XG hb s' with ⟨_,hno⟩ | ⟨k2,y2,g1,g2,g3⟩
       ·exact absurd hk' (hno k')
       ·have hpb:=hs2 (s',k2) g1
        show ∃d,tH (Wz sh.box xb s')=some d;rw[g3];cases k2 with
        | c t2 =>
         simp only[Uo];split
         ·exact ⟨_,rfl⟩
         ·rename_i hno
          exfalso
          cases hbx:σ.box s' with
          | none=>rw[hbx] at g2; simp[WI,wV] at g2
          | some d =>
           rw[hbx] at g2;simp only[WI,wV] at g2;split at g2<;>try simp at g2
           rename_i c hc';cases hc'
           obtain ⟨_,cs,_,_,_,v,_,e4⟩:=h.box s' _ hbx;have h4:All2 (RC w (cx.q σ' m' w)) [c] [v]:=⟨RC.mono_plain hq (wR g2 c (by simp)) e4,trivial⟩;have henc:=(xJ (wh hok' g2 h4)).len;simp at henc;obtain ⟨c2,hc2⟩:=List.length_eq_one_iff.1 henc;exact hno c2 hc2
        | g t2=>exact ⟨_,rfl⟩
        | a k2=>exact ⟨_,rfl⟩
        | go t2 ows=>exact ⟨_,rfl⟩
        | _=>simp[VZ] at hpb
      obtain ⟨d,hbx⟩:=hbx;refine ⟨b,?_,hb2⟩;show (match σ'.box s' with | some _=>m.blk s' | none=>none)=some b
      rw[hbx];exact hb1
    | ow n =>
     simp only[wV] at h2;cases hok:RY σ sh.own (.env t) n with
     | false=>simp[hok] at h2
     | true =>
      obtain ⟨hd,g1,g2⟩:=Vs h ho hok (v:=a.tmps.getD t Go.undef) (h.env t);exact ⟨hd,g1,g2⟩
    | go t ows=>simp[QM] at hpl
    | p t' =>
     simp only[wV] at h2;split at h2<;>try simp at h2
     obtain ⟨b,off,vs,e1,e2,e3,e4,e5⟩:=ht;exact ⟨b,off,vs,e1,(hq.okb b e2).1,e3,xJ (wh hok' h2 (qN hq e5 e4)),wM _ _ _ (by simp)⟩
    | cl t' =>
     simp only[wV] at h2;split at h2<;>try simp at h2
     rename_i f t'' y';split at h2<;>simp at h2;rename_i y2 hy;subst h2;obtain ⟨e1,e2⟩:=uz hy;subst e1;subst e2;exact RC.mono_plain (c:=.clo f t'' y') hq rfl ht
    | cl2 t' u' =>
     simp only[wV] at h2;split at h2<;>try simp at h2
     rename_i f t'' y' u'' z';split at h2<;>simp at h2;rename_i y2 z2 hy hz;subst h2;obtain ⟨e1,e2⟩:=uz hy;obtain ⟨e3,e4⟩:=uz hz;subst e1;subst e2;subst e3;subst e4;exact RC.mono_plain (c:=.clo2 f t'' y' u'' z') hq rfl ht
    | os _=>simp[wV] at h2
    | og _ _=>simp[wV] at h2
  box:=fun s d' hd=>by
   obtain ⟨d,h1,h2⟩:=hbox s d' hd;obtain ⟨b,cs,T,e1,e2,e3⟩:=h.box s d h1;refine ⟨b,cs,T,?_,e2,h2 _ e3⟩;show (match σ'.box s with | some _=>m.blk s | none=>none)=some b
   rw[show σ'.box s=some d' from hd];exact e1
  nobox:=fun s b hb hno=>by
   have hb:(match σ'.box s with | some _=>m.blk s | none=>none)=some b:=hb
   rw[show σ'.box s=none from hno] at hb;cases hb
  own:=fun n o ho'=>by
   obtain ⟨p,hd,_,g1,g2,_⟩:=hown n o ho';exact ⟨hd,g1,g2.mono hq fun _ _ _ _=>rfl⟩
  noown:=fun n hd hn hno=>by
   have hn:tL σ m sh.own n=some hd:=hn;rcases Yi ho n with ⟨h1,_⟩ | ⟨p,l,h1,h2,h3,h4,h5⟩
   ·unfold tL at hn; rw[h1] at hn; cases hn
   ·have:(yW sh (xe,xb,xo)).own n=Tv sh.own xo n:=rfl
    rw[this,h4] at hno; cases hno
  dom:=fun p b hp=>by
   obtain ⟨p',hp',h1,h2⟩:=how p b hp;refine ⟨(h.dom p' b hp').1,?_⟩;rcases (h.dom p' b hp').2 with h3 | ⟨h3,s,h4,h5⟩
   ·exact .inl h3
   ·cases p with
    | inl s'=>have:=h1 s' rfl; rw[this] at h4; exact .inr ⟨h3,s,h4,h5⟩
    | inr n=>obtain ⟨s',_,_,h6,_⟩:=h2 n rfl; rw[h6] at h4; cases h4
  inj:=fun p p' b hp hp'=>by
   obtain ⟨q,hq1,hq2,hq3⟩:=how p b hp;obtain ⟨q',hr1,hr2,hr3⟩:=how p' b hp';have e:=h.inj q q' b hq1 hr1;cases p with
   | inl s =>
    have e1:=hq2 s rfl;cases p' with
    | inl s'=>have e2:=hr2 s' rfl; rw[e1,e2] at e; exact e
    | inr n'=>obtain ⟨s',_,_,e2,_⟩:=hr3 n' rfl; rw[e1,e2] at e; cases e
   | inr n =>
    obtain ⟨s,p1,y,e1,e3,e4⟩:=hq3 n rfl;cases p' with
    | inl s'=>have e2:=hr2 s' rfl; rw[e1,e2] at e; cases e
    | inr n' =>
     obtain ⟨s',p2,y',e2,e5,e6⟩:=hr3 n' rfl;rw[e1,e2] at e;cases e
     rw[Xp hapart e3 e5 e4 e6 rfl]
  mem:=h.mem
  grown:=h.grown
  oldX:=h.oldX
  argna:=h.argna
  arg:=fun s b b0 hb h0=>by
   have hb:(match σ'.box s with | some _=>m.blk s | none=>none)=some b:=hb
   split at hb
   ·exact h.arg s b b0 hb h0
   ·cases hb
  argp:=h.argp
  argh:=fun n hd h0 e1 e0=>by
   have e1:tL σ m sh.own n=some hd:=e1;unfold tL at e1;split at e1
   ·rename_i p hp
    rw[W7 ho n p hp (h.argp n h0 e0)] at e1;exact h.argh n hd h0 e1 e0
   ·cases e1
  iosz:=h.iosz
  os:=h.os
  tape:=h.tape
  output:=h.output
  me:=h.me
  melt:=fun r hr hl hb=>by
   refine h.melt r hr hl ?_;cases hmb:m.blk r with
   | none=>rfl
   | some b =>
    exfalso
    simp only[Uc,hr,Bool.or_eq_true] at hk;rcases hk with hk | hk
    ·change (match (yW sh (xe,xb,xo)).box r with | some _=>m.blk r | none=>none)=none at hb
     obtain ⟨l,hl⟩:=Tg hk xb;rw[show (yW sh (xe,xb,xo)).box r=some (.g l) from hl] at hb;rw[hmb] at hb; cases hb
    ·have:=h.nobox r b hmb
     cases hbx:σ.box r with
     | none=>exact this hbx
     | some d=>rw[hbx] at hk; cases hk
  mebox:=fun r b hr hb=>h.mebox r b hr (by
   change (match (yW sh (xe,xb,xo)).box r with | some _=>m.blk r | none=>none)=some b at hb
   split at hb
   ·exact hb
   ·cases hb)}
theorem Rel.keptM (h:Rel cx m σ a w) {Hh:Hn} (hme:cx.me=Hh.me) {sh:Shape} {x:sh.T} (hx:qy Hh.me sh σ=some x):∃m',Rel cx m' (yW sh x) a w:=by
 unfold qy at hx;cases hk:Uc Hh.me sh σ with
 | false=>rw[hk] at hx; cases hx
 | true=>rw[hk] at hx; exact h.kept (by rw[hme]; exact hk) hx
end
end Go.VS
namespace Go.VS
open Go IntKind
def exOf:Ex->Exit
 | .normal=>.normal
 | .exit id=>.exit id
 | .ret=>.ret
section
variable {P:Program}
theorem VL {c:Code} {Q:Exit->Act->World->Prop} (S:Nat->Act->World->Prop)
  (round:∀n a w,S n a w->c.wp P (Exit.then (fun a' w'=>∃n',n'<n/\S n' a' w') Q) a w) {n:Nat} {a:Act} {w:World} (h:S n a w):(Code.loop c).wp P Q a w:=by
 intro b k cs;have key:∀n a w,S n a w->∃e a' w',Q e a' w'/\Arrives P (lone (b.at a (.code c::.inLoop c::k)) cs w) b k cs e a' w':=by
  intro n;induction n using Nat.strongRecOn with
  | _ n ih =>
   intro a w hS;obtain ⟨e,a₁,w₁,hq,harr⟩:=round n a w hS b (.inLoop c::k) cs;cases e with
   | normal =>
    obtain ⟨n',hlt,hS'⟩:=hq;obtain ⟨e₂,a₂,w₂,hq₂,harr₂⟩:=ih n' hlt a₁ w₁ hS';exact ⟨e₂,a₂,w₂,hq₂,.of_steps (Steps.trans harr (.one step_inLoop)) harr₂⟩
   | exit id=>exact ⟨_,a₁,w₁,hq,.pass (x:=.inLoop c) rfl (fun _ _=>.inl (by simp)) harr⟩
   | goto l=>exact ⟨_,a₁,w₁,hq,.pass (x:=.inLoop c) rfl (fun _ _=>.inl (by simp)) harr⟩
   | ret=>exact ⟨_,a₁,w₁,hq,.pass (x:=.inLoop c) rfl (fun _ _=>.inl (by simp)) harr⟩
   | panic ch=>exact ⟨_,a₁,w₁,hq,.pass (x:=.inLoop c) rfl (fun _ _=>.inl (by simp)) harr⟩
   | outgrown=>exact ⟨_,a₁,w₁,hq,.pass (x:=.inLoop c) rfl (fun _ _=>.inl (by simp)) harr⟩
 obtain ⟨e,a',w',hq,harr⟩:=key n a w h;exact ⟨e,a',w',hq,.of_steps (.one step_loop) harr⟩
end
section
variable {cx:Cx} {Hh:Hn} {Sg:Nat->Sig} {V:vj Sg} {VD:wy Hh} {H HL:Nat->Shape} {HJ:Nat->Option Shape} {L:ul HL} {J:um HJ}
def qx (cx:Cx) (Hh:Hn) (Sg:Nat->Sig) (V:vj Sg) (VD:wy Hh) (H HL:Nat->Shape) (HJ:Nat->Option Shape) (L:ul HL) (J:um HJ) (c0:Code):Prop :=
 ∀c∈wg c0,∀(x:(HL (rid c)).T) (R:Type) (K:Ex->St->Option R),∃n,L (rid c) x K=Wa cx.TI cx.G Hh Sg V VD cx.N H HL HJ L J c (rid c) K n x
def Z3 (cx:Cx) (Hh:Hn) (Sg:Nat->Sig) (V:vj Sg) (VD:wy Hh) (H HL:Nat->Shape) (HJ:Nat->Option Shape) (L:ul HL) (J:um HJ) (c0:Code):Prop :=
 ∀c∈wS HJ c0,∀(x:(shJ HJ (rid c)).T) (R:Type) (K:Ex->St->Option R),J (rid c) x K=uC cx.TI cx.G Hh Sg V VD cx.N H HL HJ L J c (yW (shJ HJ (rid c)) x) K
theorem code_ok (hmix:cx.P.follows .mixedOrders=true) (hL:Xq cx Hh Sg V VD):∀(c:Code),qx cx Hh Sg V VD H HL HJ L J c->Z3 cx Hh Sg V VD H HL HJ L J c->
  ∀{R:Type} {σ:St} {K:Ex->St->Option R} {r:R} {m:Gh} {a:Act} {w:World} {Q:Exit->Act->World->Prop},uC cx.TI cx.G Hh Sg V VD cx.N H HL HJ L J c σ K=some r->Rel cx m σ a w->
   (∀e σ' m' a' w',Rel cx m' σ' a' w'->K e σ'=some r->Q (exOf e) a' w')->c.wp cx.P Q a w:=by
 intro c;induction c with
 | skip=>intro _ _ R σ K r m a w Q h hr hQ; exact wp_skip (hQ .normal σ m a w hr h)
 | label l=>intro _ _ R σ K r m a w Q h hr hQ; exact wp_label (hQ .normal σ m a w hr h)
 | exit id=>intro _ _ R σ K r m a w Q h hr hQ; exact wp_exit (hQ (.exit id) σ m a w hr h)
 | ret=>intro _ _ R σ K r m a w Q h hr hQ; exact wp_ret (hQ .ret σ m a w hr h)
 | region id ops draw =>
  intro _ _ R σ K r m a w Q h hr hQ;have hend:∀(m:Gh) (σ:St) (a:Act) (w:World),Rel cx m σ a w->(match qy Hh.me (H id) (giveL Hh σ (Hh.fz id)) with | some x=>K .normal (yW (H id) x) | none=>none)=some r->Q .normal a w:=by
   intro m σ a w hr hk;split at hk<;>try simp at hk
   rename_i x hx;obtain ⟨m0,h0⟩:=hr.giveL hL.na hL.me (Hh.fz id);obtain ⟨m',hm'⟩:=h0.keptM hL.me hx;exact hQ .normal _ m' a w hm' hk
  cases draw with
  | false=>exact RR (K:=fun σ'=>match qy Hh.me (H id) (giveL Hh σ' (Hh.fz id)) with | some x=>K .normal (yW (H id) x) | none=>none) hL hr h hend
  | true=>exact za6 (K:=fun σ'=>match qy Hh.me (H id) (giveL Hh σ' (Hh.fz id)) with | some x=>K .normal (yW (H id) x) | none=>none) hmix hL hr h hend
 | seq x y ihx ihy =>
  intro hl hc R σ K r m a w Q h hr hQ;have hl1:qx cx Hh Sg V VD H HL HJ L J x:=fun c hc=>hl c (by simp[wg,hc])
  have hl2:qx cx Hh Sg V VD H HL HJ L J y:=fun c hc=>hl c (by simp[wg,hc])
  have hc1:Z3 cx Hh Sg V VD H HL HJ L J x:=fun c h=>hc c (by simp[wS,h])
  have hc2:Z3 cx Hh Sg V VD H HL HJ L J y:=fun c h=>hc c (by simp[wS,h])
  refine wp_seq (ihx hl1 hc1 (K:=seqK (cutK Hh HJ J (rid y) (uC cx.TI cx.G Hh Sg V VD cx.N H HL HJ L J y)) K) h hr fun e σ' m' a' w' hr' hk=>?_);cases e with
  | exit id=>exact hQ (.exit id) σ' m' a' w' hr' hk
  | ret=>exact hQ .ret σ' m' a' w' hr' hk
  | normal =>
   show y.wp cx.P Q a' w';have hk:cutK Hh HJ J (rid y) (uC cx.TI cx.G Hh Sg V VD cx.N H HL HJ L J y) σ' K=some r:=hk;unfold cutK at hk;split at hk
   ·exact ihy hl2 hc2 hk hr' hQ
   ·rename_i sh hsh
    split at hk<;>try simp at hk
    rename_i x' hx';rw[hc y (by simp[wS,hsh])] at hk;obtain ⟨m0,h0⟩:=hr'.giveL hL.na hL.me (Hh.fzJ (rid y));obtain ⟨m2,hm2⟩:=h0.keptM hL.me hx';exact ihy hl2 hc2 hk hm2 hQ
 | cond c x y ihx ihy =>
  intro hl hc R σ K r m a w Q h hr hQ;have hl1:qx cx Hh Sg V VD H HL HJ L J x:=fun c hc=>hl c (by simp[wg,hc])
  have hl2:qx cx Hh Sg V VD H HL HJ L J y:=fun c hc=>hl c (by simp[wg,hc])
  have hc1:Z3 cx Hh Sg V VD H HL HJ L J x:=fun c h=>hc c (by simp[wS,h])
  have hc2:Z3 cx Hh Sg V VD H HL HJ L J y:=fun c h=>hc c (by simp[wS,h])
  have hev:=wn hL.glob hr c;simp only[uC] at h;split at h<;>try simp at h
  rename_i t ht;rw[ht] at hev;obtain ⟨hv,_⟩:=hev.v_eq;cases t with
  | true=>exact wp_cond_true hv (ihx hl1 hc1 h hr hQ)
  | false=>exact wp_cond_false hv (ihy hl2 hc2 h hr hQ)
 | block id x ih =>
  intro hl hc R σ K r m a w Q h hr hQ;refine wp_block (ih (fun c h=>hl c (by simpa [wg] using h)) (fun c h=>hc c (by simpa [wS] using h)) (K:=SK id K) h hr fun e σ' m' a' w' hr' hk=>?_);cases e with
  | normal=>exact hQ .normal σ' m' a' w' hr' hk
  | ret=>exact hQ .ret σ' m' a' w' hr' hk
  | exit id' =>
   simp only[exOf,Exit.inBlock];simp only[SK] at hk;cases hb:Nat.beq id' id with
   | true =>
    rw[hb] at hk;rw[if_pos (yx hb)];exact hQ .normal σ' m' a' w' hr' hk
   | false =>
    rw[hb] at hk;rw[if_neg (fun e=>by subst e; simp at hb)];exact hQ (.exit id') σ' m' a' w' hr' hk
 | loop x ih =>
  intro hl hc R σ K r m a w Q h hr hQ;have hl1:qx cx Hh Sg V VD H HL HJ L J x:=fun c hc=>hl c (by simp[wg,hc])
  have hc1:Z3 cx Hh Sg V VD H HL HJ L J x:=fun c h=>hc c (by simp[wS,h])
  simp only[uC] at h;split at h<;>try simp at h
  rename_i y hy;obtain ⟨n,hn⟩:=hl x (by simp[wg]) y R K;rw[hn] at h;obtain ⟨m',hm'⟩:=hr.keptM hL.me hy;refine VL (fun n a w=>∃m y,Rel cx m (yW (HL (rid x)) y) a w/\Wa cx.TI cx.G Hh Sg V VD cx.N H HL HJ L J x (rid x) K n y=some r) ?_ (n:=n) ⟨m',y,hm',h⟩;rintro n a w ⟨m,y,hr,hk⟩
  cases n with
  | zero=>simp[Wa] at hk
  | succ n =>
   simp only[Wa] at hk;refine ih hl1 hc1 hk hr fun e σ' m' a' w' hr' hk'=>?_
   cases e with
   | exit id=>exact hQ (.exit id) σ' m' a' w' hr' hk'
   | ret=>exact hQ .ret σ' m' a' w' hr' hk'
   | normal =>
    simp only[RG] at hk';split at hk'<;>try simp at hk'
    rename_i z hz;obtain ⟨m2,hm2⟩:=hr'.keptM hL.me hz;exact ⟨n,Nat.lt_succ_self n,m2,z,hm2,hk'⟩
 | _=>intro _ _ R σ K r m a w Q h; simp[uC] at h
end
end Go.VS
namespace Go.VS
open Go IntKind
section
variable {cx:Cx} {m:Gh} {σ:St} {a:Act} {w w':World}
theorem OwnsR.app {q:Q} {n:Nat} {os os':List xK} (h1:OwnsR w q n os) (h2:OwnsR w q (n+os.length) os'):OwnsR w q n (os++os'):=by
 intro j o ho;rw[List.getElem?_append] at ho;split at ho
 ·exact h1 j o ho
 ·obtain ⟨hh,e1,e2⟩:=h2 _ o ho
  exact ⟨hh,by rw[show n+j=n+os.length+(j-os.length) by omega]; exact e1,e2⟩
theorem UZ (h:Rel cx m σ a w) {k:KS} {e:Ent} {x:k.T} {ls:List Lk} {v:Value} (hk:SY k=true) (hx:Xb σ k e=some (x,ls)) (hr:RE w (cx.q σ m w) e v) :
  ∃hs:List Hd,hs.length=(Yh k x).length/\HdP σ m hs (wi ls)/\∀(q:Q) (n:Nat),QUp (cx.q σ m w) q->(∀j hh,hs[j]?=some hh->q.m.hd (n+j)=some hh)->
   (∀p,.lp p∈ls->∀b,xz σ m (.inr p) b->q.ok b)->RD w q (WX n k x) v/\OwnsR w q n (Yh k x):=by
 have hok:=cx.q_ok σ m w;have none_:∀(q:Q) n,OwnsR w q n ([]:List xK):=fun q n j o ho=>by simp at ho
 have hnb:∀{q:Q},QUp (cx.q σ m w) q->∀b,(cx.q σ m w).ok b->q.ok b/\∀off v,w.cell? ⟨b,off,none⟩=some v->w.cell? ⟨b,off,none⟩=some v:=fun hq b hb=>⟨hq.1 b hb,fun _ _ h=>h⟩
 cases k with
 | c t =>
  have plain:∀{e:Ent},RE w (cx.q σ m w) e v->wV σ [] 0 e (.c t)=some x->ls=[]->∃hs:List Hd,hs.length=(Yh (.c t) x).length/\HdP σ m hs (wi ls)/\∀(q:Q) (n:Nat),QUp (cx.q σ m w) q->(∀j hh,hs[j]?=some hh->q.m.hd (n+j)=some hh)->
   (∀p,.lp p∈ls->∀b,xz σ m (.inr p) b->q.ok b)->RD w q (WX n (.c t) x) v/\OwnsR w q n (Yh (.c t) x):=by
   intro e hr' hx' hl;refine ⟨[],rfl,by rw[hl]; trivial,fun q n hq _ _=>⟨?_,none_ q n⟩⟩;simp only[wV] at hx';split at hx'<;>try simp at hx'
   exact Sy (vN hq.2 (hnb hq) t _ _ hk (wh hok hx' (⟨hr',trivial⟩:All2 (RC w (cx.q σ m w)) [_] [v])))
  cases t<;>simp only[Xb] at hx<;>try (split at hx<;>simp at hx; obtain ⟨rfl,rfl⟩:=hx; rename_i hy; exact plain hr hy rfl)
  rename_i t;split at hx
  ·rename_i s
   split at hx<;>try simp at hx
   rename_i ow how;split at hx<;>simp at hx;rename_i l hl;obtain ⟨rfl,rfl⟩:=hx;obtain ⟨e1,e2⟩:=x6 hl;obtain ⟨hd,g1,g2⟩:=hr;obtain ⟨hd',g3,l⟩:=h.own s ow how;rw[show (cx.q σ m w).m.hd s=m.hd s from rfl] at g1;rw[g1] at g3;simp at g3;subst g3;obtain ⟨t0,l0⟩:=ow;simp only at e1 e2;subst e1;simp only at e2;subst e2;refine ⟨[],rfl,trivial,fun q n hq _ hlp=>⟨?_,none_ q n⟩⟩;have hslr:=l.slr (good:=q.ok) fun b off hb hc=>hlp s (by simp) b ⟨_,hd,off,how,g1,hb,hc⟩
   show RC w q (.sl t0 l0) v;rw[g2];exact SlR.mono (fun b hb=>⟨hb,fun _ _ h=>h⟩) (fun y us hy=>vN hq.2 (hnb hq) t0 y us hk hy) hslr
  ·split at hx<;>simp at hx
   obtain ⟨rfl,rfl⟩:=hx;rename_i hy;exact plain hr hy rfl
 | g t =>
  simp only[Xb] at hx;split at hx<;>simp at hx;rename_i y hy;obtain ⟨rfl,rfl⟩:=hx;simp only[wV] at hy;split at hy<;>try simp at hy
  obtain ⟨cs,e1,e2⟩:=hr;exact ⟨[],rfl,trivial,fun q n hq _ _=>⟨⟨cs,e1,xJ (vN hq.2 (hnb hq) t _ _ hk (wh hok hy e2))⟩,none_ q n⟩⟩
 | a k =>
  simp only[Xb] at hx;split at hx<;>simp at hx;rename_i y hy;obtain ⟨rfl,rfl⟩:=hx;simp only[wV] at hy;split at hy<;>try simp at hy
  obtain ⟨rfl,rfl⟩:=hy;exact ⟨[],rfl,trivial,fun q n hq _ _=>⟨hr,none_ q n⟩⟩
 | os t =>
  simp only[Xb,xA] at hx;split at hx<;>try simp at hx
  rename_i c;split at hx<;>try simp at hx
  rename_i l' ps hj;split at hx<;>try simp at hx
  rename_i y hy;cases hn:noB t with
  | false=>simp[hn] at hx
  | true =>
  simp[hn] at hx;obtain ⟨rfl,rfl⟩:=hx;obtain ⟨hs,e1,e2,e3⟩:=Xh h hj (tS hy) (qX (.sl t) y [] hn (by simp)) (vs:=[v]) (⟨hr,trivial⟩:All2 (RC w (cx.q σ m w)) [c] [v]);refine ⟨hs,e1,e2,fun q n hq hk _=>?_⟩;obtain ⟨i1,i2⟩:=e3 q n hq hk;exact ⟨(show RC w q (.own n) v/\_ from i1).1,i2⟩
 | og t ms =>
  simp only[Xb,xA] at hx;split at hx<;>try simp at hx
  rename_i l;split at hx<;>try simp at hx
  rename_i l' ps hj;split at hx<;>try simp at hx
  rename_i y hy;cases hn:noB t with
  | false=>simp[hn] at hx
  | true =>
  simp[hn] at hx;obtain ⟨rfl,rfl⟩:=hx;obtain ⟨cs,c1,c2⟩:=hr;obtain ⟨hs,e1,e2,e3⟩:=Xh h hj (tS hy) (qX t y [] hn (by simp)) c2;refine ⟨hs,e1,e2,fun q n hq hk _=>?_⟩;obtain ⟨i1,i2⟩:=e3 q n hq hk;exact ⟨⟨cs,c1,i1⟩,i2⟩
 | _=>simp[SY] at hk
theorem UU {P:Program} {t:TypeId} {b off:Nat} {v:Value} (h:(Instr.loadAt t (.pointer (some ⟨b,off,none⟩))).run P w=.ok v w):(loadVar t ⟨b,off,none⟩).run P w=.ok v w:=by
 simpa [Instr.loadAt,Instr.sureAddr] using h
def T8 (tmps:Array Value):ResultVar->Sem Value
 | .tmp t=>pure (tmps.getD t Go.undef)
 | .cell p t=>do loadVar t (<-asAddr (tmps.getD p Go.undef))
theorem ZP (hT:∀t,vo cx.P t (cx.TI t)) (hG:xU cx) (h:Rel cx m σ a w):∀{ks:List KS} {rv:List ResultVar} {x:TK ks} {ls:List Lk},(∀k∈ks,SY k=true)->qs cx.TI σ rv=true->vV cx.TI σ ks rv=some (x,ls)->
  ∃(vs:List Value) (hs:List Hd),(rv.mapM (T8 a.tmps)).run cx.P w=.ok vs w/\hs.length=(wE ks x).length/\HdP σ m hs (wi ls) /\
   ∀(q:Q) (n:Nat),QUp (cx.q σ m w) q->(∀j hh,hs[j]?=some hh->q.m.hd (n+j)=some hh)->(∀p,.lp p∈ls->∀b,xz σ m (.inr p) b->q.ok b)->
    All2 (RD w q) (vZ n ks x) vs/\OwnsR w q n ((wE ks x).map (·.2))
 | [],[],_,ls,_,_,hx=>by
  simp[vV] at hx;subst hx;exact ⟨[],[],by simp,rfl,trivial,fun q n _ _ _=>⟨trivial,fun j o ho=>by simp[wE] at ho⟩⟩
 | [],_::_,_,_,_,_,h=>by simp[vV] at h
 | _::_,[],_,_,_,_,h=>by simp[vV] at h
 | k::ks,.tmp t::r,x,ls,hk,hc,hx=>by
  simp only[vV] at hx;split at hx<;>simp at hx;rename_i y z hy hz;obtain ⟨rfl,rfl⟩:=hx;obtain ⟨vs,hs,h1,l1,p1,h2⟩:=ZP (ks:=ks) (rv:=r) hT hG h (fun k hk'=>hk k (List.mem_cons_of_mem _ hk')) hc hz;obtain ⟨hs0,l0,p0,h0⟩:=UZ h (hk k (by simp)) hy (h.env t);refine ⟨a.tmps.getD t Go.undef::vs,hs0++hs,?_,by simp[wE,l0,l1],by rw[ud]; exact p0.app p1,fun q n hq hh hlp=>?_⟩
  ·simp only[List.mapM_cons,T8,Sem.run_bind,Sem.run_pure,Result.andThen_ok]
   rw[h1];rfl
  ·obtain ⟨i1,i2⟩:=h0 q n hq (fun j hd hj=>hh j hd (by rw[List.getElem?_append_left ((List.getElem?_eq_some_iff.1 hj).1)]; exact hj)) (fun p hp=>hlp p (by simp[hp]))
   obtain ⟨j1,j2⟩:=h2 q (n+hs0.length) hq (fun j hd hj=>by rw[Nat.add_assoc]; exact hh _ hd (by rw[List.getElem?_append_right (by omega)]; simpa using hj)) (fun p hp=>hlp p (by simp[hp]));rw[l0] at j1 j2;refine ⟨⟨i1,j1⟩,?_⟩;simp only[wE,List.map_append,List.map_map];rw[show ((fun x:Bool×xK=>x.2) ∘ fun o=>(false,o))=id from rfl,List.map_id];exact i2.app j2
 | k::ks,.cell p t::r,x,ls,hk,hc,hx=>by
  have hp:=h.env p;simp only[vV,qs] at hx hc;generalize hld:uA (cx.TI t) σ (σ.env p)=ld at hx hc;cases ld with
  | none=>simp at hx
  | some ld =>
  obtain ⟨b,ee,em⟩:=ld;simp only[Bool.and_eq_true] at hc;obtain ⟨hb,hc⟩:=hc;subst hb;split at hx<;>try simp at hx
  rename_i b' z hzz;cases hzz
  split at hx<;>simp at hx;rename_i y z' hy hz;obtain ⟨rfl,rfl⟩:=hx;obtain ⟨vs,hs,h1,l1,p1,h2⟩:=ZP (ks:=ks) (rv:=r) hT hG h (fun k hk'=>hk k (List.mem_cons_of_mem _ hk')) hc hz;have hval:∃bb off,a.tmps.getD p Go.undef=.pointer (some ⟨bb,off,none⟩):=by
   generalize σ.env p=e at hp hld;cases e with
   | loc s off=>obtain ⟨bb,_,e⟩:=hp; exact ⟨bb,off,e⟩
   | locx s i=>obtain ⟨bb,_,_,_,e,_⟩:=hp; exact ⟨bb,i,e⟩
   | opos s i off=>obtain ⟨hd,bb,o',_,_,_,e⟩:=hp; exact ⟨bb,_,e⟩
   | adr l=>obtain ⟨bb,off,_,e,_⟩:=hp; exact ⟨bb,off,e⟩
   | _=>simp[uA] at hld
  obtain ⟨bb,off,hval⟩:=hval;obtain ⟨_,v,u1,u2⟩:=Tj hT hG h (t:=t) (x:=.tmp p) hld;rw[show a.eval (.tmp p)=.pointer (some ⟨bb,off,none⟩) from hval] at u1;have hload:(loadVar t ⟨bb,off,none⟩).run cx.P w=.ok v w/\RE w (cx.q σ m w) (.d z) v:=⟨UU u1,u2⟩;obtain ⟨hs0,l0,p0,h0⟩:=UZ h (hk k (by simp)) hy hload.2;refine ⟨v::vs,hs0++hs,?_,by simp[wE,l0,l1],by rw[ud]; exact p0.app p1,fun q n hq hh hlp=>?_⟩
  ·simp only[List.mapM_cons,T8,Sem.run_bind,hval,asAddr,Sem.run_pure,Result.andThen_ok,hload.1]
   rw[h1];rfl
  ·obtain ⟨i1,i2⟩:=h0 q n hq (fun j hd hj=>hh j hd (by rw[List.getElem?_append_left ((List.getElem?_eq_some_iff.1 hj).1)]; exact hj)) (fun p hp=>hlp p (by simp[hp]))
   obtain ⟨j1,j2⟩:=h2 q (n+hs0.length) hq (fun j hd hj=>by rw[Nat.add_assoc]; exact hh _ hd (by rw[List.getElem?_append_right (by omega)]; simpa using hj)) (fun p hp=>hlp p (by simp[hp]));rw[l0] at j1 j2;refine ⟨⟨i1,j1⟩,?_⟩;simp only[wE,List.map_append,List.map_map];rw[show ((fun x:Bool×xK=>x.2) ∘ fun o=>(false,o))=id from rfl,List.map_id];exact i2.app j2
theorem T7 (fn:Func) (tmps:Array Value):results fn tmps=(do let vs <-fn.results.mapM (T8 tmps); pure (if h:vs.size=1 then vs[0] else .tuple vs)):=by
 unfold results;have:(fun x:ResultVar=>(match x with | .tmp t=>pure (tmps.getD t Go.undef) | .cell a t=>do loadVar t (<-asAddr (tmps.getD a Go.undef)):Sem Value))=T8 tmps:=by
  funext r; cases r<;>rfl
 rw[<-this];rfl
def nfC:C->Bool
 | .fnb _=>false
 | .sl t _ | .bs t _ | .pt t _ | .bnd _ t _ | .tr t _ | .clo _ t _=>nfT t
 | .clo2 _ t _ u _=>nfT t&&nfT u
 | _=>true
structure QNf (q q':Q):Prop where
 ok:q'.ok=q.ok
 okb:q'.okb=q.okb
 hd:q'.m.hd=q.m.hd
 blk:q'.m.blk=q.m.blk
theorem RT.nf {w:World} {q q':Q} (hq:QNf q q') {t:Ty} {x:t.T} {vs:List Value} (hn:nfT t=true) (h:RT w q.ok q.okb q.m.me t x vs):RT w q'.ok q'.okb q'.m.me t x vs:=by
 rw[hq.ok,hq.okb]; exact YD t x vs hn h
theorem RC.nf {w:World} {q q':Q} (hq:QNf q q'):∀{c:C} {v:Value},nfC c=true->RC w q c v->RC w q' c v
 | .v _,_,_,h=>h
 | .fn _,_,_,h=>h
 | .fnb _,_,hn,_=>by simp[nfC] at hn
 | .sl t _,_,hn,h=>by
  show SlR w q'.ok t.size (RT w q'.ok q'.okb q'.m.me t) _ _;exact SlR.mono (fun b hb=>⟨by rw[hq.ok]; exact hb,fun _ _ h=>h⟩) (fun x us h=>RT.nf hq hn h) h
 | .bs t _,_,hn,h=>by
  show SlR w q'.okb t.size (RT w q'.ok q'.okb q'.m.me t) _ _;exact SlR.mono (fun b hb=>⟨by rw[hq.okb]; exact hb,fun _ _ h=>h⟩) (fun x us h=>RT.nf hq hn h) h
 | .pt t _,_,hn,⟨b,off,us,e,hb,hl,hc,h⟩=>⟨b,off,us,e,by rw[hq.ok]; exact hb,hl,hc,RT.nf hq hn h⟩
 | .bnd _ t _,_,hn,h=>h.imp (fun h=>h) fun ⟨f,us,e1,e2,e3⟩=>⟨f,us,e1,e2,RT.nf hq hn e3⟩
 | .tr t _,_,hn,h=>by
  show TrR w q'.ok t.size (RT w q'.ok q'.okb q'.m.me t) _ _;exact TrR.mono (fun b hb=>⟨by rw[hq.ok]; exact hb,fun _ _ h=>h⟩) (fun x us h=>RT.nf hq hn h) h
 | .clo _ t _,_,hn,⟨b,off,us,e,hb,hl,hc,h⟩=>⟨b,off,us,e,by rw[hq.okb]; exact hb,hl,hc,RT.nf hq hn h⟩
 | .clo2 _ t _ u _,_,hn,⟨b,off,us,b',off',us',e,⟨hb,hl,hc,h⟩,⟨hb',hl',hc',h'⟩⟩=>by
  simp only[nfC,Bool.and_eq_true] at hn;exact ⟨b,off,us,b',off',us',e,⟨by rw[hq.okb]; exact hb,hl,hc,RT.nf hq hn.1 h⟩,⟨by rw[hq.okb]; exact hb',hl',hc',RT.nf hq hn.2 h'⟩⟩
 | .own s,_,_,⟨h,e⟩=>⟨h,by rw[hq.hd]; exact e.1,e.2⟩
 | .vw s lo hi,_,_,⟨h,e⟩=>⟨h,by rw[hq.hd]; exact e.1,e.2⟩
theorem qW:∀(t:Ty) (x:t.T) (r:List C),nfT t=true->(∀c∈r,nfC c=true)->∀c∈t.enc x r,nfC c=true
 | .int _,_,_,h,hr,c,hc=>by rcases List.mem_cons.1 hc with rfl | hc<;>first | rfl | exact hr c hc
 | .bool,_,_,h,hr,c,hc=>by rcases List.mem_cons.1 hc with rfl | hc<;>first | rfl | exact hr c hc
 | .str,_,_,h,hr,c,hc=>by rcases List.mem_cons.1 hc with rfl | hc<;>first | rfl | exact hr c hc
 | .fn,_,_,h,hr,c,hc=>by rcases List.mem_cons.1 hc with rfl | hc<;>first | rfl | exact hr c hc
 | .fnb,_,_,h,_,_,_=>by simp[nfT] at h
 | .sl _,_,_,h,hr,c,hc=>by rcases List.mem_cons.1 hc with rfl | hc<;>first | exact h | exact hr c hc
 | .bsl _,_,_,h,hr,c,hc=>by rcases List.mem_cons.1 hc with rfl | hc<;>first | exact h | exact hr c hc
 | .pt _,_,_,h,hr,c,hc=>by rcases List.mem_cons.1 hc with rfl | hc<;>first | exact h | exact hr c hc
 | .tr _,_,_,h,hr,c,hc=>by rcases List.mem_cons.1 hc with rfl | hc<;>first | exact h | exact hr c hc
 | .bnd _,_,_,h,hr,c,hc=>by rcases List.mem_cons.1 hc with rfl | hc<;>first | exact h | exact hr c hc
 | .unit,_,_,h,hr,c,hc=>hr c hc
 | .pair a b,x,r,h,hr,c,hc=>by
  simp only[nfT,Bool.and_eq_true] at h;exact qW a x.1 _ h.1 (qW b x.2 r h.2 hr) c hc
theorem XO:∀{ms:List Nat} {l:List C} {k:Nat},(∀c∈l,nfC c=true)->(∀c∈(unM k ms l).1,nfC c=true)/\∀o∈(unM k ms l).2,nfT o.t=true
 | [],l,k,h=>⟨h,fun o ho=>by simp[unM] at ho⟩
 | b::ms,[],k,h=>⟨fun c hc=>by simp[unM] at hc,fun o ho=>by simp[unM] at ho⟩
 | b::ms,c::r,k,h=>by
  have hr:∀c∈r,nfC c=true:=fun c hc=>h c (by simp[hc])
  simp only[unM];split
  ·rename_i o ho
   obtain ⟨i1,i2⟩:=XO (ms:=ms) (k:=k+1) hr;refine ⟨fun c' hc=>?_,fun o' ho'=>?_⟩
   ·rcases List.mem_cons.1 hc with rfl | hc
    ·rfl
    ·exact i1 c' hc
   ·rcases List.mem_cons.1 ho' with rfl | ho'
    ·have hc:=h c (by simp)
     unfold U8 at ho;split at ho<;>simp at ho;subst ho;exact hc
    ·exact i2 o' ho'
  ·obtain ⟨i1,i2⟩:=XO (ms:=ms) (k:=k) hr
   refine ⟨fun c' hc=>?_,i2⟩;rcases List.mem_cons.1 hc with rfl | hc
   ·exact h _ (by simp)
   ·exact i1 c' hc
theorem All2.nf {w:World} {q q':Q} (hq:QNf q q'):∀{l:List C} {vs:List Value},(∀c∈l,nfC c=true)->All2 (RC w q) l vs->All2 (RC w q') l vs
 | [],[],_,_=>trivial
 | c::l,v::vs,h,⟨h1,h2⟩=>⟨RC.nf hq (h c (by simp)) h1,All2.nf hq (fun c hc=>h c (by simp[hc])) h2⟩
theorem OwnsR.nf {w:World} {q q':Q} (hq:QNf q q') {k:Nat} {os:List xK} (hn:∀o∈os,nfT o.t=true) (h:OwnsR w q k os):OwnsR w q' k os:=by
 intro j o ho;obtain ⟨hd,e,l1,l2,l3,l4⟩:=h j o ho;refine ⟨hd,by rw[hq.hd]; exact e,l1,l2,l3,fun hc=>?_⟩;obtain ⟨b,off,cs,T,e1,e2,e3,e4⟩:=l4 hc;refine ⟨b,off,cs,T,e1,e2,e3,fun i hi=>?_⟩;obtain ⟨us,u1,u2,u3⟩:=e4 i hi;exact ⟨us,u1,u2,RT.nf hq (hn o (List.mem_of_getElem? ho)) u3⟩
theorem Zr {w:World} {q q':Q} (hq:QNf q q') {n:Nat}:∀{k:KS} {x:k.T} {v:Value},nfK k=true->RD w q (WX n k x) v->RD w q' (WX n k x) v
 | .c t,x,v,hn,h=>by
  have h1:=qW t x [] hn (by simp);simp only[WX] at h ⊢;split at h
  ·rename_i y hy; rw[hy] at h1; exact RC.nf hq (h1 y (by simp)) h
  ·obtain ⟨cs,e1,e2⟩:=h; exact ⟨cs,e1,All2.nf hq (by simp) e2⟩
 | .b t,x,v,hn,h=>RC.nf (c:=.bs t x) hq hn h
 | .g t,x,v,hn,⟨cs,e1,e2⟩=>⟨cs,e1,All2.nf hq (qW t x [] hn (by simp)) e2⟩
 | .a k,x,v,hn,h=>h
 | .os t,x,v,hn,h=>RC.nf (w:=w) (c:=.own n) hq rfl h
 | .og t ms,x,v,hn,⟨cs,e1,e2⟩=>⟨cs,e1,All2.nf hq (XO (qW t x [] hn (by simp))).1 e2⟩
 | .p t,x,v,hn,⟨cs,e1,e2⟩=>⟨cs,e1,All2.nf hq (by simp) e2⟩
 | .loc _,_,_,hn,_=>by simp[nfK] at hn
 | .ow _,_,_,hn,_=>by simp[nfK] at hn
 | .go _ _,_,_,hn,_=>by simp[nfK] at hn
 | .cl _,_,_,hn,_=>by simp[nfK] at hn
 | .cl2 _ _,_,_,hn,_=>by simp[nfK] at hn
theorem Qo {w:World} {q q':Q} (hq:QNf q q') {n:Nat}:∀{k:KS} {x:k.T} {v:Value},nfK k=true->RE w q (Z2 n k x) v->RE w q' (Z2 n k x) v
 | .p t,x,_,hb,⟨b,off,vs,e,hb',hc,r,hp⟩=>⟨b,off,vs,e,by rw[hq.okb]; exact hb',hc,All2.nf hq (qW t x [] hb (by simp)) r,hp⟩
 | .c t,x,v,hn,h=>Zr (n:=n) (k:=.c t) (x:=x) hq hn h
 | .b t,x,v,hn,h=>Zr (n:=n) (k:=.b t) (x:=x) hq hn h
 | .g t,x,v,hn,h=>Zr (n:=n) (k:=.g t) (x:=x) hq hn h
 | .a k,x,v,hn,h=>h
 | .os t,x,v,hn,h=>Zr (w:=w) (n:=n) (k:=.os t) (x:=x) hq hn h
 | .og t ms,x,v,hn,h=>Zr (n:=n) (k:=.og t ms) (x:=x) hq hn h
 | .loc _,_,_,hn,_=>by simp[nfK] at hn
 | .ow _,_,_,hn,_=>by simp[nfK] at hn
 | .go _ _,_,_,hn,_=>by simp[nfK] at hn
 | .cl _,_,_,hn,_=>by simp[nfK] at hn
 | .cl2 _ _,_,_,hn,_=>by simp[nfK] at hn
theorem zax {k:KS} {x:k.T} (hn:nfK k=true):∀o∈wH (.d k) x,nfT o.t=true:=by
 intro o ho;cases k with
 | os t=>simp[wH] at ho; subst ho; exact hn
 | og t ms=>exact (XO (qW t x [] hn (by simp))).2 o ho
 | _=>simp[wH] at ho
theorem ArgsR.nf {w:World} {q q':Q} (hq:QNf q q'):∀{as:List AT} {x:TA as} {vs:List Value} {i k:Nat},as.all nfA=true->ArgsR w q i k as x vs->ArgsR w q' i k as x vs
 | [],_,[],i,k,_,h=>⟨fun j hj=>by rw[hq.blk]; exact h.1 j hj,fun p hd hp=>h.2 p hd (by rw[<-hq.hd]; exact hp)⟩
 | [],_,_::_,_,_,_,h=>h.elim
 | .d _::_,_,[],_,_,_,h=>h.elim
 | .io _ _::_,_,_,_,_,hn,_=>by simp[nfA] at hn
 | .ios _::_,_,_,_,_,hn,_=>by simp[nfA] at hn
 | .d b::as,x,v::vs,i,k,hn,⟨h1,h2,h3,h4⟩=>by
  simp only[List.all_cons,Bool.and_eq_true] at hn;have hb:nfK b=true:=hn.1;refine ⟨by rw[hq.blk]; exact h1,?_,OwnsR.nf hq (zax hb) h3,ArgsR.nf hq hn.2 h4⟩;exact Qo hq hb h2
theorem Entry.nf {G:Nat->Option xK} {w:World} {X Iq:Nat->Prop} {g:Gh} {as:List AT} {x:TA as} {vs:List Value} (hn:as.all nfA=true) (h:Entry G w X Iq g as x vs) :
  Entry G w X Iq {g with me:=none} as x vs where
 glob:=h.glob
 globm:=h.globm
 old:=h.old
 mv:=h.mv
 io:=h.io
 inj:=h.inj
 injm:=h.injm
 low:=h.low
 args:=ArgsR.nf (q:=qIn w X Iq g) (q':=qIn w X Iq {g with me:=none}) ⟨rfl,rfl,rfl,rfl⟩ hn h.args
 me:=fun i t ms b hi _ _=>by
  have:=List.all_eq_true.1 hn _ (List.mem_of_getElem? hi);simp[nfA] at this
theorem Tw {w:World} {q q':Q} (hq:QNf q q'):∀{ks:List KS} {x:TK ks} {n:Nat} {vs:List Value},ks.all nfK=true->All2 (RD w q) (vZ n ks x) vs->All2 (RD w q') (vZ n ks x) vs
 | [],_,_,[],_,_=>trivial
 | k::ks,x,n,v::vs,hn,⟨h1,h2⟩=>by
  simp only[List.all_cons,Bool.and_eq_true] at hn;exact ⟨Zr hq hn.1 h1,Tw hq hn.2 h2⟩
theorem RetR.nf {w:World} {q q':Q} (hq:QNf q q') {ks:List KS} {x:TK ks} {n:Nat} {v:Value} (hn:ks.all nfK=true) (h:RetR w q (vZ n ks x) v):RetR w q' (vZ n ks x) v:=by
 have key:∀vs,All2 (RD w q) (vZ n ks x) vs->All2 (RD w q') (vZ n ks x) vs:=fun vs h=>Tw hq hn h
 generalize vZ n ks x=l at h key;match l,h with
 | [],⟨vs,e,h⟩=>exact ⟨vs,e,key _ h⟩
 | [d],h=>exact (key [v] ⟨h,trivial⟩).1
 | d::d'::l,⟨vs,e,h⟩=>exact ⟨vs,e,key _ h⟩
theorem IosR.none {w w':World} {q:Q} {blk:Nat->Option Nat}:∀{as:List AT} {y:TIo as} {i n:Nat},as.all nfA=true->IosR w w' q blk i n as y
 | [],_,_,_,_=>trivial
 | .d _::as,y,i,n,h=>IosR.none (as:=as) (by simp only[List.all_cons,Bool.and_eq_true] at h; exact h.2)
 | .io _ _::_,_,_,_,hn=>by simp[nfA] at hn
 | .ios _::_,_,_,_,hn=>by simp[nfA] at hn
theorem IoH.none {g g1:Gh}:∀{as:List AT} {x:TA as} {y:TIo as} {k n:Nat},as.all nfA=true->IoH g g1 k n as x y
 | [],_,_,_,_,_=>trivial
 | .d _::as,x,y,k,n,h=>IoH.none (as:=as) (by simp only[List.all_cons,Bool.and_eq_true] at h; exact h.2)
 | .io _ _::_,_,_,_,_,hn=>by simp[nfA] at hn
 | .ios _::_,_,_,_,_,hn=>by simp[nfA] at hn
theorem QI {k:KS} {x:k.T} (hn:nfK k=true):∀o∈Yh k x,nfT o.t=true:=by
 intro o ho;cases k with
 | os t=>simp[Yh] at ho; subst ho; exact hn
 | og t ms=>exact (XO (qW t x [] hn (by simp))).2 o ho
 | _=>simp[Yh] at ho
theorem UX:∀{ks:List KS} {x:TK ks},ks.all nfK=true->∀o∈(wE ks x).map (·.2),nfT o.t=true
 | [],_,_,o,ho=>by simp[wE] at ho
 | k::ks,x,hn,o,ho=>by
  simp only[List.all_cons,Bool.and_eq_true] at hn;simp only[wE,List.map_append,List.map_map,List.mem_append] at ho;rcases ho with ho | ho
  ·exact QI hn.1 o (by simpa using ho)
  ·exact UX hn.2 o ho
theorem Ra:∀{as:List AT} {y:TIo as},as.all nfA=true->uW as y=[]
 | [],_,_=>rfl
 | .d _::as,y,h=>Ra (as:=as) (by simp only[List.all_cons,Bool.and_eq_true] at h; exact h.2)
 | .io _ _::_,_,hn=>by simp[nfA] at hn
 | .ios _::_,_,hn=>by simp[nfA] at hn
theorem PostO.nf {w w':World} {X Iq:Nat->Prop} {g:Gh} {me:Option Nat} {s:Sig} {x:TA s.args} {y:s.R} {v:Value} {K:Nat} {g1:Gh} (hr:s.res.all nfK=true) (ha:s.args.all nfA=true)
  (h:PostO w w' X Iq {g with me:=me} s x y v K g1):PostO w w' X Iq g s x y v K {g1 with me:=none} where
 ret:=RetR.nf (q:=th w' X Iq g1) (q':=th w' X Iq {g1 with me:=none}) ⟨rfl,rfl,rfl,rfl⟩ hr h.ret
 ios:=IosR.none ha
 own:=by
  have:=h.own;rw[Ra ha,List.append_nil] at this ⊢;exact OwnsR.nf (q:=th w' X Iq g1) (q':=th w' X Iq {g1 with me:=none}) ⟨rfl,rfl,rfl,rfl⟩ (UX hr) this
 low:=h.low
 mv:=h.mv
 injm:=h.injm
 ioh:=IoH.none ha
 me:=fun b hb=>by cases hb
theorem IoH.hd {g g' g1 g1':Gh} (e:g.hd=g'.hd) (e1:g1.hd=g1'.hd):∀{as:List AT} {x:TA as} {y:TIo as} {k n:Nat},IoH g g1 k n as x y->IoH g' g1' k n as x y
 | [],_,_,_,_,_=>trivial
 | .d _::as,x,y,k,n,h=>IoH.hd e e1 (as:=as) h
 | .io _ _::as,x,y,k,n,h=>IoH.hd e e1 (as:=as) h
 | .ios _::as,x,y,k,n,⟨h1,h2⟩=>⟨by rw[<-e,<-e1]; exact h1,IoH.hd e e1 (as:=as) h2⟩
end
end Go.VS
namespace Go.VS
open Go IntKind
section
variable {P:Program} {TI:Nat->TS} {G:Nat->Option xK} {w:World} {X Iq:Nat->Prop} {g:Gh}
theorem qu {q:Q}:∀{as:List AT} {x:TA as} {vs:List Value} {i k:Nat},ArgsR w q i k as x vs->(∀j b,i<=j->q.m.blk j=some b->j<i+as.length)/\vs.length=as.length
 | [],_,[],i,_,h=>⟨fun j b hj hb=>(by rw[h.1 j hj] at hb; cases hb),rfl⟩
 | [],_,_::_,_,_,h=>h.elim
 | .d k::as,_,[],_,_,h=>h.elim
 | .io t ms::as,_,[],_,_,h=>h.elim
 | .ios t::as,_,[],_,_,h=>h.elim
 | .d k::as,x,v::vs,i,_,⟨h1,_,_,h3⟩=>by
  obtain ⟨i1,i2⟩:=qu h3;refine ⟨fun j b hj hb=>?_,by simp[i2]⟩;rcases Nat.eq_or_lt_of_le hj with e | hlt
  ·subst e; rw[h1] at hb; cases hb
  ·have:=i1 j b hlt hb; simp; omega
 | .ios t::as,x,v::vs,i,_,⟨h1,_,_,h3⟩=>by
  obtain ⟨i1,i2⟩:=qu h3;refine ⟨fun j b hj hb=>?_,by simp[i2]⟩;rcases Nat.eq_or_lt_of_le hj with e | hlt
  ·subst e; rw[h1] at hb; cases hb
  ·have:=i1 j b hlt hb; simp; omega
 | .io t ms::as,x,v::vs,i,_,⟨_,_,h3⟩=>by
  obtain ⟨i1,i2⟩:=qu h3;refine ⟨fun j b hj hb=>?_,by simp[i2]⟩;rcases Nat.eq_or_lt_of_le hj with e | hlt
  ·subst e; simp
  ·have:=i1 j b hlt hb; simp; omega
theorem YC {q q':Q} (hq:Le w w q q'):∀{as:List AT} {x:TA as} {vs:List Value} {i k:Nat},ArgsR w q i k as x vs->
  ∀{u:Nat->Value},(∀j v,vs[j]?=some v->u (i+j)=v)->∀t,RE w q' (tc i k as x t) (u t)
 | [],_,_,i,_,_,_,_,t=>by simp only[tc]; exact trivial
 | .d k::as,_,[],_,_,h,_,_,_=>h.elim
 | .io t ms::as,_,[],_,_,h,_,_,_=>h.elim
 | .ios t::as,_,[],_,_,h,_,_,_=>h.elim
 | .d b::as,x,v::vs,i,k,⟨_,h2,_,h3⟩,u,hu,t=>by
  have ih:=YC hq h3 (u:=u) (fun j v hj=>by rw[show i+1+j=i+(j+1) by omega]; exact hu (j+1) v (by simpa using hj)) t;have hv:u i=v:=hu 0 v rfl;have hd:tc i k (.d b::as) x t=bif Nat.beq t i then Z2 k b x.1 else tc (i+1) (k+(wH (.d b) x.1).length) as x.2 t:=by cases b<;>rfl
  rw[hd];cases hb:Nat.beq t i with
  | true=>rw[yx hb,hv]; exact RE.mono hq h2
  | false=>exact ih
 | .ios ty::as,x,v::vs,i,k,⟨_,h2,_,h3⟩,u,hu,t=>by
  have ih:=YC hq h3 (u:=u) (fun j v hj=>by rw[show i+1+j=i+(j+1) by omega]; exact hu (j+1) v (by simpa using hj)) t;have hv:u i=v:=hu 0 v rfl;simp only[tc];cases hb:Nat.beq t i with
  | true=>rw[yx hb,hv]; exact RE.mono hq h2
  | false=>exact ih
 | .io ty ms::as,x,v::vs,i,k,⟨⟨b,cs,T,h1,h2,_⟩,_,h3⟩,u,hu,t=>by
  have ih:=YC hq h3 (u:=u) (fun j v hj=>by rw[show i+1+j=i+(j+1) by omega]; exact hu (j+1) v (by simpa using hj)) t;have hv:u i=v:=hu 0 v rfl;simp only[tc];cases hb:Nat.beq t i with
  | true=>rw[yx hb,hv]; exact ⟨b,hq.blk i b h1,h2⟩
  | false=>exact ih
theorem q7 {q:Q}:∀{as:List AT} {x:TA as} {vs:List Value} {i k:Nat},ArgsR w q i k as x vs->∀s,
  (∀d,q9 i k as x s=some d->∃b cs T L,q.m.blk s=some b/\w.heap[b]?=some (Obj.cells cs T (0,0))/\d=.g L/\All2 (RC w q) L cs.toList) /\
  (∀b,i<=s->q.m.blk s=some b->q9 i k as x s≠none)
 | [],_,[],i,_,h,s=>⟨fun d hd=>(by simp[q9] at hd),fun b hs hb=>(by rw[h.1 s hs] at hb; cases hb)⟩
 | [],_,_::_,_,_,h,_=>h.elim
 | .d k::as,_,[],_,_,h,_=>h.elim
 | .io t ms::as,_,[],_,_,h,_=>h.elim
 | .ios t::as,_,[],_,_,h,_=>h.elim
 | .d b::as,x,v::vs,i,k,⟨h1,_,_,h3⟩,s=>by
  obtain ⟨i1,i2⟩:=q7 h3 s;refine ⟨i1,fun b hs hb=>?_⟩;rcases Nat.eq_or_lt_of_le hs with e | hlt
  ·subst e; rw[h1] at hb; cases hb
  ·exact i2 b hlt hb
 | .ios t::as,x,v::vs,i,k,⟨h1,_,_,h3⟩,s=>by
  obtain ⟨i1,i2⟩:=q7 h3 s;refine ⟨i1,fun b hs hb=>?_⟩;rcases Nat.eq_or_lt_of_le hs with e | hlt
  ·subst e; rw[h1] at hb; cases hb
  ·exact i2 b hlt hb
 | .io t ms::as,x,v::vs,i,k,⟨⟨b,cs,T,h1,_,h4,h5⟩,_,h3⟩,s=>by
  obtain ⟨i1,i2⟩:=q7 h3 s;simp only[q9];cases hb:Nat.beq s i with
  | true =>
   have e:=yx hb;subst e;exact ⟨fun d hd=>by simp at hd; subst hd; exact ⟨b,cs,T,_,h1,h4,rfl,h5⟩,fun _ _ _=>by simp⟩
  | false =>
   refine ⟨by simpa using i1,fun b' hs hb'=>?_⟩;rcases Nat.eq_or_lt_of_le hs with e | hlt
   ·subst e; simp at hb
   ·simpa using i2 b' hlt hb'
theorem W5 {f:Nat->qw} {p:Nat}:∀{os:List xK} {k:Nat},(∃j o,p=k+j/\os[j]?=some o/\QA k os f p=.is o)\/((∀j,j<os.length->p≠k+j)/\QA k os f p=f p)
 | [],k=>.inr ⟨fun j hj=>by simp at hj,rfl⟩
 | o::os,k=>by
  simp only[QA];cases hb:Nat.beq p k with
  | true=>exact .inl ⟨0,o,yx hb,rfl,rfl⟩
  | false =>
   have hne:p≠k:=fun e=>by subst e; simp at hb
   rcases W5 (f:=f) (p:=p) (os:=os) (k:=k+1) with ⟨j,o',h1,h2,h3⟩ | ⟨h1,h2⟩
   ·exact .inl ⟨j+1,o',by omega,by simpa using h2,h3⟩
   ·refine .inr ⟨fun j hj=>?_,h2⟩
    cases j with
    | zero=>exact hne
    | succ j=>have:=h1 j (by simp at hj; omega); omega
theorem WL {q:Q}:∀{as:List AT} {x:TA as} {vs:List Value} {i k:Nat},ArgsR w q i k as x vs->∀p,
  (∀o,Z1 k as x p=.is o->∃h,q.m.hd p=some h/\OwnRep w q h o)/\(∀h,q.m.hd p=some h->k<=p->Z1 k as x p≠.no)
 | [],_,[],i,k,h,p=>⟨fun o ho=>by simp[Z1] at ho,fun hh hp hk=>by have:=h.2 p hh hp; omega⟩
 | [],_,_::_,_,_,h,_=>h.elim
 | .d k::as,_,[],_,_,h,_=>h.elim
 | .io t ms::as,_,[],_,_,h,_=>h.elim
 | .ios t::as,_,[],_,_,h,_=>h.elim
 | c::as,x,v::vs,i,k,h,p=>by
  have key:OwnsR w q k (wH c x.1)/\ArgsR w q (i+1) (k+(wH c x.1).length) as x.2 vs:=by
   cases c with
   | d b=>exact ⟨h.2.2.1,h.2.2.2⟩
   | io t ms=>exact ⟨h.2.1,h.2.2⟩
   | ios t=>exact ⟨h.2.2.1,h.2.2.2⟩
  obtain ⟨h1,h2⟩:=key;obtain ⟨i1,i2⟩:=WL h2 p;simp only[Z1];rcases W5 (f:=Z1 (k+(wH c x.1).length) as x.2) (p:=p) (os:=wH c x.1) (k:=k) with ⟨j,o,e1,e2,e3⟩ | ⟨e1,e2⟩
  ·rw[e3]
   refine ⟨fun o' ho=>?_,fun _ _ _=>by simp⟩;cases ho
   rw[e1]; exact h1 j o e2
  ·rw[e2]
   refine ⟨i1,fun hh hp hk=>i2 hh hp ?_⟩;rcases Nat.lt_or_ge p (k+(wH c x.1).length) with h' | h'
   ·exact absurd (show p=k+(p-k) by omega) (e1 (p-k) (by omega))
   ·exact h'
 termination_by as=>as.length
theorem Q9 {as:List AT} {x:TA as} {vs:List Value} (hE:Entry G w X Iq g as x vs) {N:Nat} {tmps:Array Value} (hsz:N<=tmps.size) (ht:∀(j:Nat) v,vs[j]?=some v->tmps.getD j Go.undef=v)
  {me:Option Nat} (hm1:∀s b,me=some s->g.blk s=some b->g.me=some b) (hm2:∀s,me=some s->as.length<=s->g.me=none) :
  Rel ⟨P,TI,G,N,w,X,Iq,as.length,g,me⟩ g (Wh as x) ⟨tmps,[]⟩ w:=by
 let cx:Cx:=⟨P,TI,G,N,w,X,Iq,as.length,g,me⟩
 have how:∀p b,xz (Wh as x) g p b->(Iq b/\∃s,p=.inl s/\g.blk s=some b)\/(Mv g b/\∃r h off,p=.inr r/\g.hd r=some h/\h.a=some ⟨b,off,none⟩/\0<h.cap):=by
  intro p b hp;cases p with
  | inl s=>exact .inl ⟨(hE.io b).2 ⟨s,hp⟩,s,rfl,hp⟩
  | inr s=>obtain ⟨o,hd,off,o1,o2,o3,o4⟩:=hp; exact .inr ⟨⟨s,hd,off,o2,o3,o4⟩,s,hd,off,rfl,o2,o3,o4⟩
 have hq:Le w w (qIn w X Iq g) (cx.q (Wh as x) g w):={
  ok:=fun b hb=>⟨⟨hb.1,fun ⟨p,hp⟩=>by
   rcases how p b hp with h' | h'
   ·exact hb.2.2.1 h'.1
   ·exact hb.2.2.2 h'.1,hb.2.1,hb.2.2.1⟩,fun _ _ h=>h⟩
  okb:=fun b hb=>⟨⟨hb.1,fun ⟨p,hp⟩=>by
   rcases how p b hp with h' | h'
   ·exact hb.2.1 h'.1
   ·exact hb.2.2 h'.1,hb.2.1⟩,fun _ _ h=>h⟩
  hd:=fun _ _ h=>h
  me:=fun _ h=>h
  blk:=fun _ _ h=>h
  sz:=fun b cs T h=>⟨cs,h,rfl⟩
  mp:=fun _ _ _ h=>h}
 exact {
  size:=hsz
  defers:=rfl
  env:=fun t=>YC hq hE.args (u:=fun t=>tmps.getD t Go.undef) (fun j v hj=>by rw[Nat.zero_add]; exact ht j v hj) t
  box:=fun s d hd=>by
   obtain ⟨b,cs,T,L,h1,h2,h3,h4⟩:=(q7 hE.args s).1 d hd;subst h3;exact ⟨b,cs,T,h1,h2,h4.mono fun _ _=>RC.mono hq.toQLeH⟩
  nobox:=fun s b hb=>(q7 hE.args s).2 b (Nat.zero_le _) hb
  own:=fun s o ho=>by
   obtain ⟨h,h1,h2⟩:=(WL hE.args s).1 o ho;exact ⟨h,h1,h2.mono hq.toQLe fun _ _ _ _=>rfl⟩
  noown:=fun s hd h=>(WL hE.args s).2 hd h (hE.low s hd h)
  dom:=fun p b hp=>by
   rcases how p b hp with ⟨h1,s,h2,h3⟩ | ⟨h1,_⟩
   ·exact ⟨hE.old b (.inr h1),.inr ⟨h1,s,h2,by have:=(qu hE.args).1 s b (Nat.zero_le _) h3; simpa using this⟩⟩
   ·obtain ⟨m1,m2,m3⟩:=hE.mv b h1
    exact ⟨m1,.inl ⟨m2,m3,.inr h1⟩⟩
  inj:=fun p p' b h1 h2=>by
   rcases how p b h1 with ⟨k1,s,e1,e2⟩ | ⟨k1,r,h,off,e1,e2,e3,e4⟩<;>rcases how p' b h2 with ⟨k1',s',e1',e2'⟩ | ⟨k1',r',h',off',e1',e2',e3',e4'⟩
   ·rw[e1,e1',hE.inj s s' b e2 e2']
   ·exact absurd k1 (hE.mv b k1').2.2
   ·exact absurd k1' (hE.mv b k1).2.2
   ·rw[e1,e1',hE.injm r r' h h' b off off' e2 e2' e3 e4 e3' e4']
  mem:=fun _ _ _ _=>rfl
  grown:=Nat.le_refl _
  oldX:=hE.old
  argna:=fun s b hb=>by have:=(qu hE.args).1 s b (Nat.zero_le _) hb; simpa using this
  arg:=fun s b b0 h1 h2=>by
   have h1:g.blk s=some b:=h1;have h2:g.blk s=some b0:=h2;rw[h1] at h2; simpa using h2
  argp:=fun p h hp=>by have:=hE.low p h hp; exact Nat.ble_eq_true_of_le this
  argh:=fun p h h0 h1 h2=>by
   have h1:g.hd p=some h:=h1;have h2:g.hd p=some h0:=h2;rw[h1] at h2; simpa using h2
  iosz:=fun b cs T _ h=>⟨cs,h,rfl⟩
  os:=rfl
  tape:=rfl
  output:=rfl
  me:=.inl rfl
  melt:=fun s hs hl _=>hm2 s hs hl
  mebox:=fun s b hs hb=>hm1 s b hs hb}
theorem Zk {cx:Cx} {m:Gh} {σ:St} {a:Act} {w':World} (h:Rel cx m σ a w') (hw:cx.w0=w) {q0:Q} (hq0:q0.m=cx.g0) (hio:∀i b,cx.g0.blk i=some b->cx.Iq b):∀{as:List AT} {x:TA as} {vs:List Value} {y:TIo as} {ls:List Lk} {i k:Nat},
  ArgsR w q0 i k as x vs->(∀k∈as,argOK k=true)->uR σ i k as x=some (y,ls)->∃hs:List Hd,hs.length=(uW as y).length/\HdP σ m hs (wi ls)/\(∀p,.lp p ∉ ls) /\
   ∀(q:Q) (n:Nat),QUp (cx.q σ m w') q->(∀j hh,hs[j]?=some hh->q.m.hd (n+j)=some hh)->IosR w w' q cx.g0.blk i n as y/\OwnsR w' q n ((uW as y).map (·.2))/\IoH cx.g0 q.m k n as x y
 | [],_,_,_,ls,_,_,_,_,hr=>by
  simp[uR] at hr;subst hr;refine ⟨[],rfl,trivial,?_,fun q n _ _=>⟨trivial,fun j o ho=>by simp[uW] at ho,trivial⟩⟩;simp
 | .d k::as,_,[],_,_,_,_,h,_,_=>h.elim
 | .io t ms::as,_,[],_,_,_,_,h,_,_=>h.elim
 | .ios t::as,_,[],_,_,_,_,h,_,_=>h.elim
 | .d b::as,x,v::vs,y,ls,i,k,⟨_,_,_,h3⟩,hk,hr=>Zk h hw hq0 hio (as:=as) h3 (fun k hk'=>hk k (by simp[hk'])) (by simpa only [uR] using hr)
 | .ios t::as,x,v::vs,y,ls,i,k,⟨_,h2,_,h3⟩,hk,hr=>by
  simp only[uR] at hr;split at hr<;>simp at hr;rename_i z z' hz hz';obtain ⟨rfl,rfl⟩:=hr;obtain ⟨hs,l1,p1,n1,h4⟩:=Zk h hw hq0 hio (as:=as) h3 (fun k hk'=>hk k (by simp[hk'])) hz';split at hz<;>try simp at hz
  rename_i o ho;obtain ⟨hh,g1,g2⟩:=h.own k o ho;obtain ⟨h0,g3,_⟩:=h2;have g3:cx.g0.hd k=some h0:=by rw[<-hq0]; exact g3
  have e0:=h.argh k hh h0 g1 g3;subst e0;obtain ⟨e1,e2⟩:=x6 hz;obtain ⟨t0,l0⟩:=o;simp only at e1 e2;subst e1;simp only at e2;subst e2;refine ⟨hh::hs,by simp[uW,l1],.inr ⟨⟨_,hh,ho,g1,rfl,fun b off e _=>⟨off,e⟩⟩,p1⟩,fun p hp=>by simp at hp; exact n1 p hp,fun q n hq hd=>?_⟩;obtain ⟨i1,i2,i3⟩:=h4 q (n+1) hq fun j hh hj=>by rw[show n+1+j=n+(j+1) by omega]; exact hd (j+1) hh (by simpa using hj)
  have hn0:=hd 0 hh rfl;refine ⟨i1,?_,?_⟩
  ·simp only[uW,List.map_cons]
   intro j o ho';cases j with
   | zero=>simp at ho'; subst ho'; exact ⟨hh,hn0,g2.mono_nb hq.2 hq.1 (hk (.ios t0) (by simp))⟩
   | succ j =>
    obtain ⟨h5,k1,k2⟩:=i2 j o (by simpa using ho');exact ⟨h5,by rw[show n+(j+1)=n+1+j by omega]; exact k1,k2⟩
  ·exact ⟨by rw[g3]; exact hn0,i3⟩
 | .io t ms::as,x,v::vs,y,ls,i,k,⟨⟨b,cs,T,h1,_,h4,_⟩,_,h3⟩,hk,hr=>by
  simp only[uR] at hr;split at hr<;>simp at hr;rename_i z z' hz hz';obtain ⟨rfl,rfl⟩:=hr;obtain ⟨hs,l1,p1,n1,h5⟩:=Zk h hw hq0 hio (as:=as) h3 (fun k hk'=>hk k (by simp[hk'])) hz';split at hz<;>try simp at hz
  rename_i l hl;split at hz<;>try simp at hz
  rename_i l' ps hj;split at hz<;>simp at hz;rename_i y0 hy;subst hz;obtain ⟨b',cs',T',e1,e2,e3⟩:=h.box i _ hl;rw[hq0] at h1;have:=h.arg i b' b e1 h1;subst this;obtain ⟨cs2,f1,f2⟩:=h.iosz b' cs T (.inl (hio i b' h1)) (by rw[hw]; exact h4);rw[e2] at f1;simp at f1;obtain ⟨rfl,rfl⟩:=f1;obtain ⟨hs0,l0,p0,h0⟩:=Xh h hj (tS hy) (qX t y0 [] (hk (.io t ms) (by simp)) (by simp)) e3;refine ⟨hs0++hs,by simp[uW,l0,l1],by rw[ud]; exact p0.app p1,fun p hp=>?_,fun q n hq hd=>?_⟩
  ·rcases List.mem_append.1 hp with hp | hp
   ·obtain ⟨p',e⟩:=qR hj _ hp; cases e
   ·exact n1 p hp
  ·obtain ⟨i1,i2⟩:=h0 q n hq fun j hh hj=>hd j hh (by rw[List.getElem?_append_left ((List.getElem?_eq_some_iff.1 hj).1)]; exact hj)
   obtain ⟨j1,j2,j3⟩:=h5 q (n+hs0.length) hq fun j hh hj=>by rw[Nat.add_assoc]; exact hd _ hh (by rw[List.getElem?_append_right (by omega)]; simpa using hj)
   rw[l0] at j1 j2 j3;refine ⟨⟨⟨b',cs,cs',T',h1,h4,e2,f2,i1⟩,j1⟩,?_,j3⟩;simp only[uW,List.map_append,List.map_map];rw[show ((fun x:Bool×xK=>x.2) ∘ fun o=>(false,o))=id from rfl,List.map_id];exact i2.app j2
variable {Hh:Hn} {Sg:Nat->Sig} {V:vj Sg} {VD:wy Hh} {H HL:Nat->Shape} {HJ:Nat->Option Shape} {L:ul HL} {J:um HJ}
theorem func_ok (hmix:P.follows .mixedOrders=true) (hT:∀t,vo P t (TI t)) (hV:Alg V) (hVD:Qt VD) (cV:∀f x y,V f x some=some y->wt P G f (Sg f) x y)
  (cVD:∀ d f x y,VD d f x some = some y→∃ g,f = g + 1∧wt P G g (Hh.sig d) x y) {f:FuncId} {fn:Func} {c:Code} (hf:P.funcs[f]? = some fn) (hb:fn.body = some c) (hname:(fn.name == "runtime.NumGoroutine") = false)
  (hl:∀cx:Cx,cx.P=P->cx.TI=TI->cx.G=G->cx.N=fn.ntmps->qx cx Hh Sg V VD H HL HJ L J c) (hc:∀cx:Cx,cx.P=P->cx.TI=TI->cx.G=G->cx.N=fn.ntmps->Z3 cx Hh Sg V VD H HL HJ L J c)
  {s:Sig} {x:TA s.args} {y:s.R} (h:Rf TI G Hh Sg V VD fn.ntmps H HL HJ L J fn s c x=some y):wt P G f s x y:=by
 intro w X Iq g0 vs K hE0;unfold Rf at h;cases hok:Qy s&&Nat.beq s.args.length Hh.na&&meF s Hh with
 | false=>simp[hok] at h
 | true =>
 simp only[hok,cond_true] at h;simp only[Bool.and_eq_true,Qy,List.all_eq_true] at hok;obtain ⟨⟨⟨hres,hargs⟩,hna⟩,hmf⟩:=hok;have hna:=yx hna;obtain ⟨g,hg,hE,hm1,hm2,hpost⟩:∃g:Gh,(g.hd=g0.hd/\g.blk=g0.blk)/\Entry G w X Iq g s.args x vs/\(∀s b,Hh.me=some s->g.blk s=some b->g.me=some b)/\(∀r,Hh.me=some r->s.args.length<=r->g.me=none) /\
   ∀(v:Value) (w':World) (g1:Gh) (m':Option Nat),(m'=g.me\/(g.me=none/\∃r,Hh.me=some r/\s.args.length<=r))->PostO w w' X Iq {g with me:=m'} s x y v K {g1 with me:=m'}->∃g1,PostO w w' X Iq g0 s x y v K g1:=by
  cases hme:Hh.me with
  | none =>
   refine ⟨g0,⟨rfl,rfl⟩,hE0,fun _ _ h=>(by cases h),fun _ h=>(by cases h),fun v w' g1 m' hm hp=>⟨{g1 with me:=m'},?_⟩⟩;rcases hm with rfl | ⟨_,_,h,_⟩
   ·exact hp
   ·cases h
  | some i =>
   simp only[meF,hme] at hmf;cases hb:Nat.blt i Hh.na with
   | true =>
    have hlt:i<s.args.length:=by rw[hna]; exact Nat.le_of_ble_eq_true hb
    simp only[hb,cond_true] at hmf;refine ⟨g0,⟨rfl,rfl⟩,hE0,fun s' b h hb=>?_,fun r h hl=>?_,fun v w' g1 m' hm hp=>⟨{g1 with me:=m'},?_⟩⟩
    ·cases h
     split at hmf
     ·rename_i t ms hi; exact hE0.me i t ms b hi hmf hb
     ·cases hmf
    ·cases h; omega
    ·rcases hm with rfl | ⟨_,_,h,_⟩
     ·exact hp
     ·cases h; omega
   | false =>
    simp only[hb,cond_false,Bool.and_eq_true] at hmf;have hge:s.args.length<=i:=by
     rcases Nat.lt_or_ge i Hh.na with h' | h'
     ·have:Nat.blt i Hh.na=true:=Nat.ble_eq_true_of_le h'
      rw[hb] at this; cases this
     ·omega
    refine ⟨{g0 with me:=none},⟨rfl,rfl⟩,hE0.nf hmf.1,fun s' b h hb=>?_,fun r _ _=>rfl,fun v w' g1 m' hm hp=>⟨_,hp.nf (g:=g0) (me:=m') (g1:={g1 with me:=m'}) hmf.2 hmf.1⟩⟩;cases h
    have:=(qu hE0.args).1 i b (Nat.zero_le _) hb;omega
 refine .inr ⟨?_,?_⟩
 ·simp[callFunc,hf,hb]
  simpa using hname
 let cx:Cx:=⟨P,TI,G,fn.ntmps,w,X,Iq,s.args.length,g,Hh.me⟩
 have hlen:=(qu hE.args).2;have hG:xU cx:=⟨fun g o hg=>hE.glob g o hg,fun b o hg=>hE.globm b o hg⟩;have hL:Xq cx Hh Sg V VD:={na:=hna,me:=rfl,ts:=hT,glob:=hG,alg:=hV,algD:=hVD,V:=cV,VD:=cVD};have hrel:Rel cx g (Wh s.args x) ⟨vs.toArray++Array.replicate (fn.ntmps-vs.toArray.size) Go.undef,[]⟩ w :=
  Q9 hE (by simp; omega) (fun j v hj=>by
   have hjl:j<vs.length:=(List.getElem?_eq_some_iff.1 hj).1;simp only[Array.getD_eq_getD_getElem?];rw[Array.getElem?_append_left (by simpa using hjl)];simp[hj]) hm1 hm2
 refine calls_of_wp hf hb (code_ok hmix hL c (hl cx rfl rfl rfl rfl) (hc cx rfl rfl rfl rfl) h hrel fun e σ' m' a' w' hr hk=>?_);have fin:(bif qs TI σ' fn.results.toList then (match vV TI σ' s.res fn.results.toList,uR σ' 0 inN s.args x with | some r,some o=>bif vD (r.2++o.2) then some (r.1,o.1) else none | _,_=>none) else none)=some y->
   a'.defers=[]/\∃v,(results fn a'.tmps).run P w'=.ok v w'/\Post w w' X Iq g0 s x y v K:=by
  intro hk;cases hcell:qs TI σ' fn.results.toList with
  | false=>simp[hcell] at hk
  | true =>
  simp only[hcell,cond_true] at hk;split at hk<;>try simp at hk
  rename_i r o hres' hio';cases hap:vD (r.2++o.2) with
  | false=>simp[hap] at hk
  | true =>
  simp[hap] at hk;subst hk;refine ⟨hr.defers,?_⟩;obtain ⟨vs',hs1,h1,l1,p1,h2⟩:=ZP hT hG hr hres hcell (show vV cx.TI σ' s.res fn.results.toList=some (r.1,r.2) from hres');obtain ⟨hs2,l2,p2,n2,h3⟩:=Zk hr rfl (q0:=qIn w X Iq g) rfl (fun i b hb=>(hE.io b).2 ⟨i,hb⟩) hE.args hargs (show uR σ' 0 inN s.args x=some (o.1,o.2) from hio');let g1:Gh:=⟨fun _=>none,hdL K (hs1++hs2),m'.me⟩
  have hp:=p1.app p2;rw[<-ud] at hp;have hmv:∀b,Mv g1 b->∃p∈wi (r.2++o.2),xz σ' m' (.inr p) b:=by
   intro b ⟨p,hh,off,e1,e2,e3⟩;obtain ⟨j,_,hj⟩:=vY e1;exact hp.at hj e2 e3
  have hqo:QUp (cx.q σ' m' w') (th w' X Iq g1):=⟨fun b hb=>⟨hb.1,hb.2.2.1,hb.2.2.2,fun hm=>by obtain ⟨p,_,hpo⟩:=hmv b hm; exact hb.2.1 ⟨_,hpo⟩⟩,fun _ h=>h⟩;obtain ⟨j1,j2⟩:=h2 (th w' X Iq g1) K hqo (fun j hh hj=>by show hdL K (hs1++hs2) (K+j)=some hh; rw[Sq,List.getElem?_append_left ((List.getElem?_eq_some_iff.1 hj).1)]; exact hj) (fun p hpl b hb=>by
   refine ⟨(hr.dom _ b hb).1,(hr.newOf hb).1,(hr.newOf hb).2.1,fun hm=>?_⟩;obtain ⟨p',e1,e2⟩:=hmv b hm;have:=Yl hr p p' b hb e2;subst this;rcases uH.1 e1 with h' | h'<;>(have:=td hap (show Lk.lp p∈r.2++o.2 by simp[hpl]) h' (by simp); simp[u9,Lk.key,Lk.x] at this))
  obtain ⟨i1,i2,i3⟩:=h3 (th w' X Iq g1) (K+hs1.length) hqo (fun j hh hj=>by show hdL K (hs1++hs2) (K+hs1.length+j)=some hh; rw[Nat.add_assoc,Sq,List.getElem?_append_right (by omega)]; simpa using hj);rw[l1] at i1 i2 i3;refine ⟨if h:vs'.toArray.size=1 then vs'.toArray[0] else .tuple vs'.toArray,?_,?_⟩
  ·rw[T7]
   have:(fn.results.mapM (T8 a'.tmps)).run P w'=.ok vs'.toArray w':=by
    have h1':(fn.results.toList.mapM (T8 a'.tmps)).run P w'=.ok vs' w':=h1;rw[Array.mapM_eq_mapM_toList];simp[h1']
   simp only[Sem.run_bind,this,Result.andThen_ok];rfl
  ·refine {
    size:=hr.grown
    mem:=fun b hb hi hm=>hr.mem b hb hi (by unfold Mv at hm ⊢; rw[show cx.g0.hd=g0.hd from hg.1]; exact hm)
    sz:=fun b cs T hi hb=>hr.iosz b cs T (by unfold Mv at hi ⊢; rw[show cx.g0.hd=g0.hd from hg.1]; exact hi) hb
    os:=hr.os
    tape:=hr.tape
    output:=hr.output
    out:=hpost _ w' g1 m'.me hr.me {
     ret:=?_
     ios:=i1
     own:=by rw[List.map_append]; exact j2.app (by rw[List.length_map]; exact i2)
     low:=fun p hh hp=>by
      obtain ⟨j,e,hj⟩:=vY hp;have:=(List.getElem?_eq_some_iff.1 hj).1;rw[List.length_append] at this;have e1:(wE s.res r.1++uW s.args o.1).length=hs1.length+hs2.length:=by rw[List.length_append,l1,l2]
      exact ⟨by omega,by show p<K+(wE s.res r.1++uW s.args o.1).length; rw[e1]; omega⟩
     mv:=fun b hm=>by
      obtain ⟨p,_,hpo⟩:=hmv b hm;have hnew:=hr.newOf hpo;exact ⟨(hr.dom _ b hpo).1,hnew.1,hnew.2.1,hnew.2.2⟩
     injm:=fun p p' hh hh' b off off' e1 e2 e3 e4 e5 e6=>by
      obtain ⟨j,f1,f2⟩:=vY e1;obtain ⟨j',f1',f2'⟩:=vY e2;have:=hp.inj (Yl hr) (qv hap) f2 f2' e3 e4 e5 e6;omega
     ioh:=IoH.hd (g:=cx.g0) (g':={g with me:=m'.me}) (g1:=(th w' X Iq g1).m) (g1':={g1 with me:=m'.me}) rfl rfl i3
     me:=fun b hb=>hb}}
   show RetR w' (th w' X Iq g1) (vZ K s.res r.1) _;generalize vZ K s.res r.1=l at j1;match l,vs',j1 with
   | [],[],j1=>exact ⟨#[],by simp,trivial⟩
   | [d],[v],j1=>simpa [RetR] using j1.1
   | d::d'::l,v::v'::vs',j1=>exact ⟨(v::v'::vs').toArray,by simp,by simpa using j1⟩
 cases e with
 | exit id=>simp[finK] at hk
 | normal=>obtain ⟨h1,v,h2,h3⟩:=fin hk; exact ⟨h1,v,h2,h3⟩
 | ret=>obtain ⟨h1,v,h2,h3⟩:=fin hk; exact ⟨h1,v,h2,h3⟩
end
end Go.VS
namespace Go.VS
open Go IntKind
section
variable {P:Program} {G:Nat->Option xK} {Sg:Nat->Sig} {Hh:Hn}
theorem S3:∀(l:List ((f:Nat)×(TA (Sg f).args->Option (Sg f).R))),Alg (mkV Sg l)
 | [],_,_,_,_=>rfl
 | p::r,f,x,R,K=>by
  simp only[mkV];split
  ·rename_i h
   subst h;unfold oB;cases p.2 x<;>rfl
  ·exact S3 r f x R K
theorem S4:∀(l:List ((d:Nat)×(Nat->TA (Hh.sig d).args->Option (Hh.sig d).R))),Qt (mkD Hh l)
 | [],_,_,_,_,_=>rfl
 | p::r,d,f,x,R,K=>by
  simp only[mkD];split
  ·rename_i h
   subst h;unfold oB;cases p.2 f x<;>rfl
  ·exact S4 r d f x R K
def AllV (P:Program) (G:Nat->Option xK) (Sg:Nat->Sig):List ((f:Nat)×(TA (Sg f).args->Option (Sg f).R))->Prop
 | []=>True
 | p::r=>(∀x y,p.2 x=some y->wt P G p.1 (Sg p.1) x y)/\AllV P G Sg r
def AllD (P:Program) (G:Nat->Option xK) (Hh:Hn):List ((d:Nat)×(Nat->TA (Hh.sig d).args->Option (Hh.sig d).R))->Prop
 | []=>True
 | p::r=>(∀f x y,p.2 f x=some y->∃g,f=g+1/\wt P G g (Hh.sig p.1) x y)/\AllD P G Hh r
theorem QW:∀{l:List ((f:Nat)×(TA (Sg f).args->Option (Sg f).R))},AllV P G Sg l->∀f x y,mkV Sg l f x some=some y->wt P G f (Sg f) x y
 | [],_,f,x,y,h=>by simp[mkV] at h
 | p::r,⟨h1,h2⟩,f,x,y,h=>by
  simp only[mkV] at h;split at h
  ·rename_i e
   subst e;unfold oB at h;split at h<;>simp at h;rename_i z hz;subst h;exact h1 x z hz
  ·exact QW h2 f x y h
theorem QX:∀{l:List ((d:Nat)×(Nat->TA (Hh.sig d).args->Option (Hh.sig d).R))},AllD P G Hh l->∀d f x y,mkD Hh l d f x some=some y->∃g,f=g+1/\wt P G g (Hh.sig d) x y
 | [],_,d,f,x,y,h=>by simp[mkD] at h
 | p::r,⟨h1,h2⟩,d,f,x,y,h=>by
  simp only[mkD] at h;split at h
  ·rename_i e
   subst e;unfold oB at h;split at h<;>simp at h;rename_i z hz;subst h;exact h1 f x z hz
  ·exact QX h2 d f x y h
theorem TV {p:Code->Prop}:∀{l:List Code} {n:Nat},l.length=n->(∀i,i<n->p (l.getD i .skip))->∀c∈l,p c:=by
 intro l n hn h c hc;obtain ⟨i,hi⟩:=List.getElem?_of_mem hc;have hlt:=(List.getElem?_eq_some_iff.1 hi).1;have:=h i (by omega);rwa [List.getD_eq_getElem?_getD,hi] at this
variable {TI:Nat->TS} {N:Nat} {V:vj Sg} {VD:wy Hh} {H HL:Nat->Shape} {HJ:Nat->Option Shape} {L:ul HL} {J:um HJ}
def SO (TI:Nat->TS) (G:Nat->Option xK) (Hh:Hn) (Sg:Nat->Sig) (V:vj Sg) (VD:wy Hh) (N:Nat) (H HL:Nat->Shape) (HJ:Nat->Option Shape) (L:ul HL) (J:um HJ) (c:Code) (r:Nat):Prop :=
 ∀(x:(HL r).T) (R:Type) (K:Ex->St->Option R),∃n,L r x K=Wa TI G Hh Sg V VD N H HL HJ L J c r K n x
def zaG (TI:Nat->TS) (G:Nat->Option xK) (Hh:Hn) (Sg:Nat->Sig) (V:vj Sg) (VD:wy Hh) (N:Nat) (H HL:Nat->Shape) (HJ:Nat->Option Shape) (L:ul HL) (J:um HJ) (c:Code) (r:Nat):Prop :=
 ∀(x:(shJ HJ r).T) (R:Type) (K:Ex->St->Option R),J r x K=uC TI G Hh Sg V VD N H HL HJ L J c (yW (shJ HJ r) x) K
theorem R7 (hmix:P.follows .mixedOrders=true) (hT:∀t,vo P t (TI t)) {lv:List ((f:Nat)×(TA (Sg f).args->Option (Sg f).R))} {ld:List ((d:Nat)×(Nat->TA (Hh.sig d).args->Option (Hh.sig d).R))}
  (cV:AllV P G Sg lv) (cD:AllD P G Hh ld) {f:FuncId} {fn:Func} {c:Code} (hf:P.funcs[f]? = some fn) (hb:fn.body = some c) (hname:(fn.name == "runtime.NumGoroutine") = false) (hN:fn.ntmps = N)
  {nl nc:Nat} (hnl:(wg c).length=nl) (hl:∀i,i<nl->SO TI G Hh Sg (mkV Sg lv) (mkD Hh ld) N H HL HJ L J ((wg c).getD i .skip) (rid ((wg c).getD i .skip)))
  (hnc:(wS HJ c).length=nc) (hc:∀i,i<nc->zaG TI G Hh Sg (mkV Sg lv) (mkD Hh ld) N H HL HJ L J ((wS HJ c).getD i .skip) (rid ((wS HJ c).getD i .skip)))
  {s:Sig} {x:TA s.args} {y:s.R} (h:Rf TI G Hh Sg (mkV Sg lv) (mkD Hh ld) N H HL HJ L J fn s c x=some y):wt P G f s x y:=by
 subst hN;refine func_ok hmix hT (S3 lv) (S4 ld) (QW cV) (QX cD) hf hb hname ?_ ?_ h
 ·rintro cx rfl rfl rfl hN
  intro c hc x R K;rw[hN];exact TV (p:=fun c=>SO cx.TI cx.G Hh Sg (mkV Sg lv) (mkD Hh ld) fn.ntmps H HL HJ L J c (rid c)) hnl hl c hc x R K
 ·rintro cx rfl rfl rfl hN
  intro c hc' x R K;rw[hN];exact TV (p:=fun c=>zaG cx.TI cx.G Hh Sg (mkV Sg lv) (mkD Hh ld) fn.ntmps H HL HJ L J c (rid c)) hnc hc c hc' x R K
end
end Go.VS
namespace Go.VS
open Go IntKind
theorem u0:∀{s:Nat} {xs ys:List Value} {b:Bool},vH xs ys=some b->∃b1 b2,vH (xs.take s) (ys.take s)=some b1/\vH (xs.drop s) (ys.drop s)=some b2/\b=(b1&&b2)
 | 0,xs,ys,b,h=>⟨true,b,by simp[vH],by simpa using h,by simp⟩
 | s+1,[],ys,b,h=>by
  cases ys with
  | nil=>exact ⟨true,b,by simp[vH],by simpa using h,by simp⟩
  | cons y ys=>simp[vH] at h
 | s+1,x::xs,[],b,h=>by unfold vH at h; split at h<;>simp_all
 | s+1,x::xs,y::ys,b,h=>by
  unfold vH at h;split at h<;>try simp at h
  all_goals (rename_i e1 e2; cases e1<;>cases e2)
  ·split at h<;>simp at h
   rename_i q hq;obtain ⟨hk,h⟩:=h;obtain ⟨b1,b2,h1,h2,h3⟩:=u0 (s:=s) hq;refine ⟨_,b2,by simp only[List.take_succ_cons,vH,hk,if_true,h1]; rfl,by simpa using h2,?_⟩;rw[<-h,h3,Bool.and_assoc]
  ·split at h<;>simp at h
   rename_i q hq;obtain ⟨b1,b2,h1,h2,h3⟩:=u0 (s:=s) hq;refine ⟨_,b2,by simp only[List.take_succ_cons,vH,h1]; rfl,by simpa using h2,?_⟩;rw[<-h,h3,Bool.and_assoc]
  ·split at h<;>simp at h
   rename_i q hq;obtain ⟨b1,b2,h1,h2,h3⟩:=u0 (s:=s) hq;refine ⟨_,b2,by simp only[List.take_succ_cons,vH,h1]; rfl,by simpa using h2,?_⟩;rw[<-h,h3,Bool.and_assoc]
theorem wL:∀{zs cs:List Value},xC zs cs=true->cs.length=zs.length
 | [],[],_=>rfl
 | [],_::_,h=>by simp[xC] at h
 | z::zs,[],h=>by unfold xC at h; split at h<;>simp_all
 | z::zs,c::cs,h=>by
  unfold xC at h;split at h
  ·rename_i e _; cases e
  ·rename_i e1 e2; cases e1; cases e2; simp only[Bool.and_eq_true] at h; simp[wL h.2]
  ·rename_i e1 e2; cases e1; cases e2; simp[wL h]
  ·rename_i e1 e2; cases e1; cases e2; simp[wL h]
  ·simp at h
theorem vr:∀{zs ws cs:List Value},xC (zs++ws) cs=true->xC zs (cs.take zs.length)=true/\xC ws (cs.drop zs.length)=true
 | [],ws,cs,h=>⟨by simp[xC],by simpa using h⟩
 | z::zs,ws,[],h=>by simp only[List.cons_append] at h; unfold xC at h; split at h<;>simp_all
 | z::zs,ws,c::cs,h=>by
  simp only[List.cons_append] at h;unfold xC at h;split at h
  ·rename_i e _; cases e
  ·rename_i e1 e2; cases e1; cases e2
   simp only[Bool.and_eq_true] at h;obtain ⟨h1,h2⟩:=vr h.2;exact ⟨by simp only[List.length_cons,List.take_succ_cons,xC,h1,h.1,Bool.and_self],by simpa using h2⟩
  ·rename_i e1 e2; cases e1; cases e2
   obtain ⟨h1,h2⟩:=vr h;exact ⟨by simp only[List.length_cons,List.take_succ_cons,xC,h1],by simpa using h2⟩
  ·rename_i e1 e2; cases e1; cases e2
   obtain ⟨h1,h2⟩:=vr h;exact ⟨by simp only[List.length_cons,List.take_succ_cons,xC,h1],by simpa using h2⟩
  ·simp at h
section
variable {P:Program} {w:World}
def Q6 (ks:TypeId->Option (List Value)):Nat->List Field->Option (List Value)
 | _,[]=>some []
 | off,f :: r=>bif Nat.beq f.offset off && !(f.name == "_") then (match ks f.type with
  | some z=>match Q6 ks (off+z.length) r with
   | some zs=>bif z.isEmpty then none else some (z++zs)
   | none=>none
  | none=>none) else none
def WT (z:List Value):Nat->List Value
 | 0=>[]
 | n+1=>z++WT z n
def Y2 (P:Program):Nat->TypeId->Option (List Value)
 | 0,_=>none
 | k+1,t=>match P.underlying t,P.info? t with
  | some .bool,some i=>bif Nat.beq i.size 1 then some [.bool false] else none
  | some (.int k),some i=>bif Nat.beq i.size 1 then some [.int k 0] else none
  | some .string,some i=>bif Nat.beq i.size 1 then some [.string ByteArray.empty] else none
  | some (.struct fs),some i=>bif P.stoodInHeld t then none else (match Q6 (Y2 P k) 0 fs.toList with
   | some z=>bif Nat.beq i.size z.length then some z else none
   | none=>none)
  | some (.array n e),some i=>match Y2 P k e with
   | some z=>bif Nat.beq i.size (WT z n).length&&Nat.beq (P.cellsOf e) z.length&&!z.isEmpty then some (WT z n) else none
   | none=>none
  | _,_=>none
end
end Go.VS
namespace Go.VS
open Go IntKind
section
variable {P:Program} {w:World}
def qA (P:Program) (t:TypeId) (cs:List Value):Value:=match P.underlying t with
 | some d=>if Zc d then .agg cs.toArray else cs.headD (.bool true)
 | none=>.bool true
theorem Ve {t:TypeId} {d:TypeDesc} (hu:P.underlying t=some d) (ha:Zc d=false) (v:Value):qA P t [v]=v:=by simp[qA,hu,ha]
theorem Vf {t:TypeId} {d:TypeDesc} (hu:P.underlying t=some d) (ha:Zc d=true) (cs:List Value):qA P t cs=.agg cs.toArray:=by simp[qA,hu,ha]
theorem Vz:∀{k:Nat} {t:TypeId} {z:List Value},Y2 P k t=some z->∃i d,P.info? t=some i/\i.size=z.length/\P.underlying t=some d
 | 0,_,_,h=>by simp[Y2] at h
 | k+1,t,z,h=>by
  simp only[Y2] at h;split at h<;>try simp at h
  ·rename_i i hu hi
   cases hb:Nat.beq i.size 1<;>simp[hb] at h
   subst h;exact ⟨i,_,hi,yx hb,hu⟩
  ·rename_i i hu hi
   cases hb:Nat.beq i.size 1<;>simp[hb] at h
   subst h;exact ⟨i,_,hi,yx hb,hu⟩
  ·rename_i i hu hi
   cases hb:Nat.beq i.size 1<;>simp[hb] at h
   subst h;exact ⟨i,_,hi,yx hb,hu⟩
  ·rename_i fs i hu hi
   cases hs:P.stoodInHeld t<;>simp[hs] at h
   split at h<;>try simp at h
   rename_i m hm;cases hb:Nat.beq i.size m.length<;>simp[hb] at h
   subst h;exact ⟨i,_,hi,yx hb,hu⟩
  ·rename_i m e i hu hi
   split at h<;>try simp at h
   rename_i s hs;cases hb:Nat.beq i.size (WT s m).length&&Nat.beq (P.cellsOf e) s.length&&!s.isEmpty with
   | false=>rw[hb] at h; simp at h
   | true =>
   rw[hb] at h;simp at h;subst h;simp only[Bool.and_eq_true] at hb;exact ⟨i,_,hi,yx hb.1.1,hu⟩
theorem Xx {t:TypeId} {z:List Value} {k:Nat} {cs:Array Value} {off:Nat} (hz:Y2 P k t=some z) (hl:off+z.length<=cs.size) (hp:z≠[]) :
  (Go.part t cs off).run P w=.ok (qA P t ((cs.toList.drop off).take z.length)) w:=by
 obtain ⟨i,d,hi,hs,hu⟩:=Vz hz;have hp':0<z.length:=List.length_pos_iff.2 hp;rw[Yd hu hi,hs];unfold qA;rw[hu];simp only;cases ha:Zc d with
 | true =>
  simp only[if_true];congr 2
  apply Array.ext';simp[List.take_drop]
 | false =>
  simp only[Bool.false_eq_true,if_false];have:off<cs.size:=by omega
  rw[Array.getElem?_eq_getElem this];simp only;congr 1
  rw[List.drop_eq_getElem_cons (by simpa using this)];cases hs:z.length with
  | zero=>omega
  | succ n=>simp
theorem uK {v:Value} {cs:List Value} (h:xC [v] cs=true):∃c,cs=[c]:=List.length_eq_one_iff.1 (by have:=wL h; simpa using this)
theorem Rh {ks:TypeId->Option (List Value)} {k:Nat} (hks:ks=Y2 P k) {d:Nat}
  (ih:∀t z,Y2 P k t=some z->∀(xs ys:List Value) (b:Bool),xC z xs=true->xC z ys=true->vH xs ys=some b->∀w,(Op.equalIn d t (qA P t xs) (qA P t ys)).run P w=.ok b w) :
  ∀{fs:List Field} {off:Nat} {z:List Value},Q6 ks off fs=some z->∀(xs ys:Array Value) (b:Bool),xC z (xs.toList.drop off)=true->xC z (ys.toList.drop off)=true->vH (xs.toList.drop off) (ys.toList.drop off)=some b->
   ∀w,(Op.eqFields d xs ys fs).run P w=.ok b w
 | [],off,z,h,xs,ys,b,hx,hy,he,w=>by
  simp[Q6] at h;subst h;have h1:xs.toList.drop off=[]:=by have:=wL hx; exact List.eq_nil_of_length_eq_zero (by simpa using this)
  have h2:ys.toList.drop off=[]:=by have:=wL hy; exact List.eq_nil_of_length_eq_zero (by simpa using this)
  rw[h1,h2] at he;simp[vH] at he;subst he;simp[Op.eqFields]
 | f::r,off,z,h,xs,ys,b,hx,hy,he,w=>by
  simp only[Q6] at h;cases hb:Nat.beq f.offset off && !(f.name == "_") with
  | false=>simp[hb] at h
  | true =>
  simp only[hb,cond_true] at h;simp only[Bool.and_eq_true] at hb;split at h<;>try simp at h
  rename_i z1 hz1;split at h<;>try simp at h
  rename_i z2 hz2;cases hem:z1.isEmpty with
  | true=>simp[hem] at h
  | false =>
  simp[hem] at h;subst h;have hne:z1≠[]:=by intro e; simp[e] at hem
  obtain ⟨x1,x2⟩:=vr hx;obtain ⟨y1,y2⟩:=vr hy;obtain ⟨b1,b2,e1,e2,e3⟩:=u0 (s:=z1.length) he;rw[List.drop_drop] at x2 y2 e2;rw[List.drop_drop] at e2;have lx:off+z1.length<=xs.size:=by have:=wL hx; have hp:=List.length_pos_iff.2 hne; simp at this; omega
  have ly:off+z1.length<=ys.size:=by have:=wL hy; have hp:=List.length_pos_iff.2 hne; simp at this; omega
  rw[hks] at hz1;have hname:f.name ≠ "_":=by simpa using hb.2
  have hoff:=yx hb.1;have ih2:=Rh hks ih hz2 xs ys b2 (by simpa [Nat.add_comm] using x2) (by simpa [Nat.add_comm] using y2) (by simpa [Nat.add_comm] using e2);simp only[Op.eqFields,hoff];rw[if_pos hname];simp only[Sem.run_bind,Xx hz1 lx hne,Xx hz1 ly hne,Result.andThen_ok,ih _ _ hz1 _ _ b1 x1 y1 e1];cases b1
  ·simp[e3]
  ·simp[e3,ih2]
end
end Go.VS
namespace Go.VS
open Go IntKind
section
variable {P:Program} {w:World}
theorem Wt {e:TypeId} {k:Nat} {z1:List Value} (hz1:Y2 P k e=some z1) (hne:z1≠[]) {d:Nat}
  (ih:∀(xs ys:List Value) (b:Bool),xC z1 xs=true->xC z1 ys=true->vH xs ys=some b->∀w,(Op.equalIn d e (qA P e xs) (qA P e ys)).run P w=.ok b w) :
  ∀(n j:Nat) (xs ys:Array Value) (b:Bool),xC (WT z1 n) (xs.toList.drop (j*z1.length))=true->xC (WT z1 n) (ys.toList.drop (j*z1.length))=true->
   vH (xs.toList.drop (j*z1.length)) (ys.toList.drop (j*z1.length))=some b->∀w,(Op.eqItems d e z1.length xs ys (List.range' j n)).run P w=.ok b w
 | 0,j,xs,ys,b,hx,hy,he,w=>by
  have h1:xs.toList.drop (j*z1.length)=[]:=by have:=wL hx; exact List.eq_nil_of_length_eq_zero (by simpa [WT] using this)
  have h2:ys.toList.drop (j*z1.length)=[]:=by have:=wL hy; exact List.eq_nil_of_length_eq_zero (by simpa [WT] using this)
  rw[h1,h2] at he;simp[vH] at he;subst he;simp[Op.eqItems]
 | n+1,j,xs,ys,b,hx,hy,he,w=>by
  simp only[WT] at hx hy;obtain ⟨x1,x2⟩:=vr hx;obtain ⟨y1,y2⟩:=vr hy;obtain ⟨b1,b2,e1,e2,e3⟩:=u0 (s:=z1.length) he;rw[List.drop_drop] at x2 y2 e2;rw[List.drop_drop] at e2;have hj:j*z1.length+z1.length=(j+1)*z1.length:=by rw[Nat.succ_mul]
  rw[hj] at x2 y2 e2;have hp:=List.length_pos_iff.2 hne;have lx:j*z1.length+z1.length<=xs.size:=by have:=wL hx; simp at this; omega
  have ly:j*z1.length+z1.length<=ys.size:=by have:=wL hy; simp at this; omega
  have ih2:=Wt hz1 hne ih n (j+1) xs ys b2 x2 y2 e2;rw[List.range'_succ];simp only[Op.eqItems,Sem.run_bind,Xx hz1 lx hne,Xx hz1 ly hne,Result.andThen_ok,ih _ _ b1 x1 y1 e1];cases b1
  ·simp[e3]
  ·simp[e3,ih2]
theorem eqKs_ok:∀(k:Nat) (t:TypeId) (z:List Value),Y2 P k t=some z->∀(d:Nat),k<=d->∀(xs ys:List Value) (b:Bool),xC z xs=true->xC z ys=true->vH xs ys=some b->
  ∀w,(Op.equalIn d t (qA P t xs) (qA P t ys)).run P w=.ok b w:=by
 intro k;induction k with
 | zero=>intro t z h; simp[Y2] at h
 | succ k ih =>
  intro t z h d hd xs ys b hx hy he w;obtain ⟨d,rfl⟩:∃d',d=d'+1:=⟨d-1,by omega⟩;have hd':k<=d:=by omega
  simp only[Y2] at h;split at h<;>try simp at h
  ·rename_i i hu hi
   cases hb:Nat.beq i.size 1<;>simp[hb] at h
   subst h;obtain ⟨x,rfl⟩:=uK hx;obtain ⟨y,rfl⟩:=uK hy;rw[Ve hu rfl,Ve hu rfl];cases x<;>simp[xC] at hx
   cases y<;>simp[xC] at hy
   simp[vH] at he;rw[run_equalIn_bool' w d t _ _ hu,he]
  ·rename_i k' i hu hi
   cases hb:Nat.beq i.size 1<;>simp[hb] at h
   subst h;obtain ⟨x,rfl⟩:=uK hx;obtain ⟨y,rfl⟩:=uK hy;rw[Ve hu rfl,Ve hu rfl];cases x<;>simp[xC] at hx
   cases y<;>simp[xC] at hy
   subst hx;subst hy;simp[vH] at he;rw[run_equalIn_int w d t _ _ _ _ hu,he]
  ·rename_i i hu hi
   cases hb:Nat.beq i.size 1<;>simp[hb] at h
   subst h;obtain ⟨x,rfl⟩:=uK hx;obtain ⟨y,rfl⟩:=uK hy;rw[Ve hu rfl,Ve hu rfl];cases x<;>simp[xC] at hx
   cases y<;>simp[xC] at hy
   simp[vH] at he;rw[run_equalIn_string w d t _ _ hu,<-beq_toListBytes,he]
  ·rename_i fs i hu hi
   cases hs:P.stoodInHeld t<;>simp[hs] at h
   split at h<;>try simp at h
   rename_i m hm;cases hb:Nat.beq i.size m.length<;>simp[hb] at h
   subst h;have hf:P.fieldsOf t=fs:=by simp[Program.fieldsOf,hu]
   rw[Vf hu rfl,Vf hu rfl,run_equalIn_struct w d t _ _ (by rw[hf]; exact hu) hs,hf];exact Rh rfl (fun t z hz xs ys b h1 h2 h3 w=>ih t z hz d hd' xs ys b h1 h2 h3 w) hm xs.toArray ys.toArray b (by simpa using hx) (by simpa using hy) (by simpa using he) w
  ·rename_i m e i hu hi
   split at h<;>try simp at h
   rename_i s hs;cases hb:Nat.beq i.size (WT s m).length&&Nat.beq (P.cellsOf e) s.length&&!s.isEmpty with
   | false=>rw[hb] at h; simp at h
   | true =>
   rw[hb] at h;simp at h;subst h;simp only[Bool.and_eq_true] at hb;have hne:s≠[]:=by intro e; rw[e] at hb; simp at hb
   obtain ⟨ie,de,hie,_,_⟩:=Vz hs;rw[Vf hu rfl,Vf hu rfl,run_equalIn_array w d _ _ hu hie,yx hb.1.2,List.range_eq_range'];exact Wt hs hne (fun xs ys b h1 h2 h3 w=>ih e s hs d hd' xs ys b h1 h2 h3 w) m 0 xs.toArray ys.toArray b (by simpa using hx) (by simpa using hy) (by simpa using he) w
end
end Go.VS
namespace Go.VS
open Go IntKind
section
variable {P:Program}
def QD:Value->Value->Bool
 | .int k a,.int k' b=>decide (k=k')&&decide (a=b)
 | .bool a,.bool b=>a==b
 | .string a,.string b=>a.size==0&&b.size==0
 | .slice none 0 0,.slice none 0 0=>true
 | .nilFunc,.nilFunc=>true
 | .nilIface,.nilIface=>true
 | .pointer none,.pointer none=>true
 | .map none,.map none=>true
 | _,_=>false
theorem QC:∀{v u:Value},QD v u=true->v=u/\scalar v=true:=by
 intro v u h;unfold QD at h;split at h<;>try simp at h
 ·obtain ⟨rfl,rfl⟩:=h; exact ⟨rfl,rfl⟩
 ·subst h; exact ⟨rfl,rfl⟩
 ·rw[h.1,h.2]; exact ⟨rfl,rfl⟩
 ·exact ⟨rfl,rfl⟩
 ·exact ⟨rfl,rfl⟩
 ·exact ⟨rfl,rfl⟩
 ·exact ⟨rfl,rfl⟩
 ·exact ⟨rfl,rfl⟩
def tB:List Value->List Value->Bool
 | [],[]=>true
 | a::r,b::s=>QD a b&&tB r s
 | _,_=>false
theorem uG:∀{l k:List Value},tB l k=true->l=k/\∀v∈l,scalar v=true
 | [],[],_=>⟨rfl,by simp⟩
 | [],_::_,h=>by simp[tB] at h
 | _::_,[],h=>by simp[tB] at h
 | a::r,b::s,h=>by
  simp only[tB,Bool.and_eq_true] at h;obtain ⟨e1,e2⟩:=QC h.1;obtain ⟨e3,e4⟩:=uG h.2;subst e1;subst e3;exact ⟨rfl,fun v hv=>by rcases List.mem_cons.1 hv with rfl | hv; (·exact e2); (·exact e4 v hv)⟩
end
end Go.VS
namespace Go.VS
open Go IntKind
section
variable {P:Program}
def vC:Ty->Option (List Value)
 | .int k=>some [.int k 0]
 | .bool=>some [.bool false]
 | .str=>some [.string ⟨#[]⟩]
 | .fn=>some [.nilFunc]
 | .fnb=>some [.nilFunc]
 | .sl _ | .bsl _=>some [.slice none 0 0]
 | .pt _=>none
 | .bnd _=>some [.nilFunc]
 | .tr _=>some [.pointer none]
 | .unit=>some []
 | .pair a b=>match vC a,vC b with
  | some x,some y=>some (x++y)
  | _,_=>none
theorem YE:∀{t:Ty} {l:List Value},vC t=some l->∀(w:World) (ok okb:Nat->Prop) (me:Option Nat),RT w ok okb me t t.dflt l
 | .int k,l,h,w,ok,okb,me=>by simp[vC] at h; subst h; rfl
 | .bool,l,h,w,ok,okb,me=>by simp[vC] at h; subst h; rfl
 | .str,l,h,w,ok,okb,me=>by simp[vC] at h; subst h; rfl
 | .fn,l,h,w,ok,okb,me=>by simp[vC] at h; subst h; rfl
 | .fnb,l,h,w,ok,okb,me=>by simp[vC] at h; subst h; exact ⟨_,rfl,.inl ⟨rfl,rfl⟩⟩
 | .sl t,l,h,w,ok,okb,me=>by simp[vC] at h; subst h; exact ⟨_,rfl,none,0,rfl,Nat.le_refl _,fun h=>absurd rfl h⟩
 | .bsl t,l,h,w,ok,okb,me=>by simp[vC] at h; subst h; exact ⟨_,rfl,none,0,rfl,Nat.le_refl _,fun h=>absurd rfl h⟩
 | .pt t,l,h,w,ok,okb,me=>by simp[vC] at h
 | .bnd t,l,h,w,ok,okb,me=>by simp[vC] at h; subst h; exact .inl ⟨rfl,rfl⟩
 | .tr t,l,h,w,ok,okb,me=>by simp[vC] at h; subst h; exact ⟨_,rfl,.nil⟩
 | .unit,l,h,w,ok,okb,me=>by simp[vC] at h; subst h; rfl
 | .pair a b,l,h,w,ok,okb,me=>by
  simp only[vC] at h;split at h<;>simp at h;rename_i x y hx hy;subst h;exact ⟨_,_,rfl,YE hx w ok okb me,YE hy w ok okb me⟩
def vF (P:Program):List Field->List (Nat×Nat×Bool)->Bool
 | [],[]=>true
 | f::r,(off,sz,ag)::q=>Nat.beq f.offset off&&(match P.info? f.type,P.underlying f.type with
  | some i,some d=>Nat.beq i.size sz&&Nat.blt 0 sz&&(Zc d==ag)
  | _,_=>false)&&vF P r q
 | _,_=>false
theorem Ym:∀{l:List Field} {q:List (Nat×Nat×Bool)},vF P l q=true->q.length=l.length
 | [],[],_=>rfl
 | [],_::_,h=>by simp[vF] at h
 | _::_,[],h=>by simp[vF] at h
 | _::_,(_,_,_)::_,h=>by
  simp only[vF,Bool.and_eq_true] at h;simp[Ym h.2]
theorem Xe:∀{l:List Field} {q:List (Nat×Nat×Bool)},vF P l q=true->∀(j off sz:Nat) (ag:Bool),q[j]?=some (off,sz,ag)->
  ∃f i d,l[j]?=some f/\f.offset=off/\P.info? f.type=some i/\i.size=sz/\0<sz/\P.underlying f.type=some d/\Zc d=ag
 | [],[],_,_,_,_,_,h=>by simp at h
 | [],_::_,h,_,_,_,_,_=>by simp[vF] at h
 | _::_,[],h,_,_,_,_,_=>by simp[vF] at h
 | f::l,(o,s,a)::q,h,j,off,sz,ag,e=>by
  simp only[vF,Bool.and_eq_true] at h;obtain ⟨⟨h1,h2⟩,h3⟩:=h;cases j with
  | zero =>
   simp at e;obtain ⟨rfl,rfl,rfl⟩:=e;split at h2<;>try simp at h2
   rename_i i d hi hd;exact ⟨f,i,d,by simp,yx h1,hi,h2.1.1,h2.1.2,hd,h2.2⟩
  | succ j=>simpa using Xe h3 j off sz ag (by simpa using e)
def okFs (P:Program) (d:TypeDesc) (ts:TS):Bool:=match d with
 | .struct fs=>vF P fs.toList ts.fields&&ts.agg
 | _=>ts.fields.isEmpty&&(!ts.agg||ts.arr.isSome||ts.alen.isSome)
def okSc (d:TypeDesc) (ts:TS):Bool:=match ts.agg,ts.zs with
 | false,[.int k _]=>(match d with | .int k'=>decide (k=k') | _=>false)
 | false,[.bool _]=>(match d with | .bool=>true | _=>false)
 | _,_=>true
def okStr (d:TypeDesc) (ts:TS):Bool:=bif ts.str then (match d with | .string=>true | _=>false) else true
def okPtr (d:TypeDesc) (ts:TS):Bool:=bif ts.ptr then (match d with | .pointer _=>true | _=>false) else true
def okEl (P:Program) (d:TypeDesc):Option Ty->Bool
 | none=>true
 | some e=>match d with
  | .slice et=>(match P.info? et,vC e with
   | some i,some zs=>Nat.beq i.size e.size&&Nat.blt 0 e.size&&Nat.ble i.bytes 128&&(match i.zero with | some z=>tB z.cells.toList zs | none=>false)
   | _,_=>false)
  | _=>false
def okArr (P:Program) (d:TypeDesc) (ts:TS):Bool:=match ts.arr with
 | none=>true
 | some (k,n)=>ts.agg&&tB ts.zs (List.replicate n (.int k 0))&&(match d with
  | .array m et=>Nat.beq m n&&(match P.info? et,P.underlying et with
   | some i,some (.int k')=>Nat.beq i.size 1&&decide (k'=k)
   | _,_=>false)
  | _=>false)
def QS (P:Program) (d:TypeDesc) (ts:TS):Bool:=match ts.alen with
 | none=>true
 | some (n,sz)=>(match d with
  | .array m et=>Nat.beq m n&&(match P.info? et with
   | some i=>Nat.beq i.size sz
   | _=>false)
  | _=>false)
def okMp (P:Program) (d:TypeDesc) (ts:TS):Bool:=match ts.mp with
 | none=>true
 | some (k,j)=>(match d with
  | .map kt et=>(match P.underlying kt,P.info? et with
   | some (.int k'),some i=>decide (k'=k)&&(match i.zero with
    | some (.int j' n)=>decide (j'=j)&&decide (n=0)
    | _=>false)
   | _,_=>false)
  | _=>false)
def okU8 (P:Program) (d:TypeDesc) (ts:TS):Bool:=bif ts.u8 then (match d with
  | .slice et=>(match P.underlying et with
   | some (.int k)=>decide (k=.u8)
   | _=>false)
  | _=>false) else true
def okEq (P:Program) (t:Nat) (ts:TS):Bool:=bif ts.eqOK then ts.agg&&!(P.eqGuardType P.depth t)&&(match Y2 P 8 t with | some z=>tB z ts.zs | none=>false) else true
def okZ (i:TypeInfo) (ts:TS):Bool:=match i.zero with
 | some (.agg zc)=>ts.agg&&tB zc.toList ts.zs
 | some z=>!ts.agg&&tB [z] ts.zs
 | none=>false
def okTS (P:Program) (t:Nat) (ts:TS):Bool:=match P.info? t,P.underlying t with
 | some i,some d=>Nat.beq i.size ts.zs.length&&(Zc d==ts.agg)&&okZ i ts&&okFs P d ts&&okSc d ts&&okStr d ts&&okPtr d ts&&okEl P d ts.el&&okArr P d ts&&QS P d ts&&okMp P d ts&&okU8 P d ts&&okEq P t ts
 | _,_=>false
theorem Sa {i:TypeInfo} {ts:TS} (h:okZ i ts=true):(ts.agg=true/\∃zc,i.zero=some (.agg zc)/\zc.toList=ts.zs/\∀v∈ts.zs,scalar v=true) \/
  (ts.agg=false/\∃z,i.zero=some z/\ts.zs=[z]/\scalar z=true):=by
 unfold okZ at h;split at h
 ·rename_i zc hz
  simp only[Bool.and_eq_true] at h;obtain ⟨e1,e2⟩:=uG h.2;exact .inl ⟨h.1,zc,hz,e1,by rw[<-e1]; exact e2⟩
 ·rename_i z _ hz
  simp only[Bool.and_eq_true,Bool.not_eq_true'] at h;obtain ⟨e1,e2⟩:=uG h.2;exact .inr ⟨h.1,z,hz,e1.symm,e2 z (by simp)⟩
 ·simp at h
theorem okTS_ok {t:Nat} {ts:TS} (h:okTS P t ts=true):vo P t ts:=by
 unfold okTS at h;split at h<;>try simp at h
 rename_i i d hi hd;simp only[and_assoc] at h;obtain ⟨hs,ha,hz,hf,hsc,hstr,hptr,hel,harr,halen,hmp,hu8,heq⟩:=h;have hs:i.size=ts.zs.length:=by simpa using hs
 refine ⟨fun _=>⟨i,d,hi,hs,hd,ha⟩,?_,?_,?_,?_,?_,?_,?_,?_,?_,?_,?_,?_,?_,?_,?_⟩
 ·intro hag _
  rcases Sa hz with ⟨h,_⟩ | ⟨_,z,_,h,_⟩
  ·rw[h] at hag; simp at hag
  ·exact ⟨z,h⟩
 ·intro z hzs hag
  rcases Sa hz with ⟨h,_⟩ | ⟨h0,z',h1,h2,h3⟩
  ·rw[h] at hag; simp at hag
  ·rw[hzs] at h2
   simp at h2;subst h2;exact ⟨i,d,hi,h1,by rw[hs,hzs]; rfl,hd,by rw[ha,hag],h3⟩
 ·intro hag
  rcases Sa hz with ⟨h,zc,h1,h2,h3⟩ | ⟨h,_⟩
  ·exact ⟨i,d,zc,hi,h1,h2,hs,hd,by rw[ha,hag],h3⟩
  ·rw[h] at hag; simp at hag
 ·intro j off sz ag e
  unfold okFs at hf;split at hf
  ·rename_i fs
   simp only[Bool.and_eq_true] at hf;obtain ⟨f,i',d',h1,h2,h3,h4,h5,h6,h7⟩:=Xe hf.1 j off sz ag e;exact ⟨hf.2,fs,f,i',d',hd,by simpa using h1,h2,h3,h4,h5,h6,h7⟩
  ·simp only[Bool.and_eq_true,List.isEmpty_iff] at hf
   rw[hf.1] at e;simp at e
 ·intro hag h1 h2
  unfold okFs at hf;split at hf
  ·rename_i fs
   simp only[Bool.and_eq_true] at hf;refine ⟨fs,hd,fun j f e=>?_⟩;have hl:=Ym hf.1;have hj:j<ts.fields.length:=by rw[hl]; have:=(Array.getElem?_eq_some_iff.1 e).1; simpa using this
   exact ⟨_,_,_,List.getElem?_eq_getElem hj⟩
  ·simp[hag,h1,h2] at hf
 ·intro k n hzs hag
  unfold okSc at hsc;rw[hag,hzs] at hsc;simp at hsc;split at hsc<;>simp at hsc;rw[hd,hsc]
 ·intro b hzs hag
  unfold okSc at hsc;rw[hag,hzs] at hsc;simp at hsc;split at hsc<;>simp at hsc;exact hd
 ·intro hst
  unfold okStr at hstr;rw[hst] at hstr;simp at hstr;split at hstr<;>simp at hstr;exact hd
 ·intro hst
  unfold okPtr at hptr;rw[hst] at hptr;simp at hptr;split at hptr<;>simp at hptr;exact ⟨_,hd⟩
 ·intro e he
  unfold okEl at hel;rw[he] at hel;simp only at hel;split at hel<;>try simp at hel
  rename_i et;split at hel<;>try simp at hel
  rename_i i' zs hi' hzs;simp only[and_assoc] at hel;obtain ⟨h1,h2,h3,h4⟩:=hel;split at h4<;>try simp at h4
  rename_i z hz';obtain ⟨e1,e2⟩:=uG h4;have hR:∀w ok okb me,RT w ok okb me e e.dflt z.cells.toList:=fun w ok okb me=>by rw[e1]; exact YE hzs w ok okb me
  exact ⟨et,i',z,hd,hi',hz',by have:=(hR default (fun _=>True) (fun _=>True) none).len; simpa using this,h1,h2,h3,hR⟩
 ·intro k n he
  unfold okArr at harr;rw[he] at harr;simp only at harr;simp only[Bool.and_eq_true] at harr;obtain ⟨⟨h1,h2⟩,h3⟩:=harr;refine ⟨h1,(uG h2).1,?_⟩;split at h3<;>try simp at h3
  rename_i m et;obtain ⟨h4,h3⟩:=h3;split at h3<;>try simp at h3
  rename_i i' k' hi' hk';subst h4;exact ⟨et,i',hd,hi',h3.1,by rw[hk',h3.2]⟩
 ·intro n sz he
  unfold QS at halen;rw[he] at halen;simp only at halen;split at halen<;>try simp at halen
  rename_i m et;obtain ⟨h4,h3⟩:=halen;split at h3<;>try simp at h3
  rename_i i' hi';subst h4;exact ⟨et,i',hd,hi',h3⟩
 ·intro k j he
  unfold okMp at hmp;rw[he] at hmp;simp only at hmp;split at hmp<;>try simp at hmp
  rename_i kt et;split at hmp<;>try simp at hmp
  rename_i k' i' hk' hi';obtain ⟨e1,hmp⟩:=hmp;split at hmp<;>try simp at hmp
  rename_i j' n hz';obtain ⟨e2,e3⟩:=hmp;subst e1; subst e2; subst e3;exact ⟨kt,et,i',hd,hk',hi',hz'⟩
 ·intro he
  unfold okU8 at hu8;rw[he] at hu8;simp only[cond_true] at hu8;split at hu8<;>try simp at hu8
  rename_i et;split at hu8<;>try simp at hu8
  rename_i k hk;subst hu8;exact ⟨et,hd,hk⟩
 ·intro he xs ys b hx hy hv x y w
  unfold okEq at heq;rw[he] at heq;simp only[cond_true,Bool.and_eq_true,Bool.not_eq_true'] at heq;obtain ⟨⟨h1,h2⟩,h3⟩:=heq;split at h3<;>try simp at h3
  rename_i z hz';obtain ⟨e1,_⟩:=uG h3;subst e1;have hk:=eqKs_ok 8 t _ hz' Op.maxDepth (Nat.le_of_ble_eq_true rfl) xs.toList ys.toList b hx hy hv w;rw[Vf hd (by rw[ha,h1]),Vf hd (by rw[ha,h1])] at hk;simp only[Array.toArray_toList] at hk;constructor
  ·simp[eqGuard,Go.binOp,Op.equal,hk,h2]
  ·simp[eqGuard,Go.binOp,Op.equal,hk,h2]
theorem Qq (P:Program) (t:Nat):vo P t {}:=by
 refine ⟨?_,?_,?_,?_,?_,?_,?_,?_,?_,?_,?_,?_,?_,?_,?_,?_⟩<;>simp
def Sb (P:Program):List (Nat×TS)->Bool
 | []=>true
 | (t,ts)::r=>okTS P t ts&&Sb P r
theorem Vc:∀{rows:List (Nat×TS)},Sb P rows=true->∀t,vo P t (lk {} t rows)
 | [],_,t=>Qq P t
 | (k,ts)::r,h,t=>by
  simp only[Sb,Bool.and_eq_true] at h;simp only[lk];cases hb:Nat.beq t k with
  | false=>exact Vc h.2 t
  | true=>rw[yx hb]; exact okTS_ok h.1
end
end Go.VS
namespace Go.VS
open Go IntKind
section
variable {P:Program}
mutual
def qe (P:Program):Nat->TypeId->Ty->Bool
 | 0,_,_=>false
 | n+1,t,c=>match P.underlying t with
  | some (.int k)=>(match c with | .int k'=>decide (k'=k) | _=>false)
  | some .bool=>(match c with | .bool=>true | _=>false)
  | some .string=>(match c with | .str=>true | _=>false)
  | some (.slice e)=>(match c with
   | .sl c'=>qe P n e c'&&Nat.beq (P.cellsOf e) c'.size&&Nat.blt 0 c'.size
   | .bsl c'=>qe P n e c'&&Nat.beq (P.cellsOf e) c'.size&&Nat.blt 0 c'.size
   | _=>false)
  | some (.struct fs)=>Nat.beq (P.cellsOf t) c.size&&Ta P n 0 fs.toList c
  | _=>false
def Ta (P:Program):Nat->Nat->List Field->Ty->Bool
 | 0,_,_,_=>false
 | n+1,off,[f],c=>Nat.beq f.offset off&&Nat.beq (P.cellsOf f.type) c.size&&qe P n f.type c
 | n+1,off,f::r,.pair a b=>Nat.beq f.offset off&&Nat.beq (P.cellsOf f.type) a.size&&qe P n f.type a&&Ta P n (off+a.size) r b
 | _,_,_,_=>false
end
def wfT:(t:Ty)->t.T->Prop
 | .int k,x=>k.min<=x/\x<=k.max
 | .str,s=>s.size<=maxLen
 | .sl t,l=>l.length<=maxLen/\∀y∈l,wfT t y
 | .bsl t,l=>l.length<=maxLen/\∀y∈l,wfT t y
 | .pair a b,x=>wfT a x.1/\wfT b x.2
 | _,_=>True
def uD:(t:Ty)->t.T->Nat
 | .str,s=>s.size+1
 | .sl t,l=>(l.map (uD t)).sum+1
 | .bsl t,l=>(l.map (uD t)).sum+1
 | .pair a b,x=>uD a x.1+uD b x.2
 | .unit,_=>0
 | _,_=>1
structure Ze {H:Type} (B:DataW H->Nat) (BA:List (DataW H)->Nat):Prop where
 lit:∀bytes,bytes.length+1<=B (.lit (.string bytes))
 one:∀d,1<=B d
 slice:∀es sp,BA es+1<=B (.slice es sp)
 agg:∀ps,BA ps<=B (.agg ps)
 cons:∀d r,B d+BA r<=BA (d::r)
variable {H:Type} {enc:TypeId×Value->H} {w:World} {base:Nat} {spare:Nat->Bool} {held:Bool} {B:DataW H->Nat} {BA:List (DataW H)->Nat}
theorem zaj {a:Addr} {n:Nat} {cs:List Value} (h:w.cells? base a n=some cs) (hn:0<n):a.spot=none/\a.block<w.heap.size/\cs.length=n/\xc w a.block a.off cs:=by
 obtain ⟨_,hl,hc⟩:=World.cells?_some h;have hb:=World.cells?_block h hn;have hs:a.spot=none:=by
  have h0:=hc 0 hn;have:cs[0]?=some cs[0]:=List.getElem?_eq_getElem (by omega);rw[this] at h0;simp only[Addr.add,if_true] at h0;unfold World.cell? at h0;split at h0<;>try simp at h0
  exact h0.1
 refine ⟨hs,hb,hl,?_⟩;have key:∀(l:List Value) (k:Nat),(∀i,i<l.length->w.cell? ⟨a.block,a.off+k+i,none⟩=l[i]?)->xc w a.block (a.off+k) l:=by
  intro l;induction l with
  | nil=>intro k _; trivial
  | cons v r ih =>
   intro k hk;refine ⟨by simpa using hk 0 (by simp),?_⟩;have:=ih (k+1) (fun i hi=>by have:=hk (i+1) (by simp; omega); simpa [Nat.add_assoc,Nat.add_comm 1] using this);simpa [Nat.add_assoc] using this
 have:=key cs 0 (fun i hi=>by
  have:=hc i (by omega);rw[<-this];simp only[Addr.add];split
  ·rename_i h0; subst h0; obtain ⟨b,o,s⟩:=a; simp at hs; subst hs; simp
  ·simp)
 simpa using this
theorem S7 {α:Type} {p:Nat->α->Prop}:∀(n:Nat),(∀i,i<n->∃y,p i y)->∃l:List α,l.length=n/\∀i (h:i<l.length),p i l[i]
 | 0,_=>⟨[],rfl,fun i h=>by simp at h⟩
 | n+1,h=>by
  obtain ⟨l,hl,hp⟩:=S7 n (fun i hi=>h i (by omega));obtain ⟨y,hy⟩:=h n (by omega);refine ⟨l++[y],by simp[hl],fun i hi=>?_⟩;by_cases e:i<l.length
  ·rw[List.getElem_append_left e]; exact hp i e
  ·have:i=n:=by simp at hi; omega
   subst this;rw[List.getElem_append_right (by omega)];simpa [hl] using hy
theorem TQ (hB:Ze B BA) {α:Type} {f:α->Nat}:∀{l:List α} {m:List (DataW H)},l.length=m.length->(∀i (h:i<l.length) (h':i<m.length),f l[i]<=B m[i])->(l.map f).sum<=BA m
 | [],[],_,_=>by simp
 | [],_::_,h,_=>by simp at h
 | _::_,[],h,_=>by simp at h
 | a::l,d::m,h,hi=>by
  have h0:=hi 0 (by simp) (by simp);have:=TQ hB (l:=l) (m:=m) (by simpa using h) (fun i h1 h2=>hi (i+1) (by simpa using h1) (by simpa using h2));have hc:=hB.cons d m;simp at h0 ⊢;omega
theorem V4 (hB:Ze B BA) {ok okb:Nat->Prop} {me:Option Nat} (hok:∀b,b<w.heap.size->ok b) (hokb:∀b,b<w.heap.size->okb b):∀(n:Nat),
  (∀(t:TypeId) (c:Ty),qe P n t c=true->∀(fuel:Nat) (cs:List Value) (x:DataW H×List MemPlace),DataW.trod enc P w base spare held fuel t cs=some x->
   ∃y:c.T,RT w ok okb me c y cs/\wfT c y/\uD c y<=B x.1) /\
  (∀(off:Nat) (fs:List Field) (c:Ty),Ta P n off fs c=true->∀(fuel:Nat) (cs:List Value) (xs:List (DataW H×List MemPlace)),cs.length=off+c.size->xs.length=fs.length->
   (∀(i:Nat) (f:Field),fs[i]?=some f->DataW.trod enc P w base spare held fuel f.type ((cs.drop f.offset).take (P.cellsOf f.type))=xs[i]?)->
   ∃y:c.T,RT w ok okb me c y (cs.drop off)/\wfT c y/\uD c y<=BA (xs.map (·.1))):=by
 intro n;induction n with
 | zero=>exact ⟨fun t c h=>by simp[qe] at h,fun off fs c h=>by simp[Ta] at h⟩
 | succ n ih =>
  obtain ⟨ih1,ih2⟩:=ih;constructor
  ·intro t c hc fuel cs x hx
   simp only[qe] at hc;split at hc
   ·rename_i k hu
    split at hc<;>simp at hc;subst hc;obtain ⟨m,rfl,rfl,hw⟩:=DataW.trod_int hu hx;simp only[Lit.wf,Bool.and_eq_true,decide_eq_true_eq] at hw;exact ⟨m,rfl,hw,by simp only[uD]; exact hB.one _⟩
   ·rename_i hu
    split at hc<;>simp at hc;obtain ⟨m,rfl,rfl⟩:=DataW.trod_bool hu hx;exact ⟨m,rfl,trivial,by simp only[uD]; exact hB.one _⟩
   ·rename_i hu
    split at hc<;>simp at hc;obtain ⟨m,rfl,rfl,hw⟩:=DataW.trod_string hu hx;exact ⟨m,rfl,hw,by simp only[uD]; have:=hB.lit m.data.toList; simpa using this⟩
   ·rename_i e hu
    have main:∀(c':Ty) (good:Nat->Prop),(∀b,b<w.heap.size->good b)->qe P n e c'=true->P.cellsOf e=c'.size->0<c'.size->
      ∃l:List c'.T,(∃v,cs=[v]/\SlR w good c'.size (RT w ok okb me c') l v)/\(l.length<=maxLen/\∀y∈l,wfT c' y)/\(l.map (uD c')).sum+1<=B x.1:=by
     intro c' good hg h1 h2 h3;rcases DataW.trod_slice hu hx with ⟨rfl,rfl⟩ | ⟨a,len,cap,u7,rest,m,_,rfl,rfl,hb,hl,hm,hlen,hel,_⟩
     ·exact ⟨[],⟨_,rfl,none,0,rfl,Nat.le_refl _,fun h=>absurd rfl h⟩,⟨by simp,by simp⟩,by simpa using hB.one _⟩
     ·have each:∀i,i<len->∃y:c'.T,(∃us,us.length=c'.size/\(a.add (i*c'.size)).spot=none/\a.block<w.heap.size/\xc w a.block (a.add (i*c'.size)).off us/\RT w ok okb me c' y us) /\
        wfT c' y/\∀(h:i<u7.length),uD c' y<=B (u7[i]).1:=by
       intro i hi;have:=hel i hi;rw[h2,List.getElem?_eq_getElem (by omega),Option.bind_eq_some_iff] at this;obtain ⟨us,hus,ht⟩:=this;obtain ⟨c1,c2,c3,c4⟩:=zaj hus h3;obtain ⟨y,r1,r2,r3⟩:=ih1 e c' h1 m us _ ht;have hab:(a.add (i*c'.size)).block=a.block:=by simp only[Addr.add]; split<;>rfl
       rw[hab] at c2 c4;exact ⟨y,⟨us,c3,c1,c2,c4,r1⟩,r2,fun _=>r3⟩
      obtain ⟨l,hll,hp⟩:=S7 len each;refine ⟨l,⟨_,rfl,some a,cap,by rw[hll],by omega,fun hne=>?_⟩,⟨by omega,fun y hy=>?_⟩,?_⟩
      ·have h0:0<l.length:=List.length_pos_iff.2 hne
       obtain ⟨⟨us,_,hs,hblk,_⟩,_⟩:=hp 0 h0;have hs':a.spot=none:=by simpa [Addr.add] using hs
       refine ⟨a.block,a.off,by obtain ⟨b,o,s⟩:=a; simp at hs'; subst hs'; rfl,hg _ hblk,fun i hi=>?_⟩;obtain ⟨⟨us,e1,_,_,e2,e3⟩,_⟩:=hp i hi;have ho:(a.add (i*c'.size)).off=a.off+i*c'.size:=by simp only[Addr.add]; split<;>simp_all
       rw[ho] at e2;exact ⟨us,e1,e2,e3⟩
      ·obtain ⟨i,hi,rfl⟩:=List.getElem_of_mem hy
       exact (hp i hi).2.1
      ·have hs:=hB.slice (u7.map (·.1)) (rest.map (·.1))
       have:=TQ hB (f:=uD c') (l:=l) (m:=u7.map (·.1)) (by simp; omega) (fun i h1 h2=>by
        simp only[List.getElem_map];exact (hp i h1).2.2 (by simpa using h2))
       simp only at hs ⊢;omega
    split at hc
    ·rename_i c'
     simp only[Bool.and_eq_true] at hc;obtain ⟨l,h1,h2,h3⟩:=main c' ok hok hc.1.1 (yx hc.1.2) (by have:=hc.2; simpa using this);exact ⟨l,h1,h2,h3⟩
    ·rename_i c'
     simp only[Bool.and_eq_true] at hc;obtain ⟨l,h1,h2,h3⟩:=main c' okb hokb hc.1.1 (yx hc.1.2) (by have:=hc.2; simpa using this);exact ⟨l,h1,h2,h3⟩
    ·simp at hc
   ·rename_i fs hu
    simp only[Bool.and_eq_true] at hc;obtain ⟨xs,m,_,rfl,hl,hlen,hf⟩:=DataW.trod_struct hu hx;obtain ⟨y,r1,r2,r3⟩:=ih2 0 fs.toList c hc.2 m cs xs (by rw[hl,yx hc.1]; simp) (by simpa using hlen) (fun i f hif=>hf i f (by simpa using hif));exact ⟨y,by simpa using r1,r2,Nat.le_trans r3 (hB.agg _)⟩
   ·simp at hc
  ·intro off fs c hc fuel cs xs hl hxl hf
   unfold Ta at hc;split at hc
   ·simp_all
   ·rename_i f e1
    cases e1
    simp only[Bool.and_eq_true] at hc;obtain ⟨⟨h1,h2⟩,h3⟩:=hc;have h0:=hf 0 f rfl;match xs,hxl with
    | [x],_ =>
     rw[yx h1,yx h2,List.take_of_length_le (by simp; omega)] at h0;obtain ⟨y,r1,r2,r3⟩:=ih1 f.type _ h3 fuel _ x h0;refine ⟨y,r1,r2,Nat.le_trans r3 ?_⟩;have:=hB.cons x.1 [];simp;omega
   ·rename_i f r a b _ e1
    cases e1
    simp only[Bool.and_eq_true] at hc;obtain ⟨⟨⟨h1,h2⟩,h3⟩,h4⟩:=hc;have h0:=hf 0 f rfl;match xs,hxl with
    | x::xs,hxl =>
     rw[yx h1,yx h2] at h0;obtain ⟨y,r1,r2,r3⟩:=ih1 f.type a h3 fuel _ x h0;obtain ⟨z,s1,s2,s3⟩:=ih2 _ r b h4 fuel cs xs (by rw[hl]; simp[Ty.size]; omega) (by simpa using hxl) (fun i g hg=>by simpa using hf (i+1) g (by simpa using hg));refine ⟨(y,z),⟨_,_,?_,r1,s1⟩,⟨r2,s2⟩,?_⟩
     ·rw[<-List.drop_drop,List.take_append_drop]
     ·have:=hB.cons x.1 (xs.map (·.1))
      simp[uD];omega
   ·simp at hc
end
end Go.VS
namespace Go.VS
open Go Go.ChangeShapes Go.RowKit
section
variable {P:Program} {H:Type} {enc:TypeId×Value->H} {w:World} {base:Nat} {spare:Nat->Bool} {held:Bool} {B:DataW H->Nat} {BA:List (DataW H)->Nat}
def Vl (P:Program) (t:TypeId):Bool:=match P.underlying t with
 | some (.struct _)=>true
 | _=>false
def okArg (P:Program) (n:Nat) (t:TypeId):AT->Bool
 | .d (.c c)=>qe P n t c&&!Vl P t
 | .d (.b e)=>qe P n t (.bsl e)&&!Vl P t
 | .d (.g c)=>qe P n t c&&Vl P t
 | _=>false
def YS (P:Program) (n:Nat):List TypeId->List AT->Bool
 | [],[]=>true
 | t::ts,a::as=>okArg P n t a&&YS P n ts as
 | _,_=>false
def wfK:(k:KS)->k.T->Prop
 | .c t,x=>wfT t x
 | .b t,x=>wfT (.bsl t) x
 | .g t,x=>wfT t x
 | _,_=>True
def RA:(k:KS)->k.T->Nat
 | .c t,x=>uD t x
 | .b t,x=>uD (.bsl t) x
 | .g t,x=>uD t x
 | _,_=>0
def wfA:(as:List AT)->TA as->Prop
 | [],_=>True
 | .d k::r,x=>wfK k x.1/\wfA r x.2
 | .io _ _::r,x=>wfA r x.2
 | .ios _::r,x=>wfA r x.2
def Xn:(as:List AT)->TA as->Nat
 | [],_=>0
 | .d k::r,x=>RA k x.1+Xn r x.2
 | .io _ _::r,x=>Xn r x.2
 | .ios _::r,x=>Xn r x.2
theorem Vb {n:Nat} {t:TypeId} {c:Ty} (h:qe P n t c=true):∃d,P.underlying t=some d/\(∀m e,d≠.array m e)/\(Vl P t=false->∀fs,d≠.struct fs):=by
 cases n with
 | zero=>simp[qe] at h
 | succ n =>
  simp only[qe] at h;split at h<;>first | (simp at h; done) | skip
  all_goals (rename_i hu; refine ⟨_,hu,by simp,fun hs fs e=>?_⟩; simp[Vl,hu] at hs; try simp at e)
theorem QT {t:TypeId} {v:Value} {d:TypeDesc} (hu:P.underlying t=some d) (ha:∀m e,d≠.array m e) (hs:∀fs,d≠.struct fs) {r:Reach} (h:Value.okWide P w r base t v):∀cs,v≠.agg cs:=by
 rintro cs rfl
 unfold Value.okWide at h;rw[hu] at h;cases d<;>first | exact absurd rfl (hs _) | exact absurd rfl (ha _ _) | (simp[Cell.okWide,Cell.ok,hu] at h)
theorem VF {v:Value} (h:∀cs,v≠.agg cs):v.cells.toList=[v]:=by
 cases v<;>first | rfl | exact absurd rfl (h _)
def noX:Nat->Prop:=fun _=>False
theorem VG (hB:Ze B BA):∀{ts:List TypeId} {as:List AT} {n i k:Nat} {vs:List Value} {ds:List (DataW H)} {ps:List MemPlace},
  YS P n ts as=true->DataW.TrodAll enc P w base spare held ts vs ds ps->(∀(j:Nat) t v,ts[j]?=some t->vs[j]?=some v->Value.okWide P w .any base t v)->
  ∃x:TA as,ArgsR w (qIn w noX noX v7) i k as x vs/\wfA as x/\Xn as x<=BA ds
 | [],[],n,i,k,vs,ds,ps,_,h,_=>by
  obtain ⟨rfl,rfl,rfl⟩:=trodAll_nil h;exact ⟨(),⟨fun j _=>rfl,fun p hh hp=>by simp[qIn,v7] at hp⟩,trivial,Nat.zero_le _⟩
 | [],_::_,_,_,_,_,_,_,h,_,_=>by simp[YS] at h
 | _::_,[],_,_,_,_,_,_,h,_,_=>by simp[YS] at h
 | t::ts,a::as,n,i,k,vs,ds,ps,hk,h,hv=>by
  simp only[YS,Bool.and_eq_true] at hk;obtain ⟨v,vs',d,ds',p,q,rfl,rfl,rfl,⟨fuel,h1⟩,h2⟩:=trodAll_cons h;obtain ⟨xr,r1,r2,r3⟩:=VG hB (n:=n) (i:=i+1) (k:=k) hk.2 h2 (fun j t v ht hv'=>hv (j+1) t v (by simpa using ht) (by simpa using hv'));have hv0:=hv 0 t v rfl rfl;have hc:=hB.cons d ds';have hok:∀b,b<w.heap.size->(qIn w noX noX v7).ok b:=fun b hb=>⟨hb,id,id,Td b⟩
  have hokb:∀b,b<w.heap.size->(qIn w noX noX v7).okb b:=fun b hb=>⟨hb,id,Td b⟩
  have hno:OwnsR w (qIn w noX noX v7) k ([]:List xK):=fun j o ho=>by simp at ho
  have ha:=hk.1;unfold okArg at ha;split at ha
  ·rename_i c
   simp only[Bool.and_eq_true,Bool.not_eq_true'] at ha;obtain ⟨dd,hu,g1,g2⟩:=Vb ha.1;have hna:=VF (QT hu g1 (g2 ha.2) hv0);rw[hna] at h1;obtain ⟨y,s1,s2,s3⟩:=(V4 hB hok hokb n).1 t c ha.1 fuel _ _ h1;exact ⟨(y,xr),⟨rfl,Sy s1,hno,r1⟩,⟨s2,r2⟩,by simp only[Xn,RA]; simp only at s3; omega⟩
  ·rename_i e
   simp only[Bool.and_eq_true,Bool.not_eq_true'] at ha;obtain ⟨dd,hu,g1,g2⟩:=Vb ha.1;have hna:=VF (QT hu g1 (g2 ha.2) hv0);rw[hna] at h1;obtain ⟨y,⟨v',e1,s1⟩,s2,s3⟩:=(V4 hB hok hokb n).1 t (.bsl e) ha.1 fuel _ _ h1;simp at e1;subst e1;exact ⟨(y,xr),⟨rfl,s1,hno,r1⟩,⟨s2,r2⟩,by simp only[Xn,RA]; simp only at s3; omega⟩
  ·rename_i c
   simp only[Bool.and_eq_true] at ha;have hs:=ha.2;unfold Vl at hs;split at hs<;>try simp at hs
   rename_i fs hu;unfold Value.okWide at hv0;rw[hu] at hv0;obtain ⟨cs,rfl,_,_⟩:=hv0;obtain ⟨y,s1,s2,s3⟩:=(V4 hB hok hokb n).1 t c ha.1 fuel _ _ h1;exact ⟨(y,xr),⟨rfl,⟨cs,rfl,Ri.2 s1⟩,hno,r1⟩,⟨s2,r2⟩,by simp only[Xn,RA]; simp only at s3; omega⟩
  ·simp at ha
def vO:Ty->Bool
 | .int _ | .bool | .str=>true
 | .pair a b=>vO a&&vO b
 | _=>false
def qr:(t:Ty)->t.T->List Value
 | .int k,x=>[.int k x]
 | .bool,x=>[.bool x]
 | .str,x=>[.string x]
 | .pair a b,x=>qr a x.1++qr b x.2
 | _,_=>[]
theorem XE:∀{t:Ty} (x:t.T),vO t=true->∀(w:World) (ok okb:Nat->Prop) (me:Option Nat),RT w ok okb me t x (qr t x)
 | .int _,_,_,_,_,_,_=>rfl
 | .bool,_,_,_,_,_,_=>rfl
 | .str,_,_,_,_,_,_=>rfl
 | .fn,_,h,_,_,_,_=>by simp[vO] at h
 | .fnb,_,h,_,_,_,_=>by simp[vO] at h
 | .sl _,_,h,_,_,_,_=>by simp[vO] at h
 | .bsl _,_,h,_,_,_,_=>by simp[vO] at h
 | .pt _,_,h,_,_,_,_=>by simp[vO] at h
 | .bnd _,_,h,_,_,_,_=>by simp[vO] at h
 | .tr _,_,h,_,_,_,_=>by simp[vO] at h
 | .unit,_,h,_,_,_,_=>by simp[vO] at h
 | .pair a b,x,h,w,ok,okb,me=>by
  simp only[vO,Bool.and_eq_true] at h;exact ⟨_,_,rfl,XE x.1 h.1 w ok okb me,XE x.2 h.2 w ok okb me⟩
mutual
def Z6:DataW H->List Value
 | .lit (.int k n)=>[.int k n]
 | .lit (.bool b)=>[.bool b]
 | .lit (.string l)=>[.string ⟨l.toArray⟩]
 | .agg ps=>qG ps
 | _=>[]
def qG:List (DataW H)->List Value
 | []=>[]
 | d::r=>Z6 d++qG r
end
theorem Ss (n:Nat) :
  (∀(t:TypeId) (c:Ty),qe P n t c=true->vO c=true->∀(fuel:Nat) (cs:List Value) (x:DataW H×List MemPlace),DataW.trod enc P w base spare held fuel t cs=some x->cs=Z6 x.1) /\
  (∀(off:Nat) (fs:List Field) (c:Ty),Ta P n off fs c=true->vO c=true->∀(fuel:Nat) (cs:List Value) (xs:List (DataW H×List MemPlace)),cs.length=off+c.size->xs.length=fs.length->
   (∀(i:Nat) (f:Field),fs[i]?=some f->DataW.trod enc P w base spare held fuel f.type ((cs.drop f.offset).take (P.cellsOf f.type))=xs[i]?)->
   cs.drop off=qG (xs.map (·.1))):=by
 induction n with
 | zero=>exact ⟨fun t c h=>by simp[qe] at h,fun off fs c h=>by simp[Ta] at h⟩
 | succ n ih =>
  obtain ⟨ih1,ih2⟩:=ih;constructor
  ·intro t c hc hfl fuel cs x hx
   simp only[qe] at hc;split at hc
   ·rename_i k hu
    obtain ⟨m,rfl,rfl,hw⟩:=DataW.trod_int hu hx;simp[Z6]
   ·rename_i hu
    obtain ⟨m,rfl,rfl⟩:=DataW.trod_bool hu hx;simp[Z6]
   ·rename_i hu
    obtain ⟨m,rfl,rfl,hw⟩:=DataW.trod_string hu hx;simp[Z6]
   ·split at hc<;>simp[vO] at hfl hc
   ·rename_i fs hu
    simp only[Bool.and_eq_true] at hc;obtain ⟨xs,m,_,rfl,hl,hlen,hf⟩:=DataW.trod_struct hu hx;have:=ih2 0 fs.toList c hc.2 hfl m cs xs (by rw[hl,yx hc.1]; simp) (by simpa using hlen) (fun i f hif=>hf i f (by simpa using hif));simpa [Z6] using this
   ·simp at hc
  ·intro off fs c hc hfl fuel cs xs hl hxl hf
   unfold Ta at hc;split at hc
   ·simp_all
   ·rename_i f e1
    cases e1
    simp only[Bool.and_eq_true] at hc;obtain ⟨⟨h1,h2⟩,h3⟩:=hc;have h0:=hf 0 f rfl;match xs,hxl with
    | [x],_ =>
     rw[yx h1,yx h2,List.take_of_length_le (by simp; omega)] at h0;have:=ih1 f.type _ h3 hfl fuel _ x h0;simp[qG,this]
   ·rename_i f r a b _ e1
    cases e1
    simp only[Bool.and_eq_true] at hc;simp only[vO,Bool.and_eq_true] at hfl;obtain ⟨⟨⟨h1,h2⟩,h3⟩,h4⟩:=hc;have h0:=hf 0 f rfl;match xs,hxl with
    | x::xs,hxl =>
     rw[yx h1,yx h2] at h0;have e1:=ih1 f.type a h3 hfl.1 fuel _ x h0;have e2:=ih2 _ r b h4 hfl.2 fuel cs xs (by rw[hl]; simp[Ty.size]; omega) (by simpa using hxl) (fun i g hg=>by simpa using hf (i+1) g (by simpa using hg));simp only[List.map_cons,qG,<-e1,<-e2];rw[<-List.drop_drop,List.take_append_drop]
   ·simp at hc
theorem Qn {t e:TypeId} {m n:Nat} {c:Ty} (hu:P.underlying t=some (.array m e)) (hc:qe P n e c=true) (hfl:vO c=true) (hs:P.cellsOf e=c.size) (hst:P.cellsOf t=m*c.size)
  {fuel:Nat} {cs:List Value} {x:DataW H×List MemPlace} (h:DataW.trod enc P w base spare held fuel t cs=some x):cs=Z6 x.1:=by
 obtain ⟨xs,k,_,rfl,hl,hlen,hf⟩:=DataW.trod_array hu h;simp only[Z6];rw[hst] at hl;have key:∀(r i:Nat) (ys:List (DataW H×List MemPlace)),i+r=m->ys=xs.drop i->cs.drop (i*c.size)=qG (ys.map (·.1)):=by
  intro r;induction r with
  | zero =>
   intro i ys hi hy;have e1:xs.drop i=[]:=List.drop_of_length_le (by omega);have e2:cs.drop (i*c.size)=[]:=List.drop_of_length_le (by rw[hl,<-hi,Nat.add_zero]; exact Nat.le_refl _);rw[hy,e1,e2];simp[qG]
  | succ r ih =>
   intro i ys hi hy;have him:i<xs.length:=by omega
   rw[hy,List.drop_eq_getElem_cons him];have h1:=hf i (by omega);rw[hs,List.getElem?_eq_getElem him] at h1;have e1:=(Ss n).1 e c hc hfl k _ _ h1;have e2:=ih (i+1) (xs.drop (i+1)) (by omega) rfl;simp only[List.map_cons,qG,<-e1,<-e2];rw[Nat.succ_mul,<-List.drop_drop,List.take_append_drop]
 simpa using key m 0 xs (by omega) rfl
theorem ta:∀{t:Ty} (x:t.T),vO t=true->(qr t x).length=t.size:=fun x h=>(XE x h default (fun _=>True) (fun _=>True) none).len
theorem Wp {t:Ty} (hfl:vO t=true):∀(l:List t.T) (i:Nat) (h:i<l.length),((l.flatMap (qr t)).drop (i*t.size)).take t.size=qr t l[i]
 | x::l,0,_=>by simp[<-ta x hfl]
 | x::l,i+1,h=>by
  have:=Wp hfl l i (by simpa using h);simp only[List.flatMap_cons,List.getElem_cons_succ];rw[Nat.succ_mul,Nat.add_comm,<-List.drop_drop,<-ta x hfl,List.drop_left,ta x hfl];exact this
theorem glob_of {name:String} {d:DataW Unit} {g:Nat} {t e:TypeId} {m n:Nat} {c:Ty} {l:List c.T} (hg:P.globalNamed name=some g) (hty:(P.globals[g]?).map (·.type)=some t)
  (hu:P.underlying t=some (.array m e)) (hc:qe P n e c=true) (hfl:vO c=true) (hs:P.cellsOf e=c.size) (hst:P.cellsOf t=m*c.size) (hd:Z6 d=l.flatMap (qr c))
  (h:laidMet P [(name,d)] w):tg (fun k=>lk none k [(g,some ⟨c,l⟩)]) w noX:=by
 obtain ⟨ps,⟨g',t',cs,fuel,p,q,hg',ht',hvar,htr,_,_⟩,_⟩:=h;obtain rfl:=Option.some.inj (hg.symm.trans hg');obtain rfl:=Option.some.inj (hty.symm.trans ht');have hcs:=Qn hu hc hfl hs hst htr;simp only at hcs;rw[hd] at hcs;intro k o ho;simp only[lk] at ho;cases hb:Nat.beq k g with
 | false=>rw[hb] at ho; simp at ho
 | true =>
  rw[hb] at ho;have hk:=yx hb;subst hk;simp at ho;subst ho;refine ⟨?_,id,fun i hi=>⟨qr c l[i],ta _ hfl,?_,XE _ hfl⟩⟩
  ·unfold World.var? at hvar
   rw[hg] at hvar;simp only[Option.bind_some] at hvar;split at hvar<;>try simp at hvar
   rename_i e2;exact (Array.getElem?_eq_some_iff.1 e2).1
  ·refine wT fun j v hj=>?_
   have hj':j<c.size:=by have:=(List.getElem?_eq_some_iff.1 hj).1; rw[ta _ hfl] at this; exact this
   rw[World.var?_cell hg hvar,<-hj,<-Wp hfl l i hi];rw[List.getElem?_take_of_lt hj',List.getElem?_drop,<-hcs,Nat.zero_add];simp
end
end Go.VS
namespace Go.VS
open Go Go.ChangeShapes Go.RowKit
section
variable {P:Program} {H:Type} {enc:TypeId×Value->H} {W W':World} {G:Nat->Option xK}
theorem R1 {f:FuncId} {fn:Func} {s:Sig} {x:TA s.args} {y:s.R} {vs:List Value} (hf:P.funcs[f]? = some fn) (hb:fn.body.isSome = true) (hname:(fn.name == "runtime.NumGoroutine") = false)
  (c:wt P G f s x y) (hE:Entry G W noX noX v7 s.args x vs) (hr:vZ 0 s.res y.1=[.c (.v (.bool true))]) :
  Calls P f vs.toArray W fun e W'=>e=.returned (.bool true)/\Below W.heap.size W W':=by
 have hcall:(callFunc f vs.toArray).run P W=.ok (.enter f vs.toArray) W:=by
  have hn:fn.body.isNone=false:=by cases h:fn.body<;>simp_all
  simp only[callFunc,Sem.run_bind,run_program,Result.andThen_ok,hf,hname,hn,Bool.false_eq_true,if_false];rfl
 rcases c W noX noX v7 vs 0 hE with ⟨v,w',h,_⟩ | ⟨_,h⟩
 ·rw[hcall] at h; simp at h
 ·refine h.mono fun e W' he=>?_
  cases e with
  | returned v =>
   obtain ⟨h1,h2,_,h3,h4,h5,g1,hO⟩:=he;have h6:=hO.ret;rw[hr] at h6;simp only[RetR,RD,RC] at h6;obtain ⟨rfl,_⟩:=h6;exact ⟨rfl,h3,h4,h5,h1,fun k hk=>h2 k hk id (Td k)⟩
  | panicked _=>exact he.elim
  | outgrown=>exact he.elim
theorem ZF (hl:laidOutB P=true) (hb:Below W.heap.size W W'):∀{ts:List TypeId} {vs:List Value} {ds:List (DataW H)} {ps:List MemPlace},ts.all (fun t=>P.readableRec t&&decide (t<P.types.size))=true->
  DataW.TrodAll enc P W 0 (fun _=>true) true ts vs ds ps->DataW.TrodAll enc P W' 0 (fun b=>decide (b<W.heap.size)) true ts vs ds ps
 | [],vs,ds,ps,_,h=>by
  obtain ⟨rfl,rfl,rfl⟩:=trodAll_nil h;exact rfl
 | t::ts,vs,ds,ps,ht,h=>by
  have hlt:=h.lt;obtain ⟨v,vs',d,ds',p,q,rfl,rfl,rfl,h1,h2⟩:=trodAll_cons h;simp only[List.all_cons,Bool.and_eq_true,decide_eq_true_eq] at ht;exact ⟨p,q,Below.trod hl ht.1.1 ht.1.2 h1 hb (fun x hx=>hlt x (List.mem_append.2 (.inl hx))),ZF hl hb (by simpa using ht.2) h2,rfl⟩
theorem Q1 {fn:Func} {s:ChangeSpec} {tb:TypeId} {args:Array Value} {ds gs:List (DataW H)} {before:List MemPlace} {fresh handsOn:Bool} (hl:laidOutB P=true)
  (ht:fn.params.toList.all (fun t=>P.readableRec t&&decide (t<P.types.size))=true) (hv:s.vars=[]) (hfn:s.fn H ds={results:=[.lit (.bool true)],args:=ds}) (hr:fn.resultTypes=#[tb]) (hb:P.underlying tb=some .bool)
  (hW:DataW.Whole enc P fn.params.toList s.vars false W args.toList ds gs before) (hB:Below W.heap.size W W'):s.post enc P fn false fresh handsOn false W args (.bool true) W':=by
 obtain ⟨p,q,hA,hV,rfl,hz,hn⟩:=hW;have hgs:gs=[]/\q=[]:=by
  rw[hv] at hV;cases gs with
  | nil=>exact ⟨rfl,hV⟩
  | cons g gs=>exact hV.elim
 obtain ⟨rfl,rfl⟩:=hgs;refine ⟨ds,[],p++[],[],p,[],⟨p,[],hA,hV,rfl,hz,hn⟩,?_,?_,?_,?_,fun h=>by cases h⟩
 ·rw[List.append_nil,hfn,hr]
  exact ⟨[],[],shut_bool hb true,rfl,rfl⟩
 ·rw[List.append_nil,hfn]
  exact ZF hl hB ht hA
 ·rw[List.append_nil,hfn,hv]
  rfl
 ·exact hB.frame _
theorem Q8 {as:List AT} {x:TA as} {vs:List Value} (hg:tg G W noX) (ha:ArgsR W (qIn W noX noX v7) 0 inN as x vs):Entry G W noX noX v7 as x vs where
 glob:=hg
 old:=fun b h=>by rcases h with h | h<;>exact h.elim
 globm:=fun b _ _=>Td b
 mv:=fun b h=>(Td b h).elim
 io:=fun b=>⟨fun h=>h.elim,fun ⟨i,h⟩=>by simp[v7] at h⟩
 inj:=fun i j b h=>by simp[v7] at h
 injm:=fun p p' h h' b off off' hp=>by simp[v7] at hp
 low:=fun p h hp=>by simp[v7] at hp
 args:=ha
 me:=fun i t ms b _ _ h=>by simp[v7] at h
theorem law_row {base:Nat} {f:FuncId} {fn:Func} {sg:Sig} {s:ChangeSpec} {tb:TypeId} {n:Nat} {B:DataW H->Nat} {BA:List (DataW H)->Nat} (hBL:Ze B BA) (hf:P.funcs[f]?=some fn) (hb:fn.body.isSome=true)
  (hname:(fn.name == "runtime.NumGoroutine") = false) (hk:YS P n fn.params.toList sg.args = true) (hl:laidOutB P = true) (ht:fn.params.toList.all (fun t=>P.readableRec t && decide (t < P.types.size)) = true) (hv:s.vars = [])
  (hr:fn.resultTypes=#[tb]) (htb:P.underlying tb=some .bool) {fresh handsOn:Bool} {args:Array Value} {ds gs:List (DataW H)} {before:List MemPlace} (hfn:s.fn H ds={results:=[.lit (.bool true)],args:=ds})
  (hval:∀(j:Nat) t v,fn.params[j]?=some t->args[j]?=some v->Value.okWide P W .any base t v)
  (hW:DataW.Whole enc P fn.params.toList s.vars false W args.toList ds gs before) (hG:tg G W noX)
  (law:∀x:TA sg.args,wfA sg.args x->Xn sg.args x<=BA ds->∃y:sg.R,wt P G f sg x y/\vZ 0 sg.res y.1=[.c (.v (.bool true))]) :
  Calls P f args W fun e W'=>∃v,e=.returned v/\s.post enc P fn false fresh handsOn false W args v W':=by
 have hW':=hW;obtain ⟨p,q,hA,hV,rfl,hz,hn⟩:=hW;obtain ⟨x,h1,h2,h3⟩:=VG (i:=0) (k:=inN) hBL hk hA (fun j t v h h'=>hval j t v (by simpa using h) (by simpa using h'));obtain ⟨y,hc,hy⟩:=law x h2 h3;refine (R1 hf hb hname hc (Q8 hG h1) hy).mono fun e W' ⟨he,hB⟩=>⟨_,he,?_⟩
 exact Q1 hl ht hv hfn hr htb hW' hB
end
end Go.VS
namespace Go.VS
open Go IntKind
structure FX (TI:Nat->TS) (G:Nat->Option xK) (Sg:Nat->Sig) where
 hn:Hn:={}
 lv:List ((f:Nat)×(TA (Sg f).args->Option (Sg f).R)):=[]
 ld:List ((d:Nat)×(Nat->TA (hn.sig d).args->Option (hn.sig d).R)):=[]
 N:Nat
 H:Nat->Shape:=fun _=>{}
 HL:Nat->Shape:=fun _=>{}
 HJ:Nat->Option Shape:=fun _=>none
 L:ul HL:=mkL HL []
 J:um HJ:=mkJ HJ []
def U6 {α:Type} (m:Nat):Nat->List α->List α
 | _,[]=>[]
 | i,a::r=>bif Nat.testBit m i then a::U6 m (i+1) r else U6 m (i+1) r
def shS (te tb:List (Nat×KS)) (to:List wx) (x:Nat×Nat×Nat):Shape:={env:=U6 x.1 0 te,box:=U6 x.2.1 0 tb,own:=U6 x.2.2 0 to}
def shN (te tb:List (Nat×KS)) (to:List wx) (l:List (Nat×Nat×Nat×Nat)):Nat->Shape:=fun r=>shS te tb to (lk (0,0,0) r l)
def shO (te tb:List (Nat×KS)) (to:List wx) (l:List (Nat×Nat×Nat×Nat)):Nat->Option Shape:=fun r=>(lk none r (l.map fun p=>(p.1,some p.2))).map (shS te tb to)
def bd (fn:Func):Code:=fn.body.getD .skip
section
variable {TI:Nat->TS} {G:Nat->Option xK} {Sg:Nat->Sig} {P:Program}
def FX.code (X:FX TI G Sg) {R:Type} (c:Code) (σ:St) (K:Ex->St->Option R):Option R :=
 uC TI G X.hn Sg (mkV Sg X.lv) (mkD X.hn X.ld) X.N X.H X.HL X.HJ X.L X.J c σ K
def FX.func (X:FX TI G Sg) (fn:Func) (s:Sig) (x:TA s.args):Option s.R :=
 Rf TI G X.hn Sg (mkV Sg X.lv) (mkD X.hn X.ld) X.N X.H X.HL X.HJ X.L X.J fn s (bd fn) x
def FX.lp (X:FX TI G Sg) (cs:List Code) (i:Nat):Prop:=SO TI G X.hn Sg (mkV Sg X.lv) (mkD X.hn X.ld) X.N X.H X.HL X.HJ X.L X.J (cs.getD i .skip) (rid (cs.getD i .skip))
def FX.ct (X:FX TI G Sg) (cs:List Code) (i:Nat):Prop:=zaG TI G X.hn Sg (mkV Sg X.lv) (mkD X.hn X.ld) X.N X.H X.HL X.HJ X.L X.J (cs.getD i .skip) (rid (cs.getD i .skip))
theorem FX.loop (X:FX TI G Sg) (cs:List Code) (i r F:Nat) (hr:rid (cs.getD i .skip)=r) (lf:(R:Type)->(Ex->St->Option R)->Nat->(X.HL r).T->Option R) (h0:∀R K x,lf R K 0 x=none)
  (hs:∀R K n x,X.code (cs.getD i .skip) (yW (X.HL r) x) (RG (qy X.hn.me (X.HL r)) (lf R K n) K)=lf R K (n+1) x) (hL:∀R K x,X.L r x K=lf R K F x):X.lp cs i:=by
 unfold FX.lp;rw[hr];intro x R K;refine ⟨F,(hL R K x).trans ?_⟩;have key:∀n,lf R K n=Wa TI G X.hn Sg (mkV Sg X.lv) (mkD X.hn X.ld) X.N X.H X.HL X.HJ X.L X.J (cs.getD i .skip) r K n:=by
  intro n;induction n with
  | zero=>funext x; rw[h0]; rfl
  | succ n ih =>
   funext x
   rw[<-hs,ih];rfl
 rw[key]
theorem FX.cut (X:FX TI G Sg) (cs:List Code) (i r:Nat) (hr:rid (cs.getD i .skip)=r) (h:∀(R:Type) (K:Ex->St->Option R) x,X.J r x K=X.code (cs.getD i .skip) (yW (shJ X.HJ r) x) K):X.ct cs i:=by
 unfold FX.ct;rw[hr];intro x R K;exact h R K x
abbrev TEs:=List (Nat×KS)
def kI:KS:=.c (.int .i64)
def kB:KS:=.c .bool
def kL (k:Nat):Nat×KS:=(k,.loc k)
abbrev SH:=Nat->Shape
abbrev KK (R:Type):Type:=Ex->St->Option R
theorem FX.loopk {X:FX TI G Sg} {cs:List Code} {i:Nat} (r F:Nat) (lf:(R:Type)->(Ex->St->Option R)->Nat->(X.HL r).T->Option R) (hr:rid (cs.getD i .skip)=r:=by kernel_rfl) (h0:∀R K x,lf R K 0 x=none:=by intro _ _ _; kernel_rfl)
  (hs:∀R K n x,X.code (cs.getD i .skip) (yW (X.HL r) x) (RG (qy X.hn.me (X.HL r)) (lf R K n) K)=lf R K (n+1) x:=by intro _ _ _ _; kernel_rfl) (hL:∀R K x,X.L r x K=lf R K F x:=by intro _ _ _; kernel_rfl):X.lp cs i:=FX.loop X cs i r F hr lf h0 hs hL
theorem FX.cutk {X:FX TI G Sg} {cs:List Code} {i:Nat} (r:Nat) (hr:rid (cs.getD i .skip)=r:=by kernel_rfl) (h:∀(R:Type) (K:Ex->St->Option R) x,X.J r x K=X.code (cs.getD i .skip) (yW (shJ X.HJ r) x) K:=by intro _ _ _; kernel_rfl):X.ct cs i:=FX.cut X cs i r hr h
theorem zC {p:Nat->Prop}:∀i,i<0->p i:=fun _ h=>absurd h (Nat.not_lt_zero _)
theorem yF {p:Nat->Prop} {n:Nat} (h:p n) (hr:∀i,i<n->p i):∀i,i<n+1->p i:=fun i hi=>by
 by_cases e:i=n
 ·subst e; exact h
 ·exact hr i (by omega)
def OK (P:Program) (G:Nat->Option xK) (f:Nat) (s:Sig) (sp:TA s.args->Option s.R):Prop:=∀x y,sp x=some y->wt P G f s x y
def chkF (fn:Func) (N nl nc:Nat) (ls cs:List Code):Bool:=fn.body.isSome && (!(fn.name == "runtime.NumGoroutine") && (Nat.beq fn.ntmps N && (Nat.beq ls.length nl && Nat.beq cs.length nc)))
theorem func_x (X:FX TI G Sg) (hmix:P.follows .mixedOrders=true) (hT:∀t,vo P t (TI t)) (cV:AllV P G Sg X.lv) (cD:AllD P G X.hn X.ld) {f:FuncId} {fn:Func} (hf:P.funcs[f]?=some fn)
  {s:Sig} {sp:TA s.args->Option s.R} (nl nc:Nat) (hk:chkF fn X.N nl nc (wg (bd fn)) (wS X.HJ (bd fn))=true)
  (hl:∀i,i<nl->X.lp (wg (bd fn)) i) (hc:∀i,i<nc->X.ct (wS X.HJ (bd fn)) i) (hm:∀x,X.func fn s x=sp x):OK P G f s sp:=by
 intro x y h;simp only[chkF,Bool.and_eq_true,Bool.not_eq_true'] at hk;obtain ⟨h1,h2,h3,h4,h5⟩:=hk;have hb:fn.body=some (bd fn):=by
  unfold bd;cases hb:fn.body with
  | none=>rw[hb] at h1; simp at h1
  | some c=>rfl
 exact R7 hmix hT cV cD hf hb h2 (Nat.eq_of_beq_eq_true h3) (Nat.eq_of_beq_eq_true h4) hl (Nat.eq_of_beq_eq_true h5) hc ((hm x).trans h)
def mkT (s:Sig):List (Nat×(TA s.args->Option s.R))->Nat->TA s.args->Option s.R
 | [],_,_=>none
 | p::r,f,x=>bif Nat.beq p.1 f then p.2 x else mkT s r f x
def AllT (P:Program) (G:Nat->Option xK) (s:Sig):List (Nat×(TA s.args->Option s.R))->Prop
 | []=>True
 | p::r=>(∃g,p.1=g+1/\OK P G g s p.2)/\AllT P G s r
theorem YW {s:Sig}:∀{l:List (Nat×(TA s.args->Option s.R))},AllT P G s l->∀f x y,mkT s l f x=some y->∃g,f=g+1/\wt P G g s x y
 | [],_,_,_,_,h=>by simp[mkT] at h
 | p::r,⟨h1,h2⟩,f,x,y,h=>by
  simp only[mkT] at h;cases hb:Nat.beq p.1 f with
  | true =>
   rw[hb] at h;obtain ⟨g,hg,h1⟩:=h1;exact ⟨g,by rw[<-Nat.eq_of_beq_eq_true hb,hg],h1 x y h⟩
  | false=>rw[hb] at h; exact YW h2 f x y h
theorem Vv {f:FuncId} {fn:Func} (hf:P.funcs[f]? = some fn) (hk:(!fn.body.isSome && !(fn.name == "runtime.NumGoroutine")) = true) (hn:Extern.findNext fn = none) {e:Array Value→Sem Value} (he:Extern.find fn = some e)
  {s:Sig} {sp:TA s.args->Option s.R} (h:∀x y,sp x=some y->∀w X Iq g vs K,Entry G w X Iq g s.args x vs->∃v,(e vs.toArray).run P w=.ok v w/\Post w w X Iq g s x y v K):OK P G f s sp:=by
 intro x y hx w X Iq g vs K hE;obtain ⟨v,h1,h2⟩:=h x y hx w X Iq g vs K hE;refine .inl ⟨v,w,?_,h2⟩;simp only[Bool.and_eq_true,Bool.not_eq_true'] at hk;have hb:fn.body.isNone=true:=by cases hb:fn.body<;>simp_all
 rw[run_callFunc_extern hf hk.2 hb hn he,h1];rfl
theorem YP {w:World} {X Iq:Nat->Prop} {g:Gh} {s:Sig} {x:TA s.args} {y:s.R} {v:Value} {K:Nat} (hr:RetR w (th w X Iq v7) (vZ K s.res y.1) v) (ho:wE s.res y.1=[]) (hd:∀a∈s.args,∃k,a=.d k):Post w w X Iq g s x y v K :=
 Post.old (Nat.le_refl _) (fun _ _=>rfl) rfl rfl rfl hr ho hd
end
end Go.VS
namespace Go.VS
open Go IntKind
theorem Zx {n:Nat} {w:World} {q:Q} {k:IntKind} {x:Int} {v:Value} (h:RE w q (Z2 n (.c (.int k)) x) v):v=.int k x:=h.1
theorem RH {n:Nat} {w:World} {q:Q} {x:ByteArray} {v:Value} (h:RE w q (Z2 n (.c .str) x) v):v=.string x:=h.1
@[reducible] def ye.sg:Sig:={args:=[.d (.c (.int .u64)),.d (.c (.int .u64)),.d (.c (.int .u64))],res:=[.c (.int .u64),.c (.int .u64)]}
def ye.sh (_F:Nat) (x y c:Int):Option ye.sg.R :=
 bif decide (0<=x)&&(decide (0<=y)&&(decide (0<=c)&&decide (c<=1))) then some (((x+y+c)%18446744073709551616,(x+y+c)/18446744073709551616,()),()) else none
def ye.sp (F:Nat):TA ye.sg.args->Option ye.sg.R:=fun x=>ye.sh F x.1 x.2.1 x.2.2.1
@[reducible] def zT.sg:Sig:={args:=[.d (.c (.int .u64)),.d (.c (.int .u64)),.d (.c (.int .u64))],res:=[.c (.int .u64),.c (.int .u64)]}
def zT.sh (_F:Nat) (x y b:Int):Option zT.sg.R :=
 bif decide (0<=x)&&(decide (0<=y)&&(decide (y<18446744073709551616)&&(decide (0<=b)&&decide (b<=1)))) then some (((x-y-b)%18446744073709551616,(if x<y+b then 1 else 0),()),()) else none
def zT.sp (F:Nat):TA zT.sg.args->Option zT.sg.R:=fun x=>zT.sh F x.1 x.2.1 x.2.2.1
section
variable {P:Program} {G:Nat->Option xK}
def ZM:Array Value->Sem Value:=fun args=>do
 let (x,y,b) ← Extern.MathBitsCarry.three "Sub64" args
 pure (Extern.MathBitsCarry.pair ((x+Extern.MathBitsCarry.m64-y-b)%Extern.MathBitsCarry.m64) (if x<y+b then 1 else 0))
theorem RO {P:Program} (x y b:Int) (hx:0<=x) (hy:0<=y) (hy2:y<18446744073709551616) (hb0:0<=b) (hb:b<=1) (w:World) :
  (ZM #[.int .u64 x,.int .u64 y,.int .u64 b]).run P w =
   .ok (.tuple #[.int .u64 ((x-y-b)%18446744073709551616),.int .u64 (if x<y+b then 1 else 0)]) w:=by
 have key:∀k:Nat,k<=1->(ZM #[.int .u64 x,.int .u64 y,.int .u64 (k:Int)]).run P w =
   .ok (Extern.MathBitsCarry.pair ((x.toNat+Extern.MathBitsCarry.m64-y.toNat-k)%Extern.MathBitsCarry.m64) (if x.toNat<y.toNat+k then 1 else 0)) w:=by
  intro k hk;have:k=0\/k=1:=by omega
  rcases this with rfl | rfl<;>rfl
 obtain ⟨k,rfl⟩:=Int.eq_ofNat_of_zero_le hb0;rw[key k (by omega)];obtain ⟨X,rfl⟩:=Int.eq_ofNat_of_zero_le hx;obtain ⟨Y,rfl⟩:=Int.eq_ofNat_of_zero_le hy;simp only[Extern.MathBitsCarry.pair,Extern.MathBitsCarry.m64,Int.toNat_natCast];congr 4
 ·simp; omega
 ·by_cases h:X<Y+k
  ·rw[if_pos h,if_pos (by omega)]; rfl
  ·rw[if_neg h,if_neg (by omega)]; rfl
theorem ye.ok' (F:Nat) {f:FuncId} {fn:Func} (hf:P.funcs[f]? = some fn) (hk:(!fn.body.isSome && !(fn.name == "runtime.NumGoroutine")) = true) (hn:Extern.findNext fn = none) (he:Extern.find fn = some add64Entry) :
  OK P G f ye.sg (ye.sp F):=by
 refine Vv hf hk hn he ?_;intro x y hx w X Iq g0 vs K hE;obtain ⟨a,b,c,u⟩:=x;have hA:=hE.args;match vs,hA with
 | [v1,v2,v3],hA =>
  obtain ⟨_,h1,_,_,h2,_,_,h3,_⟩:=hA;obtain rfl:=Zx h1;obtain rfl:=Zx h2;obtain rfl:=Zx h3;simp only[ye.sp,ye.sh] at hx;rw[cond_eq_ite] at hx;split at hx<;>simp at hx;rename_i hc;simp only[Bool.and_eq_true,decide_eq_true_eq] at hc;subst hx;refine ⟨_,run_add64 a b c hc.1 hc.2.1 hc.2.2.1 hc.2.2.2 w,YP ⟨_,rfl,⟨rfl,rfl⟩,⟨rfl,rfl⟩,trivial⟩ rfl (by simp)⟩
theorem zT.ok' (F:Nat) {f:FuncId} {fn:Func} (hf:P.funcs[f]? = some fn) (hk:(!fn.body.isSome && !(fn.name == "runtime.NumGoroutine")) = true) (hn:Extern.findNext fn = none) (he:Extern.find fn = some ZM) :
  OK P G f zT.sg (zT.sp F):=by
 refine Vv hf hk hn he ?_;intro x y hx w X Iq g0 vs K hE;obtain ⟨a,b,c,u⟩:=x;have hA:=hE.args;match vs,hA with
 | [v1,v2,v3],hA =>
  obtain ⟨_,h1,_,_,h2,_,_,h3,_⟩:=hA;obtain rfl:=Zx h1;obtain rfl:=Zx h2;obtain rfl:=Zx h3;simp only[zT.sp,zT.sh] at hx;rw[cond_eq_ite] at hx;split at hx<;>simp at hx;rename_i hc;simp only[Bool.and_eq_true,decide_eq_true_eq] at hc;subst hx;refine ⟨_,RO a b c hc.1 hc.2.1 hc.2.2.1 hc.2.2.2.1 hc.2.2.2.2 w,YP ⟨_,rfl,⟨rfl,rfl⟩,⟨rfl,rfl⟩,trivial⟩ rfl (by simp)⟩
theorem TP {f:FuncId} {fn:Func} (hf:P.funcs[f]? = some fn) (hk:(fn.body.isSome && !(fn.name == "runtime.NumGoroutine")) = true) {s:Sig} {sp:TA s.args→Option s.R}
  (h:∀x y,sp x=some y->∀w X Iq g vs K,Entry G w X Iq g s.args x vs->Calls P f vs.toArray w fun e w'=>∃v,e=.returned v/\Post w w' X Iq g s x y v K):OK P G f s sp:=by
 intro x y hx w X Iq g0 vs K hE;simp only[Bool.and_eq_true,Bool.not_eq_true'] at hk;refine .inr ⟨?_,(h x y hx w X Iq g0 vs K hE).mono fun e w' he=>?_⟩
 ·have hn:fn.body.isNone=false:=by cases h:fn.body<;>simp_all
  simp only[callFunc,Sem.run_bind,run_program,Result.andThen_ok,hf,hk.2,hn,Bool.false_eq_true,if_false];rfl
 ·obtain ⟨v,rfl,hp⟩:=he
  exact hp
theorem Q4 {w:World} {Iq:Nat->Prop} {g:Nat} {k:IntKind} {m:Int} (h:tg G w Iq) (hg:G g=some ⟨.int k,[m]⟩):w.cell? ⟨g,0,none⟩=some (.int k m):=by
 obtain ⟨_,_,h⟩:=h g _ hg;obtain ⟨us,h1,h2,h3⟩:=h 0 (by simp);have h3:us=[.int k m]:=h3 w (fun _=>True) (fun _=>True) none;subst h3;exact h2.1
@[reducible] def yK.sg:Sig:={args:=[.d (.c .str),.d (.c .str)],res:=[.c .bool]}
def yK.sh (_F:Nat) (s sub:ByteArray):Option yK.sg.R:=bif Nat.blt s.size 4294967281 then some ((Lib.contains s.data.toList sub.data.toList,()),()) else none
def yK.sp (F:Nat):TA yK.sg.args->Option yK.sg.R:=fun x=>yK.sh F x.1 x.2.1
theorem yK.ok' (F:Nat) {f:FuncId} {fn:Func} {g:Nat} {m:Int} (hf:P.funcs[f]? = some fn) (hk:(fn.body.isSome && !(fn.name == "runtime.NumGoroutine")) = true) (hg:G g = some ⟨.int .i64,[m]⟩)
  (h:∀(s sub:ByteArray) (w:World),s.size<4294967281->w.cell? ⟨g,0,none⟩=some (.int .i64 m)->
   Calls P f #[.string s,.string sub] w fun e w'=>e=.returned (.bool (Lib.contains s.data.toList sub.data.toList))/\w'=w):OK P G f yK.sg (yK.sp F):=by
 refine TP hf hk ?_;intro x y hx w X Iq g0 vs K hE;obtain ⟨a,b,u⟩:=x;have hA:=hE.args;match vs,hA with
 | [v1,v2],hA =>
  obtain ⟨_,h1,_,_,h2,_⟩:=hA;obtain rfl:=RH h1;obtain rfl:=RH h2;simp only[yK.sp,yK.sh] at hx;rw[cond_eq_ite] at hx;split at hx<;>simp at hx;rename_i hc;subst hx;refine (h a b w (by simpa using hc) (Q4 hE.glob hg)).mono fun e w' ⟨he,hw⟩=>?_
  subst hw;exact ⟨_,he,YP ⟨rfl,rfl⟩ rfl (by simp)⟩
theorem R6 {w:World} {Iq:Nat->Prop} {g:Nat} {o:xK} {l:List (Nat×Option xK)}
  (h:g<w.heap.size/\¬Iq g/\∀i (h:i<o.l.length),∃us,us.length=o.t.size/\xc w g (0+i*o.t.size) us/\∀w ok okb me,RT w ok okb me o.t o.l[i] us) (hl:tg (fun k=>lk none k l) w Iq) :
  tg (fun k=>lk none k ((g,some o)::l)) w Iq:=by
 intro k p hp;simp only[lk] at hp;cases hb:Nat.beq k g with
 | false=>rw[hb] at hp; exact hl k p hp
 | true =>
  rw[hb] at hp;have hk:=yx hb;subst hk;simp at hp;subst hp;exact h
theorem R5 {w:World} {g:Nat} {k:IntKind} {m:Int} {l:List (Nat×Option xK)} (h:w.cell? ⟨g,0,none⟩=some (.int k m)) (hl:tg (fun k=>lk none k l) w noX) :
  tg (fun j=>lk none j ((g,some ⟨.int k,[m]⟩)::l)) w noX:=by
 refine R6 ⟨?_,id,fun i hi=>?_⟩ hl
 ·unfold World.cell? at h
  split at h<;>try simp at h
  rename_i e;exact (Array.getElem?_eq_some_iff.1 e).1
 ·simp at hi
  subst hi;exact ⟨[.int k m],rfl,⟨by simpa using h,trivial⟩,fun w ok okb me=>rfl⟩
end
end Go.VS
namespace Go.VS
open Go IntKind
@[simp] theorem zD {α β:Type} (x:α) (k:α->Option β):oB (some x) k=k x:=rfl
@[simp] theorem oB_none {α β:Type} (k:α->Option β):oB (none:Option α) k=none:=rfl
theorem ve (n:Int):u64.wrap n=n%18446744073709551616:=by
 show (if (false&&decide (n%18446744073709551616>=9223372036854775808))=true then n%18446744073709551616-18446744073709551616 else n%18446744073709551616)=_;simp
theorem Z5 (n:Int):i64.wrap n=if n%18446744073709551616>=9223372036854775808 then n%18446744073709551616-18446744073709551616 else n%18446744073709551616:=by
 show (if (true&&decide (n%18446744073709551616>=9223372036854775808))=true then n%18446744073709551616-18446744073709551616 else n%18446744073709551616)=_;simp
theorem yT {n:Int} (h1:-9223372036854775808<=n) (h2:n<9223372036854775808):i64.wrap n=n:=by
 rw[Z5];split<;>omega
theorem vk {n:Int} (h1:0<=n) (h2:n<18446744073709551616):u64.wrap n=n:=by
 rw[ve];omega
theorem yZ {i n:Nat} (h:i<n):idx (i:Int) n=true:=by simp[idx]; omega
theorem va {i n:Nat} {N:Int} (hN:N=(n:Int)) (h:i<n):decide ((i:Int)<N)=true:=by subst hN; simp; exact h
theorem vb {i n:Nat} {N:Int} (hN:N=(n:Int)) (h:n<=i):decide ((i:Int)<N)=false:=by subst hN; simp; exact h
theorem xY {t:Ty} {l xs:List t.T} {x:t.T} {i:Nat} (h:l.drop i=x::xs):get t l (Int.toNat (i:Int))=x:=by
 have:l[i]?=some x:=by
  have:=congrArg (·[0]?) h
  simpa using this
 simp[get,this]
theorem xT {α:Type} {l xs:List α} {x:α} {i:Nat} (h:l.drop i=x::xs):i<l.length:=by
 rcases Nat.lt_or_ge i l.length with h' | h'
 ·exact h'
 ·rw[List.drop_of_length_le h'] at h; cases h
theorem xm {α:Type} {l xs:List α} {x:α} {i:Nat} (h:l.drop i=x::xs):l.drop (i+1)=xs:=by
 rw[<-List.drop_drop,h]; rfl
theorem wa {α:Type} {l:List α} {i:Nat} (h:l.drop i=[]):l.length<=i:=by simpa using h
theorem xS {i n:Nat} (h:i<n) (hn:n<9223372036854775807):i64.wrap ((i:Int)+1)=(i:Int)+1:=yT (by omega) (by omega)
theorem y4 (i:Nat):((i+1:Nat):Int)=(i:Int)+1:=by simp
end Go.VS
