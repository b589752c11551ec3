/- A semantics by values for the translated code, joined from smaller texts. -/
import Derived.Laws.StructEq
import Derived.Test.YtmkkoenoplginaaGreatDoorQVa
set_option linter.unusedVariables false
set_option linter.unusedSimpArgs false
set_option linter.unusedSectionVars false
namespace Go.VS
open Go
section
variable {cx:Cx} {Hh:Hn} {m:Gh} {σ:St} {a:Act} {w:World} {o:Oper} {eff:Eff}
theorem RD.one {q:Q}:∀{d:DV} {v:Value},RD w q d v->∀u∈v.cells.toList,u.oneCell'=true:=by
 intro d v h u hu;have:=h.cells;generalize cellsOf d=l at this;generalize v.cells.toList=vs at this hu;induction vs generalizing l with
 | nil=>cases hu
 | cons x vs ih =>
  cases l with
  | nil=>exact this.elim
  | cons c l =>
   rcases List.mem_cons.1 hu with rfl | hu
   ·exact sc_ok this.1.scalar
   ·exact ih l this.2 hu
theorem Xa {P:Program} {t:TypeId} {i:TypeInfo} {b off:Nat} {v:Value} {cs:Array Value} {T:TypeId} (hi:P.info? t=some i) (hs:v.cells.size=i.size)
  (hc:w.heap[b]?=some (.cells cs T (0,0))) (hle:off+v.cells.size<=cs.size) (h1:∀u∈v.cells.toList,u.oneCell'=true) :
  (Instr.storeAt t (.pointer (some ⟨b,off,none⟩)) v).run P w=.ok () (w.setRow b (cs.toList.take off++v.cells.toList++cs.toList.drop (off+v.cells.toList.length)).toArray):=by
 have:=run_storeCells_at P b off T v.cells.toList 0 cs w hc (by simpa using hle) h1;simp only[Nat.add_zero] at this;simp[Instr.storeAt,Instr.sureAddr,storeVar,vf hi,hs,this]
theorem tv (hT:∀t,vo cx.P t (cx.TI t)) (h:Rel cx m σ a w) {t:TypeId} {x y:Operand} (ho:o.op=.store t x y) (hz:(cx.TI t).zs.isEmpty=false) {s b off:Nat} {d' dn:DV} {cs:Array Value} {T:TypeId}
  (hb:m.blk s=some b) (hc:w.heap[b]?=some (.cells cs T (0,0))) (ex:a.eval x=.pointer (some ⟨b,off,none⟩)) (hd:RD w (cx.q σ m w) d' (a.eval y))
  (hl:(cellsOf d').length=(cx.TI t).zs.length) (hle:off+(cx.TI t).zs.length<=cs.size)
  (hn:RB w (cx.q σ m w) dn (cs.toList.take off++(a.eval y).cells.toList++cs.toList.drop (off+(a.eval y).cells.toList.length))) :
  Done cx σ a w o ⟨.undef,.setBox s dn⟩:=by
 obtain ⟨i,d,h1,h2,_⟩:=(hT t).size (by intro e; simp[e] at hz);have hlen:=hd.cells.len;simp only[Array.length_toList] at hlen;have hrun:=Xa (P:=cx.P) (w:=w) (t:=t) (b:=b) (off:=off) (v:=a.eval y) h1 (by omega) hc (by omega) hd.one;refine ⟨Go.undef,_,m,.inr ⟨by simp only[execOp,ho,ex,Sem.run_bind,hrun]; rfl,rfl⟩,fun σ1 hm=>?_⟩;simp only[vL,Option.some.injEq] at hm;subst hm;have:=h.setBox (cs':=(cs.toList.take off++(a.eval y).cells.toList++cs.toList.drop (off+(a.eval y).cells.toList.length)).toArray) hb hc (by simp; omega) (by simpa using hn);exact ⟨this.1,trivial⟩
theorem Sz (hT:∀t,vo cx.P t (cx.TI t)) (hG:xU cx) (h:Rel cx m σ a w) {t:TypeId} {x y:Operand} (ho:o.op=.store t x y)
  (he:YJ (cx.TI t) σ (σ.ev cx.G x) (σ.ev cx.G y)=some (true,eff)):Done cx σ a w o eff:=by
 have hx:=wn hG h x;have hy:=wn hG h y;generalize σ.ev cx.G x=ex at he hx;generalize σ.ev cx.G y=ey at he hy;unfold YJ at he;cases hz:(cx.TI t).zs.isEmpty with
 | true=>simp[hz] at he
 | false =>
 simp only[hz,cond_false] at he;unfold VR at he;split at he
 ·
  rename_i s off d;obtain ⟨b,hb,ex⟩:=hx;have hb:m.blk s=some b:=hb;have hcl:=RD.cells hy;have hlen:=hcl.len;simp only[Array.length_toList] at hlen;split at he
  ·rename_i l hl
   cases hk:Nat.beq (cellsOf d).length (cx.TI t).zs.length&&Nat.ble (off+(cx.TI t).zs.length) l.length with
   | false=>simp[hk] at he
   | true =>
    simp[hk] at he;subst he;simp only[Bool.and_eq_true] at hk;have k1:=yx hk.1;have k2:=Nat.le_of_ble_eq_true hk.2;obtain ⟨b',cs,T,e1,e2,e3⟩:=h.box s _ hl;rw[hb] at e1;simp at e1;subst e1;have hcs:=All2.len e3;simp only[Array.length_toList] at hcs;exact tv hT h ho hz hb e2 ex hy k1 (by omega) (YK e3 hcl)
  ·rename_i y0 hl
   split at he<;>try simp at he
   rename_i yc;cases hk:Nat.beq off 0&&Nat.beq (cx.TI t).zs.length 1 with
   | false=>simp[hk] at he
   | true =>
    simp[hk] at he;subst he;simp only[Bool.and_eq_true] at hk;have k1:=yx hk.1;have k2:=yx hk.2;subst k1;obtain ⟨b',cs,T,e1,e2,v,e3,e4⟩:=h.box s _ hl;rw[hb] at e1;simp at e1;subst e1;have hcs:=congrArg List.length e3;simp only[Array.length_toList,List.length_cons,List.length_nil] at hcs;obtain ⟨v',f1,f2⟩:=RD.box (w:=w) (q:=cx.q σ m w) (d:=.c yc) hy;refine tv (d':=.c yc) hT h ho hz hb e2 ex hy (by simpa [cellsOf] using k2.symm) (by omega) ⟨v',?_,f2⟩;rw[e3,f1]; simp
  ·rename_i k l hl
   split at he<;>try simp at he
   rename_i k' l';obtain ⟨rfl,he⟩:=he;cases h0:Nat.beq off 0 with
   | false=>simp[h0] at he
   | true =>
    simp[h0] at he;obtain ⟨⟨n1,n2⟩,rfl⟩:=he;have h0:=yx h0;have n1:=yx (x:=l'.length) (y:=l.length) (by simpa using n1);have n2:=yx (x:=(cx.TI t).zs.length) (y:=l.length) (by simpa using n2);subst h0;obtain ⟨b',cs,T,e1,e2,e3⟩:=h.box s _ hl;rw[hb] at e1;simp at e1;subst e1;simp only[RB] at e3;have hcs:=congrArg List.length e3;simp only[Array.length_toList,List.length_map] at hcs;have f1:=RD.box (w:=w) (q:=cx.q σ m w) (d:=.a k' l') hy;simp only[RB] at f1;refine tv (d':=.a k' l') hT h ho hz hb e2 ex hy (by simp[cellsOf]; omega) (by omega) ?_;simp only[RB,f1,List.take_zero,List.nil_append,List.length_map,Nat.zero_add];rw[List.drop_eq_nil_of_le (by simp; omega)];simp
  ·simp at he
 ·
  rename_i s i k n;obtain ⟨b,cs,T,hb,ex,hc,hi⟩:=hx;have hb:m.blk s=some b:=hb;split at he<;>try simp at he
  rename_i k' l hl;obtain ⟨rfl,he⟩:=he;cases hk:Nat.beq (cx.TI t).zs.length 1 with
  | false=>simp[hk] at he
  | true =>
   simp[hk] at he;subst he;have hk:=yx hk;obtain ⟨b',cs',T',e1,e2,e3⟩:=h.box s _ hl;rw[hb] at e1;simp at e1;subst e1;rw[hc] at e2;simp at e2;obtain ⟨rfl,rfl⟩:=e2;simp only[RB] at e3;have hcs:=congrArg List.length e3;simp only[Array.length_toList,List.length_map] at hcs;refine tv (d':=.c (.v (.int k' n))) hT h ho hz hb hc ex hy (by simpa [cellsOf] using hk.symm) (by omega) ?_;obtain ⟨ey,_⟩:=hy.v_eq;simp only[RB,ey,Value.cells,e3];apply List.ext_getElem?;intro j;rw[uc (by simp; omega),List.map_set,List.getElem?_set];by_cases hj:i=j
   ·subst hj; rw[if_pos ⟨Nat.le_refl _,by simp⟩,if_pos rfl,if_pos (by simp; omega)]; simp
   ·rw[if_neg (by simp; omega),if_neg hj]
 ·
  rename_i s i off d;obtain ⟨hd,b,o',e1,e2,e3,e4⟩:=hx;split at he<;>try simp at he
  rename_i ow hown;have hcl:=RD.cells hy;have hlen:=hcl.len;simp only[Array.length_toList] at hlen;cases hk:Nat.beq (cellsOf d).length (cx.TI t).zs.length&&Nat.ble (off+(cx.TI t).zs.length) ow.t.size with
  | false=>simp[hk] at he
  | true =>
  simp[hk] at he;simp only[Bool.and_eq_true] at hk;have k1:=yx hk.1;have k2:=Nat.le_of_ble_eq_true hk.2;split at he<;>simp at he;rename_i y' hy';subst he;obtain ⟨hd',f1,l1,l2,l3,l4⟩:=h.own s ow hown;rw[show (cx.q σ m w).m.hd s=m.hd s from rfl] at e1;have hhd:=e1;rw[e1] at f1;simp at f1;subst f1;have hcap:0<hd.cap:=by omega
  obtain ⟨b',off',cs,T,g1,g2,g3,g4⟩:=l4 hcap;rw[e2] at g1;simp at g1;obtain ⟨rfl,rfl⟩:=g1;have hi:i<ow.l.length:=by omega
  obtain ⟨us,u1,u2,u3⟩:=g4 i hi;rw[Uh hi] at hy';have hspl:=YK (off:=off) (xJ (q:=cx.q σ m w) u3) hcl;have hrt:=wh (cx.q_ok σ m w) hy' hspl;have hmul:(i+1)*ow.t.size<=hd.cap*ow.t.size:=Nat.mul_le_mul_right _ (by omega);rw[l2] at g3 e4;rw[Nat.succ_mul] at hmul;obtain ⟨it,dt,q1,q2,_⟩:=(hT t).size (by intro e; simp[e] at hz);have hrun:=Xa (P:=cx.P) (w:=w) (t:=t) (b:=b) (off:=o'+i*ow.t.size+off) (v:=a.eval y) q1 (by omega) g2 (by omega) (RD.one hy);generalize hvs:(a.eval y).cells.toList=vs at hrun hrt hcl hspl;have hvl:vs.length=(cx.TI t).zs.length:=by rw[<-hvs]; simp; omega
  refine ⟨Go.undef,_,{m with hd:=m.hd},.inr ⟨by simp only[execOp,ho,e4,Sem.run_bind,hrun]; rfl,rfl⟩,fun σ1 hm=>?_⟩;simp only[vL,Option.some.injEq] at hm;subst hm;have hle:(o'+i*ow.t.size+off)+vs.length<=cs.toList.length:=by simp; omega
  have hres:=h.setOwn (r:=s) (s:=s) (o:=ow) (o':=⟨ow.t,ow.l.set i y'⟩) (hd:=hd) (hd':=hd) (cs:=cs)
   (cs':=(cs.toList.take (o'+i*ow.t.size+off)++vs++cs.toList.drop (o'+i*ow.t.size+off+vs.length)).toArray) (own':=upd σ.own s (.is ⟨ow.t,ow.l.set i y'⟩)) (hds:=m.hd) hown hhd e2 hcap g2 (by simp; omega) (.inl ⟨rfl,rfl⟩) ⟨o',e2⟩
   (fun x=>by
    by_cases hx:x=s
    ·subst hx; simp[yp]
    ·simp[yN _ _ hx,hx])
   (fun x=>by
    by_cases hx:x=s
    ·subst hx; simp[hhd]
    ·simp[hx])
   (fun hq=>by
    have hnew:(w.setRow b (cs.toList.take (o'+i*ow.t.size+off)++vs++cs.toList.drop (o'+i*ow.t.size+off+vs.length)).toArray).heap[b]?=some (.cells (cs.toList.take (o'+i*ow.t.size+off)++vs++cs.toList.drop (o'+i*ow.t.size+off+vs.length)).toArray T (0,0)):=setRow_heap w b cs _ T (0,0) g2;refine ⟨by simpa using l1,l2,l3,fun _=>⟨b,o',_,T,e2,hnew,by rw[l2]; simp; omega,fun j hj=>?_⟩⟩;have hj':j<ow.l.length:=by simpa using hj
    dsimp only;have hcell:∀k,(w.setRow b (cs.toList.take (o'+i*ow.t.size+off)++vs++cs.toList.drop (o'+i*ow.t.size+off+vs.length)).toArray).cell? ⟨b,k,none⟩ =
      if o'+i*ow.t.size+off<=k/\k<o'+i*ow.t.size+off+vs.length then vs[k-(o'+i*ow.t.size+off)]? else w.cell? ⟨b,k,none⟩:=by
     intro k;have:=uc hle k;simp only[World.cell?,hnew,g2];simpa using this
    by_cases hij:i=j
    ·subst hij
     refine ⟨us.take off++vs++us.drop (off+vs.length),by simp; omega,?_,?_⟩
     ·refine wT fun k v hk=>?_
      rw[uc (by omega)] at hk;rw[hcell];split at hk
      ·rename_i hk'
       rw[if_pos (by omega),<-hk];congr 1; omega
      ·rename_i hk'
       rw[if_neg (by omega)];exact xR u2 hk
     ·simp only[List.getElem_set_self]
      exact RT.mono hq.ok hq.okb hq.me _ _ _ hrt
    ·obtain ⟨us',v1,v2,v3⟩:=g4 j hj'
     refine ⟨us',v1,wT fun k v hk=>?_,?_⟩
     ·have hk':k<us'.length:=by
       rcases Nat.lt_or_ge k us'.length with h' | h'
       ·exact h'
       ·rw[List.getElem?_eq_none h'] at hk; simp at hk
      rw[hcell,if_neg ?_]
      ·exact xR v2 hk
      ·rcases Nat.lt_or_gt_of_ne hij with h' | h'
       ·have:=Nat.mul_le_mul_right ow.t.size h'
        rw[Nat.succ_mul] at this;omega
       ·have:=Nat.mul_le_mul_right ow.t.size h'
        rw[Nat.succ_mul] at this;omega
     ·simp only[List.getElem_set_ne hij]
      exact RT.mono hq.ok hq.okb hq.me _ _ _ v3)
  exact ⟨hres.1,trivial⟩
 ·simp at he
theorem XC {Hh:Hn} (hme:cx.me=Hh.me) {s:Nat} (h:(!(qi Hh s))=true):cx.me≠some s:=by
 intro e;rw[hme] at e;unfold qi at h;rw[e] at h;simp at h
theorem Rel.freeze (h:Rel cx m σ a w) {s b:Nat} {l:List C} {cs:Array Value} {T:TypeId} (hb:m.blk s=some b) {d:DV} (hl:σ.box s=some d) (hna:cx.na<=s) (hnm:cx.me≠some s)
  (hc:w.heap[b]?=some (.cells cs T (0,0))) (hr:All2 (RC w (cx.q σ m w)) l cs.toList) (hp:∀c∈l,wJ c=true) :
  Rel cx {m with blk:=upd m.blk s none} {σ with env:=fun x=>ZC s l (σ.env x),box:=upd σ.box s none} a w /\
   QLe w w (cx.q σ m w) (cx.q {σ with env:=fun x=>ZC s l (σ.env x),box:=upd σ.box s none} {m with blk:=upd m.blk s none} w) /\
   (cx.q {σ with env:=fun x=>ZC s l (σ.env x),box:=upd σ.box s none} {m with blk:=upd m.blk s none} w).okb b:=by
 have how:∀p k,xz {σ with env:=fun x=>ZC s l (σ.env x),box:=upd σ.box s none} {m with blk:=upd m.blk s none} p k->xz σ m p k/\p≠.inl s:=by
  intro p k hp;cases p with
  | inl x =>
   by_cases hx:x=s
   ·subst hx; simp[xz,yp] at hp
   ·simp only[xz,yN _ _ hx] at hp; exact ⟨hp,by simpa using hx⟩
  | inr x=>exact ⟨hp,by simp⟩
 have hq:QLe w w (cx.q σ m w) (cx.q {σ with env:=fun x=>ZC s l (σ.env x),box:=upd σ.box s none} {m with blk:=upd m.blk s none} w) :=
  Cx.qle (Nat.le_refl _) (fun k _ ⟨p,hp⟩=>⟨p,(how p k hp).1⟩) (fun _ _ _ _=>rfl)
 have hqh:QLeH w w (cx.q σ m w) (cx.q {σ with env:=fun x=>ZC s l (σ.env x),box:=upd σ.box s none} {m with blk:=upd m.blk s none} w):={toQLe:=hq,hd:=fun _ _ h=>h};have hob:=h.dom (.inl s) b hb;have hokb:(cx.q {σ with env:=fun x=>ZC s l (σ.env x),box:=upd σ.box s none} {m with blk:=upd m.blk s none} w).okb b:=by
  refine ⟨hob.1,fun ⟨p,hp⟩=>?_,?_⟩
  ·obtain ⟨k1,k2⟩:=how p b hp
   exact k2 (h.inj p (.inl s) b k1 hb)
  ·intro hio
   rcases hob.2 with h' | ⟨_,s',e,h'⟩
   ·exact h'.2.1 hio
   ·simp at e; omega
 refine ⟨?_,hq,hokb⟩;exact {
  size:=h.size
  defers:=h.defers
  env:=fun t=>by
   have:=h.env t;show RE w _ (ZC s l (σ.env t)) _;generalize σ.env t=e at this;cases e with
   | loc s' off =>
    simp only[ZC];cases hs:Nat.beq s' s with
    | true =>
     have hs:=yx hs;subst hs;obtain ⟨b',hb',e⟩:=this;have hbb:b'=b:=by rw[show (cx.q σ m w).m.blk s'=m.blk s' from rfl,hb] at hb'; simpa using hb'.symm
     subst hbb;refine ⟨b',off,cs.toList.drop off,e,hokb,?_,?_,fun c hc=>hp c (List.mem_of_mem_drop hc)⟩
     ·have:=vB off (xH hc); simpa using this
     ·exact (hr.mono fun _ _=>RC.mono hqh).drop off
    | false =>
     obtain ⟨b',hb',e⟩:=this;have hne:s'≠s:=fun e=>by subst e; simp at hs
     exact ⟨b',by show upd m.blk s none s'=some b'; rw[yN _ _ hne]; exact hb',e⟩
   | locx s' i =>
    simp only[ZC];cases hs:Nat.beq s' s with
    | true=>exact trivial
    | false =>
     obtain ⟨b',cs',T',hb',e⟩:=this;have hne:s'≠s:=fun e=>by subst e; simp at hs
     exact ⟨b',cs',T',by show upd m.blk s none s'=some b'; rw[yN _ _ hne]; exact hb',e⟩
   | undef=>exact trivial
   | skip=>exact this
   | d x=>exact RD.mono hqh this
   | t x=>obtain ⟨vs,e,r⟩:=this; exact ⟨vs,e,r.mono fun _ _=>RD.mono hqh⟩
   | opos s' i off=>exact this
   | map k j l=>exact this
   | lt t l=>exact ⟨RC.mono (c:=.sl t l) hqh this.1,this.2⟩
   | adr x=>obtain ⟨b',off,vs,e,hb',hc',r,hp'⟩:=this; exact ⟨b',off,vs,e,(hq.okb b' hb').1,hc',r.mono fun _ _=>RC.mono hqh,hp'⟩
   | adrl t x =>
    obtain ⟨b',off,e,hb',r⟩:=this;exact ⟨b',off,e,(hq.okb b' hb').1,fun i hi=>by
     obtain ⟨us,h1,h2,h3⟩:=r i hi;exact ⟨us,h1,h2,RT.mono hq.ok hq.okb hq.me t _ _ h3⟩⟩
  box:=fun x d hx=>by
   by_cases e:x=s
   ·subst e; simp[yp] at hx
   ·simp only[yN _ _ e] at hx
    obtain ⟨b',cs',T',e1,e2,e3⟩:=h.box x d hx;exact ⟨b',cs',T',by simpa [yN _ _ e] using e1,e2,RB.mono hqh e3⟩
  nobox:=fun x k hx=>by
   by_cases e:x=s
   ·subst e; simp[yp] at hx
   ·simp only[yN _ _ e] at hx ⊢; exact h.nobox x k hx
  own:=fun x o2 hx=>by
   obtain ⟨hh',e',l⟩:=h.own x o2 hx;exact ⟨hh',e',l.mono hq fun _ _ _ _=>rfl⟩
  noown:=h.noown
  dom:=fun p k hp=>h.dom p k (how p k hp).1
  inj:=fun p p' k hp hp'=>h.inj p p' k (how p k hp).1 (how p' k hp').1
  mem:=h.mem
  grown:=h.grown
  oldX:=h.oldX
  argna:=h.argna
  arg:=fun x b b0 hx h0=>by
   by_cases e:x=s
   ·subst e; simp[yp] at hx
   ·simp only[yN _ _ e] at hx; exact h.arg x b b0 hx h0
  argp:=h.argp
  argh:=h.argh
  iosz:=h.iosz
  os:=h.os
  tape:=h.tape
  output:=h.output
  me:=h.me
  melt:=fun r hr hl hb=>by
   have e:r≠s:=fun e=>hnm (e ▸ hr)
   exact h.melt r hr hl (by simpa [yN _ _ e] using hb)
  mebox:=fun r b hr hb=>by
   by_cases e:r=s
   ·subst e; simp[yp] at hb
   ·exact h.mebox r b hr (by simpa [yN _ _ e] using hb)}
end
end Go.VS
namespace Go.VS
open Go
section
variable {cx:Cx} {Hh:Hn} {m:Gh} {σ:St} {a:Act} {w:World} {o:Oper} {eff:Eff}
theorem WZ (hna:cx.na=Hh.na) (hme:cx.me=Hh.me) (hG:xU cx) (h:Rel cx m σ a w) {f:Nat} {fa fb:Array Operand} (ho:o.op=.makeFunc (.func f) fa fb)
  (he:(match fa.toList,fb.toList with
  | [],[]=>ZD (.fn (f+1))
  | [],[x]=>match σ.ev cx.G x with
   | .loc s off=>bif Nat.beq off 0 then (match σ.box s with
    | some d=>match (Hh.CT (o.dst.getD 0)).decA (cellsOf d) with
     | some y=>bif (cellsOf d).all wJ&&(Nat.ble Hh.na s&&!(qi Hh s)) then some (true,(⟨.d (.c (.clo f (Hh.CT (o.dst.getD 0)) y)),.freeze s (cellsOf d)⟩:Eff)) else none
     | none=>none
    | none=>none) else none
   | .adr l=>match (Hh.CT (o.dst.getD 0)).decA l with
    | some y=>ZD (.clo f (Hh.CT (o.dst.getD 0)) y)
    | none=>none
   | _=>none
  | [],[x,z]=>match σ.ev cx.G x,σ.ev cx.G z,Hh.CT (o.dst.getD 0) with
   | .loc s off,.loc s' off',.pair t u=>bif Nat.beq off 0&&Nat.beq off' 0&&!(Nat.beq s' s) then (match σ.box s,σ.box s' with
    | some (.g l),some (.g l')=>match t.decA l,u.decA l' with
     | some y,some y'=>bif l.all wJ&&l'.all wJ&&(Nat.ble Hh.na s&&!(qi Hh s))&&(Nat.ble Hh.na s'&&!(qi Hh s')) then some (true,(⟨.d (.c (.clo2 f t y u y')),.freeze2 s l s' l'⟩:Eff)) else none
     | _,_=>none
    | _,_=>none) else none
   | _,_,_=>none
  | [x],[]=>match σ.ev cx.G x with
   | .d (.g l)=>match (Hh.CT (o.dst.getD 0)).decA l with
    | some y=>ZD (.bnd (f+1) (Hh.CT (o.dst.getD 0)) y)
    | none=>none
   | .loc s off=>bif Nat.beq off 0&&qi Hh s then ZD (.fnb (f+1)) else none
   | _=>none
  | _,_=>none)=some (true,eff)):Done cx σ a w o eff:=by
 split at he
 ·rename_i h1 h2
  simp only[ZD,ent,Option.some.injEq,Prod.mk.injEq,true_and] at he;subst he;refine Done.pure (v:=.func (.func f) #[] #[]) h ?_ rfl;have e1:fa=#[]:=by simpa using h1
  have e2:fb=#[]:=by simpa using h2
  simp[execOp,ho,Instr.makeFunc,e1,e2]
 ·rename_i x h1 h2
  have e1:fa=#[]:=by simpa using h1
  have e2:fb=#[x]:=by apply Array.ext'; simpa using h2
  have hx:=wn hG h x;have hrun:(execOp a.eval o).run cx.P w=.ok (.value (.func (.func f) #[] #[a.eval x])) w:=by simp[execOp,ho,Instr.makeFunc,e1,e2]
  generalize σ.ev cx.G x=ex at he hx;split at he
  ·rename_i s off
   cases h0:Nat.beq off 0 with
   | false=>simp[h0] at he
   | true =>
    simp only[h0,cond_true] at he;have h0:=yx h0;subst h0;split at he<;>try simp at he
    rename_i d hl;split at he<;>try simp at he
    rename_i y hy;cases hk:(cellsOf d).all wJ&&(Nat.ble Hh.na s&&!(qi Hh s)) with
    | false=>simp[hk] at he
    | true =>
     simp only[hk,cond_true,Option.some.injEq,Prod.mk.injEq,true_and] at he;subst he;simp only[Bool.and_eq_true] at hk;obtain ⟨b,hb,ex⟩:=hx;have hb:m.blk s=some b:=hb;obtain ⟨b',cs,T,k1,k2,k3⟩:=h.box s _ hl;rw[hb] at k1;simp at k1;subst k1;have k3:=k3.cells;obtain ⟨r1,r2,r3⟩:=h.freeze hb hl (by rw[hna]; exact Nat.le_of_ble_eq_true hk.2.1) (XC hme hk.2.2) k2 k3 (by simpa using hk.1);refine ⟨_,w,{m with blk:=upd m.blk s none},.inl hrun,fun σ1 hm=>?_⟩;simp only[vL,Option.some.injEq] at hm;subst hm;have hrt:=wh (Cx.q_ok _ _ _ _) hy (All2.mono (fun _ _=>RC.mono {toQLe:=r2,hd:=fun _ _ h=>h}) k3);exact ⟨r1,b,0,cs.toList,by rw[ex],r3,RT.len _ _ _ hrt,xH k2,hrt⟩
  ·rename_i l
   split at he<;>try simp at he
   rename_i y hy;obtain ⟨_,rfl⟩:=Zq he;obtain ⟨b,off,vs,k1,k2,k3,k4,k5⟩:=hx;have hrt:=wh (cx.q_ok σ m w) hy k4;exact Done.pure h (by rw[hrun,k1]) ⟨b,off,vs,rfl,k2,RT.len _ _ _ hrt,k3,hrt⟩
  ·simp at he
 ·rename_i x z h1 h2
  have e1:fa=#[]:=by simpa using h1
  have e2:fb=#[x,z]:=by apply Array.ext'; simpa using h2
  have hx:=wn hG h x;have hz:=wn hG h z;have hrun:(execOp a.eval o).run cx.P w=.ok (.value (.func (.func f) #[] #[a.eval x,a.eval z])) w:=by simp[execOp,ho,Instr.makeFunc,e1,e2]
  generalize σ.ev cx.G x=ex at he hx;generalize σ.ev cx.G z=ez at he hz;split at he<;>try simp at he
  rename_i s off s' off' t u _;cases h0:Nat.beq off 0&&Nat.beq off' 0&&!(Nat.beq s' s) with
  | false=>simp[h0] at he
  | true =>
   simp only[h0,cond_true] at he;simp only[Bool.and_eq_true,Bool.not_eq_true'] at h0;obtain ⟨⟨o1,o2⟩,hne⟩:=h0;have o1:=yx o1;have o2:=yx o2;subst o1;subst o2;have hne:s'≠s:=fun e=>by subst e; simp at hne
   split at he<;>try simp at he
   rename_i l l' hl hl';split at he<;>try simp at he
   rename_i y y' hy hy';cases hk:l.all wJ&&l'.all wJ&&(Nat.ble Hh.na s&&!(qi Hh s))&&(Nat.ble Hh.na s'&&!(qi Hh s')) with
   | false=>simp[hk] at he
   | true =>
    simp only[hk,cond_true,Option.some.injEq,Prod.mk.injEq,true_and] at he;subst he;simp only[Bool.and_eq_true] at hk;obtain ⟨⟨⟨p1,p2⟩,p3⟩,p4⟩:=hk;obtain ⟨b,hb,ex⟩:=hx;obtain ⟨c,hc,ez⟩:=hz;have hb:m.blk s=some b:=hb;have hc:m.blk s'=some c:=hc;obtain ⟨b',cs,T,k1,k2,k3⟩:=h.box s _ hl;rw[hb] at k1;simp at k1;subst k1;obtain ⟨r1,r2,r3⟩:=h.freeze hb hl (by rw[hna]; exact Nat.le_of_ble_eq_true p3.1) (XC hme p3.2) k2 k3 (by simpa using p1);have hl2:(upd σ.box s none) s'=some (.g l'):=by rw[yN _ _ hne]; exact hl'
    have hc2:(upd m.blk s none) s'=some c:=by rw[yN _ _ hne]; exact hc
    obtain ⟨c',cs',T',j1,j2,j3⟩:=r1.box s' _ hl2;have j1:(upd m.blk s none) s'=some c':=j1;rw[hc2] at j1;simp at j1;subst j1;obtain ⟨q1,q2,q3⟩:=r1.freeze (s:=s') hc2 hl2 (by rw[hna]; exact Nat.le_of_ble_eq_true p4.1) (XC hme p4.2) j2 j3 (by simpa using p2);refine ⟨_,w,{m with blk:=upd (upd m.blk s none) s' none},.inl hrun,fun σ1 hm=>?_⟩;simp only[vL,Option.some.injEq] at hm;subst hm;have hrt:=wh (Cx.q_ok _ _ _ _) hy (All2.mono (fun _ _=>RC.mono {toQLe:=r2,hd:=fun _ _ h=>h}) k3);have hrt2:=RT.mono q2.ok q2.okb q2.me _ _ _ hrt;have hrt':=wh (Cx.q_ok _ _ _ _) hy' (All2.mono (fun _ _=>RC.mono {toQLe:=q2,hd:=fun _ _ h=>h}) j3);exact ⟨q1,b,0,cs.toList,c,0,cs'.toList,by rw[ex,ez],⟨(q2.okb b r3).1,RT.len _ _ _ hrt,xH k2,hrt2⟩,⟨q3,RT.len _ _ _ hrt',xH j2,hrt'⟩⟩
 ·rename_i x h1 h2
  have e1:fa=#[x]:=by apply Array.ext'; simpa using h1
  have e2:fb=#[]:=by simpa using h2
  have hx:=wn hG h x;have hrun:(execOp a.eval o).run cx.P w=.ok (.value (.func (.func f) #[a.eval x] #[])) w:=by simp[execOp,ho,Instr.makeFunc,e1,e2]
  generalize σ.ev cx.G x=ex at he hx;split at he<;>try simp at he
  ·rename_i l
   split at he<;>try simp at he
   rename_i y hy;obtain ⟨_,rfl⟩:=Zq he;obtain ⟨cells,k1,k2⟩:=hx;have hrt:=wh (cx.q_ok σ m w) hy k2;exact Done.pure h (by rw[hrun,k1]) (.inr ⟨f,cells,rfl,rfl,hrt⟩)
  ·rename_i s off
   cases hk:Nat.beq off 0&&qi Hh s with
   | false=>simp[hk] at he
   | true =>
    simp only[hk,cond_true] at he;obtain ⟨_,rfl⟩:=Zq he;rw[Bool.and_eq_true] at hk;obtain ⟨k1,k2⟩:=hk;have k1:=yx k1;subst k1;unfold qi at k2;split at k2
    ·rename_i r hr
     have k2:=yx k2;subst k2;obtain ⟨b,b1,b2⟩:=hx;exact Done.pure h (by rw[hrun,b2]) (.inr ⟨f,b,rfl,h.mebox s b (hme.trans hr) b1,rfl⟩)
    ·cases k2
 ·simp at he
def Lent (cx:Cx) (σ:St) (m:Gh) (w:World) (b:Nat):Prop:=b<w.heap.size/\((cx.q σ m w).okb b\/∃s,xz σ m (.inr s) b)
theorem OwnRep.slr {q:Q} {hd:Hd} {ow:xK} {good:Nat->Prop} (h:OwnRep w q hd ow) (hg:∀b off,hd.a=some ⟨b,off,none⟩->0<hd.cap->good b) :
  SlR w good ow.t.size (RT w q.ok q.okb q.m.me ow.t) ow.l (.slice hd.a hd.len hd.cap):=by
 obtain ⟨l1,l2,l3,l4⟩:=h;refine ⟨hd.a,hd.cap,by rw[l1],by omega,fun hne=>?_⟩;have:0<ow.l.length:=List.length_pos_iff.2 hne;obtain ⟨b,off,cs,T,e1,e2,e3,e4⟩:=l4 (by omega);exact ⟨b,off,e1,hg b off e1 (by omega),e4⟩
theorem U7 (h:Rel cx m σ a w) {s:Nat} {ow:xK} {hd:Hd} (ho:σ.own s=.is ow) (hh:m.hd s=some hd) (b off:Nat) (e:hd.a=some ⟨b,off,none⟩) (hc:0<hd.cap):Lent cx σ m w b :=
 have h1:xz σ m (.inr s) b:=⟨ow,hd,off,ho,hh,e,hc⟩
 ⟨(h.dom _ _ h1).1,.inr ⟨s,h1⟩⟩
theorem XU (h:Rel cx m σ a w) {e:Ent} {v:Value} {ow:xK} (he:vv σ e=some ow) (hr:RE w (cx.q σ m w) e v) :
  SlR w (Lent cx σ m w) ow.t.size (RT w (cx.q σ m w).ok (cx.q σ m w).okb m.me ow.t) ow.l v:=by
 unfold vv at he;split at he
 ·simp at he; subst he
  exact SlR.mono (fun b hb=>⟨⟨hb.1,.inl (cx.q_ok σ m w b hb)⟩,fun _ _ h=>h⟩) (fun _ _ h=>h) hr
 ·simp at he; subst he
  exact SlR.mono (fun b hb=>⟨⟨hb.1,.inl hb⟩,fun _ _ h=>h⟩) (fun _ _ h=>h) hr
 ·rename_i s
  split at he<;>simp at he;rename_i o' ho;subst he;obtain ⟨hd,e1,e2⟩:=hr;obtain ⟨hd',f1,l⟩:=h.own s _ ho;rw[show (cx.q σ m w).m.hd s=m.hd s from rfl] at e1;rw[e1] at f1;simp at f1;subst f1;rw[e2];exact l.slr (U7 h ho e1)
 ·rename_i s lo hi
  split at he<;>simp at he;rename_i o' ho;subst he;obtain ⟨hd,e1,e2,e3,e4⟩:=hr;obtain ⟨hd',f1,l⟩:=h.own s _ ho;rw[show (cx.q σ m w).m.hd s=m.hd s from rfl] at e1;rw[e1] at f1;simp at f1;subst f1;rw[e4,l.2.1];exact (l.slr (U7 h ho e1)).cut e2 (by rw[<-l.1]; exact e3)
 ·simp at he
theorem OwnRep.front {q:Q} {hd:Hd} {ow:xK} (h:OwnRep w q hd ow) {hi:Nat} (hh:hi<=hd.len) :
  OwnRep w q ⟨if hd.cap=0 then hd.a else hd.a.map (·.add (0*hd.sz)),hi,hd.cap,hd.sz⟩ ⟨ow.t,ow.l.take hi⟩:=by
 obtain ⟨l1,l2,l3,l4⟩:=h;refine ⟨by simp; omega,l2,by simp only; omega,fun hc=>?_⟩;obtain ⟨b,off,cs,T,e1,e2,e3,e4⟩:=l4 hc;refine ⟨b,off,cs,T,?_,e2,e3,fun i hi'=>?_⟩
 ·simp only at hc
  simp only;rw[if_neg (by omega),e1];simp[ui]
 ·simp only at hi' ⊢
  obtain ⟨us,u1,u2,u3⟩:=e4 i (by simp at hi'; omega);exact ⟨us,u1,u2,by simpa using u3⟩
theorem OwnRep.emp {q:Q} (t:Ty):OwnRep w q ⟨.none,0,0,t.size⟩ ⟨t,[]⟩:=⟨rfl,rfl,Nat.le_refl _,fun h=>absurd h (by simp)⟩
theorem Elems.sc {α:Type} {R:α->List Value->Prop} {sz:Nat} (hR:∀x us,R x us->∀u∈us,scalar u=true):∀{L:List α} {cs:List Value},Elems R sz L cs->cs.length=L.length*sz->∀u∈cs,scalar u=true
 | [],cs,_,hl,u,hu=>by
  have:cs=[]:=List.eq_nil_of_length_eq_zero (by simpa using hl);subst this; cases hu
 | _::L,_,⟨us,r,e,h1,h2,h3⟩,hl,u,hu=>by
  subst e;rcases List.mem_append.1 hu with h | h
  ·exact hR _ _ h2 u h
  ·exact Elems.sc hR h3 (by simp[Nat.succ_mul] at hl; omega) u h
theorem ST {q:Q} {P:Program} {good:Nat->Prop} {t:Ty} {l:List t.T} {v:Value} {tx e':TypeId} (hk:P.underlying tx=some (.slice e')) (h:SlR w good t.size (RT w q.ok q.okb q.m.me t) l v) :
  ∃news,Go.Src P t.size tx v l.length news w/\Elems (RT w q.ok q.okb q.m.me t) t.size l news:=by
 obtain ⟨ad,cap,e,_,h⟩:=h;subst e;by_cases hl:l=[]
 ·subst hl
  refine ⟨[],?_,trivial⟩;cases ad with
  | none=>exact Go.Src.ofNil w hk cap
  | some ad=>exact Go.Src.ofSlice w hk ad 0 cap [] (by simp) (by simp) (by simp)
 ·obtain ⟨b,off,e,_,h'⟩:=h hl
  subst e;obtain ⟨cs,c1,c2,c3⟩:=Elems.of h';refine ⟨cs,Go.Src.ofSlice w hk _ l.length cap cs c1 (fun j u hj=>by rw[ui]; exact xR c2 hj) (fun u hu=>?_),c3⟩;exact sc_ok (c3.sc (fun x us h=>RT.sc t x us h) c1 u hu)
theorem SM {q:Q} {P:Program} {t:Ty} {et:TypeId} {i:TypeInfo} {z:Value} {tx ty tr e':TypeId} (ht:P.underlying tx=some (.slice et)) (hi:P.info? et=some i) (hz:i.zero=some z)
  (hzs:z.cells.size=t.size) (his:i.size=t.size) (hb:i.bytes<=128) (hk:P.underlying ty=some (.slice e'))
  {hd:Hd} {L ys:List t.T} {v:Value} {good:Nat->Prop} (hL:OwnRep w q hd ⟨t,L⟩) (hy:SlR w good t.size (RT w q.ok q.okb q.m.me t) ys v) (hm:L.length+ys.length<=xp) :
  (hd.cap=0/\ys=[]/\L=[]/\(Builtin.append_ #[tx,ty] tr #[.slice hd.a hd.len hd.cap,v]).run P w=.ok (.slice hd.a 0 0) w) \/
  (∃b off cs cs' T,0<hd.cap/\hd.len+ys.length<=hd.cap/\hd.a=some ⟨b,off,none⟩/\w.heap[b]?=some (.cells cs T (0,0))/\cs'.size=cs.size/\off+hd.cap*hd.sz<=cs.size /\
   (Builtin.append_ #[tx,ty] tr #[.slice hd.a hd.len hd.cap,v]).run P w=.ok (.slice hd.a (L++ys).length hd.cap) (w.setRow b cs') /\
   ∃all,xc (w.setRow b cs') b off all/\Elems (RT w q.ok q.okb q.m.me t) t.size (L++ys) all) \/
  (∃cs' cap w',(L++ys).length<=cap/\cap*t.size<=cs'.size/\w'.heap=w.heap.push (.cells cs' et (0,0))/\w'.os=w.os/\w'.tape=w.tape/\w'.output=w.output /\
   (Builtin.append_ #[tx,ty] tr #[.slice hd.a hd.len hd.cap,v]).run P w=.ok (.slice (some ⟨w.heap.size,0,none⟩) (L++ys).length cap) w' /\
   Elems (RT w q.ok q.okb q.m.me t) t.size (L++ys) cs'.toList):=by
 obtain ⟨l1,l2,l3,l4⟩:=hL;simp only at l1 l2 l4;obtain ⟨news,hs,hn⟩:=ST hk hy;have hs':Go.Src P i.size ty v ys.length news w:=by rw[his]; exact hs
 by_cases hr:hd.len+ys.length<=hd.cap
 ·by_cases hc:hd.cap=0
  ·have e1:ys=[]:=List.eq_nil_of_length_eq_zero (by omega)
   have e2:L=[]:=List.eq_nil_of_length_eq_zero (by omega);refine .inl ⟨hc,e1,e2,?_⟩;have hn0:news=[]:=List.eq_nil_of_length_eq_zero (by rw[hs.newsLen,e1]; simp);have hlen:=hs'.len;have hcl:=hs'.cells;rw[e1,hn0] at hcl;rw[e1] at hlen;simp only[List.length_nil] at hlen hcl;have hl0:hd.len=0:=by omega
   rw[hl0,hc];cases hd.a<;>simp[Builtin.append_,run_underlying ht,run_underlying hk,sizeOf,typeInfo,hi,hlen,hcl,storeCells]
  ·obtain ⟨b,off,cs,T,e1,e2,e3,e4⟩:=l4 (by omega)
   have hnl:=hs.newsLen;have hle:off+hd.len*t.size+news.length<=cs.size:=by
    rw[hnl];have:=Nat.mul_le_mul_right t.size hr;rw[Nat.add_mul] at this;rw[l2] at e3;omega
   have hst:=run_storeCells_at P b (off+hd.len*t.size) T news 0 cs w e2 (by simpa using hle) hs.one;simp only[Nat.add_zero] at hst;refine .inr (.inl ⟨b,off,cs,(cs.toList.take (off+hd.len*t.size)++news++cs.toList.drop (off+hd.len*t.size+news.length)).toArray,T,by omega,hr,e1,e2,?_,e3,?_,?_⟩)
   ·simp; omega
   ·rw[e1,List.length_append,<-l1]
    simp[Builtin.append_,run_underlying ht,run_underlying hk,sizeOf,typeInfo,hi,hs'.len,hr,his,hs.cells,Addr.add_lit,hst]
   ·obtain ⟨olds,o1,o2,o3⟩:=Elems.of e4
    refine ⟨olds++news,wT fun j u hj=>?_,o3.app o1 hn⟩;have hnew:=setRow_heap w b cs (cs.toList.take (off+hd.len*t.size)++news++cs.toList.drop (off+hd.len*t.size+news.length)).toArray T (0,0) e2;have hsg:=uc (l:=cs.toList) (vs:=news) (n:=off+hd.len*t.size) (by simpa using hle) (off+j);rw[<-l1] at o1;rw[List.getElem?_append] at hj;simp only[World.cell?,hnew];have hgoal:(cs.toList.take (off+hd.len*t.size)++news++cs.toList.drop (off+hd.len*t.size+news.length))[off+j]?=some u:=by
     rw[hsg];split at hj
     ·rename_i hj'
      rw[if_neg (by omega)];have:=xR o2 hj;simpa [World.cell?,e2] using this
     ·rename_i hj'
      have:j-olds.length<news.length:=by
       rcases Nat.lt_or_ge (j-olds.length) news.length with h' | h'
       ·exact h'
       ·rw[List.getElem?_eq_none h'] at hj; simp at hj
      rw[if_pos (by omega),<-hj];congr 1; omega
    simpa using hgoal
 ·have hne:hd.cap<hd.len+ys.length:=by omega
  have hlen:hd.len+ys.length<=1099511627776:=by rw[l1]; exact hm
  have hfit:=growslice_fits (bytes:=i.bytes) hne (by
   have:(hd.len+ys.length)*i.bytes<=1099511627776*128:=Nat.mul_le_mul hlen hb;omega)
  have hold:∃olds,olds.length=L.length*t.size/\Elems (RT w q.ok q.okb q.m.me t) t.size L olds/\(Builtin.firstCells i.size hd.len (.slice hd.a hd.len hd.cap)).run P w.drew=.ok olds.toArray w.drew:=by
   by_cases hc:0<hd.cap
   ·obtain ⟨b,off,cs,T,e1,e2,e3,e4⟩:=l4 hc
    obtain ⟨olds,o1,o2,o3⟩:=Elems.of e4;refine ⟨olds,o1,o3,?_⟩;rw[e1];exact run_firstCells_some (P:=P) w.drew i.size hd.len _ hd.len hd.cap olds (by rw[o1,l1,his]) (fun j u hj=>by rw[ui]; have:=xR o2 hj; simpa using this)
   ·have e2:L=[]:=List.eq_nil_of_length_eq_zero (by omega)
    subst e2;refine ⟨[],by simp,trivial,?_⟩;have hl0:hd.len=0:=by simpa using l1
    rw[hl0];cases hd.a with
    | none=>exact run_firstCells_none w.drew _ _ _ _
    | some ad=>exact run_firstCells_some (P:=P) w.drew i.size 0 ad 0 hd.cap [] (by simp) (by simp)
  obtain ⟨olds,o1,o2,o3⟩:=hold;have hrun:=run_append_grow_src (P:=P) w tx ty tr et i z ht hi hz hd.a hd.len hd.cap olds o3 v ys.length news hs' hne (by omega) hfit;refine .inr (.inr ⟨(olds++news).toArray++Builtin.zeroCells z.cells (grownCap w (hd.len+ys.length) hd.cap et-(hd.len+ys.length)),grownCap w (hd.len+ys.length) hd.cap et,
   w.drew.alloc (.cells ((olds++news).toArray++Builtin.zeroCells z.cells (grownCap w (hd.len+ys.length) hd.cap et-(hd.len+ys.length))) et),?_,?_,rfl,rfl,rfl,rfl,?_,?_⟩)
  ·rw[List.length_append,<-l1]; exact grownCap_ge w _ _ _
  ·have hge:=grownCap_ge w (hd.len+ys.length) hd.cap et
   simp only[Array.size_append,List.size_toArray,size_zeroCells,hzs,List.length_append,o1,hs.newsLen,<-Nat.add_mul,<-l1];rw[show hd.len+ys.length+(grownCap w (hd.len+ys.length) hd.cap et-(hd.len+ys.length))=grownCap w (hd.len+ys.length) hd.cap et by omega];exact Nat.le_refl _
  ·rw[List.length_append,<-l1]; exact hrun
  ·simp only[Array.toList_append]
   exact (o2.app o1 hn).more
theorem TU {q:Q} {P:Program} {t:Ty} {et:TypeId} {i:TypeInfo} {z:Value} {tx ty tr e':TypeId} (ht:P.underlying tx=some (.slice et)) (hi:P.info? et=some i) (hz:i.zero=some z)
  (hzs:z.cells.size=t.size) (his:i.size=t.size) (hb:i.bytes<=128) (hk:P.underlying ty=some (.slice e'))
  {L ys:List t.T} {v:Value} {ad:Option Addr} {g1 good:Nat->Prop} (hx:SlR w g1 t.size (RT w q.ok q.okb q.m.me t) L (.slice ad L.length L.length)) (hy:SlR w good t.size (RT w q.ok q.okb q.m.me t) ys v) (hys:ys≠[]) (hm:L.length+ys.length<=xp) :
  ∃cs' cap w',(L++ys).length<=cap/\cap*t.size<=cs'.size/\w'.heap=w.heap.push (.cells cs' et (0,0))/\w'.os=w.os/\w'.tape=w.tape/\w'.output=w.output /\
   (Builtin.append_ #[tx,ty] tr #[.slice ad L.length L.length,v]).run P w=.ok (.slice (some ⟨w.heap.size,0,none⟩) (L++ys).length cap) w' /\
   Elems (RT w q.ok q.okb q.m.me t) t.size (L++ys) cs'.toList:=by
 obtain ⟨news,hs,hn⟩:=ST hk hy;have hs':Go.Src P i.size ty v ys.length news w:=by rw[his]; exact hs
 have hpos:0<ys.length:=List.length_pos_iff.2 hys;have hne:L.length<L.length+ys.length:=by omega
 have hlen:L.length+ys.length<=1099511627776:=hm;have hfit:=growslice_fits (bytes:=i.bytes) hne (by
  have:(L.length+ys.length)*i.bytes<=1099511627776*128:=Nat.mul_le_mul hlen hb;omega)
 have hold:∃olds,olds.length=L.length*t.size/\Elems (RT w q.ok q.okb q.m.me t) t.size L olds/\(Builtin.firstCells i.size L.length (.slice ad L.length L.length)).run P w.drew=.ok olds.toArray w.drew:=by
  obtain ⟨ad',cap',e,_,h⟩:=hx;cases e
  by_cases hl:L=[]
  ·subst hl
   refine ⟨[],by simp,trivial,?_⟩;cases ad with
   | none=>exact run_firstCells_none w.drew _ _ _ _
   | some ad=>exact run_firstCells_some (P:=P) w.drew i.size 0 ad 0 0 [] (by simp) (by simp)
  ·obtain ⟨b,off,e,_,h'⟩:=h hl
   subst e;obtain ⟨olds,o1,o2,o3⟩:=Elems.of h';refine ⟨olds,o1,o3,?_⟩;exact run_firstCells_some (P:=P) w.drew i.size L.length _ L.length L.length olds (by rw[o1,his]) (fun j u hj=>by rw[ui]; have:=xR o2 hj; simpa using this)
 obtain ⟨olds,o1,o2,o3⟩:=hold;have hrun:=run_append_grow_src (P:=P) w tx ty tr et i z ht hi hz ad L.length L.length olds o3 v ys.length news hs' hne (by omega) hfit;refine ⟨(olds++news).toArray++Builtin.zeroCells z.cells (grownCap w (L.length+ys.length) L.length et-(L.length+ys.length)),grownCap w (L.length+ys.length) L.length et,
  w.drew.alloc (.cells ((olds++news).toArray++Builtin.zeroCells z.cells (grownCap w (L.length+ys.length) L.length et-(L.length+ys.length))) et),?_,?_,rfl,rfl,rfl,rfl,?_,?_⟩
 ·rw[List.length_append]; exact grownCap_ge w _ _ _
 ·have hge:=grownCap_ge w (L.length+ys.length) L.length et
  simp only[Array.size_append,List.size_toArray,size_zeroCells,hzs,List.length_append,o1,hs.newsLen,<-Nat.add_mul];rw[show L.length+ys.length+(grownCap w (L.length+ys.length) L.length et-(L.length+ys.length))=grownCap w (L.length+ys.length) L.length et by omega];exact Nat.le_refl _
 ·rw[List.length_append]; exact hrun
 ·simp only[Array.toList_append]
  exact (o2.app o1 hn).more
end
end Go.VS
namespace Go.VS
open Go
section
variable {cx:Cx} {Hh:Hn} {m:Gh} {σ:St} {a:Act} {w:World} {o:Oper} {eff:Eff}
theorem OwnRep.ofElems {q:Q} {w':World} {ad:Option Addr} {cap:Nat} {t:Ty} {L:List t.T} {b off:Nat} {cs:Array Value} {T:TypeId} {all:List Value} (h1:L.length<=cap) (ha:ad=some ⟨b,off,none⟩)
  (hc:w'.heap[b]?=some (.cells cs T (0,0))) (hs:off+cap*t.size<=cs.size) (hal:xc w' b off all) (he:Elems (RT w' q.ok q.okb q.m.me t) t.size L all) :
  OwnRep w' q ⟨ad,L.length,cap,t.size⟩ ⟨t,L⟩ :=
 ⟨rfl,rfl,h1,fun _=>⟨b,off,cs,T,ha,hc,hs,fun i hi=>he.at hal i hi⟩⟩
theorem TH (hT:∀t,vo cx.P t (cx.TI t)) (h:Rel cx m σ a w) {t u:TypeId} {vx vy:Value} {x y:Ent} {uu:Ty}
  (hrun:∀v w',(Builtin.append_ #[t,u] o.type #[vx,vy]).run cx.P w=.ok v w'->(execOp a.eval o).run cx.P w=.ok (.value v) w')
  (hx:RE w (cx.q σ m w) x vx) (hy:RE w (cx.q σ m w) y vy) (hu:(cx.TI u).el=some uu)
  (he:Zy (cx.TI t) σ o.dst x y=some (true,eff)):Done cx σ a w o eff:=by
 unfold Zy at he;split at he<;>try simp at he
 rename_i e s hel hd;obtain ⟨et,i,z,g1,g2,g3,g4,g5,g6,g7,g8⟩:=Yy (hT t) hel;obtain ⟨et',_,_,k1,_⟩:=Yy (hT u) hu;split at he<;>try simp at he
 rename_i ys hys;have hslr:∃good,SlR w good e.size (RT w (cx.q σ m w).ok (cx.q σ m w).okb m.me e) ys vy:=by
  unfold Te at hys;split at hys
  ·simp at hys
   subst hys;obtain ⟨rfl,_⟩:=hy.v_eq;exact ⟨fun _=>True,SlR.nil⟩
  ·split at hys
   ·rename_i ow how
    obtain ⟨e1,e2⟩:=x6 hys;have:=XU h how hy;subst e1; subst e2;exact ⟨_,this⟩
   ·simp at hys
 obtain ⟨good,hslr⟩:=hslr;have key:∀{hdr:Hd} {L:List e.T},vx=.slice hdr.a hdr.len hdr.cap->OwnRep w (cx.q σ m w) hdr ⟨e,L⟩->L.length+ys.length<=xp->_ :=
  fun {hdr L} hv hL hm=>SM (tr:=o.type) g1 g2 g3 g4 g5 g7 k1 hL hslr hm
 have nilCase:vx=.slice none 0 0->ys.length<=xp->Done cx σ a w o ⟨.d (.c (.own s)),.newOwn e ys⟩:=by
  intro hv hm;subst hv;rcases key (hdr:=⟨none,0,0,e.size⟩) (L:=[]) rfl (OwnRep.emp e) (by simpa using hm) with ⟨_,h1,_,h2⟩ | ⟨_,_,_,_,_,h1,_⟩ | ⟨cs',cap,w',h1,h2,h3,h4,h5,h6,h7,h8⟩
  ·refine ⟨.slice none 0 0,w,{m with hd:=upd m.hd s (some ⟨none,0,0,e.size⟩)},.inl (hrun _ _ h2),fun σ1 hm=>?_⟩
   simp only[vL,hd] at hm;split at hm<;>try simp at hm
   rename_i hs';cases hp':uF s with
   | true=>simp[hp'] at hm
   | false =>
   simp[hp'] at hm;subst hm;obtain ⟨r1,_⟩:=h.newOwn (w':=w) (s:=s) (o:=⟨e,ys⟩) (hd:=⟨none,0,0,e.size⟩) hs' hp' (Nat.le_refl _) (fun _ _=>rfl) rfl rfl rfl (fun _ _ h=>by simp at h) (fun _=>by subst h1; exact OwnRep.emp e);exact ⟨r1,_,yp _ _ _,rfl⟩
  ·simp at h1
  ·exact tw h hd (hrun _ _ h7) h3 h4 h5 h6 h1 h2 h8
 have ownCase:∀{r:Nat} {ow:xK} {hd0 hdr:Hd} {L:List e.T},σ.own r=.is ow->m.hd r=some hd0->vx=.slice hdr.a hdr.len hdr.cap->OwnRep w (cx.q σ m w) hdr ⟨e,L⟩->L.length+ys.length<=xp->
   (∀b off,hdr.a=some ⟨b,off,none⟩->0<hdr.cap->∃off',hd0.a=some ⟨b,off',none⟩/\0<hd0.cap)->
   Done cx σ a w o ⟨.d (.c (.own s)),.grow r e (L++ys)⟩:=by
  intro r ow hd0 hdr L ho hh hv hL hm hsame;rcases key hv hL hm with ⟨hc,h1,h0,h2⟩ | ⟨b,off,cs,cs',T,c1,c2,c3,c4,c5,c6,c7,all,c8,c9⟩ | ⟨cs',cap,w',h1,h2,h3,h4,h5,h6,h7,h8⟩
  ·rw[<-hv] at h2
   refine ⟨_,_,{m with hd:=upd m.hd s (some ⟨hdr.a,0,0,e.size⟩)},.inl (hrun _ _ h2),fun σ1 hm=>?_⟩;simp only[vL,hd] at hm;split at hm<;>try simp at hm
   rename_i hs';cases hp':uF s with
   | true=>simp[hp'] at hm
   | false =>
   simp[hp'] at hm;subst hm;obtain ⟨r1,_⟩:=h.moveOwn (w':=w) (s:=s) (o':=⟨e,L++ys⟩) (hd':=⟨hdr.a,0,0,e.size⟩) ho hs' hp' (Nat.le_refl _) (fun _ _=>rfl) rfl rfl rfl (fun _ _ _ h=>by simp at h)
    (fun _=>by subst h1; subst h0; exact ⟨rfl,rfl,Nat.le_refl _,fun h=>absurd h (by simp)⟩)
   exact ⟨r1,_,yp _ _ _,rfl⟩
  ·rw[<-hv] at c7
   obtain ⟨off0,f1,f2⟩:=hsame b off c3 c1;refine ⟨_,_,{m with hd:=upd m.hd s (some ⟨some ⟨b,off,none⟩,(L++ys).length,hdr.cap,e.size⟩)},.inl (hrun _ _ c7),fun σ1 hm=>?_⟩;simp only[vL,hd] at hm;split at hm<;>try simp at hm
   rename_i hs';cases hp':uF s with
   | true=>simp[hp'] at hm
   | false =>
   simp[hp'] at hm;subst hm;have hne:s≠r:=fun e=>by subst e; rw[hs'] at ho; simp at ho
   have hlen:(L++ys).length<=hdr.cap:=by simp; have:=hL.1; simp only at this; omega
   have hsz:hdr.sz=e.size:=hL.2.1;obtain ⟨r1,_⟩:=h.setOwn (r:=r) (s:=s) (o:=ow) (o':=⟨e,L++ys⟩) (hd:=hd0) (hd':=⟨some ⟨b,off,none⟩,(L++ys).length,hdr.cap,e.size⟩) (own':=upd (upd σ.own r .dead) s (.is ⟨e,L++ys⟩))
    (hds:=upd m.hd s (some ⟨some ⟨b,off,none⟩,(L++ys).length,hdr.cap,e.size⟩)) ho hh f1 f2 c4 c5 (.inr ⟨hs',hp'⟩) ⟨off,rfl⟩
    (fun x=>by
     by_cases hx:x=s
     ·subst hx; simp[yp]
     ·rw[yN _ _ hx,if_neg hx]
      by_cases hr:x=r
      ·subst hr; simp[yp]
      ·rw[yN _ _ hr,if_neg hr])
    (fun x=>by
     by_cases hx:x=s
     ·subst hx; simp[yp]
     ·rw[yN _ _ hx,if_neg hx])
    (fun hq=>OwnRep.ofElems hlen rfl (setRow_heap w b cs cs' T (0,0) c4) (by rw[hsz] at c6; omega) c8 (Elems.mono (fun x us h=>RT.mono hq.ok hq.okb hq.me e x us h) c9))
   refine ⟨r1,_,yp _ _ _,?_⟩;rw[c3]
  ·rw[<-hv] at h7
   refine ⟨_,_,{m with hd:=upd m.hd s (some ⟨some ⟨w.heap.size,0,none⟩,(L++ys).length,cap,e.size⟩)},.inl (hrun _ _ h7),fun σ1 hm=>?_⟩;simp only[vL,hd] at hm;split at hm<;>try simp at hm
   rename_i hs';cases hp':uF s with
   | true=>simp[hp'] at hm
   | false =>
   simp[hp'] at hm;subst hm;have hnew:=qM h3;obtain ⟨r1,_⟩:=h.moveOwn (w':=w') (s:=s) (o':=⟨e,L++ys⟩) (hd':=⟨some ⟨w.heap.size,0,none⟩,(L++ys).length,cap,e.size⟩) ho hs' hp' (by rw[h3]; simp) (fun b hb=>uk h3 hb) h4 h5 h6
    (fun b off e _=>by simp only[Option.some.injEq,Addr.mk.injEq] at e; rw[<-e.1,h3]; simp)
    (fun hq=>OwnRep.ofElems h1 rfl hnew (by simpa using h2) (xH hnew) (Elems.mono (fun x us h=>RT.mono hq.ok hq.okb hq.me e x us h) h8))
   exact ⟨r1,_,yp _ _ _,rfl⟩
 split at he
 ·simp at he
  obtain ⟨hm,rfl⟩:=he;obtain ⟨hv,_⟩:=hx.v_eq;exact nilCase hv (Nat.le_of_ble_eq_true (by simpa using hm))
 ·rename_i r
  split at he<;>try simp at he
  rename_i ow how;split at he<;>simp at he;rename_i l hl;obtain ⟨hm,rfl⟩:=he;obtain ⟨hdr,e1,e2⟩:=hx;obtain ⟨hd',f1,lr⟩:=h.own r _ how;rw[show (cx.q σ m w).m.hd r=m.hd r from rfl] at e1;rw[e1] at f1;simp at f1;subst f1;obtain ⟨et,e3⟩:=x6 hl;obtain ⟨t',l'⟩:=ow;simp only at et e3;subst et;simp only at e3;subst e3;exact ownCase how e1 e2 lr (Nat.le_of_ble_eq_true (by simpa using hm)) (fun b off h1 h2=>⟨off,h1,h2⟩)
 ·rename_i r lo hi
  split at he<;>try simp at he
  rename_i ow how;split at he<;>try simp at he
  rename_i l hl;cases h0:Nat.beq lo 0 with
  | false=>simp[h0] at he
  | true =>
  simp[h0] at he;obtain ⟨hm,rfl⟩:=he;have h0:=yx h0;subst h0;obtain ⟨hdr,e1,e2,e3,e4⟩:=hx;obtain ⟨hd',f1,lr⟩:=h.own r _ how;rw[show (cx.q σ m w).m.hd r=m.hd r from rfl] at e1;rw[e1] at f1;simp at f1;subst f1;obtain ⟨et,e5⟩:=x6 hl;obtain ⟨t',l'⟩:=ow;simp only at et e5;subst et;simp only at e5;subst e5;have hlen:(l'.take hi).length=hi:=by have:=lr.1; simp only at this; simp; omega
  refine ownCase (hdr:=⟨if hdr.cap=0 then hdr.a else hdr.a.map (·.add (0*hdr.sz)),hi,hdr.cap,hdr.sz⟩) how e1 (by rw[e4]; simp) (lr.front e3) (by rw[hlen]; exact Nat.le_of_ble_eq_true (by simpa using hm)) (fun b off h1 h2=>?_)
  simp only at h1 h2;rw[if_neg (by omega)] at h1;obtain ⟨bb,oo,cs,T,q1,_⟩:=lr.2.2.2 h2;rw[q1] at h1;simp[ui] at h1;exact ⟨oo,by rw[q1,h1.1],h2⟩
 ·rename_i e' l'
  split at he<;>try simp at he
  rename_i l hl;cases hys':ys.isEmpty with
  | true=>rw[hys'] at he; simp at he
  | false =>
  simp[hys'] at he;obtain ⟨hm,rfl⟩:=he;obtain ⟨hx1,ad,rfl⟩:=hx;obtain ⟨et',e3⟩:=x6 hl;subst et';simp only at e3;subst e3;obtain ⟨cs',cap,w',h1,h2,h3,h4,h5,h6,h7,h8⟩:=TU (tr:=o.type) g1 g2 g3 g4 g5 g7 k1 hx1 hslr (by intro e; rw[e] at hys'; cases hys') (Nat.le_of_ble_eq_true (by simpa using hm));exact tw h hd (hrun _ _ h7) h3 h4 h5 h6 h1 h2 h8
 ·simp at he
end
end Go.VS
namespace Go.VS
open Go
section
variable {cx:Cx} {Hh:Hn} {m:Gh} {σ:St} {a:Act} {w:World} {o:Oper} {eff:Eff}
theorem Wo:∀{r:List Ent} {rv:List Value} {x n:Int} {k:IntKind},qm true x r k=some n->All2 (RE w (cx.q σ m w)) r rv->
  (rv.foldlM Builtin.max2 (.int k x)).run cx.P w=.ok (.int k n) w
 | [],[],_,_,_,h,_=>by simp[qm] at h; subst h; rfl
 | e::r,v::rv,x,n,k,h,⟨h1,h2⟩=>by
  unfold qm at h;split at h
  ·simp_all
  ·rename_i he
   cases he
   split at h<;>simp at h;rename_i hk;subst hk;obtain ⟨rfl,_⟩:=h1.v_eq;have:=Wo h h2;simp[List.foldlM_cons,Builtin.max2,this]
  ·simp at h
 | [],_::_,_,_,_,_,h=>h.elim
 | _::_,[],_,_,_,_,h=>h.elim
theorem Wn:∀{r:List Ent} {rv:List Value} {x n:Int} {k:IntKind},qm false x r k=some n->All2 (RE w (cx.q σ m w)) r rv->
  (rv.foldlM Builtin.min2 (.int k x)).run cx.P w=.ok (.int k n) w
 | [],[],_,_,_,h,_=>by simp[qm] at h; subst h; rfl
 | e::r,v::rv,x,n,k,h,⟨h1,h2⟩=>by
  unfold qm at h;split at h
  ·simp_all
  ·rename_i he
   cases he
   split at h<;>simp at h;rename_i hk;subst hk;obtain ⟨rfl,_⟩:=h1.v_eq;have:=Wn h h2;simp[List.foldlM_cons,Builtin.min2,this]
  ·simp at h
 | [],_::_,_,_,_,_,h=>h.elim
 | _::_,[],_,_,_,_,h=>h.elim
theorem UD (hG:xU cx) (h:Rel cx m σ a w):∀(xs:List Operand),All2 (RE w (cx.q σ m w)) (xs.map (σ.ev cx.G)) (xs.map a.eval)
 | []=>trivial
 | x::xs=>⟨wn hG h x,UD hG h xs⟩
theorem Ut (hT:∀t,vo cx.P t (cx.TI t)) (hG:xU cx) (h:Rel cx m σ a w) {c:Call} {b:Builtin} (ho:o.op=.call c) (hb:c.callee=.builtin b)
  (he:tU cx.TI σ o.dst b c.argTypes.toList (c.args.toList.map (σ.ev cx.G))=some (true,eff)):Done cx σ a w o eff:=by
 have hargs:=UD hG h c.args.toList;have hmap:(c.args.map a.eval)=(c.args.toList.map a.eval).toArray:=by apply Array.ext'; simp
 have hrun:∀(s:Sem Value) (v:Value) (w':World),(∀cs,builtin b c.argTypes o.type cs (c.args.toList.map a.eval).toArray=(do pure (.value (<-s))))->s.run cx.P w=.ok v w'->
   (execOp a.eval o).run cx.P w=.ok (.value v) w':=by
  intro s v w' h1 h2;simp[execOp,ho,resolve,hb,invoke,h1,h2,hmap]
 generalize c.args.toList.map (σ.ev cx.G)=es at he hargs;generalize c.args.toList.map a.eval=vs at hargs hrun;unfold tU at he;split at he
 ·
  rename_i x;obtain ⟨vx,vs',e,hx,hnil⟩:=hargs.cons_left;have:=hnil.nil_left;subst this;subst e;split at he<;>try simp at he
  rename_i t ts hts;have ht0:c.argTypes[0]?=some t:=by rw[<-Array.getElem?_toList,hts]; rfl
  have hlen:∀{n:Nat},(∀d v,cx.P.underlying t=some d->(match d,v with | .string,Value.string s=>some s.size | .slice _,.slice _ n _=>some n | _,_=>none)=some n->v=vx->
    (Builtin.len_ c.argTypes o.type #[vx]).run cx.P w=.ok (goInt n) w):=by
   intro n d v hu hm hv;subst hv;split at hm<;>simp at hm
   ·subst hm; simp[Builtin.len_,ht0,run_underlying hu]
   ·subst hm; simp[Builtin.len_,ht0,run_underlying hu]
  have fin:∀{n:Nat} {k:Int},k=(n:Int)->(Builtin.len_ c.argTypes o.type #[vx]).run cx.P w=.ok (goInt n) w->Done cx σ a w o ⟨.d (.c (.v (.int .i64 k))),.none⟩:=by
   intro n k hk hr;subst hk;exact Done.pure h (hrun _ _ _ (fun _=>rfl) hr) ⟨rfl,rfl⟩
  split at he
  ·rename_i s
   cases hs:(cx.TI t).str with
   | false=>simp[hs] at he
   | true =>
    simp only[hs,cond_true] at he;obtain ⟨_,rfl⟩:=wO he;obtain ⟨hv,_⟩:=hx.v_eq;exact fin rfl (hlen _ _ ((hT t).str hs) (by rw[hv]) rfl)
  ·split at he<;>try simp at he
   rename_i e hel;obtain ⟨et,_,_,hu,_⟩:=Yy (hT t) hel;split at he
   ·obtain ⟨_,rfl⟩:=wO he
    obtain ⟨hv,_⟩:=hx.v_eq;exact fin (n:=0) rfl (hlen _ _ hu (by rw[hv]) rfl)
   ·rename_i s lo hi _
    obtain ⟨_,rfl⟩:=wO he;obtain ⟨hd,_,_,_,hv⟩:=hx;exact fin (n:=hi-lo) rfl (hlen _ _ hu (by rw[hv]) rfl)
   ·split at he<;>try simp at he
    rename_i ow how;obtain ⟨_,rfl⟩:=wO he;obtain ⟨ad,cap,hv,_⟩:=XU h how hx;exact fin (n:=ow.l.length) rfl (hlen _ _ hu (by rw[hv]) rfl)
 ·
  rename_i x y;obtain ⟨vx,vs',e,hx,hr⟩:=hargs.cons_left;obtain ⟨vy,vs'',e',hy,hnil⟩:=hr.cons_left;have:=hnil.nil_left;subst this;subst e';subst e;split at he<;>try simp at he
  rename_i t u ts hts;split at he<;>try simp at he
  rename_i uu hu;have ht:c.argTypes[0]?=some t:=by rw[<-Array.getElem?_toList,hts]; rfl
  have hu':c.argTypes[1]?=some u:=by rw[<-Array.getElem?_toList,hts]; rfl
  refine TH hT h (fun v w' hr=>hrun _ _ _ (fun _=>rfl) ?_) hx hy hu he;rw[<-hr];simp[Builtin.append_,ht,hu']
 ·
  rename_i k x r;obtain ⟨vx,vs',e,hx,hr⟩:=hargs.cons_left;subst e;obtain ⟨rfl,_⟩:=hx.v_eq;split at he<;>try simp at he
  rename_i n hn;obtain ⟨_,rfl⟩:=wO he;exact Done.pure h (hrun _ _ _ (fun _=>rfl) (by simp[Builtin.max_,Wo hn hr])) ⟨rfl,rfl⟩
 ·
  rename_i k x r;obtain ⟨vx,vs',e,hx,hr⟩:=hargs.cons_left;subst e;obtain ⟨rfl,_⟩:=hx.v_eq;split at he<;>try simp at he
  rename_i n hn;obtain ⟨_,rfl⟩:=wO he;exact Done.pure h (hrun _ _ _ (fun _=>rfl) (by simp[Builtin.min_,Wn hn hr])) ⟨rfl,rfl⟩
 ·simp at he
theorem qU {k j:IntKind} {n:Int}:∀{es:List MapEntry} {l:List (Int×Int)} {i:Nat},es.map (fun e=>(e.key,e.val))=l.map (fun p=>(Value.int k p.1,Value.int j p.2))->
  (Instr.findNow (.int k) (.int k n) es i=some none/\Sr n l=false/\lkI n l=0)\/∃q,Instr.findNow (.int k) (.int k n) es i=some (some (q,.int j (lkI n l)))/\Sr n l=true
 | [],l,i,h=>by
  cases l with
  | nil=>exact .inl ⟨rfl,rfl,rfl⟩
  | cons p r=>simp at h
 | e::es,[],i,h=>by simp at h
 | e::es,(a,b)::l,i,h=>by
  simp only[List.map_cons,List.cons.injEq,Prod.mk.injEq] at h;obtain ⟨⟨h1,h2⟩,h3⟩:=h;simp only[Instr.findNow,h1,Instr.sameNow,if_true];cases hb:n==a with
  | true=>right; exact ⟨i,by simp[hb,h2,lkI],by simp[Sr,hb]⟩
  | false =>
   simp only[Sr,lkI,hb,Bool.false_or,cond_false];exact qU h3
theorem ZO {P:Program} {w:World} {r:Nat} {es:Array MapEntry} {clock:Nat} (hb:w.heap[r]?=some (.map es clock)):(getObj r).run P w=.ok (.map es clock) w:=by
 simp[getObj,Sem.run,hb]
theorem T5 {P:Program} {w:World} {r:Nat} {es:Array MapEntry} {clock:Nat} (o:Obj) (hb:w.heap[r]?=some (.map es clock)):(setObj r o).run P w=.ok () {w with heap:=w.heap.setIfInBounds r o}:=by
 simp[setObj,Sem.run,hb]
theorem Yf {P:Program} {w:World} {kt:TypeId} {k:IntKind} {a:Int} (hd:P.underlying kt=some (.int k)) (e:Bool) (n:Nat):(Instr.checkKey e (n+1) kt (.int k a)).run P w=.ok () w:=by
 unfold Instr.checkKey;simp[Sem.run_bind,run_underlying hd,Result.andThen]
theorem qK {P:Program} {w:World} {kt:TypeId} {k:IntKind} {v:Value} {l:List MapEntry} {a:Option (Nat×Value)} (hd:P.underlying kt=some (.int k)) (h:Instr.findNow (.int k) v l 0=some a):(Instr.findKey kt v l).run P w=.ok a w:=by
 simp[Instr.findKey,run_underlying hd,Result.andThen,h]
theorem TG (hT:∀t,vo cx.P t (cx.TI t)) (hG:xU cx) (h:Rel cx m σ a w) {t:TypeId} {x i:Operand} (ho:o.op=.lookup t x i false)
  (he:Ua (cx.TI t) (σ.ev cx.G x) (σ.ev cx.G i)=some (true,eff)):Done cx σ a w o eff:=by
 have hx:=wn hG h x;have hi:=wn hG h i;generalize σ.ev cx.G x=ex at he hx;generalize σ.ev cx.G i=ei at he hi;unfold Ua at he;split at he<;>try simp at he
 rename_i k j k' j' l k'' n hmp;obtain ⟨⟨rfl,rfl,rfl⟩,he⟩:=he;obtain ⟨_,rfl⟩:=wO he;obtain ⟨kt,et,inf,t1,t2,t3,t4⟩:=(hT t).mp _ _ hmp;obtain ⟨b,es,c,e1,e2,e3⟩:=hx;obtain ⟨hv,_⟩:=hi.v_eq;refine Done.pure (v:=.int j' (lkI n l)) h ?_ ⟨rfl,rfl⟩;have hz:(zeroValue et).run cx.P w=.ok (.int j' 0) w:=by simp[zeroValue,typeInfo,t3,t4]
 have hck:∀em,(Instr.checkKey em 10000 kt (.int k'' n)).run cx.P w=.ok () w:=fun em=>Yf t2 em 9999
 rcases qU (k:=k'') (j:=j') (n:=n) (i:=0) e3 with ⟨f1,_,f3⟩ | ⟨q,f1,_⟩
 ·simp[execOp,ho,e1,hv,Instr.lookup,run_underlying t1,ZO e2,hck,qK t2 f1,f3,hz,Result.andThen]
 ·simp[execOp,ho,e1,hv,Instr.lookup,run_underlying t1,ZO e2,hck,qK t2 f1,hz,Result.andThen]
theorem za5 (hna:cx.na=Hh.na) (hme:cx.me=Hh.me) (hT:∀t,vo cx.P t (cx.TI t)) (hG:xU cx) (h:Rel cx m σ a w) (he:efG cx.TI cx.G Hh o σ=some (true,eff)):Done cx σ a w o eff:=by
 unfold efG at he;split at he
 ·rename_i ho; exact VC hG h (.inl ho) he
 ·rename_i ho; exact VC hG h (.inr ho) he
 ·rename_i ho; exact za7 hna hG h ho he
 ·rename_i ho; exact SE hna hT h ho he
 ·rename_i ho; exact Qg hT hG h ho he
 ·rename_i ho; exact Sz hT hG h ho he
 ·rename_i ho; exact WD hT hG h ho he
 ·rename_i ho; exact SC hT hG h ho he
 ·rename_i ho; exact WC hT hG h ho he
 ·rename_i ho; exact SB hT hG h ho he
 ·rename_i ho; exact za8 hT hG h ho he
 ·rename_i ho; exact done_un hG h ho he
 ·rename_i ho; exact Us hT hG h ho he
 ·rename_i ho; exact SD hT hG h ho he
 ·rename_i ho; exact Xt (Hh:=Hh) hT hG h ho he
 ·rename_i ho; exact WB hT hG h ho he
 ·rename_i ho; exact SA hT hG h ho he
 ·rename_i t x i ok ho
  cases ok with
  | true=>simp at he
  | false=>exact TG hT hG h ho he
 ·rename_i ho; exact Ur hG h ho he
 ·rename_i ho; exact WY hG h ho he
 ·rename_i ho; exact WZ hna hme hG h ho he
 ·rename_i c ho
  split at he
  ·rename_i b hb; exact Ut hT hG h ho hb he
  ·simp at he
 ·simp at he
end
end Go.VS
namespace Go.VS
open Go
def Alg {Sg:Nat->Sig} (V:vj Sg):Prop:=∀f x (R:Type) (K:(Sg f).R->Option R),V f x K=(V f x some).bind K
def Qt {Hh:Hn} (VD:wy Hh):Prop:=∀d f x (R:Type) (K:(Hh.sig d).R->Option R),VD d f x K=(VD d f x some).bind K
section
variable {TI:Nat->TS} {G:Nat->Option xK} {Hh:Hn} {Sg:Nat->Sig} {V:vj Sg} {VD:wy Hh} {N:Nat} {R:Type}
def Y3 (TI:Nat->TS) (G:Nat->Option xK) (Hh:Hn) (Sg:Nat->Sig) (V:vj Sg) (VD:wy Hh) (o:Oper) (σ:St):Option Eff:=efK TI G Hh Sg V VD o σ some
theorem Y9 {R:Type} (off sz:Nat) (f:Nat->Eff) (K:Eff->Option R):∀c j,ZN off sz (fun j=>K (f j)) c j=(ZN off sz (fun j=>some (f j)) c j).bind K
 | 0,j=>rfl
 | c+1,j=>by
  simp only[ZN];cases Nat.beq off j with
  | true=>rfl
  | false=>exact Y9 off sz f K c (j+sz)
theorem Y8 {off sz:Nat} {f:Nat->Eff} {e:Eff}:∀{c j},ZN off sz (fun j=>some (f j)) c j=some e->e=f off
 | 0,j,h=>by cases h
 | c+1,j,h=>by
  simp only[ZN] at h;cases hb:Nat.beq off j with
  | true=>rw[hb] at h; simp at h; rw[Nat.eq_of_beq_eq_true hb]; exact h.symm
  | false=>rw[hb] at h; exact Y8 h
theorem efK_alg (hV:Alg V) (hVD:Qt VD) (o:Oper) (σ:St) (K:Eff->Option R):efK TI G Hh Sg V VD o σ K=(Y3 TI G Hh Sg V VD o σ).bind K:=by
 unfold Y3 efK;split
 ·split
  ·rename_i t _; cases t<;>rfl
  ·rfl
 ·split
  ·split
   ·split
    ·rfl
    ·split
     ·rename_i x _
      cases vQ Hh _ _ x.2 with
      | false=>rfl
      | true=>simp only[cond_true]; rw[hV _ _ R,hV _ _ Eff]; cases V _ x.1 some<;>rfl
     ·rfl
   ·split
    ·rename_i x _
     cases vQ Hh _ _ x.2 with
     | false=>rfl
     | true=>simp only[cond_true]; rw[hVD _ _ _ R,hVD _ _ _ Eff]; cases VD _ _ x.1 some<;>rfl
    ·rfl
  ·split
   ·rename_i x _
    cases vQ Hh _ _ x.2 with
    | false=>rfl
    | true=>simp only[cond_true]; rw[hVD _ _ _ R,hVD _ _ _ Eff]; cases VD _ _ x.1 some<;>rfl
   ·rfl
  ·split
   ·rename_i x _
    cases vQ Hh _ _ x.2 with
    | false=>rfl
    | true=>simp only[cond_true]; rw[hVD _ _ _ R,hVD _ _ _ Eff]; cases VD _ _ x.1 some<;>rfl
   ·rfl
  ·split
   ·rename_i x _
    cases vQ Hh _ _ x.2 with
    | false=>rfl
    | true=>simp only[cond_true]; rw[hVD _ _ _ R,hVD _ _ _ Eff]; cases VD _ _ x.1 some<;>rfl
   ·rfl
  ·split
   ·split
    ·rename_i x _
     cases vQ Hh _ _ x.2 with
     | false=>rfl
     | true=>simp only[cond_true]; rw[hVD _ _ _ R,hVD _ _ _ Eff]; cases VD _ _ x.1 some<;>rfl
    ·rfl
   ·rfl
  ·rfl
 ·split
  ·rename_i b e _
   cases b with
   | false=>rfl
   | true =>
    simp only[cond_true];split
    ·exact Y9 _ _ (fun j=>⟨.loc _ j,.none⟩) K _ _
    ·rfl
  ·rfl
 ·split
  ·rename_i b e _; cases b<;>rfl
  ·rfl
def qk (all:List Oper) (o:Oper) (σ:St):Option Bool :=
 match o.guard with
 | none=>some true
 | some (g,want)=>match uh all g with
  | none=>none
  | some s=>match σ.env s with
   | .d (.c (.v (.bool b)))=>some (b==want)
   | .skip=>some false
   | _=>none
def Yz (TI:Nat->TS) (G:Nat->Option xK) (Hh:Hn) (Sg:Nat->Sig) (V:vj Sg) (VD:wy Hh) (all:List Oper) (o:Oper) (σ:St):Option Eff :=
 match qk all o σ with
 | none=>none
 | some true=>Y3 TI G Hh Sg V VD o σ
 | some false=>some ⟨.skip,.none⟩
theorem Qv {α:Type} (f:Nat->α) (s:Nat) (e:α) (h:f s=e):upd f s e=f:=by
 funext x
 by_cases hx:x=s
 ·subst hx; rw[yp,h]
 ·rw[yN _ _ hx]
theorem oK_eq (hV:Alg V) (hVD:Qt VD) (all:List Oper) (o:Oper) (σ:St) (K:St->List Nat->Option R) :
  oK TI G Hh Sg V VD N all o σ K=(Yz TI G Hh Sg V VD all o σ).bind fun e=>(ww Hh.sp N σ o.dst e).bind fun σ'=>K σ' (wr o.dst e.mem):=by
 have hrun:∀σ,QF TI G Hh Sg V VD N o σ K=(Y3 TI G Hh Sg V VD o σ).bind fun e=>(ww Hh.sp N σ o.dst e).bind fun σ'=>K σ' (wr o.dst e.mem):=by
  intro σ;unfold QF;rw[efK_alg hV hVD];cases Y3 TI G Hh Sg V VD o σ with
  | none=>rfl
  | some e =>
   simp only[Option.bind_some,ww];cases ZI Hh.sp σ o.dst e.mem with
   | none=>rfl
   | some b =>
    cases b with
    | false=>rfl
    | true =>
     simp only[cond_true];cases vL σ o.dst e.mem with
     | none=>rfl
     | some σ' =>
      simp only;cases o.dst with
      | none=>rfl
      | some s=>simp only; cases Nat.blt s N<;>rfl
 have hskip:UO Hh N o σ K=(ww Hh.sp N σ o.dst ⟨.skip,.none⟩).bind fun σ'=>K σ' []:=by
  unfold UO;cases ww Hh.sp N σ o.dst ⟨.skip,.none⟩<;>rfl
 unfold oK Yz qk;cases o.guard with
 | none=>exact hrun σ
 | some g =>
  obtain ⟨g,want⟩:=g;simp only;cases uh all g with
  | none=>rfl
  | some s =>
   simp only;generalize hb:σ.env s=e;split
   ·rename_i b
    have e1:∀c,b=c->({σ with env:=upd σ.env s (.d (.c (.v (.bool c))))}:St)=σ:=by
     intro c hc; subst hc; rw[Qv _ _ _ hb]
    cases b
    ·rw[e1 false rfl]
     cases want
     ·simp only[cond_false]; exact hrun σ
     ·simp only[cond_false,cond_true]; rw[hskip]; rfl
    ·rw[e1 true rfl]
     cases want
     ·simp only[cond_false,cond_true]; rw[hskip]; rfl
     ·simp only[cond_true]; exact hrun σ
   ·rw[hskip]; rfl
   ·rename_i h1 h2
    split<;>first | rfl | simp_all
def SameAt (l:List Nat) (σ σ':St):Prop:=∀s,(2*s+1∈l->σ.box s=σ'.box s)/\(2*s+2∈l->σ.own s=σ'.own s)
theorem SameAt.mono {l k:List Nat} {σ σ':St} (h:SameAt l σ σ') (hs:∀x∈k,x∈l):SameAt k σ σ':=fun s=>⟨fun hx=>(h s).1 (hs _ hx),fun hx=>(h s).2 (hs _ hx)⟩
variable {σ σ':St}
theorem Sh {t:TS} {x:Ent} (h:SameAt (plE x) σ σ'):uA t σ x=uA t σ' x:=by
 cases x with
 | loc s off=>simp only[uA]; rw[(h s).1 (by simp[plE])]
 | locx s i=>simp only[uA]; rw[(h s).1 (by simp[plE])]
 | opos s i off=>simp only[uA]; rw[(h s).2 (by simp[plE])]
 | _=>rfl
theorem UK {t:TS} {x y:Ent} (h:SameAt (plE x) σ σ'):YJ t σ x y=YJ t σ' x y:=by
 unfold YJ;congr 1
 unfold VR;split
 ·rename_i s off _; rw[(h s).1 (by simp[plE])]
 ·rename_i s i _ _; rw[(h s).1 (by simp[plE])]
 ·rename_i s i off _; rw[(h s).2 (by simp[plE])]
 ·rfl
theorem Xs {t:TS} {x i:Ent} (h:SameAt (plE x) σ σ'):vM t σ x i=vM t σ' x i:=by
 unfold vM;split
 ·split
  ·rfl
  ·rfl
  ·rename_i s; rw[(h s).2 (by simp[plE,plC])]
  ·rename_i s lo hi; rw[(h s).2 (by simp[plE,plC])]
  ·rename_i s off; rw[(h s).1 (by simp[plE])]
  ·rfl
  ·rfl
 ·rfl
theorem UN {t:TS} {x:Ent} {lo hi:Option Ent} (h:SameAt (plE x) σ σ'):YL t σ x lo hi=YL t σ' x lo hi:=by
 unfold YL;split
 ·split
  ·rfl
  ·rfl
  ·rfl
  ·rename_i s; rw[(h s).2 (by simp[plE,plC])]
  ·rfl
 ·rfl
theorem qa {x:Ent} (h:SameAt (plE x) σ σ'):vv σ x=vv σ' x:=by
 unfold vv;split
 ·rfl
 ·rfl
 ·rename_i s; rw[(h s).2 (by simp[plE,plC])]
 ·rename_i s lo hi; rw[(h s).2 (by simp[plE,plC])]
 ·rfl
theorem UE {t:TS} {dst:Option Nat} {x y:Ent} (h:SameAt (plE x) σ σ') (hy:SameAt (plE y) σ σ'):Zy t σ dst x y=Zy t σ' dst x y:=by
 have hn:∀e,Te σ e y=Te σ' e y:=by
  intro e;unfold Te;split
  ·rfl
  ·rw[qa hy]
 unfold Zy;split
 ·rw[hn]
  split
  ·rfl
  ·split
   ·rfl
   ·rename_i s; rw[(h s).2 (by simp[plE,plC])]
   ·rename_i s lo hi; rw[(h s).2 (by simp[plE,plC])]
   ·rfl
   ·rfl
 ·rfl
theorem W1 {dst:Option Nat} {b:Builtin} {ts:List Nat} {args:List Ent} (h:∀x∈args,SameAt (plE x) σ σ'):tU TI σ dst b ts args=tU TI σ' dst b ts args:=by
 unfold tU;split
 ·rename_i x
  have hs:=qa (h x (by simp));split
  ·split
   ·rfl
   ·split
    ·rfl
    ·split
     ·rfl
     ·rfl
     ·rw[hs]
  ·rfl
 ·rename_i x y
  split
  ·split
   ·exact UE (h x (by simp)) (h y (by simp))
   ·rfl
  ·rfl
 ·rfl
 ·rfl
 ·rfl
theorem Sj {c:C} (h:SameAt (plC [c]) σ σ'):tq σ c=tq σ' c:=by
 cases c with
 | own s=>simp only[tq]; rw[(h s).2 (by simp[plC])]
 | vw s lo hi=>simp only[tq]; rw[(h s).2 (by simp[plC])]
 | _=>rfl
theorem V0:∀{l:List C} {c:C},c∈l->∀x∈plC [c],x∈plC l
 | d::r,c,hc,x,hx=>by
  rcases List.mem_cons.1 hc with rfl | hc
  ·cases c<;>simp_all [plC]
  ·have:=V0 hc x hx
   cases d<;>simp_all [plC]
theorem Q2 {c:C} (h:SameAt (plC [c]) σ σ'):jnC σ c=jnC σ' c:=by
 cases c with
 | own s=>simp only[jnC]; rw[(h s).2 (by simp[plC])]
 | vw s lo hi=>simp only[jnC]; rw[(h s).2 (by simp[plC])]
 | v x=>unfold jnC; split<;>simp_all
 | _=>rfl
theorem Yt:∀{ms:List Nat} {l:List C},SameAt (plC l) σ σ'->jnM σ ms l=jnM σ' ms l
 | [],_,_=>rfl
 | _::_,[],_=>rfl
 | b::ms,c::r,h=>by
  simp only[jnM];rw[Yt (ms:=ms) (l:=r) (h.mono fun x hx=>by cases c<;>simp_all [plC]),Q2 (h.mono (V0 (List.mem_cons_self)))]
theorem plB_loc {s off:Nat} {l:List C} (h:σ.box s=some (.g l)):plB σ [.loc s off]=plC l:=by simp[plB,h]
theorem VX {x:Ent} (h:SameAt (plE x) σ σ') (hb:SameAt (plB σ [x]) σ σ') (a:AT):xA σ x a=xA σ' x a:=by
 cases a with
 | io t ms =>
  cases x with
  | loc s off =>
   simp only[xA];rw[<-(h s).1 (by simp[plE])];cases hl:σ.box s with
   | none=>rfl
   | some d =>
    cases d with
    | g l=>simp only; rw[Yt (by rw[plB_loc hl] at hb; exact hb)]
    | _=>rfl
  | _=>rfl
 | ios t =>
  cases x with
  | d y =>
   cases y with
   | c z =>
    cases z with
    | own s=>simp only[xA]; rw[(h s).2 (by simp[plE,plC])]
    | _=>rfl
   | _=>rfl
  | _=>rfl
 | d k =>
  cases k with
  | c t=>rfl
  | b t =>
   simp only[xA];split
   ·rfl
   ·rename_i s lo hi; rw[(h s).2 (by simp[plE,plC])]
   ·rw[qa h]
   ·rfl
  | g t =>
   cases x with
   | d y =>
    cases y with
    | g l =>
     simp only[xA];rw[show l.map (tq σ)=l.map (tq σ') from List.map_congr_left fun c hc=>Sj (h.mono fun x hx=>by simp only[plE]; exact V0 hc x hx)]
    | _=>rfl
   | _=>rfl
  | a k=>rfl
  | p t =>
   cases x with
   | loc s off=>simp only[xA]; rw[(h s).1 (by simp[plE])]
   | _=>rfl
  | cl t=>rfl
  | os t =>
   cases x with
   | d y =>
    cases y with
    | c z=>simp only[xA]; rw[Yt h]
    | _=>rfl
   | _=>rfl
  | og t ms =>
   cases x with
   | d y =>
    cases y with
    | g l=>simp only[xA]; rw[Yt h]
    | _=>rfl
   | _=>rfl
  | _=>rfl
theorem U5 {e:Ent} {es:List Ent}:∀x,x∈plB σ [e]\/x∈plB σ es->x∈plB σ (e::es):=by
 intro x hx;cases e<;>simp_all [plB]
theorem uj:∀{as:List AT} {es:List Ent},(∀x∈es,SameAt (plE x) σ σ')->SameAt (plB σ es) σ σ'->yO σ as es=yO σ' as es
 | [],[],_,_=>rfl
 | [],_::_,_,_=>rfl
 | _::_,[],_,_=>rfl
 | a::as,e::es,h,hb=>by
  simp only[yO];rw[VX (h e (by simp)) (hb.mono fun x hx=>U5 x (.inl hx)),uj (fun x hx=>h x (by simp[hx])) (hb.mono fun x hx=>U5 x (.inr hx))]
def WO (G:Nat->Option xK) (σ σ':St) (l:List Operand):Prop:=∀x∈l,σ.ev G x=σ'.ev G x
theorem ZR:∀{ps:List (Nat×Operand)},WO G σ σ' (ps.map (·.2))->vA G σ ps=vA G σ' ps
 | [],_=>rfl
 | (i,x)::r,h=>by
  simp only[vA];rw[h x (by simp),ZR (fun y hy=>h y (by simp at hy ⊢; right; exact hy))]
theorem X8 {l:List Operand} (h:WO G σ σ' l):l.map (σ.ev G)=l.map (σ'.ev G):=List.map_congr_left h
theorem Yk:∀{l:List Ent} {e:Ent},e∈l->∀x∈plE e,x∈plL l
 | d::r,e,he,x,hx=>by
  simp only[plL,List.mem_append];rcases List.mem_cons.1 he with rfl | he
  ·exact .inl hx
  ·exact .inr (Yk he x hx)
theorem za4 {o:Oper} (h:WO G σ σ' (tn o.op)) (hp:∀x∈tE o.op,SameAt (plE (σ.ev G x)) σ σ'):efG TI G Hh o σ=efG TI G Hh o σ':=by
 unfold efG;generalize o.op=op at h hp;cases op<;>simp only[tn,tE] at h hp<;>try simp only
 case move x=>rw[h x (by simp)]
 case assign x=>rw[h x (by simp)]
 case box t x=>rw[h x (by simp)]
 case load t x=>rw[<-h x (by simp)]; exact Sh (hp x (by simp))
 case store t x y=>rw[<-h x (by simp),<-h y (by simp)]; exact UK (hp x (by simp))
 case fieldAddr t x i=>rw[h x (by simp)]
 case field t x i=>rw[h x (by simp)]
 case indexAddr t x i=>rw[<-h x (by simp),<-h i (by simp)]; exact Xs (hp x (by simp))
 case index t x i=>rw[h x (by simp),h i (by simp)]
 case lookup t x i ok=>rw[h x (by simp),h i (by simp)]
 case binOp op t x y u=>rw[h x (by simp),h y (by simp)]
 case unOp op t x=>rw[h x (by simp)]
 case convert u t x=>rw[h x (by simp)]
 case build t ps=>rw[ZR h]
 case buildSlice t n ps=>rw[ZR h]
 case makeSlice t n c=>rw[h n (by simp),h c (by simp)]
 case extract x i=>rw[h x (by simp)]
 case nilCheck x=>rw[h x (by simp)]
 case slice t x lo hi mx =>
  cases mx with
  | some _=>rfl
  | none =>
   have e1:lo.map (σ.ev G)=lo.map (σ'.ev G):=by
    cases lo with
    | none=>rfl
    | some y=>simp only[Option.map_some]; rw[h y (by simp)]
   have e2:hi.map (σ.ev G)=hi.map (σ'.ev G):=by
    cases hi with
    | none=>rfl
    | some y=>simp only[Option.map_some]; rw[h y (by simp)]
   simp only;rw[<-e1,<-e2,<-h x (by simp)];exact UN (hp x (by simp))
 case makeFunc fn fa fb =>
  cases fn<;>simp only
  split
  ·rfl
  ·rename_i x _ hb
   rw[<-h x (by simp[hb])];split
   ·rename_i s off hx
    rw[(hp x (by simp[hb]) s).1 (by rw[hx]; simp[plE])]
   ·rfl
   ·rfl
  ·rename_i x z _ hb
   rw[<-h x (by simp[hb]),<-h z (by simp[hb])];split
   ·rename_i s off s' off' t u hx hz _
    rw[(hp x (by simp[hb]) s).1 (by rw[hx]; simp[plE]),(hp z (by simp[hb]) s').1 (by rw[hz]; simp[plE])]
   ·rfl
  ·rename_i x ha _
   rw[<-h x (by simp[ha])]
  ·rfl
 case call c =>
  split
  ·rename_i b hb
   rw[hb] at h;simp only at h;rw[<-X8 h];refine W1 fun x hx=>?_
   obtain ⟨y,hy,rfl⟩:=List.mem_map.1 hx;exact hp y hy
  ·rfl
theorem V1:∀(t:Ty) (x:t.T) (r:List C),plC (t.enc x r)=plC r
 | .int _,_,_=>rfl
 | .bool,_,_=>rfl
 | .str,_,_=>rfl
 | .fn,_,_=>rfl
 | .fnb,_,_=>rfl
 | .sl _,_,_=>rfl
 | .bsl _,_,_=>rfl
 | .pt _,_,_=>rfl
 | .tr _,_,_=>rfl
 | .bnd _,_,_=>rfl
 | .unit,_,_=>rfl
 | .pair a b,x,r=>by
  show plC (a.enc x.1 (b.enc x.2 r))=_;rw[V1 a,V1 b]
theorem V2:∀(l k:List Ent),plB σ (l++k)=plB σ l++plB σ k
 | [],_=>rfl
 | e::l,k=>by cases e<;>simp[plB,V2 l k]
theorem U4:∀{l:List Ent},(∀x∈l,plE x=[])->plB σ l=[]
 | [],_=>rfl
 | e::l,h=>by
  have h1:=h e (by simp);have h2:=U4 (l:=l) fun x hx=>h x (by simp[hx])
  cases e<;>simp_all [plB,plE]
theorem Qf {o:Oper} (h:WO G σ σ' (tn o.op)) (hp:∀x∈tE o.op,SameAt (plE (σ.ev G x)) σ σ') (hcp:SameAt (Y4 G o σ) σ σ') (hml:SameAt (plL (meL G Hh o σ)) σ σ') (hmb:SameAt (plB σ (meL G Hh o σ)) σ σ'):Y3 TI G Hh Sg V VD o σ=Y3 TI G Hh Sg V VD o σ':=by
 have hG:=za4 (TI:=TI) (Hh:=Hh) h hp;unfold Y3 efK;unfold Y4 at hcp;unfold meL at hml hmb;generalize o.op=op at h hp hcp hml hmb ⊢;split
 ·simp only[tn] at h
  rw[h _ (by simp),h _ (by simp),h _ (by simp)]
 ·rename_i f args _
  simp only[tn,tE] at h hp hcp;have hm:args.toList.map (σ.ev G)=args.toList.map (σ'.ev G):=X8 fun x hx=>h x (by simp at hx ⊢; right; exact hx)
  have hr:∀(as:List AT) (e:List Ent),(∀x∈e,plE x=[])->yO σ as (args.toList.map (σ.ev G)++e)=yO σ' as (args.toList.map (σ'.ev G)++e):=by
   intro as e he;rw[<-hm];refine uj (fun x hx=>?_) (by rw[V2,U4 he,List.append_nil]; exact hcp);rcases List.mem_append.1 hx with hx | hx
   ·obtain ⟨y,hy,rfl⟩:=List.mem_map.1 hx
    exact hp y hy
   ·rw[he x hx]; intro s; simp
  have hr0:∀(as:List AT),yO σ as (args.toList.map (σ.ev G))=yO σ' as (args.toList.map (σ'.ev G)):=by
   intro as;have:=hr as [] (by simp);simpa using this
  rw[<-h f (by simp)];simp only[<-hm] at hr hr0 ⊢;split
  ·simp only[hr0]
  ·rw[hr _ _ (by simp[plE])]
  ·rw[hr _ _ (by simp[plE])]
  ·rename_i f' t' y' _
   have hr1:∀(as:List AT),yO σ as (.d (.g (t'.enc y' []))::args.toList.map (σ.ev G))=yO σ' as (.d (.g (t'.enc y' []))::args.toList.map (σ'.ev G)):=by
    intro as;rw[<-hm];refine uj (fun x hx=>?_) (by simpa only [plB] using hcp);rcases List.mem_cons.1 hx with rfl | hx
    ·intro s; simp[plE,V1,plC]
    ·obtain ⟨y,hy,rfl⟩:=List.mem_map.1 hx
     exact hp y hy
   simp only[<-hm] at hr1;rw[hr1]
  ·rename_i n hfn
   cases hme:Hh.me with
   | none=>rfl
   | some r =>
    have hl:SameAt (plL (meE Hh (.d (.c (.fnb n))))) σ σ':=by rw[<-hfn]; exact hml
    have hb:SameAt (plB σ (meE Hh (.d (.c (.fnb n))))) σ σ':=by rw[<-hfn]; exact hmb
    have em:meE Hh (.d (.c (.fnb n)))=[.loc r 0]:=by unfold meE; rw[hme]
    rw[em] at hl hb;have hr2:∀(as:List AT),yO σ as (.loc r 0::args.toList.map (σ.ev G))=yO σ' as (.loc r 0::args.toList.map (σ'.ev G)):=by
     intro as;rw[<-hm];refine uj (fun x hx=>?_) ?_
     ·rcases List.mem_cons.1 hx with rfl | hx
      ·exact hl.mono fun y hy=>Yk (List.mem_singleton.2 rfl) y hy
      ·obtain ⟨y,hy,rfl⟩:=List.mem_map.1 hx
       exact hp y hy
     ·have e:plB σ (.loc r 0::args.toList.map (σ.ev G))=plB σ [.loc r 0]++plB σ (args.toList.map (σ.ev G)):=V2 [.loc r 0] _
      rw[e];intro y;have h1:=hb y;have h2:=hcp y;constructor
      ·intro hy
       rcases List.mem_append.1 hy with hy | hy
       ·exact h1.1 hy
       ·exact h2.1 hy
      ·intro hy
       rcases List.mem_append.1 hy with hy | hy
       ·exact h1.2 hy
       ·exact h2.2 hy
    simp only[<-hm] at hr2;simp only[hr2]
  ·rfl
 ·rw[hG]
 ·rw[hG]
theorem XS {t:Nat}:∀{l:List Operand},Operand.tmp t∈l->t∈qH l
 | x::r,h=>by
  rcases List.mem_cons.1 h with rfl | h
  ·simp[qH]
  ·have:=XS h
   cases x<;>simp_all [qH]
theorem qP {all:List Oper} {o:Oper} (h:∀s∈looks all o,σ.env s=σ'.env s):WO G σ σ' (tn o.op):=by
 intro x hx;cases x with
 | tmp t =>
  refine h t ?_;have:=XS hx;unfold looks;split
  ·split
   ·exact List.mem_cons_of_mem _ this
   ·exact this
  ·exact this
 | _=>rfl
theorem Sd {op:Op} {x:Operand} (h:x∈tE op):x∈tn op:=by
 cases op<;>simp only[tE,tn] at h ⊢<;>try (simp_all; done)
 case call c=>split<;>simp_all
def WP (k:Nat) (a b:Option DV):Prop:=a=b\/∃l m,a=some (.g l)/\b=some (.g m)/\l.length=m.length/\k<=l.length/\l.take k=m.take k
def HeadS (sp:Nat->Nat) (σ σ':St):Prop:=∀s,0<sp s->WP (sp s) (σ.box s) (σ'.box s)
theorem HeadS.symm {sp:Nat->Nat} {σ τ:St} (h:HeadS sp σ τ):HeadS sp τ σ:=fun s hs=>by
 rcases h s hs with h | ⟨l,m,h1,h2,h3,h4,h5⟩
 ·exact .inl h.symm
 ·exact .inr ⟨m,l,h2,h1,h3.symm,by omega,h5.symm⟩
theorem RV {t:TS} {off k:Nat} {l m:List C} (hl:l.length=m.length) (hk:off+t.zs.length<=k) (h:l.take k=m.take k):part t off l=part t off m:=by
 have e:∀(j:Nat),(l.drop off).take j=(l.take (off+j)).drop off:=fun j=>by rw[List.drop_take]; congr 1; omega
 have e':∀(j:Nat),(m.drop off).take j=(m.take (off+j)).drop off:=fun j=>by rw[List.drop_take]; congr 1; omega
 have key:(l.drop off).take t.zs.length=(m.drop off).take t.zs.length:=by
  rw[e,e'];have hh:(l.take k).take (off+t.zs.length)=(m.take k).take (off+t.zs.length):=by rw[h]
  rw[List.take_take,List.take_take,Nat.min_eq_left hk] at hh;rw[hh]
 unfold part;rw[key,hl];cases t.agg with
 | true=>rfl
 | false =>
  simp only[cond_false];split
  ·rename_i z x r h1 h2
   rw[h1,h2] at key;cases hm:m.drop off with
   | nil=>rw[hm] at key; simp at key
   | cons y s=>rw[hm] at key; simp at key; rw[h1]; simp[key]
  ·rename_i hne
   split
   ·rename_i z x r h1 h2
    rw[h1,h2] at key;cases hl':l.drop off with
    | nil=>rw[hl'] at key; simp at key
    | cons y s=>exact absurd hl' (hne z y s h1)
   ·rfl
theorem R0 {t:TS} {s off k:Nat} (h:WP k (σ.box s) (σ'.box s)) (hk:off+t.zs.length<=k):uA t σ (.loc s off)=uA t σ' (.loc s off):=by
 simp only[uA];rcases h with h | ⟨l,m,h1,h2,h3,h4,h5⟩
 ·rw[h]
 ·rw[h1,h2]
  simp only;rw[RV h3 hk h5]
theorem WW {all:List Oper} {o:Oper} (h:∀s∈looks all o,σ.env s=σ'.env s):uv TI G Hh o σ=uv TI G Hh o σ':=by
 have hx:=qP (G:=G) h;unfold uv;cases ho:o.op<;>try rfl
 simp only;rw[hx _ (by rw[ho]; simp[tn])]
theorem XZ:∀{es:List Ent},(∀x∈es,SameAt (plE x) σ σ')->plB σ es=plB σ' es
 | [],_=>rfl
 | e::es,h=>by
  have h1:=h e (by simp);have h2:=XZ (es:=es) fun x hx=>h x (by simp[hx])
  cases e<;>simp only[plB,h2]
  rename_i s off;rw[(h1 s).1 (by simp[plE])]
theorem XQ {all:List Oper} {o:Oper} (h:∀s∈looks all o,σ.env s=σ'.env s) (hp:SameAt (vT TI G Hh o σ) σ σ'):vT TI G Hh o σ=vT TI G Hh o σ':=by
 unfold vT at hp ⊢;have hm:(tE o.op).map (σ.ev G)=(tE o.op).map (σ'.ev G):=X8 fun x hx=>qP h x (Sd hx)
 rw[<-hm,<-WW h];cases hb:uv TI G Hh o σ with
 | true=>rfl
 | false =>
  rw[hb] at hp;have:Y4 G o σ=Y4 G o σ':=by
   unfold Y4;cases ho:o.op<;>try rfl
   rename_i c;simp only;rw[ho] at hm hp;simp only[tE] at hm hp;rw[<-hm];exact XZ fun x hx=>hp.mono fun y hy=>List.mem_cons_of_mem _ (List.mem_append_left _ (List.mem_append_left _ (Yk hx y hy)))
  have hmm:meL G Hh o σ=meL G Hh o σ':=by
   have he:=qP (G:=G) h;unfold meL;generalize o.op=op at he ⊢;split
   ·simp only[tn] at he
    rw[he _ (by simp)]
   ·rfl
  have hpb:plB σ (meL G Hh o σ)=plB σ' (meL G Hh o σ):=XZ fun x hx=>hp.mono fun y hy=>List.mem_cons_of_mem _ (List.mem_append_right _ (List.mem_append_left _ (Yk hx y hy)))
  rw[this,hpb,hmm]
theorem XP {o:Oper}:0∈vT TI G Hh o σ:=by
 unfold vT;cases uv TI G Hh o σ<;>simp
theorem VB {all:List Oper} {o:Oper} (h:∀s∈looks all o,σ.env s=σ'.env s) (hp:SameAt (vT TI G Hh o σ) σ σ') (hh:HeadS Hh.sp σ σ') :
  Yz TI G Hh Sg V VD all o σ=Yz TI G Hh Sg V VD all o σ':=by
 have hg:qk all o σ=qk all o σ':=by
  unfold qk;cases hgd:o.guard with
  | none=>rfl
  | some g =>
   simp only;cases hs:uh all g.1 with
   | none=>rfl
   | some s =>
    simp only;rw[h s (by unfold looks; simp[hgd,hs])]
 have he:Y3 TI G Hh Sg V VD o σ=Y3 TI G Hh Sg V VD o σ':=by
  unfold vT at hp;cases hb:uv TI G Hh o σ with
  | false =>
   rw[hb] at hp;exact Qf (qP h) (fun x hx=>hp.mono fun y hy=>List.mem_cons_of_mem _ (List.mem_append_left _ (List.mem_append_left _ (Yk (List.mem_map.2 ⟨x,hx,rfl⟩) y hy))))
    (hp.mono fun y hy=>List.mem_cons_of_mem _ (List.mem_append_left _ (List.mem_append_right _ hy)))
    (hp.mono fun y hy=>List.mem_cons_of_mem _ (List.mem_append_right _ (List.mem_append_left _ hy)))
    (hp.mono fun y hy=>List.mem_cons_of_mem _ (List.mem_append_right _ (List.mem_append_right _ hy)))
  | true =>
   unfold uv at hb;split at hb<;>try simp at hb
   rename_i t x ho;split at hb<;>try simp at hb
   rename_i s off hx;obtain ⟨h1,h2⟩:=hb;have hx':=qP (G:=G) h x (by rw[ho]; simp[tn]);have key:efG TI G Hh o σ=efG TI G Hh o σ':=by
    unfold efG;rw[ho];simp only;rw[<-hx',hx];exact R0 (hh s h1) h2
   unfold Y3 efK;rw[ho];simp only;rw[key]
 unfold Yz;rw[hg,he]
end
end Go.VS
namespace Go.VS
open Go
section
variable {TI:Nat->TS} {G:Nat->Option xK} {Hh:Hn} {Sg:Nat->Sig} {V:vj Sg} {VD:wy Hh} {N:Nat}
theorem X6 {x:Nat}:∀{l:List Nat},WU x l=true↔x∈l
 | []=>by simp[WU]
 | y::r=>by
  simp only[WU,Bool.or_eq_true,List.mem_cons,X6 (l:=r)];constructor
  ·rintro (h | h)
   ·exact .inl (Nat.eq_of_beq_eq_true h).symm
   ·exact .inr h
  ·rintro (h | h)
   ·subst h; exact .inl (by simp)
   ·exact .inr h
theorem Zt:∀{l k:List Nat},Qh l k=true->∀x∈l,x ∉ k
 | y::r,k,h,x,hx=>by
  simp only[Qh,Bool.and_eq_true,Bool.not_eq_true'] at h;rcases List.mem_cons.1 hx with rfl | hx
  ·intro hk; rw[X6.2 hk] at h; simp at h
  ·exact Zt h.2 x hx
theorem ZZ {d:Option Nat} {l:List Nat} (h:TD d l=false):∀s,d=some s->s ∉ l:=by
 intro s hs hl;subst hs;simp[TD,X6.2 hl] at h
def wK:List (Nat×DV)->Nat->Option (Option DV)
 | [],_=>none
 | (s,d)::r,p=>match wK r p with
  | some x=>some x
  | none=>if p=s then some (some d) else none
def YU (dst:Option Nat):ME->Nat->Option (Option DV)
 | .newBox d,p=>if dst=some p then some (some d) else none
 | .setBox s d,p=>if p=s then some (some d) else none
 | .outs l _ _ _ _,p=>wK l p
 | _,_=>none
def qS:Nat->List (Bool×xK)->List Nat->Nat->Option qw
 | k,(false,o)::r,ips,p=>match qS (k+1) r ips p with
  | some x=>some x
  | none=>if p=k then some (.is o) else none
 | k,(true,o)::r,q::ips,p=>match qS (k+1) r ips p with
  | some x=>some x
  | none=>if p=q then some (.is o) else if p=k then some .dead else none
 | _,_,_,_=>none
def Yo (dst:Option Nat):ME->Nat->Option qw
 | .newOwn t l,p=>if dst=some p then some (.is ⟨t,l⟩) else none
 | .setOwn s t l,p=>if p=s then some (.is ⟨t,l⟩) else none
 | .grow r t l,p=>if dst=some p then some (.is ⟨t,l⟩) else if p=r then some .dead else none
 | .outs _ mv k os ips,p=>match qS k os ips p with
  | some x=>some x
  | none=>if p∈mv then some .dead else none
 | _,_=>none
theorem qb:∀(l:List (Nat×DV)) (f:Nat->Option DV) (p:Nat),Yb f l p=(wK l p).getD (f p)
 | [],_,_=>rfl
 | (s,d)::r,f,p=>by
  simp only[Yb,wK];rw[qb r];cases wK r p with
  | some x=>rfl
  | none =>
   simp only[Option.getD_none];by_cases hp:p=s
   ·subst hp; simp[yp]
   ·simp[hp,yN _ _ hp]
theorem Zu {α:Type} {b:Bool} {x y:α} (h:(bif b then none else some x)=some y):b=false/\x=y:=by
 cases b<;>simp_all
theorem vW:∀{l:List Nat} {f:Nat->qw} {p:Nat},Vk l f p=(if p∈l then .dead else f p)
 | [],f,p=>by simp[Vk]
 | s::r,f,p=>by
  simp only[Vk];rw[vW];by_cases h1:p∈r
  ·simp[h1]
  ·by_cases h2:p=s
   ·subst h2; simp[h1,yp]
   ·simp[h1,h2,yN _ _ h2]
theorem Uf:∀{os:List (Bool×xK)} {k:Nat} {ips:List Nat} {f f':Nat->qw},uX k os ips f=some f'->∀p,f' p=(qS k os ips p).getD (f p)
 | [],k,[],f,f',h,p=>by simp[uX] at h; subst h; rfl
 | [],k,_::_,f,f',h,p=>by simp[uX] at h
 | (true,o)::r,k,[],f,f',h,p=>by simp[uX] at h
 | (false,o)::r,k,ips,f,f',h,p=>by
  simp only[uX] at h;split at h<;>try simp at h
  cases ha:uF k with
  | true=>simp[ha] at h
  | false =>
  simp only[ha,cond_false] at h;rw[Uf h p];simp only[qS];cases qS (k+1) r ips p with
  | some x=>rfl
  | none =>
   simp only[Option.getD_none];by_cases e:p=k
   ·subst e; simp[yp]
   ·simp[e,yN _ _ e]
 | (true,o)::r,k,q::ips,f,f',h,p=>by
  simp only[uX] at h;split at h<;>try simp at h
  cases ha:uF k with
  | true=>simp[ha] at h
  | false =>
  simp only[ha,cond_false] at h;rw[Uf h p];simp only[qS];cases qS (k+1) r ips p with
  | some x=>rfl
  | none =>
   simp only[Option.getD_none];by_cases e:p=q
   ·subst e; simp[yp]
   ·rw[yN _ _ e]
    by_cases e':p=k
    ·subst e'; simp[yp,e]
    ·simp[e,e',yN _ _ e']
theorem Wg:∀{os:List (Bool×xK)} {k:Nat} {ips:List Nat} {p:Nat},(qS k os ips p).isSome=true->p∈ue k os++ips
 | [],k,ips,p,h=>by cases ips<;>simp[qS] at h
 | (true,o)::r,k,[],p,h=>by simp[qS] at h
 | (false,o)::r,k,ips,p,h=>by
  simp only[qS] at h;cases e:qS (k+1) r ips p with
  | some x =>
   have:=Wg (os:=r) (k:=k+1) (ips:=ips) (p:=p) (by rw[e]; rfl);simp only[ue,List.cons_append,List.mem_cons]; exact .inr this
  | none =>
   rw[e] at h;simp only at h;split at h
   ·rename_i e'; subst e'; simp[ue]
   ·simp at h
 | (true,o)::r,k,q::ips,p,h=>by
  simp only[qS] at h;cases e:qS (k+1) r ips p with
  | some x =>
   have:=Wg (os:=r) (k:=k+1) (ips:=ips) (p:=p) (by rw[e]; rfl);simp only[ue,List.cons_append,List.mem_cons,List.mem_append] at this ⊢;rcases this with h1 | h1
   ·exact .inr (.inl h1)
   ·exact .inr (.inr (.inr h1))
  | none =>
   rw[e] at h;simp only at h;split at h
   ·rename_i e'; subst e'; simp[ue]
   ·split at h
    ·rename_i e'; subst e'; simp[ue]
    ·simp at h
theorem Y0:∀{os:List (Bool×xK)} {k:Nat} {ips:List Nat} {f f' g:Nat->qw},uX k os ips f=some f'->(∀p∈ue k os,f p=g p)->∃g',uX k os ips g=some g'
 | [],k,[],f,f',g,h,_=>⟨g,rfl⟩
 | [],k,_::_,f,f',g,h,_=>by simp[uX] at h
 | (true,o)::r,k,[],f,f',g,h,_=>by simp[uX] at h
 | (false,o)::r,k,ips,f,f',g,h,hg=>by
  simp only[uX] at h;split at h<;>try simp at h
  rename_i hk;cases ha:uF k with
  | true=>simp[ha] at h
  | false =>
  simp only[ha,cond_false] at h;obtain ⟨g',hg'⟩:=Y0 (g:=upd g k (.is o)) h fun p hp=>by
   by_cases e:p=k
   ·subst e; rw[yp,yp]
   ·rw[yN _ _ e,yN _ _ e]; exact hg p (by simp[ue,hp])
  exact ⟨g',by simp only[uX,<-hg k (by simp[ue]),hk,ha,cond_false]; exact hg'⟩
 | (true,o)::r,k,q::ips,f,f',g,h,hg=>by
  simp only[uX] at h;split at h<;>try simp at h
  rename_i hk;cases ha:uF k with
  | true=>simp[ha] at h
  | false =>
  simp only[ha,cond_false] at h;obtain ⟨g',hg'⟩:=Y0 (g:=upd (upd g k .dead) q (.is o)) h fun p hp=>by
   by_cases e:p=q
   ·subst e; rw[yp,yp]
   ·rw[yN _ _ e,yN _ _ e]
    by_cases e':p=k
    ·subst e'; rw[yp,yp]
    ·rw[yN _ _ e',yN _ _ e']; exact hg p (by simp[ue,hp])
  exact ⟨g',by simp only[uX,<-hg k (by simp[ue]),hk,ha,cond_false]; exact hg'⟩
theorem uJ {σ σ':St} {dst:Option Nat} {m:ME} (h:vL σ dst m=some σ') (h0:0 ∉ wr dst m) :
  σ'.env=σ.env/\(∀p,σ'.box p=(YU dst m p).getD (σ.box p))/\(∀p,σ'.own p=(Yo dst m p).getD (σ.own p)):=by
 cases m<;>simp only[vL] at h
 case none=>simp at h; subst h; exact ⟨rfl,fun _=>rfl,fun _=>rfl⟩
 case newBox d =>
  split at h<;>try simp at h
  split at h<;>simp at h;subst h;refine ⟨rfl,fun p=>?_,fun _=>rfl⟩;rename_i s _ _;by_cases hp:p=s
  ·subst hp; simp[YU,yp]
  ·simp[YU,yN _ _ hp,Ne.symm hp]
 case newOwn t l =>
  split at h<;>try simp at h
  split at h<;>try simp at h
  rename_i s _ _;obtain ⟨_,rfl⟩:=Zu h;refine ⟨rfl,fun _=>rfl,fun p=>?_⟩;by_cases hp:p=s
  ·subst hp; simp[Yo,yp]
  ·simp[Yo,yN _ _ hp,Ne.symm hp]
 case setBox s d =>
  simp at h; subst h;refine ⟨rfl,fun p=>?_,fun _=>rfl⟩;by_cases hp:p=s
  ·subst hp; simp[YU,yp]
  ·simp[YU,yN _ _ hp,hp]
 case setOwn s t l =>
  simp at h; subst h;refine ⟨rfl,fun _=>rfl,fun p=>?_⟩;by_cases hp:p=s
  ·subst hp; simp[Yo,yp]
  ·simp[Yo,yN _ _ hp,hp]
 case grow r t l =>
  split at h<;>try simp at h
  split at h<;>try simp at h
  rename_i s _ _;obtain ⟨_,rfl⟩:=Zu h;refine ⟨rfl,fun _=>rfl,fun p=>?_⟩;by_cases hp:p=s
  ·subst hp; simp[Yo,yp]
  ·by_cases hr:p=r
   ·subst hr; simp[Yo,yN _ _ hp,yp,Ne.symm hp]
   ·simp[Yo,yN _ _ hp,yN _ _ hr,hr,Ne.symm hp]
 case outs l mv k os ips =>
  split at h<;>simp at h;rename_i f hf;subst h;refine ⟨rfl,fun p=>qb l _ p,fun p=>?_⟩;simp only[Yo];rw[Uf hf p,vW];cases qS k os ips p with
  | some x=>rfl
  | none=>simp only[Option.getD_none]; split<;>rfl
 case freeze s l=>simp[wr] at h0
 case freeze2 s l s' l'=>simp[wr] at h0
theorem X1:∀{l:List (Nat×DV)} {p:Nat},(wK l p).isSome=true->2*p+1∈l.map fun x=>2*x.1+1
 | (s,d)::r,p,h=>by
  simp only[wK] at h;cases hr:wK r p with
  | some x=>exact List.mem_cons_of_mem _ (X1 (by rw[hr]; rfl))
  | none =>
   rw[hr] at h;simp only at h;split at h
   ·rename_i e; subst e; simp
   ·simp at h
theorem X4 {dst:Option Nat} {m:ME} {p:Nat} (h:(YU dst m p).isSome=true):2*p+1∈wr dst m:=by
 cases m<;>simp only[YU] at h<;>try (simp at h; done)
 case newBox d=>split at h<;>simp at h; rename_i e; subst e; simp[wr]
 case setBox s d=>split at h<;>simp at h; rename_i e; subst e; simp[wr]
 case outs l mv k os ips=>exact List.mem_append_left _ (X1 h)
theorem X3 {dst:Option Nat} {m:ME} {p:Nat} (h:(Yo dst m p).isSome=true):2*p+2∈wr dst m:=by
 cases m<;>simp only[Yo] at h<;>try (simp at h; done)
 case newOwn t l=>split at h<;>simp at h; rename_i e; subst e; simp[wr]
 case setOwn s t l=>split at h<;>simp at h; rename_i e; subst e; simp[wr]
 case grow r t l =>
  split at h
  ·rename_i e; subst e; simp[wr]
  ·split at h<;>simp at h
   rename_i e; subst e; cases dst<;>simp[wr]
 case outs l mv k os ips =>
  refine List.mem_append_right _ (List.mem_map.2 ⟨p,?_,rfl⟩);cases hi:qS k os ips p with
  | some x=>exact List.mem_append_right _ (Wg (by rw[hi]; rfl))
  | none =>
   rw[hi] at h;simp only at h;split at h
   ·rename_i e; exact List.mem_append_left _ e
   ·simp at h
theorem Vh {σ τ σ':St} {dst:Option Nat} {m:ME} (h:vL σ dst m=some σ') (h0:0 ∉ wr dst m) (hs:SameAt (wr dst m) σ τ):∃τ',vL τ dst m=some τ':=by
 cases m<;>simp only[vL] at h ⊢
 case none=>exact ⟨_,rfl⟩
 case newBox d =>
  split at h<;>try simp at h
  split at h<;>simp at h;rename_i s _ hb;rw[<-(hs s).1 (by simp[wr]),hb];exact ⟨_,rfl⟩
 case newOwn t l =>
  split at h<;>try simp at h
  split at h<;>try simp at h
  rename_i s _ hb;obtain ⟨hp,_⟩:=Zu h;try simp only
  rw[<-(hs s).2 (by simp[wr]),hb];simp only[hp,cond_false];exact ⟨_,rfl⟩
 case setBox s d=>exact ⟨_,rfl⟩
 case setOwn s t l=>exact ⟨_,rfl⟩
 case grow r t l =>
  split at h<;>try simp at h
  split at h<;>try simp at h
  rename_i s _ hb;obtain ⟨hp,_⟩:=Zu h;try simp only
  rw[<-(hs s).2 (by simp[wr]),hb];simp only[hp,cond_false];exact ⟨_,rfl⟩
 case outs l mv k os ips =>
  split at h<;>simp at h;rename_i f hf;obtain ⟨g',hg'⟩:=Y0 (g:=Vk mv τ.own) hf fun p hp=>by
   rw[vW,vW,(hs p).2 (List.mem_append_right _ (List.mem_map.2 ⟨p,by simp[hp],rfl⟩))]
  rw[hg'];exact ⟨_,rfl⟩
 case freeze s l=>exact ⟨_,rfl⟩
 case freeze2 s l s' l'=>exact ⟨_,rfl⟩
def qd (f:Nat->Ent) (dst:Option Nat) (e:Ent):Nat->Ent:=match dst with | some s=>upd f s e | none=>f
theorem vR {sp:Nat->Nat} {σ σ1:St} {dst:Option Nat} {e:Eff} (h:ww sp N σ dst e=some σ1) :
  ∃σ',vL σ dst e.mem=some σ'/\σ1={σ' with env:=qd σ'.env dst e.ent}/\(∀s,dst=some s->s<N)/\ZI sp σ dst e.mem=some true:=by
 unfold ww at h;split at h<;>try simp at h
 rename_i b hh;cases b with
 | false=>simp at h
 | true =>
 simp only[cond_true] at h;split at h<;>try simp at h
 rename_i σ' hm;cases dst with
 | none=>simp at h; subst h; exact ⟨σ',hm,rfl,fun _ h=>(by cases h),hh⟩
 | some s =>
  simp only at h;cases hb:Nat.blt s N with
  | false=>simp[hb] at h
  | true =>
   simp[hb] at h;subst h;refine ⟨σ',hm,rfl,fun r hr=>?_,hh⟩;cases hr
   have:=Nat.le_of_ble_eq_true hb; omega
theorem VH {sp:Nat->Nat} {σ σ':St} {dst:Option Nat} {e:Eff} (h:vL σ dst e.mem=some σ') (hd:∀s,dst=some s->s<N) (hh:ZI sp σ dst e.mem=some true) :
  ww sp N σ dst e=some {σ' with env:=qd σ'.env dst e.ent}:=by
 unfold ww;rw[hh,h];cases dst with
 | none=>rfl
 | some s =>
  have hb:Nat.blt s N=true:=by have:=hd s rfl; exact Nat.ble_eq_true_of_le (by omega)
  simp[hb,qd]
theorem zan {a b:ByteArray} (h:(a==b)=true):a=b:=by
 rw[beq_toListBytes,ByteArray.toList_eq,ByteArray.toList_eq] at h;have h:=eq_of_beq h;obtain ⟨⟨x⟩⟩:=a;obtain ⟨⟨y⟩⟩:=b;simp at h;rw[h]
theorem Yx:∀{l m:List C},eqC l m=some true->l=m
 | [],[],_=>rfl
 | [],_::_,h=>by simp[eqC] at h
 | _::_,[],h=>by unfold eqC at h; split at h<;>simp_all
 | a::l,b::m,h=>by
  unfold eqC at h;split at h
  ·rename_i e _; cases e
  ·rename_i e1 e2; cases e1; cases e2
   split at h<;>try simp at h
   rename_i hk;split at h<;>simp at h;rename_i q hq;obtain ⟨h1,rfl⟩:=h;rw[hk,h1,Yx hq]
  ·rename_i e1 e2; cases e1; cases e2
   split at h<;>simp at h;rename_i q hq;obtain ⟨h1,rfl⟩:=h;rw[h1,Yx hq]
  ·rename_i e1 e2; cases e1; cases e2
   split at h<;>try simp only[Option.some.injEq,Bool.and_eq_true,reduceCtorEq] at h
   rename_i q hq;obtain ⟨h1,rfl⟩:=h;rw[zan h1,Yx hq]
  ·simp at h
theorem Sp {k:Nat} {a:Option DV} {d:DV} (h:Rd k a d=some true):WP k a (some d):=by
 unfold Rd at h;split at h<;>try simp at h
 rename_i l m;cases hb:Nat.beq l.length m.length&&Nat.ble k l.length with
 | false=>simp[hb] at h
 | true =>
  simp only[hb,cond_true] at h;simp only[Bool.and_eq_true] at hb;exact .inr ⟨l,m,rfl,rfl,Nat.eq_of_beq_eq_true hb.1,Nat.le_of_ble_eq_true hb.2,Yx h⟩
theorem ZV {sp:Nat->Nat} {σ:St}:∀{l:List (Nat×DV)},ZJ sp σ l=some true->∀s d,0<sp s->wK l s=some d->WP (sp s) (σ.box s) d
 | [],_,s,d,_,hd=>by simp[wK] at hd
 | (r,x)::l,h,s,d,hs,hd=>by
  simp only[ZJ] at h;have hl:ZJ sp σ l=some true/\(0<sp r->Rd (sp r) (σ.box r) x=some true):=by
   cases hb:Nat.beq (sp r) 0 with
   | true=>rw[hb] at h; simp only[cond_true] at h; have:=Nat.eq_of_beq_eq_true hb; exact ⟨h,fun hp=>by omega⟩
   | false =>
    rw[hb] at h;simp only[cond_false] at h;split at h<;>simp at h;rename_i a b ha hb';obtain ⟨rfl,rfl⟩:=h;exact ⟨hb',fun _=>ha⟩
  simp only[wK] at hd;cases ho:wK l s with
  | some y =>
   rw[ho] at hd;simp only at hd;have:=ZV hl.1 s y hs ho;first | (simp at hd; subst hd; exact this) | (rw[<-hd]; exact this)
  | none =>
   rw[ho] at hd;simp only at hd;split at hd<;>simp at hd;rename_i e;subst e;subst hd;exact Sp (hl.2 hs)
theorem So {sp:Nat->Nat} {σ:St} {dst:Option Nat} {m:ME} (h:ZI sp σ dst m=some true) {s:Nat} {d:Option DV} (hs:0<sp s) (hd:YU dst m s=some d):WP (sp s) (σ.box s) d:=by
 cases m<;>simp only[YU] at hd<;>try (simp at hd; done)
 case newBox x =>
  split at hd<;>simp at hd;rename_i e;subst e;simp only[ZI] at h;cases hb:Nat.beq (sp s) 0 with
  | true=>have:=Nat.eq_of_beq_eq_true hb; omega
  | false=>simp[hb] at h
 case setBox r x =>
  simp only[ZI] at h;refine ZV h s d hs ?_;simp only[wK];exact hd
 case outs l mv k os ips=>exact ZV h s d hs hd
theorem ZW {sp:Nat->Nat} {σ τ:St}:∀{l:List (Nat×DV)},(∀p∈l,σ.box p.1=τ.box p.1)->ZJ sp σ l=ZJ sp τ l
 | [],_=>rfl
 | (s,d)::l,h=>by
  simp only[ZJ];rw[ZW (l:=l) fun p hp=>h p (by simp[hp]),h (s,d) (by simp)]
theorem Wk {sp:Nat->Nat} {σ τ:St} {dst:Option Nat} {m:ME} (h0:0 ∉ wr dst m) (h:SameAt (wr dst m) σ τ):ZI sp σ dst m=ZI sp τ dst m:=by
 cases m<;>try rfl
 case setBox s d=>exact ZW fun p hp=>by simp at hp; subst hp; exact (h _).1 (by simp[wr])
 case outs l mv k os ips =>
  exact ZW fun p hp=>(h _).1 (by simp only[wr]; exact List.mem_append_left _ (List.mem_map.2 ⟨p,hp,rfl⟩))
theorem qc {f:Nat->Ent} {dst:Option Nat} {e:Ent} {s:Nat} (h:dst≠some s):qd f dst e s=f s:=by
 cases dst with
 | none=>rfl
 | some d=>exact yN _ _ fun hs=>h (by rw[hs])
theorem RU {f:Nat->Ent} {d d':Option Nat} {e e':Ent} (h:∀s,d=some s->d'≠some s):qd (qd f d e) d' e'=qd (qd f d' e') d e:=by
 funext x
 by_cases h1:d=some x
 ·rw[qc (h x h1)]
  subst h1; simp[qd,yp]
 ·rw[qc (dst:=d) h1]
  by_cases h2:d'=some x
  ·subst h2; simp[qd,yp]
  ·rw[qc h2,qc h2,qc h1]
theorem tz {sp:Nat->Nat} {σ σ1:St} {dst:Option Nat} {e:Eff} (h:ww sp N σ dst e=some σ1) {l:List Nat} (hd:∀x∈wr dst e.mem,x ∉ l) (h0:0∈l):SameAt l σ σ1:=by
 obtain ⟨σ',hm,rfl,_,_⟩:=vR h;obtain ⟨_,h2,h3⟩:=uJ hm fun hx=>hd 0 hx h0
 intro s;refine ⟨fun hs=>?_,fun hs=>?_⟩
 ·simp only
  rw[h2];cases hb:YU dst e.mem s with
  | none=>rfl
  | some x=>exact absurd hs (hd _ (X4 (by rw[hb]; rfl)))
 ·simp only
  rw[h3];cases hb:Yo dst e.mem s with
  | none=>rfl
  | some x=>exact absurd hs (hd _ (X3 (by rw[hb]; rfl)))
theorem Xo {sp:Nat->Nat} {σ σ1:St} {dst:Option Nat} {e:Eff} (h:ww sp N σ dst e=some σ1) (h0:0 ∉ wr dst e.mem):HeadS sp σ σ1:=by
 obtain ⟨σ',hm,rfl,_,hh⟩:=vR h;obtain ⟨_,h2,_⟩:=uJ hm h0;intro s hs;simp only;rw[h2];cases hb:YU dst e.mem s with
 | none=>exact .inl rfl
 | some d=>exact So hh hs hb
theorem SameAt.symm {l:List Nat} {σ τ:St} (h:SameAt l σ τ):SameAt l τ σ:=fun s=>⟨fun hx=>((h s).1 hx).symm,fun hx=>((h s).2 hx).symm⟩
theorem swap {all:List Oper} {oi oj:Oper} {σ σ1 σ2:St} {ei ej:Eff} {i j mi mj:Nat}
  (hi:Yz TI G Hh Sg V VD all oi σ=some ei) (ai:ww Hh.sp N σ oi.dst ei=some σ1) (hj:Yz TI G Hh Sg V VD all oj σ1=some ej) (aj:ww Hh.sp N σ1 oj.dst ej=some σ2)
  (hf:Ui ⟨i,oi.dst,looks all oi,vT TI G Hh oi σ,wr oi.dst ei.mem,mi⟩ ⟨j,oj.dst,looks all oj,vT TI G Hh oj σ1,wr oj.dst ej.mem,mj⟩=true) :
  ∃σ1',Yz TI G Hh Sg V VD all oj σ=some ej/\ww Hh.sp N σ oj.dst ej=some σ1'/\vT TI G Hh oj σ=vT TI G Hh oj σ1 /\
   Yz TI G Hh Sg V VD all oi σ1'=some ei/\ww Hh.sp N σ1' oi.dst ei=some σ2/\vT TI G Hh oi σ1'=vT TI G Hh oi σ:=by
 simp only[Ui,Bool.and_eq_true,Bool.not_eq_true'] at hf;obtain ⟨⟨⟨⟨⟨f1,f2⟩,f3⟩,f4⟩,f5⟩,f6⟩:=hf;have f1:=ZZ f1;have f2:=ZZ f2;have f4:=Zt f4;have f5:=Zt f5;have f6:=Zt f6;have hne:∀s,oi.dst=some s->oj.dst≠some s:=fun s h1 h2=>by have:=ZZ f3 s h1; rw[h2] at this; simp at this
 have t0j:0∈vT TI G Hh oj σ1:=XP;have t0i:0∈vT TI G Hh oi σ:=XP;obtain ⟨τ1,m1,rfl,n1,g1⟩:=vR ai;have z1:0 ∉ wr oi.dst ei.mem:=fun h=>f4 0 h t0j
 have z2:0 ∉ wr oj.dst ej.mem:=fun h=>f5 0 h t0i
 obtain ⟨b1,b2,b3⟩:=uJ m1 z1;have lj:∀s∈looks all oj,({τ1 with env:=qd τ1.env oi.dst ei.ent}:St).env s=σ.env s:=fun s hs=>by
  show qd τ1.env oi.dst ei.ent s=σ.env s;rw[qc fun h=>f1 s h hs,b1]
 have sj:=(tz ai f4 t0j).symm;have tj:=XQ (TI:=TI) (G:=G) (Hh:=Hh) (o:=oj) lj sj;have hj':=VB (TI:=TI) (Hh:=Hh) (Sg:=Sg) (V:=V) (VD:=VD) lj sj (Xo ai z1).symm;obtain ⟨τ2,m2,rfl,n2,g2⟩:=vR aj;have sw:SameAt (0::wr oj.dst ej.mem) σ {τ1 with env:=qd τ1.env oi.dst ei.ent}:=tz ai (fun x hx=>by
  simp only[List.mem_cons,not_or]; exact ⟨fun e=>z1 (e ▸ hx),f6 x hx⟩) (by simp)
 obtain ⟨τ3,m3⟩:=Vh m2 z2 (τ:=σ) (sw.symm.mono fun x hx=>List.mem_cons_of_mem _ hx);have aj':=VH (N:=N) m3 n2 ((Wk z2 (sw.mono fun x hx=>List.mem_cons_of_mem _ hx)).trans g2);obtain ⟨c1,c2,c3⟩:=uJ m3 z2;obtain ⟨d1,d2,d3⟩:=uJ m2 z2;have li:∀s∈looks all oi,σ.env s=({τ3 with env:=qd τ3.env oj.dst ej.ent}:St).env s:=fun s hs=>by
  show σ.env s=qd τ3.env oj.dst ej.ent s;rw[qc fun h=>f2 s h hs,c1]
 have si:=tz aj' f5 t0i;have ti:=XQ (TI:=TI) (G:=G) (Hh:=Hh) (o:=oi) li si;have hi':=VB (TI:=TI) (Hh:=Hh) (Sg:=Sg) (V:=V) (VD:=VD) li si (Xo aj' z2);have sw':SameAt (0::wr oi.dst ei.mem) σ {τ3 with env:=qd τ3.env oj.dst ej.ent}:=tz aj' (fun x hx=>by
  simp only[List.mem_cons,not_or]; exact ⟨fun e=>z2 (e ▸ hx),fun h=>f6 x h hx⟩) (by simp)
 obtain ⟨τ4,m4⟩:=Vh m1 z1 (τ:={τ3 with env:=qd τ3.env oj.dst ej.ent}) (sw'.mono fun x hx=>List.mem_cons_of_mem _ hx);obtain ⟨e1,e2,e3⟩:=uJ m4 z1;refine ⟨_,by rw[<-hj',hj],aj',tj.symm,by rw[<-hi',hi],?_,ti.symm⟩;rw[VH m4 n1 ((Wk z1 (sw'.symm.mono fun x hx=>List.mem_cons_of_mem _ hx)).trans g1)];congr 1
 obtain ⟨env4,box4,own4⟩:=τ4;obtain ⟨env2,box2,own2⟩:=τ2;simp only at e1 e2 e3 d1 d2 d3 ⊢;have x1:qd env4 oi.dst ei.ent=qd env2 oj.dst ej.ent:=by
  rw[e1,d1,c1,b1];exact (RU hne).symm
 have x2:box4=box2:=by
  funext p
  rw[e2,d2,c2,b2];cases h1:YU oi.dst ei.mem p with
  | none=>rfl
  | some y =>
   cases h2:YU oj.dst ej.mem p with
   | none=>rfl
   | some z=>exact absurd (X4 (by rw[h2]; rfl)) (f6 _ (X4 (by rw[h1]; rfl)))
 have x3:own4=own2:=by
  funext p
  rw[e3,d3,c3,b3];cases h1:Yo oi.dst ei.mem p with
  | none=>rfl
  | some y =>
   cases h2:Yo oj.dst ej.mem p with
   | none=>rfl
   | some z=>exact absurd (X3 (by rw[h2]; rfl)) (f6 _ (X3 (by rw[h1]; rfl)))
 rw[x1,x2,x3]
end
end Go.VS
namespace Go.VS
open Go
section
variable {TI:Nat->TS} {G:Nat->Option xK} {Hh:Hn} {Sg:Nat->Sig} {V:vj Sg} {VD:wy Hh} {N:Nat} {R:Type}
def RunN (TI:Nat->TS) (G:Nat->Option xK) (Hh:Hn) (Sg:Nat->Sig) (V:vj Sg) (VD:wy Hh) (N:Nat) (all:List Oper):List (Oper×FP)->St->St->Prop
 | [],σ,σe=>σ=σe
 | x::l,σ,σe=>∃e σ1,Yz TI G Hh Sg V VD all x.1 σ=some e/\ww Hh.sp N σ x.1.dst e=some σ1/\x.2.dst=x.1.dst/\x.2.looks=looks all x.1/\x.2.T=vT TI G Hh x.1 σ /\
   x.2.W=wr x.1.dst e.mem/\RunN TI G Hh Sg V VD N all l σ1 σe
theorem RunN.front {all:List Oper}:∀(l1:List (Oper×FP)) {x:Oper×FP} {l2:List (Oper×FP)} {σ σe:St},RunN TI G Hh Sg V VD N all (l1++x::l2) σ σe->
  (∀y∈l1,Ui y.2 x.2=true)->RunN TI G Hh Sg V VD N all (x::(l1++l2)) σ σe
 | [],_,_,_,_,h,_=>h
 | y::l1,x,l2,σ,σe,h,hf=>by
  obtain ⟨e,σ1,h1,h2,h3,h4,h5,h6,h7⟩:=h;obtain ⟨e',σ2,k1,k2,k3,k4,k5,k6,k7⟩:=RunN.front l1 h7 fun z hz=>hf z (by simp[hz])
  have hfree:=hf y (by simp);obtain ⟨oy,⟨iy,dy,ly,Ty,Wy,my⟩⟩:=y;obtain ⟨ox,⟨ix,dx,lx,Tx,Wx,mx⟩⟩:=x;simp only at h1 h2 h3 h4 h5 h6 k1 k2 k3 k4 k5 k6 hfree;subst h3 h4 h5 h6 k3 k4 k5 k6;obtain ⟨σ1',s1,s2,s3,s4,s5,s6⟩:=swap h1 h2 k1 k2 hfree;exact ⟨e',σ1',s1,s2,rfl,rfl,s3.symm,rfl,e,σ2,s4,s5,rfl,rfl,s6.symm,rfl,k7⟩
def wm (all:List Oper):List FP->Nat->List Oper->List (List Nat×List Nat)->List (Oper×FP)
 | done,j,o::r,p::q=>match ZT done o.after.toList with
  | some m=>(o,⟨j,o.dst,looks all o,p.1,p.2,m⟩)::wm all (⟨j,o.dst,looks all o,p.1,p.2,m⟩::done) (j+1) r q
  | none=>[]
 | _,_,_,_=>[]
theorem Xk:∀{l:List FP} {i:Nat} {p:FP},Uj i l=some p->p∈l/\p.i=i
 | q::r,i,p,h=>by
  simp only[Uj] at h;cases hb:Nat.beq q.i i with
  | true=>simp[hb] at h; subst h; exact ⟨by simp,Nat.eq_of_beq_eq_true hb⟩
  | false=>simp[hb] at h; have:=Xk h; exact ⟨by simp[this.1],this.2⟩
theorem qO {done:List FP}:∀{es:List Edge} {m:Nat},ZT done es=some m->
  (∀a,m.testBit a=true->∃e∈es,Region.binds .any e=true/\∃p∈done,p.i=e.on/\(p.m.testBit a=true\/a=p.i)) /\
  (∀e∈es,Region.binds .any e=true->∃p∈done,p.i=e.on)
 | [],m,h=>by simp[ZT] at h; subst h; exact ⟨fun a ha=>by simp at ha,fun e he=>by cases he⟩
 | e::r,m,h=>by
  simp only[ZT] at h;cases hb:Region.binds .any e with
  | false =>
   simp only[hb,cond_false] at h;obtain ⟨h1,h2⟩:=qO h;refine ⟨fun a ha=>?_,fun e' he' hb'=>?_⟩
   ·obtain ⟨e',he',r'⟩:=h1 a ha; exact ⟨e',by simp[he'],r'⟩
   ·rcases List.mem_cons.1 he' with rfl | he'
    ·rw[hb] at hb'; cases hb'
    ·exact h2 e' he' hb'
  | true =>
   simp only[hb,cond_true] at h;split at h<;>simp at h;rename_i p m' hp hm;subst h;obtain ⟨h1,h2⟩:=qO hm;obtain ⟨p1,p2⟩:=Xk hp;refine ⟨fun a ha=>?_,fun e' he' hb'=>?_⟩
   ·rw[Nat.testBit_or,Nat.testBit_or,Nat.one_shiftLeft,Nat.testBit_two_pow] at ha
    simp only[Bool.or_eq_true,decide_eq_true_eq] at ha;rcases ha with (ha | ha) | ha
    ·obtain ⟨e',he',r'⟩:=h1 a ha; exact ⟨e',by simp[he'],r'⟩
    ·exact ⟨e,by simp,hb,p,p1,p2,.inl ha⟩
    ·exact ⟨e,by simp,hb,p,p1,p2,.inr ha.symm⟩
   ·rcases List.mem_cons.1 he' with rfl | he'
    ·exact ⟨p,p1,p2⟩
    ·exact h2 e' he' hb'
structure Sound (items:List (Oper×FP)):Prop where
 idx:∀(k:Nat) (x:Oper×FP),items[k]?=some x->x.2.i=k
 lt:items.Pairwise fun x y=>x.2.i<y.2.i
 pair:items.Pairwise fun x y=>y.2.m.testBit x.2.i=true\/Ui x.2 y.2=true
 clos:∀L:Nat->Prop,(∀x∈items,L x.2.i->∀e∈x.1.after.toList,Region.binds .any e=true->L e.on)->
  ∀x∈items,(∀e∈x.1.after.toList,Region.binds .any e=true->L e.on)->∀a,x.2.m.testBit a=true->L a
 edge:∀x∈items,∀e∈x.1.after.toList,Region.binds .any e=true->e.on<x.2.i
theorem Za {all:List Oper}:∀{ops:List Oper} {fs:List (List Nat×List Nat)} {done:List FP} {j:Nat},vI all done j ops fs=true->(∀p∈done,p.i<j)->
  (wm all done j ops fs).map (·.1)=ops/\(∀(k:Nat) (x:Oper×FP),(wm all done j ops fs)[k]?=some x->x.2.i=j+k)/\(∀x∈wm all done j ops fs,j<=x.2.i) /\
  (wm all done j ops fs).Pairwise (fun x y=>x.2.i<y.2.i) /\
  (wm all done j ops fs).Pairwise (fun x y=>y.2.m.testBit x.2.i=true\/Ui x.2 y.2=true) /\
  (∀p∈done,∀x∈wm all done j ops fs,x.2.m.testBit p.i=true\/Ui p x.2=true) /\
  (∀L:Nat->Prop,(∀p∈done,L p.i->∀a,p.m.testBit a=true->L a)->(∀x∈wm all done j ops fs,L x.2.i->∀e∈x.1.after.toList,Region.binds .any e=true->L e.on)->
   ∀x∈wm all done j ops fs,(∀e∈x.1.after.toList,Region.binds .any e=true->L e.on)->∀a,x.2.m.testBit a=true->L a) /\
  (∀x∈wm all done j ops fs,∀e∈x.1.after.toList,Region.binds .any e=true->e.on<x.2.i)
 | [],[],done,j,_,_=>by simp[wm]
 | [],_::_,done,j,h,_=>by simp[vI] at h
 | _::_,[],done,j,h,_=>by simp[vI] at h
 | o::r,p::q,done,j,h,hd=>by
  simp only[vI] at h;split at h<;>try simp at h
  rename_i m hm;obtain ⟨h1,h2⟩:=h;obtain ⟨m1,m2⟩:=qO hm;have hit:wm all done j (o::r) (p::q)=(o,⟨j,o.dst,looks all o,p.1,p.2,m⟩)::wm all (⟨j,o.dst,looks all o,p.1,p.2,m⟩::done) (j+1) r q:=by simp only[wm,hm]
  obtain ⟨i1,i2,i3,i4,i5,i6,i7,i8⟩:=Za (done:=⟨j,o.dst,looks all o,p.1,p.2,m⟩::done) h2 (fun p' hp'=>by
   rcases List.mem_cons.1 hp' with rfl | hp'
   ·exact Nat.lt_succ_self j
   ·have:=hd p' hp'; omega)
  rw[hit];generalize hdd:(⟨j,o.dst,looks all o,p.1,p.2,m⟩:FP)=d at*;have hdi:d.i=j:=by rw[<-hdd]
  have hdm:d.m=m:=by rw[<-hdd]
  refine ⟨by simp[i1],fun k x hk=>?_,fun x hx=>?_,List.pairwise_cons.2 ⟨fun x hx=>?_,i4⟩,List.pairwise_cons.2 ⟨fun x hx=>i6 d (by simp) x hx,i5⟩,fun p' hp' x hx=>?_,fun L hL hc x hx=>?_,fun x hx e he hb=>?_⟩
  ·cases k with
   | zero=>simp at hk; subst hk; simpa using hdi
   | succ k=>simp at hk; have:=i2 k x hk; omega
  ·rcases List.mem_cons.1 hx with rfl | hx
   ·simp only; omega
   ·have:=i3 x hx; omega
  ·have:=i3 x hx; simp only; omega
  ·rcases List.mem_cons.1 hx with rfl | hx
   ·have:=h1 p' hp'
    rw[hdm];exact this
   ·exact i6 p' (by simp[hp']) x hx
  ·have hdL:(∀e∈o.after.toList,Region.binds .any e=true->L e.on)->∀a,d.m.testBit a=true->L a:=by
    intro he a ha;rw[hdm] at ha;obtain ⟨e,e1,e2,p',p1,p2,p3⟩:=m1 a ha;have hl:=he e e1 e2;rw[<-p2] at hl;rcases p3 with p3 | p3
    ·exact hL p' p1 hl a p3
    ·rw[p3]; exact hl
   rcases List.mem_cons.1 hx with rfl | hx
   ·exact hdL
   ·refine i7 L (fun p' hp' hl a ha=>?_) (fun y hy=>hc y (by simp[hy])) x hx
    rcases List.mem_cons.1 hp' with rfl | hp'
    ·exact hdL (hc (o,p') (by simp) hl) a ha
    ·exact hL p' hp' hl a ha
  ·rcases List.mem_cons.1 hx with rfl | hx
   ·obtain ⟨p',p1,p2⟩:=m2 e he hb
    have:=hd p' p1;simp only; omega
   ·exact i8 x hx e he hb
theorem Vd (hV:Alg V) (hVD:Qt VD) {all:List Oper}:∀{ops:List Oper} {σ:St} {acc:List (List Nat×List Nat)} {K:St->List (List Nat×List Nat)->Option R} {r:R},
  YT TI G Hh Sg V VD N all ops σ acc K=some r->∃fs σe,K σe (fs.reverse++acc)=some r /\
   ∀done j,vI all done j ops fs=true->RunN TI G Hh Sg V VD N all (wm all done j ops fs) σ σe
 | [],σ,acc,K,r,h=>⟨[],σ,by simpa [YT] using h,fun _ _ _=>rfl⟩
 | o::ops,σ,acc,K,r,h=>by
  simp only[YT,oK_eq hV hVD] at h;cases he:Yz TI G Hh Sg V VD all o σ with
  | none=>simp[he] at h
  | some e =>
   simp only[he,Option.bind_some] at h;cases ha:ww Hh.sp N σ o.dst e with
   | none=>simp[ha] at h
   | some σ1 =>
    simp only[ha,Option.bind_some] at h;obtain ⟨fs,σe,h1,h2⟩:=Vd hV hVD h;refine ⟨(vT TI G Hh o σ,wr o.dst e.mem)::fs,σe,by simpa using h1,fun done j hc=>?_⟩;simp only[vI] at hc;split at hc<;>try simp at hc
    rename_i m hm;simp only[wm,hm];exact ⟨e,σ1,he,ha,rfl,rfl,rfl,rfl,h2 _ _ hc.2⟩
def StepW (cx:Cx) (Hh:Hn) (Sg:Nat->Sig) (V:vj Sg) (VD:wy Hh) (ops:Array Oper) (Q:Exit->Act->World->Prop):Prop :=
 ∀(i:Nat) (o:Oper) (σ:St) (e:Eff) (σ1:St) (m:Gh) (a:Act) (w:World) (next:Act->World->Prop),ops[i]?=some o->Rel cx m σ a w->
  Yz cx.TI cx.G Hh Sg V VD ops.toList o σ=some e->ww Hh.sp cx.N σ o.dst e=some σ1->(∀m1 a1 w1,Rel cx m1 σ1 a1 w1->next a1 w1)->wpOp cx.P ops Q i next a w
theorem any_wp {cx:Cx} {ops:Array Oper} {Q:Exit->Act->World->Prop} {items:List (Oper×FP)} {σe:St} (hS:Sound items) (hmap:items.map (·.1)=ops.toList) (hW:StepW cx Hh Sg V VD ops Q)
  (hQ:∀m a w,Rel cx m σe a w->Q .normal a w):∀(fuel:Nat) (listed:Array Bool) (σ:St) (m:Gh) (a:Act) (w:World),
  listed.size=ops.size->(∀x∈items,listed.getD x.2.i false=true->∀e∈x.1.after.toList,Region.binds .any e=true->listed.getD e.on false=true)->
  RunN cx.TI cx.G Hh Sg V VD cx.N ops.toList (items.filter fun x=>!(listed.getD x.2.i true)) σ σe->(items.filter fun x=>!(listed.getD x.2.i true)).length<=fuel->Rel cx m σ a w->
  wpAny cx.P .any ops Q fuel listed a w:=by
 have hops:∀(k:Nat) x,items[k]?=some x->ops[k]?=some x.1:=fun k x hk=>by
  rw[<-Array.getElem?_toList,<-hmap,List.getElem?_map,hk]; rfl
 have hlen:items.length=ops.size:=by have:=congrArg List.length hmap; simpa using this
 have hmem:∀x∈items,∃k:Nat,items[k]?=some x/\x.2.i=k:=fun x hx=>by
  obtain ⟨k,hk⟩:=List.getElem?_of_mem hx;exact ⟨k,hk,hS.idx k x hk⟩
 have hat:∀k,k<ops.size->∃x∈items,x.2.i=k/\items[k]?=some x:=fun k hk=>by
  have:k<items.length:=by omega
  exact ⟨items[k],List.getElem_mem _,hS.idx k _ (List.getElem?_eq_getElem this),List.getElem?_eq_getElem this⟩
 have hsame:∀(listed:Array Bool) (k:Nat),listed.size=ops.size->k<ops.size->listed.getD k true=listed.getD k false:=fun listed k h1 h2=>by
  have:k<listed.size:=by omega
  simp[this]
 have hready:∀(listed:Array Bool),listed.size=ops.size->∀x l,(items.filter fun x=>!(listed.getD x.2.i true))=x::l->x.2.i∈Region.ready .any ops listed:=by
  intro listed hsz x l hl;have hx:x∈items.filter fun x=>!(listed.getD x.2.i true):=by rw[hl]; simp
  rw[List.mem_filter] at hx;obtain ⟨k,hk,hki⟩:=hmem x hx.1;refine mem_ready.2 ⟨by simpa using hx.2,x.1,by rw[hki]; exact hops k x hk,fun e he hb=>?_⟩;have helt:=hS.edge x hx.1 e (Array.mem_toList_iff.2 he) hb;have hklt:k<ops.size:=by have:=hops k x hk; exact (Array.getElem?_eq_some_iff.1 this).1
  obtain ⟨y,hy,hyi,_⟩:=hat e.on (by omega);cases hle:listed.getD e.on true with
  | true=>rw[<-hsame listed _ hsz (by omega)]; exact hle
  | false =>
   exfalso
   have hyr:y∈items.filter fun x=>!(listed.getD x.2.i true):=List.mem_filter.2 ⟨hy,by rw[hyi,hle]; rfl⟩
   rw[hl] at hyr;have hpw:(x::l).Pairwise fun x y=>x.2.i<y.2.i:=by rw[<-hl]; exact hS.lt.filter _
   rcases List.mem_cons.1 hyr with rfl | hyr
   ·omega
   ·have:=(List.pairwise_cons.1 hpw).1 y hyr; omega
 have hfin:∀(listed:Array Bool) (σ:St) (m:Gh) (a:Act) (w:World),listed.size=ops.size->Region.ready .any ops listed=[]->
   RunN cx.TI cx.G Hh Sg V VD cx.N ops.toList (items.filter fun x=>!(listed.getD x.2.i true)) σ σe->Rel cx m σ a w->Q .normal a w:=by
  intro listed σ m a w hsz hr hrun hrel;cases hl:items.filter fun x=>!(listed.getD x.2.i true) with
  | nil=>rw[hl] at hrun; simp only[RunN] at hrun; subst hrun; exact hQ m a w hrel
  | cons x l=>have:=hready listed hsz x l hl; rw[hr] at this; cases this
 intro fuel;induction fuel with
 | zero =>
  intro listed σ m a w hsz hcl hrun hle hrel;have hnil:(items.filter fun x=>!(listed.getD x.2.i true))=[]:=List.eq_nil_of_length_eq_zero (by omega);have hr:Region.ready .any ops listed=[]:=by
   rw[List.eq_nil_iff_forall_not_mem];intro k hk;obtain ⟨h0,o,ho,_⟩:=mem_ready.1 hk;obtain ⟨x,hx,hxi,_⟩:=hat k (Array.getElem?_eq_some_iff.1 ho).1;have:x∈items.filter fun x=>!(listed.getD x.2.i true):=List.mem_filter.2 ⟨hx,by rw[hxi,h0]; rfl⟩
   rw[hnil] at this;cases this
  exact ⟨hr,hfin listed σ m a w hsz hr hrun hrel⟩
 | succ fuel ih =>
  intro listed σ m a w hsz hcl hrun hle hrel;refine ⟨fun hr=>hfin listed σ m a w hsz hr hrun hrel,fun k hk=>?_⟩;obtain ⟨h0,o,ho,hall⟩:=mem_ready.1 hk;have hklt:=(Array.getElem?_eq_some_iff.1 ho).1;obtain ⟨x,hx,hxi,hxk⟩:=hat k hklt;have hxo:x.1=o:=by have:=hops k x hxk; rw[ho] at this; simpa using this.symm
  have hxr:x∈items.filter fun x=>!(listed.getD x.2.i true):=List.mem_filter.2 ⟨hx,by rw[hxi,h0]; rfl⟩
  obtain ⟨l1,l2,hl⟩:=List.append_of_mem hxr;have hpw:(l1++x::l2).Pairwise fun x y=>x.2.i<y.2.i:=by rw[<-hl]; exact hS.lt.filter _
  have hpp:(l1++x::l2).Pairwise fun x y=>y.2.m.testBit x.2.i=true\/Ui x.2 y.2=true:=by rw[<-hl]; exact hS.pair.filter _
  have hbits:=hS.clos (fun a=>listed.getD a false=true) hcl x hx (fun e he hb=>hall e (by rw[<-hxo]; exact Array.mem_toList_iff.1 he) hb);have hfree:∀y∈l1,Ui y.2 x.2=true:=by
   intro y hy;rcases (List.pairwise_append.1 hpp).2.2 y hy x (by simp) with hb | hb
   ·exfalso
    have hyl:=hbits y.2.i hb;have hyr:y∈items.filter fun x=>!(listed.getD x.2.i true):=by rw[hl]; simp[hy]
    rw[List.mem_filter] at hyr;obtain ⟨k',hk',hk''⟩:=hmem y hyr.1;have hlt':y.2.i<ops.size:=by rw[hk'',<-hlen]; exact (List.getElem?_eq_some_iff.1 hk').1
    rw[hsame listed _ hsz hlt'] at hyr;rw[hyl] at hyr;simp at hyr
   ·exact hb
  rw[hl] at hrun;obtain ⟨e,σ1,r1,r2,_,_,_,_,r7⟩:=RunN.front l1 hrun hfree;rw[hxo] at r1 r2;have hfil:(items.filter fun y=>!((listed.setIfInBounds k true).getD y.2.i true))=l1++l2:=by
   have e1:(items.filter fun y=>!((listed.setIfInBounds k true).getD y.2.i true))=(items.filter fun x=>!(listed.getD x.2.i true)).filter fun y=>decide (y.2.i≠k):=by
    rw[List.filter_filter];apply List.filter_congr;intro y _;by_cases hyk:y.2.i=k
    ·have:k<listed.size:=by omega
     simp[hyk,this]
    ·rw[getD_set_ne true (Ne.symm hyk)]; simp[hyk]
   rw[e1,hl,List.filter_append,List.filter_cons];have q1:l1.filter (fun y=>decide (y.2.i≠k))=l1:=List.filter_eq_self.2 fun y hy=>by
    have:=(List.pairwise_append.1 hpw).2.2 y hy x (by simp);simp; omega
   have q2:l2.filter (fun y=>decide (y.2.i≠k))=l2:=List.filter_eq_self.2 fun y hy=>by
    have:=(List.pairwise_cons.1 (List.pairwise_append.1 hpw).2.1).1 y hy;simp; omega
   rw[q1,q2];simp[hxi]
  refine hW k o σ e σ1 m a w _ ho hrel r1 r2 fun m1 a1 w1 hrel1=>?_
  refine ih (listed.setIfInBounds k true) σ1 m1 a1 w1 (by simpa using hsz) ?_ (by rw[hfil]; exact r7) (by rw[hfil]; rw[hl] at hle; simp at hle ⊢; omega) hrel1;intro y hy hyl e' he' hb';by_cases hyk:y.2.i=k
  ·have:y=x:=by
    obtain ⟨k1,hk1,hk2⟩:=hmem y hy;rw[<-hk2,hyk,hxk] at hk1;simpa using hk1.symm
   subst this;exact getD_set_true (hall e' (by rw[<-hxo]; exact Array.mem_toList_iff.1 he') hb')
  ·rw[getD_set_ne false (Ne.symm hyk)] at hyl
   exact getD_set_true (hcl y hy hyl e' he' hb')
end
end Go.VS
namespace Go.VS
open Go
def CallsTo (P:Program) (f:FuncId) (args:Array Value) (w:World) (R:Value->World->Prop):Prop :=
 (∃v w',(callFunc f args).run P w=.ok (.value v) w'/\R v w') \/
 ((callFunc f args).run P w=.ok (.enter f args) w/\Calls P f args w fun | .returned v,w'=>R v w' | _,_=>False)
def Z2 (n:Nat):(k:KS)->k.T->Ent
 | .p t,x=>.adr (t.enc x [])
 | k,x=>.d (WX n k x)
def OwnsR (w:World) (q:Q) (k:Nat) (os:List xK):Prop:=∀j o,os[j]?=some o->∃h,q.m.hd (k+j)=some h/\OwnRep w q h o
def ArgsR (w:World) (q:Q):(i k:Nat)->(as:List AT)->TA as->List Value->Prop
 | i,k,[],_,[]=>(∀j,i<=j->q.m.blk j=none)/\∀p h,q.m.hd p=some h->p<k
 | i,k,.d a::as,x,v::vs=>q.m.blk i=none/\RE w q (Z2 k a x.1) v/\OwnsR w q k (wH (.d a) x.1)/\ArgsR w q (i+1) (k+(wH (.d a) x.1).length) as x.2 vs
 | i,k,.io t ms::as,x,v::vs=>(∃b cs T,q.m.blk i=some b/\v=.pointer (some ⟨b,0,none⟩)/\w.heap[b]?=some (.cells cs T (0,0))/\All2 (RC w q) (unM k ms (t.enc x.1 [])).1 cs.toList) /\
  OwnsR w q k (wH (.io t ms) x.1)/\ArgsR w q (i+1) (k+(wH (.io t ms) x.1).length) as x.2 vs
 | i,k,.ios t::as,x,v::vs=>q.m.blk i=none/\RE w q (.d (.c (.own k))) v/\OwnsR w q k (wH (.ios t) x.1)/\ArgsR w q (i+1) (k+1) as x.2 vs
 | _,_,_,_,_=>False
def RetR (w:World) (q:Q):List DV->Value->Prop
 | [d],v=>RD w q d v
 | l,v=>∃vs,v=.tuple vs/\All2 (RD w q) l vs.toList
def IosR (w w':World) (q:Q) (blk:Nat->Option Nat):(i n:Nat)->(as:List AT)->TIo as->Prop
 | _,_,[],_=>True
 | i,n,.d _::as,y=>IosR w w' q blk (i+1) n as y
 | i,n,.ios _::as,y=>IosR w w' q blk (i+1) (n+1) as y.2
 | i,n,.io t ms::as,y=>(∃b cs cs' T,blk i=some b/\w.heap[b]?=some (.cells cs T (0,0))/\w'.heap[b]?=some (.cells cs' T (0,0))/\cs'.size=cs.size/\All2 (RC w' q) (unM n ms (t.enc y.1 [])).1 cs'.toList) /\
  IosR w w' q blk (i+1) (n+(unM 0 ms (t.enc y.1 [])).2.length) as y.2
def IoH (g g1:Gh):(k n:Nat)->(as:List AT)->TA as->TIo as->Prop
 | _,_,[],_,_=>True
 | k,n,.d a::r,x,y=>IoH g g1 (k+(wH (.d a) x.1).length) n r x.2 y
 | k,n,.io t ms::r,x,y=>IoH g g1 (k+(wH (.io t ms) x.1).length) (n+(unM 0 ms (t.enc y.1 [])).2.length) r x.2 y.2
 | k,n,.ios _::r,x,y=>g1.hd n=g.hd k/\IoH g g1 (k+1) (n+1) r x.2 y.2
def tg (G:Nat->Option xK) (w:World) (Iq:Nat->Prop):Prop :=
 ∀g o,G g=some o->g<w.heap.size/\¬Iq g/\∀i (h:i<o.l.length),∃us,us.length=o.t.size/\xc w g (0+i*o.t.size) us /\
  ∀w ok okb me,RT w ok okb me o.t o.l[i] us
def v7:Gh:=⟨fun _=>none,fun _=>none,none⟩
def qIn (w:World) (X Iq:Nat->Prop) (g:Gh):Q:=⟨fun b=>b<w.heap.size/\¬X b/\¬Iq b/\¬Mv g b,fun b=>b<w.heap.size/\¬Iq b/\¬Mv g b,g⟩
def th (w:World) (X Iq:Nat->Prop) (g:Gh):Q:=⟨fun b=>b<w.heap.size/\¬X b/\¬Iq b/\¬Mv g b,fun b=>b<w.heap.size/\¬X b/\¬Iq b/\¬Mv g b,g⟩
def InjM (g:Gh):Prop:=∀p p' h h' b off off',g.hd p=some h->g.hd p'=some h'->h.a=some ⟨b,off,none⟩->0<h.cap->h'.a=some ⟨b,off',none⟩->0<h'.cap->p=p'
structure Entry (G:Nat->Option xK) (w:World) (X Iq:Nat->Prop) (g:Gh) (as:List AT) (x:TA as) (vs:List Value):Prop where
 glob:tg G w Iq
 globm:∀b o,G b=some o->¬Mv g b
 old:∀b,X b\/Iq b->b<w.heap.size
 mv:∀b,Mv g b->b<w.heap.size/\¬X b/\¬Iq b
 io:∀b,Iq b↔∃i,g.blk i=some b
 inj:∀i j b,g.blk i=some b->g.blk j=some b->i=j
 injm:InjM g
 low:∀p h,g.hd p=some h->inN<=p
 args:ArgsR w (qIn w X Iq g) 0 inN as x vs
 me:∀(i:Nat) (t:Ty) (ms:List Nat) (b:Nat),as[i]?=some (.io t ms)->WU 2 ms=true->g.blk i=some b->g.me=some b
structure PostO (w w':World) (X Iq:Nat->Prop) (g:Gh) (s:Sig) (x:TA s.args) (y:s.R) (v:Value) (K:Nat) (g1:Gh):Prop where
 ret:RetR w' (th w' X Iq g1) (vZ K s.res y.1) v
 ios:IosR w w' (th w' X Iq g1) g.blk 0 (K+(wE s.res y.1).length) s.args y.2
 own:OwnsR w' (th w' X Iq g1) K ((wE s.res y.1++uW s.args y.2).map (·.2))
 low:∀p h,g1.hd p=some h->K<=p/\p<K+(wE s.res y.1++uW s.args y.2).length
 mv:∀b,Mv g1 b->b<w'.heap.size/\¬X b/\¬Iq b/\(w.heap.size<=b\/Mv g b)
 injm:InjM g1
 ioh:IoH g g1 inN (K+(wE s.res y.1).length) s.args x y.2
 me:∀b,g1.me=some b->g.me=some b
structure Post (w w':World) (X Iq:Nat->Prop) (g:Gh) (s:Sig) (x:TA s.args) (y:s.R) (v:Value) (K:Nat):Prop where
 size:w.heap.size<=w'.heap.size
 mem:∀b,b<w.heap.size->¬Iq b->¬Mv g b->w'.heap[b]?=w.heap[b]?
 sz:∀(b:Nat) (cs:Array Value) (T:TypeId),Iq b\/Mv g b->w.heap[b]?=some (Obj.cells cs T (0,0))->∃cs':Array Value,w'.heap[b]?=some (Obj.cells cs' T (0,0))/\cs'.size=cs.size
 os:w'.os=w.os
 tape:w'.tape=w.tape
 output:w'.output=w.output
 out:∃g1,PostO w w' X Iq g s x y v K g1
def wt (P:Program) (G:Nat->Option xK) (f:FuncId) (s:Sig) (x:TA s.args) (y:s.R):Prop :=
 ∀w X Iq g vs K,Entry G w X Iq g s.args x vs->CallsTo P f vs.toArray w fun v w'=>Post w w' X Iq g s x y v K
theorem Td:∀b,¬Mv v7 b:=fun b ⟨_,_,_,h,_⟩=>by simp[v7] at h
theorem Post.old {w w':World} {X Iq:Nat->Prop} {g:Gh} {s:Sig} {x:TA s.args} {y:s.R} {v:Value} {K:Nat} (hs:w.heap.size<=w'.heap.size) (hm:∀b,b<w.heap.size->w'.heap[b]?=w.heap[b]?)
  (h1:w'.os=w.os) (h2:w'.tape=w.tape) (h3:w'.output=w.output) (hr:RetR w' (th w' X Iq v7) (vZ K s.res y.1) v) (ho:wE s.res y.1=[]) (hd:∀a∈s.args,∃k,a=.d k):Post w w' X Iq g s x y v K:=by
 have hn:∀(as:List AT) (y:TIo as),(∀a∈as,∃k,a=.d k)->uW as y=[]/\∀i n,IosR w w' (th w' X Iq v7) g.blk i n as y:=by
  intro as;induction as with
  | nil=>exact fun y _=>⟨rfl,fun _ _=>trivial⟩
  | cons a r ih =>
   intro y h;obtain ⟨k,rfl⟩:=h a (by simp);obtain ⟨i1,i2⟩:=ih y fun a ha=>h a (by simp[ha])
   exact ⟨i1,fun i n=>i2 (i+1) n⟩
 have hh:∀(as:List AT) (x:TA as) (y:TIo as),(∀a∈as,∃k,a=.d k)->∀k n,IoH g v7 k n as x y:=by
  intro as;induction as with
  | nil=>exact fun _ _ _ _ _=>trivial
  | cons a r ih =>
   intro x y h;obtain ⟨k,rfl⟩:=h a (by simp);exact fun k n=>ih x.2 y (fun a ha=>h a (by simp[ha])) _ n
 obtain ⟨n1,n2⟩:=hn _ y.2 hd;exact {
  size:=hs
  mem:=fun b hb _ _=>hm b hb
  sz:=fun b cs T _ hb=>⟨cs,by
   have hlt:b<w.heap.size:=by
    rcases Nat.lt_or_ge b w.heap.size with h' | h'
    ·exact h'
    ·rw[Array.getElem?_eq_none h'] at hb; simp at hb
   rw[hm b hlt]; exact hb,rfl⟩
  os:=h1
  tape:=h2
  output:=h3
  out:=⟨v7,{
   ret:=hr
   ios:=n2 _ _
   own:=by rw[ho,n1]; intro j o h; simp at h
   low:=fun p h hp=>by simp[v7] at hp
   mv:=fun b hb=>(Td b hb).elim
   injm:=fun p p' h h' b off off' hp=>by simp[v7] at hp
   ioh:=hh _ _ _ hd _ _
   me:=fun b hb=>by simp[v7] at hb}⟩}
def xy (m:Gh):Nat->List AT->List Ent->Nat->Option Nat
 | i,.io _ _::as,.loc s _::es,n=>if n=i then m.blk s else xy m (i+1) as es n
 | i,_::as,_::es,n=>xy m (i+1) as es n
 | _,_,_,_=>none
def wi:List Lk->List Nat
 | []=>[]
 | .mp s::r=>s::wi r
 | .ip s::r=>s::wi r
 | _::r=>wi r
def HdP (σ:St) (m:Gh):List Hd->List Nat->Prop
 | [],[]=>True
 | [],_::_=>False
 | h::hs,[]=>h.cap=0/\HdP σ m hs []
 | h::hs,s::ps=>(h.cap=0/\HdP σ m hs (s::ps))\/((∃o hd,σ.own s=.is o/\m.hd s=some hd/\hd.cap=h.cap/\∀b off,h.a=some ⟨b,off,none⟩->0<h.cap->∃off',hd.a=some ⟨b,off',none⟩)/\HdP σ m hs ps)
inductive Sim:C->C->Prop
 | refl (c:C):Sim c c
 | bs (t:Ty) (l:List t.T):Sim (.sl t l) (.bs t l)
 | nil (t:Ty):Sim (.v (.slice none 0 0)) (.sl t [])
 | nilb (t:Ty):Sim (.v (.slice none 0 0)) (.bs t [])
 | fn:Sim (.v .nilFunc) (.fn 0)
 | fnb:Sim (.v .nilFunc) (.fnb 0)
 | bnd (t:Ty) (x:t.T):Sim (.v .nilFunc) (.bnd 0 t x)
 | tr (t:Ty):Sim (.v (.pointer none)) (.tr t .nil)
theorem Sim.RC {w:World} {q:Q} (hok:∀b,q.ok b->q.okb b) {c d:C} {v:Value} (h:Sim c d) (hr:RC w q c v):RC w q d v:=by
 cases h with
 | refl=>exact hr
 | bs t l=>exact SlR.mono (fun b hb=>⟨hok b hb,fun _ _ h=>h⟩) (fun _ _ h=>h) hr
 | nil t=>obtain ⟨rfl,_⟩:=hr; exact SlR.nil
 | nilb t=>obtain ⟨rfl,_⟩:=hr; exact SlR.nil
 | fn=>obtain ⟨rfl,_⟩:=hr; rfl
 | fnb=>obtain ⟨rfl,_⟩:=hr; exact .inl ⟨rfl,rfl⟩
 | bnd t x=>obtain ⟨rfl,_⟩:=hr; exact .inl ⟨rfl,rfl⟩
 | tr t=>obtain ⟨rfl,_⟩:=hr; exact .nil
theorem XF:∀(t:Ty) (x:t.T) (r:List C),t.enc x r=t.enc x []++r
 | .int _,_,_=>rfl
 | .bool,_,_=>rfl
 | .str,_,_=>rfl
 | .fn,_,_=>rfl
 | .fnb,_,_=>rfl
 | .sl _,_,_=>rfl
 | .bsl _,_,_=>rfl
 | .pt _,_,_=>rfl
 | .tr _,_,_=>rfl
 | .bnd _,_,_=>rfl
 | .unit,_,_=>rfl
 | .pair a b,x,r=>by
  show a.enc x.1 (b.enc x.2 r)=a.enc x.1 (b.enc x.2 [])++r;rw[XF a x.1 (b.enc x.2 r),XF a x.1 (b.enc x.2 []),XF b x.2 r,List.append_assoc]
theorem dec_sim:∀(t:Ty) (l:List C) (x:t.T) (r:List C),t.dec l=some (x,r)->∃l1,l=l1++r/\All2 Sim l1 (t.enc x []):=by
 intro t;induction t with
 | int k =>
  intro l x r h;unfold Ty.dec Uv at h;split at h<;>simp at h;obtain ⟨hk,rfl,rfl⟩:=h;subst hk;exact ⟨[_],rfl,.refl _,trivial⟩
 | bool =>
  intro l x r h;unfold Ty.dec XI at h;split at h<;>simp at h;obtain ⟨rfl,rfl⟩:=h;exact ⟨[_],rfl,.refl _,trivial⟩
 | str =>
  intro l x r h;unfold Ty.dec Uu at h;split at h<;>simp at h;obtain ⟨rfl,rfl⟩:=h;exact ⟨[_],rfl,.refl _,trivial⟩
 | fn =>
  intro l x r h;unfold Ty.dec Rv at h;split at h<;>simp at h
  ·obtain ⟨rfl,rfl⟩:=h; exact ⟨[_],rfl,.refl _,trivial⟩
  ·obtain ⟨rfl,rfl⟩:=h; exact ⟨[_],rfl,.fn,trivial⟩
 | fnb =>
  intro l x r h;unfold Ty.dec Uw at h;split at h<;>simp at h
  ·obtain ⟨rfl,rfl⟩:=h; exact ⟨[_],rfl,.refl _,trivial⟩
  ·obtain ⟨rfl,rfl⟩:=h; exact ⟨[_],rfl,.fnb,trivial⟩
 | sl t ih =>
  intro l x r h;unfold Ty.dec Rt at h;split at h<;>try simp at h
  ·split at h<;>simp at h
   rename_i hc;obtain ⟨rfl,rfl⟩:=h;obtain ⟨e,e2⟩:=x6 hc;subst e; subst e2;exact ⟨[_],rfl,.refl _,trivial⟩
  ·obtain ⟨rfl,rfl⟩:=h; exact ⟨[_],rfl,.nil _,trivial⟩
 | bsl t ih =>
  intro l x r h;unfold Ty.dec Ux at h;split at h<;>try simp at h
  ·split at h<;>simp at h
   rename_i hc;obtain ⟨rfl,rfl⟩:=h;obtain ⟨e,e2⟩:=x6 hc;subst e; subst e2;exact ⟨[_],rfl,.bs _ _,trivial⟩
  ·split at h<;>simp at h
   rename_i hc;obtain ⟨rfl,rfl⟩:=h;obtain ⟨e,e2⟩:=x6 hc;subst e; subst e2;exact ⟨[_],rfl,.refl _,trivial⟩
  ·obtain ⟨rfl,rfl⟩:=h; exact ⟨[_],rfl,.nilb _,trivial⟩
 | pt t ih =>
  intro l x r h;unfold Ty.dec Ru at h;split at h<;>try simp at h
  split at h<;>simp at h;rename_i hc;obtain ⟨rfl,rfl⟩:=h;obtain ⟨e,e2⟩:=uz hc;subst e; subst e2;exact ⟨[_],rfl,.refl _,trivial⟩
 | bnd t ih =>
  intro l x r h;unfold Ty.dec Uy at h;split at h<;>try simp at h
  ·split at h<;>simp at h
   rename_i hc;obtain ⟨rfl,rfl⟩:=h;obtain ⟨e,e2⟩:=uz hc;subst e; subst e2;exact ⟨[_],rfl,.refl _,trivial⟩
  ·obtain ⟨rfl,rfl⟩:=h; exact ⟨[_],rfl,.bnd _ _,trivial⟩
 | tr t ih =>
  intro l x r h;unfold Ty.dec Rs at h;split at h<;>try simp at h
  ·split at h<;>simp at h
   rename_i hc;obtain ⟨rfl,rfl⟩:=h;obtain ⟨e,e2⟩:=TN hc;subst e; subst e2;exact ⟨[_],rfl,.refl _,trivial⟩
  ·obtain ⟨rfl,rfl⟩:=h; exact ⟨[_],rfl,.tr _,trivial⟩
 | unit =>
  intro l x r h;unfold Ty.dec at h;simp at h;obtain ⟨_,rfl⟩:=h;exact ⟨[],rfl,trivial⟩
 | pair a b iha ihb =>
  intro l x r h;unfold Ty.dec at h;split at h<;>try simp at h
  rename_i h1;split at h<;>simp at h;rename_i h2;obtain ⟨rfl,rfl⟩:=h;obtain ⟨l1,e1,s1⟩:=iha _ _ _ h1;obtain ⟨l2,e2,s2⟩:=ihb _ _ _ h2;subst e2; subst e1;refine ⟨l1++l2,by simp,?_⟩;show All2 Sim (l1++l2) (a.enc _ (b.enc _ []));rw[XF a];exact s1.app s2
theorem tS {t:Ty} {l:List C} {x:t.T} (h:t.decA l=some x):All2 Sim l (t.enc x []):=by
 unfold Ty.decA at h;split at h<;>simp at h;rename_i e;subst h;obtain ⟨l1,e1,s1⟩:=dec_sim t _ _ _ e;rw[e1,List.append_nil]; exact s1
def nbC:C->Bool
 | .v _=>true | .fn _=>true | .fnb _=>true | .sl t _=>noB t | .pt t _=>noB t | .tr t _=>noB t | .bnd _ t _=>noB t | _=>false
theorem qX:∀(t:Ty) (x:t.T) (r:List C),noB t=true->(∀c∈r,nbC c=true)->∀c∈t.enc x r,nbC c=true
 | .int _,_,_,h,hr,c,hc=>by rcases List.mem_cons.1 hc with rfl | hc<;>first | rfl | exact hr c hc
 | .bool,_,_,h,hr,c,hc=>by rcases List.mem_cons.1 hc with rfl | hc<;>first | rfl | exact hr c hc
 | .str,_,_,h,hr,c,hc=>by rcases List.mem_cons.1 hc with rfl | hc<;>first | rfl | exact hr c hc
 | .fn,_,_,h,hr,c,hc=>by rcases List.mem_cons.1 hc with rfl | hc<;>first | rfl | exact hr c hc
 | .fnb,_,_,h,hr,c,hc=>by rcases List.mem_cons.1 hc with rfl | hc<;>first | rfl | exact hr c hc
 | .sl _,_,_,h,hr,c,hc=>by rcases List.mem_cons.1 hc with rfl | hc<;>first | exact h | exact hr c hc
 | .bsl _,_,_,h,hr,c,hc=>by simp[noB] at h
 | .pt _,_,_,h,hr,c,hc=>by rcases List.mem_cons.1 hc with rfl | hc<;>first | exact h | exact hr c hc
 | .tr _,_,_,h,hr,c,hc=>by rcases List.mem_cons.1 hc with rfl | hc<;>first | exact h | exact hr c hc
 | .bnd _,_,_,h,hr,c,hc=>by rcases List.mem_cons.1 hc with rfl | hc<;>first | exact h | exact hr c hc
 | .unit,_,_,h,hr,c,hc=>hr c hc
 | .pair a b,x,r,h,hr,c,hc=>by
  simp only[noB,Bool.and_eq_true] at h;exact qX a x.1 _ h.1 (qX b x.2 r h.2 hr) c hc
theorem vN {w w':World} {ok okb ok' okb':Nat->Prop} {me me':Option Nat} (h3:∀b,me=some b->me'=some b) (h1:∀b,ok b->ok' b/\∀off v,w.cell? ⟨b,off,none⟩=some v->w'.cell? ⟨b,off,none⟩=some v) :
  ∀(t:Ty) (x:t.T) (vs:List Value),noB t=true->RT w ok okb me t x vs->RT w' ok' okb' me' t x vs
 | .int _,_,_,_,h=>h
 | .bool,_,_,_,h=>h
 | .str,_,_,_,h=>h
 | .fn,_,_,_,h=>h
 | .fnb,_,_,_,⟨v,e,h⟩=>⟨v,e,h.mono h3⟩
 | .sl t,_,_,hn,⟨v,e,h⟩=>⟨v,e,h.mono h1 (fun x us=>vN h3 h1 t x us hn)⟩
 | .bsl t,_,_,hn,_=>by simp[noB] at hn
 | .tr t,_,_,hn,⟨v,e,h⟩=>⟨v,e,h.mono h1 (fun x us=>vN h3 h1 t x us hn)⟩
 | .pt t,_,_,hn,⟨b,off,us,e,hb,hl,hc,h⟩=>⟨b,off,us,e,(h1 b hb).1,hl,xf (h1 b hb).2 hc,vN h3 h1 t _ _ hn h⟩
 | .bnd t,_,_,hn,h=>h.imp (fun h=>h) fun ⟨f,us,e1,e2,e3⟩=>⟨f,us,e1,e2,vN h3 h1 t _ _ hn e3⟩
 | .unit,_,_,_,h=>h
 | .pair a b,_,_,hn,⟨us,ws,e,p,q⟩=>by
  simp only[noB,Bool.and_eq_true] at hn;exact ⟨us,ws,e,vN h3 h1 a _ _ hn.1 p,vN h3 h1 b _ _ hn.2 q⟩
theorem YD {w:World} {ok okb:Nat->Prop} {me me':Option Nat}:∀(t:Ty) (x:t.T) (vs:List Value),nfT t=true->RT w ok okb me t x vs->RT w ok okb me' t x vs
 | .int _,_,_,_,h=>h
 | .bool,_,_,_,h=>h
 | .str,_,_,_,h=>h
 | .fn,_,_,_,h=>h
 | .fnb,_,_,hn,_=>by simp[nfT] at hn
 | .sl t,_,_,hn,⟨v,e,h⟩=>⟨v,e,h.mono (fun _ hb=>⟨hb,fun _ _ h=>h⟩) (fun x us=>YD t x us hn)⟩
 | .bsl t,_,_,hn,⟨v,e,h⟩=>⟨v,e,h.mono (fun _ hb=>⟨hb,fun _ _ h=>h⟩) (fun x us=>YD t x us hn)⟩
 | .tr t,_,_,hn,⟨v,e,h⟩=>⟨v,e,h.mono (fun _ hb=>⟨hb,fun _ _ h=>h⟩) (fun x us=>YD t x us hn)⟩
 | .pt t,_,_,hn,⟨b,off,us,e,hb,hl,hc,h⟩=>⟨b,off,us,e,hb,hl,hc,YD t _ _ hn h⟩
 | .bnd t,_,_,hn,h=>h.imp (fun h=>h) fun ⟨f,us,e1,e2,e3⟩=>⟨f,us,e1,e2,YD t _ _ hn e3⟩
 | .unit,_,_,_,h=>h
 | .pair a b,_,_,hn,⟨us,ws,e,p,q⟩=>by
  simp only[nfT,Bool.and_eq_true] at hn;exact ⟨us,ws,e,YD a _ _ hn.1 p,YD b _ _ hn.2 q⟩
theorem RC.mono_nb {w:World} {q q':Q} (hme:∀b,q.m.me=some b->q'.m.me=some b) (hq:∀b,q.ok b->q'.ok b):∀{c:C} {v:Value},nbC c=true->RC w q c v->RC w q' c v
 | .v _,_,_,h=>h
 | .sl t _,_,hn,h=>SlR.mono (fun b hb=>⟨hq b hb,fun _ _ h=>h⟩) (fun x us=>vN hme (fun b hb=>⟨hq b hb,fun _ _ h=>h⟩) t x us hn) h
 | .pt t _,_,hn,⟨b,off,us,e,hb,hl,hc,h⟩=>⟨b,off,us,e,hq b hb,hl,hc,vN hme (fun b hb=>⟨hq b hb,fun _ _ h=>h⟩) t _ _ hn h⟩
 | .fn _,_,_,h=>h
 | .fnb _,_,_,h=>RF.mono hme h
 | .tr t _,_,hn,h=>TrR.mono (fun b hb=>⟨hq b hb,fun _ _ h=>h⟩) (fun x us=>vN hme (fun b hb=>⟨hq b hb,fun _ _ h=>h⟩) t x us hn) h
 | .bnd _ t _,_,hn,h=>h.imp (fun h=>h) fun ⟨f,us,e1,e2,e3⟩=>⟨f,us,e1,e2,vN hme (fun b hb=>⟨hq b hb,fun _ _ h=>h⟩) t _ _ hn e3⟩
 | .bs _ _,_,hn,_=>by simp[nbC] at hn
 | .own _,_,hn,_=>by simp[nbC] at hn
 | .vw _ _ _,_,hn,_=>by simp[nbC] at hn
 | .clo _ _ _,_,hn,_=>by simp[nbC] at hn
 | .clo2 _ _ _ _ _,_,hn,_=>by simp[nbC] at hn
def QUp (q q':Q):Prop:=(∀b,q.ok b->q'.ok b)/\∀b,q.m.me=some b->q'.m.me=some b
theorem OwnRep.mono_nb {w:World} {q q':Q} {h:Hd} {o:xK} (hme:∀b,q.m.me=some b->q'.m.me=some b) (hq:∀b,q.ok b->q'.ok b) (hn:noB o.t=true) (r:OwnRep w q h o):OwnRep w q' h o:=by
 obtain ⟨l1,l2,l3,l4⟩:=r;refine ⟨l1,l2,l3,fun hc=>?_⟩;obtain ⟨b,off,cs,T,e1,e2,e3,e4⟩:=l4 hc;refine ⟨b,off,cs,T,e1,e2,e3,fun i hi=>?_⟩;obtain ⟨us,u1,u2,u3⟩:=e4 i hi;exact ⟨us,u1,u2,vN hme (fun b hb=>⟨hq b hb,fun _ _ h=>h⟩) _ _ _ hn u3⟩
theorem Sy {w:World} {q:Q} {n:Nat} {t:Ty} {y:t.T} {v:Value} (h:RT w q.ok q.okb q.m.me t y [v]):RD w q (WX n (.c t) y) v:=by
 have h1:=xJ h;simp only[WX];split
 ·rename_i c hc
  rw[hc] at h1;exact h1.1
 ·rename_i hno
  have:=h1.len;simp at this;obtain ⟨c,hc⟩:=List.length_eq_one_iff.1 this;exact absurd hc (hno c)
def hdL (K:Nat) (hs:List Hd) (p:Nat):Option Hd:=if K<=p then hs[p-K]? else none
theorem Sq {K:Nat} {hs:List Hd} {j:Nat}:hdL K hs (K+j)=hs[j]?:=by simp[hdL]
theorem vY {K:Nat} {hs:List Hd} {p:Nat} {h:Hd} (e:hdL K hs p=some h):∃j,p=K+j/\hs[j]?=some h:=by
 unfold hdL at e;split at e
 ·exact ⟨p-K,by omega,e⟩
 ·cases e
theorem YG (k n:Nat):∀(ms:List Nat) (l:List C),(unM k ms l).2=(unM n ms l).2
 | [],_=>rfl
 | _::_,[]=>rfl
 | b::ms,c::r=>by
  simp only[unM];cases U8 b c with
  | none=>exact YG k n ms r
  | some o=>simp only; rw[YG (k+1) (n+1) ms r]
section
variable {σ:St} {m:Gh}
theorem HdP.app:∀{hs hs':List Hd} {ps ps':List Nat},HdP σ m hs ps->HdP σ m hs' ps'->HdP σ m (hs++hs') (ps++ps')
 | [],_,[],_,_,h=>h
 | [],_,_::_,_,h,_=>h.elim
 | h::hs,hs',[],ps',⟨h0,h1⟩,h2=>by
  have:=HdP.app h1 h2;cases ps' with
  | nil=>exact ⟨h0,this⟩
  | cons=>exact .inl ⟨h0,this⟩
 | h::hs,hs',s::ps,ps',h1,h2=>by
  rcases h1 with ⟨h0,h1⟩ | ⟨h0,h1⟩
  ·exact .inl ⟨h0,h1.app h2⟩
  ·exact .inr ⟨h0,h1.app h2⟩
theorem HdP.at:∀{hs:List Hd} {ps:List Nat},HdP σ m hs ps->∀{j:Nat} {h:Hd} {b off:Nat},hs[j]?=some h->h.a=some ⟨b,off,none⟩->0<h.cap->∃s∈ps,xz σ m (.inr s) b
 | h::hs,[],⟨h0,h1⟩,0,_,b,off,e,ha,hc=>by simp at e; subst e; omega
 | h::hs,[],⟨h0,h1⟩,j+1,_,b,off,e,ha,hc=>h1.at (by simpa using e) ha hc
 | h::hs,s::ps,h1,0,_,b,off,e,ha,hc=>by
  simp at e;subst e;rcases h1 with ⟨h0,_⟩ | ⟨⟨o,hd,e1,e2,e3,e4⟩,_⟩
  ·omega
  ·obtain ⟨off',e5⟩:=e4 b off ha hc
   exact ⟨s,by simp,o,hd,off',e1,e2,e5,by omega⟩
 | h::hs,s::ps,h1,j+1,_,b,off,e,ha,hc=>by
  rcases h1 with ⟨_,h1⟩ | ⟨_,h1⟩
  ·exact h1.at (by simpa using e) ha hc
  ·obtain ⟨r,r1,r2⟩:=h1.at (by simpa using e) ha hc
   exact ⟨r,by simp[r1],r2⟩
theorem HdP.inj (hi:∀s r b,xz σ m (.inr s) b->xz σ m (.inr r) b->s=r):∀{hs:List Hd} {ps:List Nat},ps.Nodup->HdP σ m hs ps->∀{i j:Nat} {h h':Hd} {b off off':Nat},hs[i]?=some h->hs[j]?=some h'->
   h.a=some ⟨b,off,none⟩->0<h.cap->h'.a=some ⟨b,off',none⟩->0<h'.cap->i=j
 | h::hs,ps,hn,h1,0,0,_,_,b,off,off',e,e',ha,hc,ha',hc'=>rfl
 | h::hs,ps,hn,h1,0,j+1,_,_,b,off,off',e,e',ha,hc,ha',hc'=>by
  simp at e;subst e;cases ps with
  | nil=>obtain ⟨h0,_⟩:=h1; omega
  | cons s ps =>
   rcases h1 with ⟨h0,_⟩ | ⟨⟨o,hd,e1,e2,e3,e4⟩,h1⟩
   ·omega
   ·obtain ⟨off2,e5⟩:=e4 b off ha hc
    obtain ⟨r,r1,r2⟩:=h1.at (j:=j) (by simpa using e') ha' hc';have:=hi s r b ⟨o,hd,off2,e1,e2,e5,by omega⟩ r2;subst this;exact absurd r1 (List.nodup_cons.1 hn).1
 | h::hs,ps,hn,h1,i+1,0,_,_,b,off,off',e,e',ha,hc,ha',hc'=>by
  simp at e';subst e';cases ps with
  | nil=>obtain ⟨h0,_⟩:=h1; omega
  | cons s ps =>
   rcases h1 with ⟨h0,_⟩ | ⟨⟨o,hd,e1,e2,e3,e4⟩,h1⟩
   ·omega
   ·obtain ⟨off2,e5⟩:=e4 b off' ha' hc'
    obtain ⟨r,r1,r2⟩:=h1.at (j:=i) (by simpa using e) ha hc;have:=hi s r b ⟨o,hd,off2,e1,e2,e5,by omega⟩ r2;subst this;exact absurd r1 (List.nodup_cons.1 hn).1
 | h::hs,ps,hn,h1,i+1,j+1,_,_,b,off,off',e,e',ha,hc,ha',hc'=>by
  have:i=j:=by
   cases ps with
   | nil=>exact HdP.inj hi hn h1.2 (by simpa using e) (by simpa using e') ha hc ha' hc'
   | cons s ps =>
    rcases h1 with ⟨_,h1⟩ | ⟨_,h1⟩
    ·exact HdP.inj hi hn h1 (by simpa using e) (by simpa using e') ha hc ha' hc'
    ·exact HdP.inj hi (List.nodup_cons.1 hn).2 h1 (by simpa using e) (by simpa using e') ha hc ha' hc'
  omega
theorem HdP.one {h:Hd} {s:Nat} (h1:∃o hd,σ.own s=.is o/\m.hd s=some hd/\hd.cap=h.cap/\∀b off,h.a=some ⟨b,off,none⟩->0<h.cap->∃off',hd.a=some ⟨b,off',none⟩):HdP σ m [h] [s]:=.inr ⟨h1,trivial⟩
theorem ud:∀(l k:List Lk),wi (l++k)=wi l++wi k
 | [],_=>rfl
 | x::l,k=>by cases x<;>simp[wi,ud l k]
theorem uH {p:Nat}:∀{l:List Lk},p∈wi l↔(.mp p∈l\/.ip p∈l)
 | []=>by simp[wi]
 | x::l=>by
  have:=uH (p:=p) (l:=l);cases x<;>simp only[wi,List.mem_cons,this,reduceCtorEq,false_or,Lk.mp.injEq,Lk.ip.injEq]
  ·exact or_assoc.symm
  ·exact or_left_comm
theorem uE {a:Lk}:∀{l:List Lk},Zl a l=true->∀b∈l,u9 a b=false
 | c::l,h,b,hb=>by
  simp only[Zl,Bool.and_eq_true,Bool.not_eq_true'] at h;rcases List.mem_cons.1 hb with rfl | hb
  ·exact h.1
  ·exact uE h.2 b hb
theorem qv:∀{l:List Lk},vD l=true->(wi l).Nodup
 | [],_=>List.nodup_nil
 | x::l,h=>by
  simp only[vD,Bool.and_eq_true] at h;have ih:=qv h.2;have hx:=uE h.1;cases x<;>simp only[wi]<;>try exact ih
  ·rename_i p
   refine List.nodup_cons.2 ⟨fun hm=>?_,ih⟩;rcases uH.1 hm with hm | hm<;>(have:=hx _ hm; simp[u9,Lk.key,Lk.x] at this)
  ·rename_i p
   refine List.nodup_cons.2 ⟨fun hm=>?_,ih⟩;rcases uH.1 hm with hm | hm<;>(have:=hx _ hm; simp[u9,Lk.key,Lk.x] at this)
theorem SJ (a b:Lk):u9 a b=u9 b a:=by
 unfold u9;rw[Bool.or_comm,show Nat.beq a.key b.key=Nat.beq b.key a.key from by
  cases h:Nat.beq a.key b.key with
  | true=>rw[Nat.eq_of_beq_eq_true h]; simp
  | false=>cases h':Nat.beq b.key a.key with
   | false=>rfl
   | true=>rw[Nat.eq_of_beq_eq_true h'] at h; simp at h]
theorem td:∀{l:List Lk},vD l=true->∀{a b:Lk},a∈l->b∈l->a≠b->u9 a b=false
 | x::l,h,a,b,ha,hb,hn=>by
  simp only[vD,Bool.and_eq_true] at h;have hx:=uE h.1;rcases List.mem_cons.1 ha with e1 | h1<;>rcases List.mem_cons.1 hb with e2 | h2
  ·exact absurd (e1.trans e2.symm) hn
  ·rw[e1]; exact hx b h2
  ·rw[SJ,e2]; exact hx a h1
  ·exact td h.2 h1 h2 hn
end
end Go.VS
namespace Go.VS
open Go
section
variable {cx:Cx} {Hh:Hn} {Sg:Nat->Sig} {m:Gh} {σ:St} {a:Act} {w w':World}
theorem qZ:∀{as:List AT} {es:List Ent} {i n:Nat},n<i->xy m i as es n=none
 | [],_,_,_,_=>by simp[xy]
 | .io t ms::as,[],_,_,_=>by simp[xy]
 | .ios t::as,[],_,_,_=>by simp[xy]
 | .d k::as,[],_,_,_=>by simp[xy]
 | .d k::as,e::es,i,n,h=>by simp only[xy]; exact qZ (by omega)
 | .ios t::as,e::es,i,n,h=>by simp only[xy]; exact qZ (by omega)
 | .io t ms::as,e::es,i,n,h=>by
  have:=qZ (as:=as) (es:=es) (i:=i+1) (n:=n) (by omega);cases e<;>simp only[xy]<;>first | exact this | skip
  rw[if_neg (by omega)]; exact this
theorem Wf {σ:St} {e:Ent} {t:Ty} {ms:List Nat} {x:t.T} {ss:List Lk} (h:xA σ e (.io t ms)=some (x,ss)) :
  ∃s l l' ps,e=.loc s 0/\σ.box s=some (.g l)/\jnM σ ms l=some (l',ps)/\t.decA l'=some x/\ss=.ib s::ps/\noB t=true:=by
 cases e<;>simp only[xA] at h<;>try (simp at h; done)
 rename_i s off;cases h0:Nat.beq off 0 with
 | false=>simp[h0] at h
 | true =>
  simp only[h0,cond_true] at h;have h0:=yx h0;subst h0;split at h<;>try simp at h
  rename_i l hl;split at h<;>try simp at h
  rename_i l' ps hj;split at h<;>try simp at h
  rename_i y hy;cases hn:noB t with
  | false=>simp[hn] at h
  | true =>
   simp[hn] at h;obtain ⟨rfl,rfl⟩:=h;exact ⟨s,l,l',ps,rfl,hl,hj,hy,rfl,rfl⟩
theorem jnC_mp {c c':C} {ps:List Lk} (h:jnC σ c=some (c',ps)):∀x∈ps,∃p,x=.mp p:=by
 unfold jnC at h;split at h<;>try simp at h
 ·obtain ⟨_,rfl⟩:=h; simp
 ·split at h<;>simp at h
  obtain ⟨_,rfl⟩:=h; simp
 ·split at h<;>try simp at h
  rename_i lo _ _ _ _;cases hb:Nat.beq lo 0 with
  | false=>simp[hb] at h
  | true=>simp[hb] at h; obtain ⟨_,rfl⟩:=h; simp
theorem qR:∀{ms:List Nat} {l l':List C} {ps:List Lk},jnM σ ms l=some (l',ps)->∀x∈ps,∃p,x=.mp p
 | [],_,_,_,h=>by simp[jnM] at h; obtain ⟨_,rfl⟩:=h; simp
 | _::_,[],_,_,h=>by simp[jnM] at h; obtain ⟨_,rfl⟩:=h; simp
 | b::ms,c::r,_,_,h=>by
  simp only[jnM] at h;split at h<;>try simp at h
  rename_i r' ps' h1;have ih:=qR h1;cases hb:Nat.beq b 1 with
  | false=>simp[hb] at h; obtain ⟨_,rfl⟩:=h; exact ih
  | true =>
   simp[hb] at h;split at h<;>simp at h;rename_i c' p hc;obtain ⟨_,rfl⟩:=h;intro x hx;rcases List.mem_append.1 hx with hx | hx
   ·exact jnC_mp hc x hx
   ·exact ih x hx
theorem xv {σ:St} {a:AT} {as:List AT} {e:Ent} {es:List Ent} {x:TA (a::as)} {ss:List Lk} (h:yO σ (a::as) (e::es)=some (x,ss)) :
  ∃ss1 ss2,xA σ e a=some (x.1,ss1)/\yO σ as es=some (x.2,ss2)/\ss=ss1++ss2:=by
 simp only[yO] at h;split at h<;>simp at h;rename_i x1 x2 h1 h2;obtain ⟨rfl,rfl⟩:=h;exact ⟨x1.2,x2.2,h1,h2,rfl⟩
theorem tX:∀{as:List AT} {es:List Ent} {x:TA as} {ss:List Lk} {i n b:Nat},yO σ as es=some (x,ss)->xy m i as es n=some b->∃s,.ib s∈ss/\m.blk s=some b/\i<=n
 | [],[],_,_,_,_,_,_,h=>by simp[xy] at h
 | [],_::_,_,_,_,_,_,h,_=>by simp[yO] at h
 | _::_,[],_,_,_,_,_,h,_=>by simp[yO] at h
 | .d k::as,e::es,x,ss,i,n,b,h,hb=>by
  obtain ⟨s1,s2,h1,h2,rfl⟩:=xv h;simp only[xy] at hb;obtain ⟨s,k1,k2,k3⟩:=tX h2 hb;exact ⟨s,by simp[k1],k2,by omega⟩
 | .ios t::as,e::es,x,ss,i,n,b,h,hb=>by
  obtain ⟨s1,s2,h1,h2,rfl⟩:=xv h;simp only[xy] at hb;obtain ⟨s,k1,k2,k3⟩:=tX h2 hb;exact ⟨s,by simp[k1],k2,by omega⟩
 | .io t ms::as,e::es,x,ss,i,n,b,h,hb=>by
  obtain ⟨s1,s2,h1,h2,rfl⟩:=xv h;obtain ⟨s,l,l',ps,rfl,_,_,_,rfl,_⟩:=Wf h1;simp only[xy] at hb;split at hb
  ·rename_i hn; exact ⟨s,by simp,hb,by omega⟩
  ·obtain ⟨s,k1,k2,k3⟩:=tX h2 hb
   exact ⟨s,by simp[k1],k2,by omega⟩
theorem tf:∀{l k:List Lk},vD (l++k)=true->vD l=true/\vD k=true/\∀a b,a∈l->b∈k->u9 a b=false
 | [],k,h=>⟨rfl,h,fun _ _ h=>by cases h⟩
 | x::l,k,h=>by
  simp only[List.cons_append,vD,Bool.and_eq_true] at h ⊢;have hx:=uE h.1;have h2:=tf h.2;have h1:∀{r:List Lk},(∀b∈r,u9 x b=false)->Zl x r=true:=by
   intro r;induction r with
   | nil=>exact fun _=>rfl
   | cons c r ih=>intro hr; simp only[Zl,hr c (by simp),ih fun b hb=>hr b (by simp[hb])]; rfl
  refine ⟨⟨h1 fun b hb=>hx b (by simp[hb]),h2.1⟩,h2.2.1,fun a b ha hb=>?_⟩;rcases List.mem_cons.1 ha with e | ha
  ·rw[e]; exact hx b (by simp[hb])
  ·exact h2.2.2 a b ha hb
theorem Zw (hi:∀s r b,m.blk s=some b->m.blk r=some b->s=r):∀{as:List AT} {es:List Ent} {x:TA as} {ss:List Lk} {i n n' b:Nat},yO σ as es=some (x,ss)->vD ss=true->
  xy m i as es n=some b->xy m i as es n'=some b->n=n'
 | [],[],_,_,_,_,_,_,_,_,h,_=>by simp[xy] at h
 | [],_::_,_,_,_,_,_,_,h,_,_,_=>by simp[yO] at h
 | _::_,[],_,_,_,_,_,_,h,_,_,_=>by simp[yO] at h
 | .d k::as,e::es,x,ss,i,n,n',b,h,ha,hb,hb'=>by
  obtain ⟨s1,s2,h1,h2,rfl⟩:=xv h;simp only[xy] at hb hb';exact Zw hi h2 (tf ha).2.1 hb hb'
 | .ios t::as,e::es,x,ss,i,n,n',b,h,ha,hb,hb'=>by
  obtain ⟨s1,s2,h1,h2,rfl⟩:=xv h;simp only[xy] at hb hb';exact Zw hi h2 (tf ha).2.1 hb hb'
 | .io t ms::as,e::es,x,ss,i,n,n',b,h,ha,hb,hb'=>by
  obtain ⟨s1,s2,h1,h2,rfl⟩:=xv h;obtain ⟨s,l,l',ps,rfl,_,_,_,rfl,_⟩:=Wf h1;have key:∀{n:Nat},m.blk s=some b->xy m (i+1) as es n=some b->False:=fun k1 k2=>by
   obtain ⟨r,r1,r2,_⟩:=tX h2 k2;have:=hi s r b k1 r2;subst this;have:=(tf ha).2.2 (.ib s) (.ib s) (by simp) r1;simp[u9,Lk.key,Lk.x] at this
  simp only[xy] at hb hb';split at hb<;>split at hb'
  ·omega
  ·exact (key hb hb').elim
  ·exact (key hb' hb).elim
  ·exact Zw hi h2 (tf ha).2.1 hb hb'
theorem UC (h:Rel cx m σ a w):∀s r b,m.blk s=some b->m.blk r=some b->s=r:=fun s r b h1 h2=>by
 have:=h.inj (.inl s) (.inl r) b h1 h2; simpa using this
theorem Yl (h:Rel cx m σ a w):∀s r b,xz σ m (.inr s) b->xz σ m (.inr r) b->s=r:=fun s r b h1 h2=>by
 have:=h.inj (.inr s) (.inr r) b h1 h2; simpa using this
theorem Xh (h:Rel cx m σ a w):∀{ms:List Nat} {l l':List C} {ps:List Lk} {L:List C} {vs:List Value},jnM σ ms l=some (l',ps)->All2 Sim l' L->(∀c∈L,nbC c=true)->
  All2 (RC w (cx.q σ m w)) l vs->∃hs:List Hd,hs.length=(unM 0 ms L).2.length/\HdP σ m hs (wi ps) /\
   ∀(q:Q) (k:Nat),QUp (cx.q σ m w) q->(∀j hh,hs[j]?=some hh->q.m.hd (k+j)=some hh)->All2 (RC w q) (unM k ms L).1 vs/\OwnsR w q k (unM 0 ms L).2
 | [],l,l',ps,L,vs,hj,hs,hn,hr=>by
  simp[jnM] at hj;obtain ⟨rfl,rfl⟩:=hj;refine ⟨[],rfl,trivial,fun q k hq _=>⟨?_,fun j o ho=>by simp[unM] at ho⟩⟩;have go:∀{l L:List C} {vs:List Value},All2 Sim l L->(∀c∈L,nbC c=true)->All2 (RC w (cx.q σ m w)) l vs->All2 (RC w q) L vs:=by
   intro l;induction l with
   | nil=>intro L vs h1 _ h2; cases L<;>cases vs<;>simp_all [All2]
   | cons c l ih =>
    intro L vs h1 h2 h3;obtain ⟨d,L',rfl,s1,s2⟩:=h1.cons_left;obtain ⟨v,vs',rfl,r1,r2⟩:=h3.cons_left;exact ⟨RC.mono_nb hq.2 hq.1 (h2 d (by simp)) (s1.RC (cx.q_ok σ m w) r1),ih s2 (fun c hc=>h2 c (by simp[hc])) r2⟩
  exact go hs hn hr
 | b::ms,[],l',ps,L,vs,hj,hs,hn,hr=>by
  simp[jnM] at hj;obtain ⟨rfl,rfl⟩:=hj;have e1:=hs.nil_left;have e2:=hr.nil_left;subst e1; subst e2;exact ⟨[],rfl,trivial,fun q k _ _=>⟨trivial,fun j o ho=>by simp[unM] at ho⟩⟩
 | b::ms,c::r,l',ps,L,vs,hj,hs,hn,hr=>by
  simp only[jnM] at hj;split at hj<;>try simp at hj
  rename_i r' ps' h1;obtain ⟨v,vs',rfl,r1,r2⟩:=hr.cons_left;cases hb:Nat.beq b 1 with
  | false =>
   simp[hb] at hj;obtain ⟨rfl,rfl⟩:=hj;obtain ⟨d,L',rfl,s1,s2⟩:=hs.cons_left;obtain ⟨hs',e1,e2,e3⟩:=Xh h h1 s2 (fun c hc=>hn c (by simp[hc])) r2;have hno:U8 b d=none:=by
    unfold U8;split
    ·simp at hb
    ·rfl
   refine ⟨hs',by simp only[unM,hno]; exact e1,e2,fun q k hq hk=>?_⟩;obtain ⟨i1,i2⟩:=e3 q k hq hk;simp only[unM,hno];exact ⟨⟨RC.mono_nb hq.2 hq.1 (hn d (by simp)) (s1.RC (cx.q_ok σ m w) r1),i1⟩,i2⟩
  | true =>
   have hb:=yx hb;subst hb;simp at hj;split at hj<;>simp at hj;rename_i c' p hc;obtain ⟨rfl,rfl⟩:=hj;obtain ⟨d,L',rfl,s1,s2⟩:=hs.cons_left;obtain ⟨hs',e1,e2,e3⟩:=Xh h h1 s2 (fun c hc=>hn c (by simp[hc])) r2;have hd:=hn d (by simp);have place:∀(t:Ty) (x:List t.T) (hh:Hd) (s:Nat),d=.sl t x->p=[.mp s]->v=.slice hh.a hh.len hh.cap->OwnRep w (cx.q σ m w) hh ⟨t,x⟩->
     (∃o hd,σ.own s=.is o/\m.hd s=some hd/\hd.cap=hh.cap/\∀b off,hh.a=some ⟨b,off,none⟩->0<hh.cap->∃off',hd.a=some ⟨b,off',none⟩)->
     ∃hs:List Hd,hs.length=(unM 0 (1::ms) (d::L')).2.length/\HdP σ m hs (wi (p++ps')) /\
      ∀(q:Q) (k:Nat),QUp (cx.q σ m w) q->(∀j hh,hs[j]?=some hh->q.m.hd (k+j)=some hh)->All2 (RC w q) (unM k (1::ms) (d::L')).1 (v::vs')/\OwnsR w q k (unM 0 (1::ms) (d::L')).2:=by
    intro t x hh s hde hp hv hrep hpl;subst hde;subst hp;have hno:U8 1 (.sl t x)=some ⟨t,x⟩:=rfl;refine ⟨hh::hs',by simp only[unM,hno,List.length_cons,e1]; rw[YG 1 0],.inr ⟨hpl,e2⟩,fun q k hq hk=>?_⟩;obtain ⟨i1,i2⟩:=e3 q (k+1) hq fun j h2 hj=>by rw[show k+1+j=k+(j+1) by omega]; exact hk (j+1) h2 (by simpa using hj)
    simp only[unM,hno];refine ⟨⟨⟨hh,by have:=hk 0 hh rfl; simpa using this,hv⟩,i1⟩,fun j o ho=>?_⟩;cases j with
    | zero =>
     simp at ho;subst ho;exact ⟨hh,hk 0 hh rfl,hrep.mono_nb hq.2 hq.1 hd⟩
    | succ j =>
     rw[YG (0+1) 0] at ho;obtain ⟨h2,k1,k2⟩:=i2 j o (by simpa using ho);exact ⟨h2,by rw[show k+(j+1)=k+1+j by omega]; exact k1,k2⟩
   unfold jnC at hc;split at hc<;>try simp at hc
   ·obtain ⟨rfl,rfl⟩:=hc
    obtain ⟨hv,_⟩:=r1;subst hv;generalize hcn:C.v (.slice none 0 0)=cn at s1;have hpl:HdP σ m hs' (wi ([]++ps')):=e2;cases s1<;>cases hcn
    ·have hno:U8 1 (.v (.slice none 0 0))=none:=rfl
     refine ⟨hs',by simp only[unM,hno]; exact e1,hpl,fun q k hq hk=>?_⟩;obtain ⟨i1,i2⟩:=e3 q k hq hk;simp only[unM,hno];exact ⟨⟨⟨rfl,rfl⟩,i1⟩,i2⟩
    ·rename_i t
     have hno:U8 1 (.sl t [])=some ⟨t,[]⟩:=rfl;have hpl2:HdP σ m (⟨none,0,0,t.size⟩::hs') (wi ([]++ps')):=by
      cases hps:wi ([]++ps') with
      | nil=>rw[hps] at hpl; exact ⟨rfl,hpl⟩
      | cons s r=>rw[hps] at hpl; exact .inl ⟨rfl,hpl⟩
     refine ⟨⟨none,0,0,t.size⟩::hs',by simp only[unM,hno,List.length_cons,e1]; rw[YG 1 0],hpl2,fun q k hq hk=>?_⟩;obtain ⟨i1,i2⟩:=e3 q (k+1) hq fun j h2 hj=>by rw[show k+1+j=k+(j+1) by omega]; exact hk (j+1) h2 (by simpa using hj)
     simp only[unM,hno];refine ⟨⟨⟨_,by have:=hk 0 _ rfl; simpa using this,rfl⟩,i1⟩,fun j o ho=>?_⟩;cases j with
     | zero =>
      simp at ho;subst ho;exact ⟨_,hk 0 _ rfl,OwnRep.emp t⟩
     | succ j =>
      rw[YG (0+1) 0] at ho;obtain ⟨h2,k1,k2⟩:=i2 j o (by simpa using ho);exact ⟨h2,by rw[show k+(j+1)=k+1+j by omega]; exact k1,k2⟩
    ·simp[nbC] at hd
   ·rename_i s
    split at hc<;>simp at hc;rename_i ow how;obtain ⟨rfl,rfl⟩:=hc;obtain ⟨hh,g1,g2⟩:=r1;obtain ⟨hh',g3,g4⟩:=h.own s _ how;rw[show (cx.q σ m w).m.hd s=m.hd s from rfl,g3] at g1;simp at g1;subst g1;obtain ⟨t,x⟩:=ow;generalize hcn:C.sl t x=cn at s1;cases s1 with
    | refl =>
     subst hcn;exact place t x hh' s rfl rfl g2 g4 ⟨_,hh',how,g3,rfl,fun b off e _=>⟨off,e⟩⟩
    | bs=>simp[nbC] at hd
    | _=>cases hcn
   ·rename_i s lo hi
    split at hc<;>try simp at hc
    rename_i ow how;cases h0:Nat.beq lo 0 with
    | false=>simp[h0] at hc
    | true =>
    simp[h0] at hc;have h0:=yx h0;subst h0;obtain ⟨rfl,rfl⟩:=hc;obtain ⟨hh,g1,g2,g5,g6⟩:=r1;obtain ⟨hh',g3,g4⟩:=h.own s _ how;rw[show (cx.q σ m w).m.hd s=m.hd s from rfl,g3] at g1;simp at g1;subst g1;obtain ⟨t,x⟩:=ow;generalize hcn:C.sl t (x.take hi)=cn at s1;cases s1 with
    | refl =>
     subst hcn;refine place t (x.take hi) _ s rfl rfl (by rw[g6]; simp only[Nat.sub_zero]) (g4.front g5) ⟨_,hh',how,g3,rfl,fun b off e hc=>?_⟩;simp only at hc;simp only[if_neg (show ¬hh'.cap=0 by omega)] at e;cases ha:hh'.a with
     | none=>rw[ha] at e; simp at e
     | some ad =>
      obtain ⟨b2,o2,cs,T,e2,_⟩:=g4.2.2.2 hc;rw[e2] at ha;simp at ha;subst ha;rw[e2] at e;simp[ui] at e;exact ⟨o2,by rw[e.1]⟩
    | bs=>simp[nbC] at hd
    | _=>cases hcn
theorem Qi:∀(t:Ty) (l:List C) (x:t.T) (r:List C),t.dec l=some (x,r)->∀c∈l,c∈r\/wJ c=true:=by
 intro t;induction t with
 | pair a b iha ihb =>
  intro l x r h c hc;simp only[Ty.dec] at h;split at h<;>try simp at h
  rename_i x1 r1 h1;split at h<;>simp at h;rename_i x2 r2 h2;obtain ⟨_,rfl⟩:=h;rcases iha _ _ _ h1 c hc with hc | hc
  ·exact ihb _ _ _ h2 c hc
  ·exact .inr hc
 | unit=>intro l x r h c hc; simp[Ty.dec] at h; obtain ⟨_,rfl⟩:=h; exact .inl hc
 | _ =>
  intro l x r h c hc;simp only[Ty.dec,Uv,XI,Uu,Rv,Uw,Rt,Ux,Ru,Uy,Rs] at h
  (repeat' (split at h))<;>(try simp at h)
  all_goals (first
   | (obtain ⟨_,_,rfl⟩:=h; rcases List.mem_cons.1 hc with rfl | hc<;>first | exact .inr rfl | exact .inl hc)
   | (obtain ⟨_,rfl⟩:=h; rcases List.mem_cons.1 hc with rfl | hc<;>first | exact .inr rfl | exact .inl hc))
theorem wR {t:Ty} {l:List C} {x:t.T} (h:t.decA l=some x):∀c∈l,wJ c=true:=by
 intro c hc;unfold Ty.decA at h;split at h<;>simp at h;rename_i e;rcases Qi t _ _ _ e c hc with h | h
 ·cases h
 ·exact h
theorem qN {q q':Q} (hq:QLe w w q q'):∀{l:List C} {vs:List Value},(∀c∈l,wJ c=true)->All2 (RC w q) l vs->All2 (RC w q') l vs
 | [],[],_,_=>trivial
 | c::l,v::vs,hp,⟨h1,h2⟩=>⟨RC.mono_plain hq (hp c (by simp)) h1,qN hq (fun d hd=>hp d (by simp[hd])) h2⟩
theorem XA (h:Rel cx m σ a w) {q:Q} (hq:QLe w w (cx.q σ m w) q) {c:C} {v:Value} {ow:xK} (he:vv σ (.d (.c c))=some ow) (hl:∀p,.lp p∈wQ [c]->∀b,xz σ m (.inr p) b->q.okb b)
  (hr:RC w (cx.q σ m w) c v):SlR w q.okb ow.t.size (RT w q.ok q.okb q.m.me ow.t) ow.l v:=by
 cases c<;>simp only[vv] at he<;>try (simp at he; done)
 ·simp at he; subst he
  exact SlR.mono (fun b hb=>⟨(hq.okb b (cx.q_ok σ m w b hb)).1,fun _ _ h=>h⟩) (RT.mono hq.ok hq.okb hq.me _) hr
 ·simp at he; subst he
  exact SlR.mono hq.okb (RT.mono hq.ok hq.okb hq.me _) hr
 ·rename_i s
  split at he<;>simp at he;rename_i o' ho;subst he;obtain ⟨hd,e1,e2⟩:=hr;obtain ⟨hd',f1,l⟩:=h.own s _ ho;rw[show (cx.q σ m w).m.hd s=m.hd s from rfl,f1] at e1;simp at e1;subst e1;rw[e2];exact SlR.mono (fun b hb=>⟨hb,fun _ _ h=>h⟩) (RT.mono hq.ok hq.okb hq.me _) (l.slr fun b off h1 h2=>hl s (by simp[wQ]) b ⟨o',hd',off,ho,f1,h1,h2⟩)
 ·rename_i s lo hi
  split at he<;>simp at he;rename_i o' ho;subst he;obtain ⟨hd,e1,e2,e3,e4⟩:=hr;obtain ⟨hd',f1,l⟩:=h.own s _ ho;rw[show (cx.q σ m w).m.hd s=m.hd s from rfl,f1] at e1;simp at e1;subst e1;rw[e4,l.2.1];exact SlR.mono (fun b hb=>⟨hb,fun _ _ h=>h⟩) (RT.mono hq.ok hq.okb hq.me _) ((l.slr fun b off h1 h2=>hl s (by simp[wQ]) b ⟨o',hd',off,ho,f1,h1,h2⟩).cut e2 (by rw[<-l.1]; exact e3))
theorem lend_ok (h:Rel cx m σ a w) {q:Q} (hq:QLe w w (cx.q σ m w) q) {c:C} {v:Value} (hl:∀p,.lp p∈wQ [c]->∀b,xz σ m (.inr p) b->q.okb b)
  (hr:RC w (cx.q σ m w) c v) (hp:wJ (tq σ c)=true):RC w q (tq σ c) v:=by
 cases c with
 | own s =>
  simp only[tq] at hp ⊢;split
  ·rename_i ow how
   exact XA h hq (ow:=ow) (c:=.own s) (by simp only[vv,how]) hl hr
  ·rename_i hno; split at hp<;>simp_all [wJ]
 | vw s lo hi =>
  simp only[tq] at hp ⊢;split
  ·rename_i ow how
   exact XA h hq (ow:=⟨ow.t,(ow.l.take hi).drop lo⟩) (c:=.vw s lo hi) (by simp only[vv,how]) hl hr
  ·rename_i hno; split at hp<;>simp_all [wJ]
 | _=>exact RC.mono_plain hq (by rfl) hr
theorem Wd:∀{l:List C} {c:C},c∈l->∀x∈wQ [c],x∈wQ l
 | d::r,c,hc,x,hx=>by
  rcases List.mem_cons.1 hc with rfl | hc
  ·cases c<;>simp_all [wQ]
  ·have:=Wd hc x hx
   cases d<;>simp_all [wQ]
theorem Tl (h:Rel cx m σ a w) {q:Q} (hq:QLe w w (cx.q σ m w) q):∀{l:List C} {vs:List Value},(∀p,.lp p∈wQ l->∀b,xz σ m (.inr p) b->q.okb b)->(∀c∈l,wJ (tq σ c)=true)->
  All2 (RC w (cx.q σ m w)) l vs->All2 (fun c b=>RC w q (tq σ c) b) l vs
 | [],[],_,_,_=>trivial
 | [],_::_,_,_,h=>h.elim
 | _::_,[],_,_,h=>h.elim
 | c::l,v::vs,hlp,hp,⟨r1,r2⟩=>⟨lend_ok h hq (fun p hp'=>hlp p (Wd (by simp) _ hp')) r1 (hp c (by simp)),
   Tl h hq (fun p hp'=>hlp p (by cases c<;>simp_all [wQ])) (fun d hd=>hp d (by simp[hd])) r2⟩
theorem wF:∀(l:List C),wi (wQ l)=[]/\wW (wQ l)=[]/\wX (wQ l)=[]/\tM (wQ l)=[]
 | []=>⟨rfl,rfl,rfl,rfl⟩
 | c::r=>by
  have:=wF r;cases c<;>simp_all [wQ,wi,wW,wX,tM]
theorem uI:∀{l:List Lk},(∀x∈l,∃p,x=.mp p)->wW l=[]/\wX l=[]/\tM l=wi l
 | [],_=>⟨rfl,rfl,rfl⟩
 | x::r,h=>by
  obtain ⟨p,rfl⟩:=h x (by simp);obtain ⟨h1,h2,h3⟩:=uI (l:=r) fun y hy=>h y (by simp[hy])
  simp[wW,wX,tM,wi,h1,h2,h3]
theorem SL (h:Rel cx m σ a w) {k:KS} {e:Ent} {v:Value} {x:k.T} {ss:List Lk} (hr:xA σ e (.d k)=some (x,ss)) (he:RE w (cx.q σ m w) e v) :
  wW ss=[]/\wX ss=[]/\tM ss=wi ss/\∃hs:List Hd,hs.length=(wH (.d k) x).length/\HdP σ m hs (wi ss)/\∀(q:Q) (n:Nat),QLe w w (cx.q σ m w) q->(∀b,q.ok b->q.okb b)->(∀j hh,hs[j]?=some hh->q.m.hd (n+j)=some hh)->
   (∀p,.lp p∈ss->∀b,xz σ m (.inr p) b->q.okb b)->(∀s,.lb s∈ss->∀b,m.blk s=some b->q.okb b)->RE w q (Z2 n k x) v/\OwnsR w q n (wH (.d k) x):=by
 have none_:∀(q:Q) n,OwnsR w q n ([]:List xK):=fun q n j o ho=>by simp at ho
 cases k with
 | c t =>
  simp only[xA] at hr;split at hr<;>try simp at hr
  rename_i c;split at hr<;>simp at hr;rename_i y hy;obtain ⟨rfl,rfl⟩:=hr;refine ⟨rfl,rfl,rfl,[],rfl,trivial,fun q n hq hok _ _ _=>⟨?_,none_ q n⟩⟩;have hp:=wR hy c (by simp);have h1:All2 (RC w q) [c] [v]:=⟨RC.mono_plain hq hp he,trivial⟩;exact Sy (wh hok hy h1)
 | b t =>
  simp only[xA] at hr;split at hr
  ·simp at hr
   obtain ⟨rfl,rfl⟩:=hr;refine ⟨rfl,rfl,rfl,[],rfl,trivial,fun q n hq hok _ _ _=>⟨?_,none_ q n⟩⟩;obtain ⟨e1,_⟩:=he.v_eq;subst e1;exact SlR.nil
  ·rename_i s lo hi
   split at hr<;>try simp at hr
   rename_i ow how;split at hr<;>simp at hr;rename_i l hl;obtain ⟨rfl,rfl⟩:=hr;refine ⟨rfl,rfl,rfl,[],rfl,trivial,fun q n hq hok _ hlp _=>⟨?_,none_ q n⟩⟩;obtain ⟨e1,e2⟩:=x6 hl;have:=XA h hq (c:=.vw s lo hi) (ow:=⟨ow.t,(ow.l.take hi).drop lo⟩) (by simp only[vv,how]) (by simpa [wQ] using hlp) he;obtain ⟨t0,l0⟩:=ow;simp only at e1 e2;subst e1;simp only at e2;subst e2;exact this
  ·rename_i c _ _
   split at hr<;>try simp at hr
   rename_i ow how;split at hr<;>simp at hr;rename_i l hl;obtain ⟨rfl,rfl⟩:=hr;refine ⟨(wF _).2.1,(wF _).2.2.1,by rw[(wF _).2.2.2,(wF _).1],[],rfl,by rw[(wF _).1]; trivial,fun q n hq hok _ hlp _=>⟨?_,none_ q n⟩⟩;obtain ⟨e1,e2⟩:=x6 hl;have:=XA h hq how hlp he;obtain ⟨t0,l0⟩:=ow;simp only at e1 e2;subst e1;simp only at e2;subst e2;exact this
  ·simp at hr
 | g t =>
  simp only[xA] at hr;split at hr<;>try simp at hr
  rename_i l;split at hr<;>simp at hr;rename_i y hy;obtain ⟨rfl,rfl⟩:=hr;refine ⟨(wF _).2.1,(wF _).2.2.1,by rw[(wF _).2.2.2,(wF _).1],[],rfl,by rw[(wF _).1]; trivial,fun q n hq hok _ hlp _=>⟨?_,none_ q n⟩⟩;obtain ⟨cs,e1,e2⟩:=he;have hp:=wR hy;have h1:All2 (RC w q) (l.map (tq σ)) cs.toList:=All2.map_left.2 (Tl h hq hlp (fun c hc=>hp _ (List.mem_map.2 ⟨c,hc,rfl⟩)) e2);exact ⟨cs,e1,xJ (wh hok hy h1)⟩
 | a k =>
  simp only[xA] at hr;split at hr<;>try simp at hr
  obtain ⟨rfl,rfl,rfl⟩:=hr;exact ⟨rfl,rfl,rfl,[],rfl,trivial,fun q n hq hok _ _ _=>⟨he,none_ q n⟩⟩
 | p t =>
  simp only[xA] at hr;split at hr<;>try simp at hr
  ·rename_i l
   split at hr<;>simp at hr;rename_i y hy;obtain ⟨rfl,rfl⟩:=hr;refine ⟨rfl,rfl,rfl,[],rfl,trivial,fun q n hq hok _ _ _=>⟨?_,none_ q n⟩⟩;obtain ⟨b,off,vs,e1,e2,e3,e4,e5⟩:=he;exact ⟨b,off,vs,e1,(hq.okb b e2).1,e3,xJ (wh hok hy (qN hq e5 e4)),wM _ _ _ (by simp)⟩
  ·rename_i s off
   cases h0:Nat.beq off 0 with
   | false=>simp[h0] at hr
   | true =>
    simp only[h0,cond_true] at hr;have h0:=yx h0;subst h0;split at hr<;>try simp at hr
    rename_i l hl;split at hr<;>simp at hr;rename_i y hy;obtain ⟨rfl,rfl⟩:=hr;refine ⟨rfl,rfl,rfl,[],rfl,trivial,fun q n hq hok _ _ hlb=>⟨?_,none_ q n⟩⟩;obtain ⟨b,hb,ev⟩:=he;have hb:m.blk s=some b:=hb;obtain ⟨b',cs,T,k1,k2,k3⟩:=h.box s _ hl;rw[hb] at k1;simp at k1;subst k1;exact ⟨b,0,cs.toList,ev,hlb s (by simp) b hb,xH k2,xJ (wh hok hy (qN hq (wR hy) k3)),wM _ _ _ (by simp)⟩
 | cl t =>
  simp only[xA] at hr;split at hr<;>try simp at hr
  rename_i f t' y';split at hr<;>simp at hr;rename_i y hy;obtain ⟨rfl,rfl⟩:=hr;refine ⟨rfl,rfl,rfl,[],rfl,trivial,fun q n hq hok _ _ _=>⟨?_,none_ q n⟩⟩;obtain ⟨e1,e2⟩:=uz hy;subst e1;subst e2;exact RC.mono_plain (c:=.clo f t' y') hq rfl he
 | os t =>
  simp only[xA] at hr;split at hr<;>try simp at hr
  rename_i c;split at hr<;>try simp at hr
  rename_i l' ps hj;split at hr<;>try simp at hr
  rename_i y hy;cases hn:noB t with
  | false=>simp[hn] at hr
  | true =>
  simp[hn] at hr;obtain ⟨rfl,rfl⟩:=hr;obtain ⟨m1,m2,m3⟩:=uI (qR hj);obtain ⟨hs,e1,e2,e3⟩:=Xh h hj (tS hy) (qX (.sl t) y [] hn (by simp)) (vs:=[v]) (⟨he,trivial⟩:All2 (RC w (cx.q σ m w)) [c] [v]);refine ⟨m1,m2,m3,hs,e1,e2,fun q n hq _ hk _ _=>?_⟩;obtain ⟨i1,i2⟩:=e3 q n (⟨fun b hb=>(hq.ok b hb).1,hq.me⟩) hk;exact ⟨(show RC w q (.own n) v/\_ from i1).1,i2⟩
 | og t ms =>
  simp only[xA] at hr;split at hr<;>try simp at hr
  rename_i l;split at hr<;>try simp at hr
  rename_i l' ps hj;split at hr<;>try simp at hr
  rename_i y hy;cases hn:noB t with
  | false=>simp[hn] at hr
  | true =>
  simp[hn] at hr;obtain ⟨rfl,rfl⟩:=hr;obtain ⟨m1,m2,m3⟩:=uI (qR hj);obtain ⟨cs,c1,c2⟩:=he;obtain ⟨hs,e1,e2,e3⟩:=Xh h hj (tS hy) (qX t y [] hn (by simp)) c2;refine ⟨m1,m2,m3,hs,e1,e2,fun q n hq _ hk _ _=>?_⟩;obtain ⟨i1,i2⟩:=e3 q n (⟨fun b hb=>(hq.ok b hb).1,hq.me⟩) hk;exact ⟨⟨cs,c1,i1⟩,i2⟩
 | _=>simp[xA] at hr
theorem Ue {σ:St} {e:Ent} {t:Ty} {x:List t.T} {ss:List Lk} (h:xA σ e (.ios t)=some (x,ss)):∃s,e=.d (.c (.own s))/\σ.own s=.is ⟨t,x⟩/\ss=[.ip s]/\noB t=true:=by
 simp only[xA] at h;split at h<;>try simp at h
 rename_i s;split at h<;>try simp at h
 rename_i o ho;split at h<;>try simp at h
 rename_i l hl;cases hn:noB t with
 | false=>simp[hn] at h
 | true =>
 simp[hn] at h;obtain ⟨rfl,rfl⟩:=h;obtain ⟨e1,e2⟩:=x6 hl;obtain ⟨t0,l0⟩:=o;simp only at e1 e2;subst e1;simp only at e2;subst e2;exact ⟨s,rfl,ho,rfl,rfl⟩
def IoP (m g:Gh):(k:Nat)->(as:List AT)->TA as->List Nat->Prop
 | _,[],_,ps=>ps=[]
 | k,.ios _::r,x,ps=>∃p ps',ps=p::ps'/\g.hd k=m.hd p/\IoP m g (k+1) r x.2 ps'
 | k,.d b::r,x,ps=>IoP m g (k+(wH (.d b) x.1).length) r x.2 ps
 | k,.io t ms::r,x,ps=>IoP m g (k+(wH (.io t ms) x.1).length) r x.2 ps
theorem tO:∀(l k:List Lk),wW (l++k)=wW l++wW k
 | [],_=>rfl
 | x::l,k=>by cases x<;>simp[wW,tO l k]
theorem Zp:∀(l k:List Lk),wX (l++k)=wX l++wX k
 | [],_=>rfl
 | x::l,k=>by cases x<;>simp[wX,Zp l k]
theorem XK (h:Rel cx m σ a w):∀{as:List AT} {es:List Ent} {vs:List Value} {x:TA as} {ss:List Lk},yO σ as es=some (x,ss)->All2 (RE w (cx.q σ m w)) es vs->
  ∃hs:List Hd,HdP σ m hs (wi ss)/\∀(q:Q) (i k:Nat),QLe w w (cx.q σ m w) q->(∀b,q.ok b->q.okb b)->(∀j hh,hs[j]?=some hh->q.m.hd (k+j)=some hh)->
   (∀p,.lp p∈ss->∀b,xz σ m (.inr p) b->q.okb b)->(∀s,.lb s∈ss->∀b,m.blk s=some b->q.okb b)->(∀n,i<=n->q.m.blk n=xy m i as es n)->(∀p hh,q.m.hd p=some hh->p<k+hs.length)->
   ArgsR w q i k as x vs/\IoP m q.m k as x (wW ss)
 | [],[],[],_,_,hr,_=>by
  simp[yO] at hr;obtain ⟨_,rfl⟩:=hr;refine ⟨[],trivial,fun q i k _ _ _ _ _ hb hk=>⟨⟨fun j hj=>by rw[hb j hj]; simp[xy],fun p hh hp=>by have:=hk p hh hp; simpa using this⟩,rfl⟩⟩
 | [],[],_::_,_,_,_,h=>h.elim
 | [],_::_,_,_,_,h,_=>by simp[yO] at h
 | _::_,[],_,_,_,h,_=>by simp[yO] at h
 | _::_,_::_,[],_,_,_,h=>h.elim
 | .d c::as,e::es,v::vs,x,ss,hr,⟨he,hes⟩=>by
  obtain ⟨s1,s2,h1,h2,rfl⟩:=xv hr;obtain ⟨m1,_,_,hs1,a1,a2,a3⟩:=SL h h1 he;obtain ⟨hs2,b2,b3⟩:=XK h h2 hes;refine ⟨hs1++hs2,by rw[ud]; exact a2.app b2,fun q i k hq hok hk hlp hlb hb hu=>?_⟩;obtain ⟨i1,i2⟩:=a3 q k hq hok (fun j hh hj=>hk j hh (by rw[List.getElem?_append_left ((List.getElem?_eq_some_iff.1 hj).1)]; exact hj)) (fun p hp=>hlp p (by simp[hp])) (fun p hp=>hlb p (by simp[hp]));obtain ⟨j1,j2⟩:=b3 q (i+1) (k+hs1.length) hq hok (fun j hh hj=>by rw[Nat.add_assoc]; exact hk _ hh (by rw[List.getElem?_append_right (by omega)]; simpa using hj)) (fun p hp=>hlp p (by simp[hp])) (fun p hp=>hlb p (by simp[hp]))
   (fun n hn=>by rw[hb n (by omega)]; simp only[xy]) (fun p hh hp=>by have:=hu p hh hp; simp at this; omega)
  rw[a1] at j1 j2;refine ⟨⟨?_,i1,i2,j1⟩,?_⟩
  ·rw[hb i (Nat.le_refl _)]; simp only[xy]; exact qZ (by omega)
  ·rw[tO,m1]; exact j2
 | .ios t::as,e::es,v::vs,x,ss,hr,⟨he,hes⟩=>by
  obtain ⟨s1,s2,h1,h2,rfl⟩:=xv hr;obtain ⟨s,rfl,how,rfl,hn⟩:=Ue h1;obtain ⟨hs2,b2,b3⟩:=XK h h2 hes;obtain ⟨hh,g1,g2⟩:=he;obtain ⟨hh',g3,g4⟩:=h.own s _ how;rw[show (cx.q σ m w).m.hd s=m.hd s from rfl,g3] at g1;simp at g1;subst g1;refine ⟨hh'::hs2,.inr ⟨⟨_,hh',how,g3,rfl,fun b off e _=>⟨off,e⟩⟩,b2⟩,fun q i k hq hok hk hlp hlb hb hu=>?_⟩;have hk0:=hk 0 hh' rfl;obtain ⟨j1,j2⟩:=b3 q (i+1) (k+1) hq hok (fun j hh hj=>by rw[show k+1+j=k+(j+1) by omega]; exact hk (j+1) hh (by simpa using hj)) (fun p hp=>hlp p (by simp[hp])) (fun p hp=>hlb p (by simp[hp]))
   (fun n hn=>by rw[hb n (by omega)]; simp only[xy]) (fun p hh hp=>by have:=hu p hh hp; simp at this; omega)
  refine ⟨⟨?_,⟨hh',hk0,g2⟩,fun j o ho=>?_,j1⟩,⟨s,_,rfl,by rw[show q.m.hd k=some hh' from hk0,g3],j2⟩⟩
  ·rw[hb i (Nat.le_refl _)]; simp only[xy]; exact qZ (by omega)
  ·cases j with
   | zero=>simp[wH] at ho; subst ho; exact ⟨hh',hk0,g4.mono_nb hq.me (fun b hb=>(hq.ok b hb).1) hn⟩
   | succ j=>simp[wH] at ho
 | .io t ms::as,e::es,v::vs,x,ss,hr,⟨he,hes⟩=>by
  obtain ⟨s1,s2,h1,h2,rfl⟩:=xv hr;obtain ⟨s,l,l',ps,rfl,hl,hj,hy,rfl,hn⟩:=Wf h1;obtain ⟨b,hbk,ev⟩:=he;have hbk:m.blk s=some b:=hbk;obtain ⟨b',cs,T,k1,k2,k3⟩:=h.box s _ hl;rw[hbk] at k1;simp at k1;subst k1;obtain ⟨hs1,a1,a2,a3⟩:=Xh h hj (tS hy) (qX t x.1 [] hn (by simp)) k3;obtain ⟨hs2,b2,b3⟩:=XK h h2 hes;refine ⟨hs1++hs2,by rw[ud]; exact a2.app b2,fun q i k hq hok hk hlp hlb hb hu=>?_⟩;obtain ⟨i1,i2⟩:=a3 q k (⟨fun b hb=>(hq.ok b hb).1,hq.me⟩) (fun j hh hj=>hk j hh (by rw[List.getElem?_append_left ((List.getElem?_eq_some_iff.1 hj).1)]; exact hj));obtain ⟨j1,j2⟩:=b3 q (i+1) (k+hs1.length) hq hok (fun j hh hj=>by rw[Nat.add_assoc]; exact hk _ hh (by rw[List.getElem?_append_right (by omega)]; simpa using hj)) (fun p hp=>hlp p (by simp[hp])) (fun p hp=>hlb p (by simp[hp]))
   (fun n hn=>by rw[hb n (by omega)]; simp only[xy]; rw[if_neg (by omega)]) (fun p hh hp=>by have:=hu p hh hp; simp at this; omega)
  rw[a1] at j1 j2;refine ⟨⟨⟨b,cs,T,?_,ev,k2,i1⟩,i2,j1⟩,?_⟩
  ·rw[hb i (Nat.le_refl _)]; simp only[xy,if_true]; exact hbk
  ·rw[tO,show wW (.ib s::ps)=[] from (uI (qR hj)).1]; exact j2
def qC (cx:Cx) (σ:St) (m g:Gh) (b:Nat):Prop:=(cx.X b\/cx.Iq b\/qz σ m b)/\¬Mv g b
def v6 (blk:Nat->Option Nat) (b:Nat):Prop:=∃i,blk i=some b
theorem TR (h:Rel cx m σ a w) {as:List AT} {es:List Ent} {x:TA as} {ss:List Lk} {i:Nat} (hr:yO σ as es=some (x,ss)) {b:Nat} (hb:v6 (xy m i as es) b) :
  ∃s,.ib s∈ss/\m.blk s=some b:=by
 obtain ⟨n,hn⟩:=hb;obtain ⟨s,h1,h2,_⟩:=tX hr hn;exact ⟨s,h1,h2⟩
theorem QY {cx:Cx} {m:Gh} {Hh:Hn} (hme:cx.me=Hh.me) (hb:∀s b,cx.me=some s->m.blk s=some b->m.me=some b):∀{as:List AT} {es:List Ent} {k i:Nat} {t:Ty} {ms:List Nat} {b:Nat},
  meA Hh as es=true->as[i]?=some (.io t ms)->WU 2 ms=true->xy m k as es (k+i)=some b->m.me=some b
 | [],_,_,_,_,_,_,_,h,_,_=>by simp at h
 | a::as,[],_,_,_,_,_,_,_,_,h=>by cases a<;>simp[xy] at h
 | a::as,e::es,k,0,t,ms,b,h1,h2,h3,h4=>by
  simp at h2;subst h2;simp only[meA,h3,cond_true,Bool.and_eq_true] at h1;cases e with
  | loc s off =>
   simp[xy] at h4;have h1:=h1.1;simp only[qi] at h1;split at h1
   ·rename_i r hr
    have:=yx h1;subst this;exact hb _ b (hme.trans hr) h4
   ·cases h1
  | _=>simp at h1
 | a::as,e::es,k,i+1,t,ms,b,h1,h2,h3,h4=>by
  have h2:as[i]?=some (.io t ms):=by simpa using h2
  have h1:meA Hh as es=true:=by
   cases a<;>simp only[meA,Bool.and_eq_true] at h1<;>first | exact h1.2 | exact h1
  have h4:xy m (k+1) as es (k+1+i)=some b:=by
   have ek:k+(i+1)=k+1+i:=by omega
   rw[ek] at h4;cases a with
   | io t' ms' =>
    cases e with
    | loc s off=>simp only[xy] at h4; rw[if_neg (by omega)] at h4; exact h4
    | _=>exact h4
   | _=>exact h4
  exact QY hme hb h1 h2 h3 h4
theorem Q7 {Hh:Hn} (hme:cx.me=Hh.me) (hG:xU cx) (h:Rel cx m σ a w) {as:List AT} {es:List Ent} {vs:List Value} {x:TA as} {ss:List Lk} (hr:yO σ as es=some (x,ss)) (hap:vD ss=true) (hma:meA Hh as es=true)
  (he:All2 (RE w (cx.q σ m w)) es vs):∃g:Gh,g.blk=xy m 0 as es/\g.me=m.me/\(∀b,Mv g b->∃p∈wi ss,xz σ m (.inr p) b)/\IoP m g inN as x (wW ss) /\
   Entry cx.G w (qC cx σ m g) (v6 (xy m 0 as es)) g as x vs:=by
 obtain ⟨hs,hp,hall⟩:=XK h hr he;let g:Gh:=⟨xy m 0 as es,hdL inN hs,m.me⟩
 have hmv:∀b,Mv g b->∃p∈wi ss,xz σ m (.inr p) b:=by
  intro b ⟨p,hh,off,h1,h2,h3⟩;obtain ⟨j,_,hj⟩:=vY h1;exact hp.at hj h2 h3
 have hio:∀b,v6 (xy m 0 as es) b->∃s,.ib s∈ss/\m.blk s=some b:=fun b hb=>TR h hr hb
 have hq:QLe w w (cx.q σ m w) (qIn w (qC cx σ m g) (v6 (xy m 0 as es)) g):={
  ok:=fun b hb=>⟨⟨hb.1,fun hx=>by
   rcases hx.1 with hx | hx | hx
   ·exact hb.2.2.1 hx
   ·exact hb.2.2.2 hx
   ·exact hb.2.1 hx,fun hi=>by obtain ⟨s,_,hs⟩:=hio b hi; exact hb.2.1 ⟨.inl s,hs⟩,fun hm=>by obtain ⟨p,_,hp⟩:=hmv b hm; exact hb.2.1 ⟨.inr p,hp⟩⟩,fun _ _ h=>h⟩
  okb:=fun b hb=>⟨⟨hb.1,fun hi=>by obtain ⟨s,_,hs⟩:=hio b hi; exact hb.2.1 ⟨.inl s,hs⟩,fun hm=>by obtain ⟨p,_,hp⟩:=hmv b hm; exact hb.2.1 ⟨.inr p,hp⟩⟩,fun _ _ h=>h⟩
  me:=fun _ h=>h}
 have hlp:∀p,.lp p∈ss->∀b,xz σ m (.inr p) b->(qIn w (qC cx σ m g) (v6 (xy m 0 as es)) g).okb b:=by
  intro p hps b hb;refine ⟨(h.dom _ b hb).1,fun hi=>?_,fun hm=>?_⟩
  ·obtain ⟨s,_,hs⟩:=hio b hi
   have:=h.inj _ _ b hb (show xz σ m (.inl s) b from hs); simp at this
  ·obtain ⟨p',p1,p2⟩:=hmv b hm
   have:=Yl h p p' b hb p2;subst this;rcases uH.1 p1 with h' | h'<;>(have:=td hap hps h' (by simp); simp[u9,Lk.key,Lk.x] at this)
 have hlb:∀s,.lb s∈ss->∀b,m.blk s=some b->(qIn w (qC cx σ m g) (v6 (xy m 0 as es)) g).okb b:=by
  intro s hs b hb;refine ⟨(h.dom (.inl s) b hb).1,fun hi=>?_,fun hm=>?_⟩
  ·obtain ⟨r,hr1,hr2⟩:=hio b hi
   have:=UC h s r b hb hr2;subst this;have:=td hap hs hr1 (by simp);simp[u9,Lk.key,Lk.x] at this
  ·obtain ⟨p',_,p2⟩:=hmv b hm
   have:=h.inj (.inl s) _ b hb p2; simp at this
 obtain ⟨hA,hI⟩:=hall (qIn w (qC cx σ m g) (v6 (xy m 0 as es)) g) 0 inN hq (fun b hb=>⟨hb.1,hb.2.2.1,hb.2.2.2⟩) (fun j hh hj=>by show hdL inN hs (inN+j)=some hh; rw[Sq]; exact hj) hlp hlb (fun _ _=>rfl)
  (fun p hh hp=>by obtain ⟨j,e,hj⟩:=vY hp; have:=(List.getElem?_eq_some_iff.1 hj).1; omega)
 refine ⟨g,rfl,rfl,hmv,hI,?_⟩;exact {
  glob:=fun b o hg=>by
   obtain ⟨h1,h2,h3⟩:=hG.at_ b o hg;refine ⟨Nat.lt_of_lt_of_le h1 h.grown,fun hi=>?_,fun i hi=>?_⟩
   ·obtain ⟨s,_,hs⟩:=hio b hi
    rcases (h.dom (.inl s) b hs).2 with h' | h'
    ·rcases h'.2.2 with h' | h'
     ·omega
     ·exact hG.mv b o hg h'
    ·exact h2 h'.1
   ·obtain ⟨us,u1,u2,u3⟩:=h3 i hi
    exact ⟨us,u1,xf (fun off v hv=>by rw[vi (h.mem b h1 h2 (hG.mv b o hg))]; exact hv) u2,u3⟩
  globm:=fun b o hg hm=>by
   obtain ⟨h1,h2,h3⟩:=hG.at_ b o hg;obtain ⟨p,_,hp⟩:=hmv b hm;rcases (h.newOf hp).2.2 with h' | h'
   ·omega
   ·exact hG.mv b o hg h'
  old:=fun b hb=>by
   rcases hb with ⟨hb | hb | ⟨p,hp⟩,_⟩ | hb
   ·exact Nat.lt_of_lt_of_le (h.oldX b (.inl hb)) h.grown
   ·exact Nat.lt_of_lt_of_le (h.oldX b (.inr hb)) h.grown
   ·exact (h.dom p b hp).1
   ·obtain ⟨s,_,hs⟩:=hio b hb
    exact (h.dom (.inl s) b hs).1
  mv:=fun b hm=>by
   obtain ⟨p,_,hp⟩:=hmv b hm;refine ⟨(h.dom _ b hp).1,fun hx=>hx.2 hm,fun hi=>?_⟩;obtain ⟨s,_,hs⟩:=hio b hi;have:=h.inj (.inl s) _ b hs hp; simp at this
  io:=fun b=>Iff.rfl
  inj:=fun i j b h1 h2=>Zw (UC h) hr hap h1 h2
  injm:=fun p p' hh hh' b off off' h1 h2 h3 h4 h5 h6=>by
   obtain ⟨j,e,hj⟩:=vY h1;obtain ⟨j',e',hj'⟩:=vY h2;have:=hp.inj (Yl h) (qv hap) hj hj' h3 h4 h5 h6;omega
  low:=fun p hh hp=>by obtain ⟨j,e,_⟩:=vY hp; omega
  args:=hA
  me:=fun i t ms b h1 h2 h3=>QY (k:=0) hme h.mebox hma h1 h2 (by simpa using h3)}
end
end Go.VS
namespace Go.VS
open Go
section
variable {cx:Cx} {Hh:Hn} {Sg:Nat->Sig} {m:Gh} {σ:St} {a:Act} {w w':World}
theorem Vn {s:Nat}:∀{l:List Lk},s∈wX l↔.ib s∈l
 | []=>by simp[wX]
 | x::l=>by
  have:=Vn (s:=s) (l:=l);cases x<;>simp[wX,this]
theorem YZ {s:Nat}:∀{l:List Lk},s∈wW l↔.ip s∈l
 | []=>by simp[wW]
 | x::l=>by
  have:=YZ (s:=s) (l:=l);cases x<;>simp[wW,this]
theorem YV {s:Nat}:∀{l:List Lk},s∈tM l↔.mp s∈l
 | []=>by simp[tM]
 | x::l=>by
  have:=YV (s:=s) (l:=l);cases x<;>simp[tM,this]
theorem V3 (h:Rel cx m σ a w) {q:Q} {blk:Nat->Option Nat}:∀{as:List AT} {es:List Ent} {vs:List Value} {x:TA as} {ss:List Lk} {i n:Nat} {y:TIo as},yO σ as es=some (x,ss)->All2 (RE w (cx.q σ m w)) es vs->IosR w w' q blk i n as y->
  (∀r,i<=r->blk r=xy m i as es r)->
  (∀p z,wK ((wX ss).zip (ux n as y)) p=some z->∃b cs cs' T L,m.blk p=some b/\w.heap[b]?=some (Obj.cells cs T (0,0))/\w'.heap[b]?=some (Obj.cells cs' T (0,0))/\cs'.size=cs.size /\
   z=some (.g L)/\All2 (RC w' q) L cs'.toList) /\
  (∀p,.ib p∈ss->∃z,wK ((wX ss).zip (ux n as y)) p=some z)
 | [],[],_,x,ss,i,n,y,hr,_,_,_=>by
  simp[yO] at hr;obtain ⟨_,rfl⟩:=hr;exact ⟨fun p z h=>by simp[wX,wK] at h,fun p h=>by cases h⟩
 | [],_::_,_,_,_,_,_,_,h,_,_,_=>by simp[yO] at h
 | _::_,[],_,_,_,_,_,_,h,_,_,_=>by simp[yO] at h
 | _::_,_::_,[],_,_,_,_,_,_,h,_,_=>h.elim
 | .d k::as,e::es,v::vs,x,ss,i,n,y,hr,⟨he,hes⟩,hio,hb=>by
  obtain ⟨s1,s2,h1,h2,rfl⟩:=xv hr;have hn:=(SL h h1 he).2.1;obtain ⟨i1,i2⟩:=V3 h (as:=as) (i:=i+1) (n:=n) (y:=(y:TIo as)) h2 hes hio (fun r hr=>by rw[hb r (by omega)]; simp only[xy]);have hz:ux n (.d k::as) y=ux n as y:=rfl;rw[hz,Zp,hn,List.nil_append];refine ⟨i1,fun p hp=>?_⟩;rcases List.mem_append.1 hp with hp | hp
  ·have:=Vn.2 hp; rw[hn] at this; cases this
  ·exact i2 p hp
 | .ios t::as,e::es,v::vs,x,ss,i,n,y,hr,⟨he,hes⟩,hio,hb=>by
  obtain ⟨s1,s2,h1,h2,rfl⟩:=xv hr;obtain ⟨s,rfl,_,rfl,_⟩:=Ue h1;obtain ⟨i1,i2⟩:=V3 h (as:=as) (i:=i+1) (n:=n+1) (y:=y.2) h2 hes hio (fun r hr=>by rw[hb r (by omega)]; simp only[xy]);have hz:ux n (.ios t::as) y=ux (n+1) as y.2:=rfl;rw[hz,Zp,show wX [Lk.ip s]=[] from rfl,List.nil_append];refine ⟨i1,fun p hp=>?_⟩;rcases List.mem_append.1 hp with hp | hp
  ·simp at hp
  ·exact i2 p hp
 | .io t ms::as,e::es,v::vs,x,ss,i,n,y,hr,⟨he,hes⟩,⟨hh,hio⟩,hb=>by
  obtain ⟨s1,s2,h1,h2,rfl⟩:=xv hr;obtain ⟨s,l,l',ps,rfl,hl,hj,hy,rfl,_⟩:=Wf h1;obtain ⟨i1,i2⟩:=V3 h (i:=i+1) (n:=n+(unM 0 ms (t.enc y.1 [])).2.length) (y:=y.2) h2 hes hio (fun r hr=>by rw[hb r (by omega)]; simp only[xy]; rw[if_neg (by omega)]);have hz:(wX ((.ib s::ps)++s2)).zip (ux n (.io t ms::as) y)=(s,.g (unM n ms (t.enc y.1 [])).1)::(wX s2).zip (ux (n+(unM 0 ms (t.enc y.1 [])).2.length) as y.2):=by
   rw[Zp,show wX (.ib s::ps)=[s] from by simp only[wX,(uI (qR hj)).2.1]]; rfl
  rw[hz];refine ⟨fun p z hp=>?_,fun p hp=>?_⟩
  ·simp only[wK] at hp
   cases ht:wK ((wX s2).zip (ux (n+(unM 0 ms (t.enc y.1 [])).2.length) as y.2)) p with
   | some z'=>rw[ht] at hp; simp at hp; subst hp; exact i1 p _ ht
   | none =>
    rw[ht] at hp;simp only at hp;split at hp<;>simp at hp;rename_i hps;subst hps;subst hp;obtain ⟨b,cs,cs',T,b1,b2,b3,b4,b5⟩:=hh;have hbi:=hb i (Nat.le_refl _);simp only[xy,if_true] at hbi;exact ⟨b,cs,cs',T,_,by rw[<-hbi,b1],b2,b3,b4,rfl,b5⟩
  ·simp only[wK]
   cases ht:wK ((wX s2).zip (ux (n+(unM 0 ms (t.enc y.1 [])).2.length) as y.2)) p with
   | some z'=>exact ⟨_,rfl⟩
   | none =>
    rcases List.mem_append.1 hp with hp | hp
    ·rcases List.mem_cons.1 hp with hp | hp
     ·cases hp
      exact ⟨_,by simp only[if_true]; rfl⟩
     ·obtain ⟨p',e⟩:=qR hj _ hp
      cases e
    ·obtain ⟨z,hz⟩:=i2 p hp
     rw[ht] at hz; cases hz
def ZB:List (Bool×xK)->List Nat->Nat->Option Nat
 | (true,_)::_,p::_,0=>some p
 | (true,_)::r,_::ips,j+1=>ZB r ips j
 | (false,_)::r,ips,j+1=>ZB r ips j
 | _,_,_=>none
theorem We {r:List (Bool×xK)}:∀{os:List xK} {ips:List Nat} {j p:Nat},ZB (os.map (fun o=>(false,o))++r) ips j=some p->∃i,j=os.length+i/\ZB r ips i=some p
 | [],ips,j,p,h=>⟨j,by simp,h⟩
 | o::os,ips,0,p,h=>by simp[ZB] at h
 | o::os,ips,j+1,p,h=>by
  simp only[List.map_cons,List.cons_append,ZB] at h;obtain ⟨i,e,h'⟩:=We h;exact ⟨i,by simp; omega,h'⟩
theorem S9 {g g1:Gh}:∀{as:List AT} {x:TA as} {y:TIo as} {k n:Nat} {ips:List Nat},IoP m g k as x ips->IoH g g1 k n as x y->∀j p,ZB (uW as y) ips j=some p->g1.hd (n+j)=m.hd p
 | [],_,_,_,_,_,_,_,j,p,h=>by simp[uW,ZB] at h
 | .d b::as,x,y,k,n,ips,h1,h2,j,p,h=>S9 (as:=as) h1 h2 j p h
 | .io t ms::as,x,y,k,n,ips,h1,h2,j,p,h=>by
  obtain ⟨i,e,h'⟩:=We h;have:=S9 (as:=as) h1 h2 i p h';rw[e,<-Nat.add_assoc]; exact this
 | .ios t::as,x,y,k,n,_,⟨p0,ps,rfl,e1,h1⟩,⟨e2,h2⟩,0,p,h=>by
  simp[uW,ZB] at h;subst h;rw[Nat.add_zero,e2,e1]
 | .ios t::as,x,y,k,n,_,⟨p0,ps,rfl,e1,h1⟩,⟨e2,h2⟩,j+1,p,h=>by
  have:=S9 (as:=as) h1 h2 j p (by simpa only [uW,ZB] using h);rw[show n+(j+1)=n+1+j by omega]; exact this
theorem W6:∀{ks:List KS} {y:TK ks},wE ks y=((wE ks y).map (·.2)).map (fun o=>(false,o))
 | [],_=>rfl
 | k::ks,y=>by
  simp only[wE,List.map_append,List.map_map];congr 1
  exact (W6 (ks:=ks) (y:=y.2)).trans (by simp only[List.map_map])
theorem Y1:∀{os:List (Bool×xK)} {k:Nat} {ips:List Nat} {f f':Nat->qw},uX k os ips f=some f'->(∀p∈ips,∃o,f p=.is o)->
  (∀j,j<os.length->f (k+j)=.no/\uF (k+j)=false) /\
  (∀p o,f' p=.is o->(f p=.is o/\p ∉ ips/\¬(k<=p/\p<k+os.length))\/(∃j,p=k+j/\os[j]?=some (false,o))\/(∃j,ZB os ips j=some p/\os[j]?=some (true,o))) /\
  (∀p,f' p=.no->f p=.no/\¬(k<=p/\p<k+os.length))
 | [],k,[],f,f',h,_=>by
  simp[uX] at h;subst h;exact ⟨fun j hj=>by simp at hj,fun p o ho=>.inl ⟨ho,by simp,fun hk=>by simp at hk; omega⟩,fun p hp=>⟨hp,fun hk=>by simp at hk; omega⟩⟩
 | [],k,_::_,f,f',h,_=>by simp[uX] at h
 | (true,o)::r,k,[],f,f',h,_=>by simp[uX] at h
 | (false,o)::r,k,ips,f,f',h,hi=>by
  simp only[uX] at h;split at h<;>try simp at h
  rename_i hk;cases ha:uF k with
  | true=>simp[ha] at h
  | false =>
  simp only[ha,cond_false] at h;obtain ⟨i1,i2,i3⟩:=Y1 h fun p hp=>by
   by_cases e:p=k
   ·subst e; exact ⟨o,yp _ _ _⟩
   ·obtain ⟨o',h'⟩:=hi p hp; exact ⟨o',by rw[yN _ _ e]; exact h'⟩
  refine ⟨fun j hj=>?_,fun p o' ho=>?_,fun p hp=>?_⟩
  ·cases j with
   | zero=>exact ⟨hk,ha⟩
   | succ j =>
    obtain ⟨h1,h2⟩:=i1 j (by simp at hj; omega);rw[show k+(j+1)=k+1+j by omega];rw[yN _ _ (by omega)] at h1;exact ⟨h1,h2⟩
  ·rcases i2 p o' ho with ⟨h1,h2,h3⟩ | ⟨j,h1,h2⟩ | ⟨j,h1,h2⟩
   ·by_cases e:p=k
    ·subst e
     rw[yp] at h1;cases h1
     exact .inr (.inl ⟨0,rfl,rfl⟩)
    ·rw[yN _ _ e] at h1
     exact .inl ⟨h1,h2,fun hk=>h3 ⟨by omega,by simp at hk; omega⟩⟩
   ·exact .inr (.inl ⟨j+1,by omega,by simpa using h2⟩)
   ·exact .inr (.inr ⟨j+1,by simp only[ZB]; exact h1,by simpa using h2⟩)
  ·obtain ⟨h1,h2⟩:=i3 p hp
   by_cases e:p=k
   ·subst e; rw[yp] at h1; cases h1
   ·rw[yN _ _ e] at h1
    exact ⟨h1,fun hk=>h2 ⟨by omega,by simp at hk; omega⟩⟩
 | (true,o)::r,k,s::ips,f,f',h,hi=>by
  simp only[uX] at h;split at h<;>try simp at h
  rename_i hk;cases ha:uF k with
  | true=>simp[ha] at h
  | false =>
  simp only[ha,cond_false] at h;obtain ⟨os,hs⟩:=hi s (by simp);have hsk:s≠k:=fun e=>by subst e; rw[hk] at hs; cases hs
  obtain ⟨i1,i2,i3⟩:=Y1 h fun p hp=>by
   by_cases e:p=s
   ·subst e; exact ⟨o,yp _ _ _⟩
   ·obtain ⟨o',h'⟩:=hi p (by simp[hp])
    have hpk:p≠k:=fun e=>by subst e; rw[hk] at h'; cases h'
    exact ⟨o',by rw[yN _ _ e,yN _ _ hpk]; exact h'⟩
  refine ⟨fun j hj=>?_,fun p o' ho=>?_,fun p hp=>?_⟩
  ·cases j with
   | zero=>exact ⟨hk,ha⟩
   | succ j =>
    obtain ⟨h1,h2⟩:=i1 j (by simp at hj; omega);rw[show k+(j+1)=k+1+j by omega];by_cases e:k+1+j=s
    ·subst e; rw[yp] at h1; cases h1
    ·rw[yN _ _ e,yN _ _ (by omega)] at h1
     exact ⟨h1,h2⟩
  ·rcases i2 p o' ho with ⟨h1,h2,h3⟩ | ⟨j,h1,h2⟩ | ⟨j,h1,h2⟩
   ·by_cases e:p=s
    ·subst e
     rw[yp] at h1;cases h1
     exact .inr (.inr ⟨0,rfl,rfl⟩)
    ·rw[yN _ _ e] at h1
     by_cases e':p=k
     ·subst e'; rw[yp] at h1; cases h1
     ·rw[yN _ _ e'] at h1
      exact .inl ⟨h1,by simp[e,h2],fun hk=>h3 ⟨by omega,by simp at hk; omega⟩⟩
   ·exact .inr (.inl ⟨j+1,by omega,by simpa using h2⟩)
   ·exact .inr (.inr ⟨j+1,by simp only[ZB]; exact h1,by simpa using h2⟩)
  ·obtain ⟨h1,h2⟩:=i3 p hp
   by_cases e:p=s
   ·subst e; rw[yp] at h1; cases h1
   ·rw[yN _ _ e] at h1
    by_cases e':p=k
    ·subst e'; rw[yp] at h1; cases h1
    ·rw[yN _ _ e'] at h1
     exact ⟨h1,fun hk=>h2 ⟨by omega,by simp at hk; omega⟩⟩
theorem Zo:∀{as:List AT} {es:List Ent} {vs:List Value} {x:TA as} {ss:List Lk},Rel cx m σ a w->yO σ as es=some (x,ss)->All2 (RE w (cx.q σ m w)) es vs->∀p∈wW ss,∃o,σ.own p=.is o
 | [],[],_,_,_,_,hr,_,p,hp=>by
  simp[yO] at hr;obtain ⟨_,rfl⟩:=hr;simp[wW] at hp
 | [],_::_,_,_,_,_,h,_,_,_=>by simp[yO] at h
 | _::_,[],_,_,_,_,h,_,_,_=>by simp[yO] at h
 | _::_,_::_,[],_,_,_,_,h,_,_=>h.elim
 | .d k::as,e::es,v::vs,x,ss,h,hr,⟨he,hes⟩,p,hp=>by
  obtain ⟨s1,s2,h1,h2,rfl⟩:=xv hr;rw[tO,(SL h h1 he).1] at hp;exact Zo h h2 hes p hp
 | .ios t::as,e::es,v::vs,x,ss,h,hr,⟨he,hes⟩,p,hp=>by
  obtain ⟨s1,s2,h1,h2,rfl⟩:=xv hr;obtain ⟨s,rfl,how,rfl,_⟩:=Ue h1;rcases List.mem_cons.1 (show p∈s::wW s2 from hp) with rfl | hp
  ·exact ⟨_,how⟩
  ·exact Zo h h2 hes p hp
 | .io t ms::as,e::es,v::vs,x,ss,h,hr,⟨he,hes⟩,p,hp=>by
  obtain ⟨s1,s2,h1,h2,rfl⟩:=xv hr;obtain ⟨s,l,l',ps,rfl,hl,hj,hy,rfl,_⟩:=Wf h1;rw[tO,show wW (.ib s::ps)=[] from (uI (qR hj)).1] at hp;exact Zo h h2 hes p hp
theorem zam (h:Rel cx m σ a w) {s:Sig} {es:List Ent} {vs:List Value} {x:TA s.args} {ss:List Lk} (hr:yO σ s.args es=some (x,ss)) (hap:vD ss=true) (he:All2 (RE w (cx.q σ m w)) es vs)
  {g:Gh} (hgb:g.blk=xy m 0 s.args es) (hgm:g.me=m.me) (hmv:∀b,Mv g b->∃p∈wi ss,xz σ m (.inr p) b) (hI:IoP m g inN s.args x (wW ss)) {dst:Option Nat} {y:s.R} {v:Value}
  (hp:Post w w' (qC cx σ m g) (v6 (xy m 0 s.args es)) g s x y v (Z0 dst)) {σ1:St} (hm:vL σ dst (WS dst s ss y).mem=some σ1) :
  ∃m',Rel cx m' σ1 a w'/\RE w' (cx.q σ1 m' w') (WS dst s ss y).ent v:=by
 obtain ⟨g1,hO⟩:=hp.out;generalize hK:Z0 dst=K at hO hp;simp only[WS,vL,hK] at hm ⊢;split at hm<;>simp at hm;rename_i f hf;subst hm;have hios:=hO.ios;rw[hgb] at hios;obtain ⟨oA,oB⟩:=V3 h hr he hios (fun _ _=>rfl);have halive:=Zo h hr he;have hnm:∀p∈wW ss,p ∉ tM ss:=fun p h1 h2=>by
  have:=td hap (YZ.1 h1) (YV.1 h2) (by simp);simp[u9,Lk.key,Lk.x] at this
 have hpls:∀p,p∈wi ss↔p∈tM ss\/p∈wW ss:=fun p=>by rw[uH,YV,YZ]
 obtain ⟨f1,f2,f3⟩:=Y1 hf fun p hp=>by
  obtain ⟨o,ho⟩:=halive p hp;exact ⟨o,by rw[vW,if_neg (hnm p hp)]; exact ho⟩
 let OL:List (Bool×xK):=wE s.res y.1++uW s.args y.2
 have hIP:∀j p,ZB OL (wW ss) j=some p->g1.hd (K+j)=m.hd p:=by
  intro j p hj;have hj':ZB (((wE s.res y.1).map (·.2)).map (fun o=>(false,o))++uW s.args y.2) (wW ss) j=some p:=by rw[<-W6]; exact hj
  obtain ⟨i,e,h'⟩:=We hj';have:=S9 hI hO.ioh i p h';rw[e,show K+(((wE s.res y.1).map (·.2)).length+i)=K+(wE s.res y.1).length+i by simp; omega]
  exact this
 have hno:∀j,j<OL.length->m.hd (K+j)=none/\(∀p,σ.own p≠.no->p≠K+j):=by
  intro j hj;obtain ⟨h1,_⟩:=f1 j hj;have h0:σ.own (K+j)=.no:=by
   rw[vW] at h1;split at h1
   ·cases h1
   ·exact h1
  refine ⟨?_,fun p hp e=>hp (e ▸ h0)⟩;cases e:m.hd (K+j) with
  | none=>rfl
  | some hh=>exact absurd h0 (h.noown _ hh e)
 have hg1:∀p hh,g1.hd p=some hh->∃j,j<OL.length/\p=K+j:=fun p hh hp=>by
  obtain ⟨l1,l2⟩:=hO.low p hh hp;have l2:p<K+OL.length:=l2;exact ⟨p-K,by omega,by omega⟩
 let m':Gh:=⟨m.blk,fun p=>match g1.hd p with | some hh=>some hh | none=>m.hd p,m.me⟩
 let σ':St:={σ with box:=Yb σ.box ((wX ss).zip (ux (K+(wE s.res y.1).length) s.args y.2)),own:=f}
 have m'_new:∀p hh,g1.hd p=some hh->m'.hd p=some hh:=fun p hh hp=>by simp only[m',hp]
 have m'_old:∀p,(∀j,j<OL.length->p≠K+j)->m'.hd p=m.hd p:=fun p hp=>by
  simp only[m'];cases e:g1.hd p with
  | none=>rfl
  | some hh=>obtain ⟨j,j1,j2⟩:=hg1 p hh e; exact absurd j2 (hp j j1)
 have m'_hd:∀p hh,m.hd p=some hh->m'.hd p=some hh:=fun p hh hp=>by
  rw[m'_old p fun j hj e=>by rw[e,(hno j hj).1] at hp; cases hp]; exact hp
 have how:∀p b,xz σ' m' p b->(xz σ m p b/\∀r,p=.inr r->r ∉ wi ss)\/(∃r n hh off,p=.inr r/\g1.hd n=some hh/\hh.a=some ⟨b,off,none⟩/\0<hh.cap /\
   ∃j o,n=K+j/\((r=n/\OL[j]?=some (false,o))\/(ZB OL (wW ss) j=some r/\OL[j]?=some (true,o)))):=by
  intro p b hb;cases p with
  | inl r=>exact .inl ⟨hb,fun r' e=>by cases e⟩
  | inr r =>
   obtain ⟨o,hh,off,e1,e2,e3,e4⟩:=hb;rcases f2 r o e1 with ⟨h1,h2,h3⟩ | ⟨j,h1,h2⟩ | ⟨j,h1,h2⟩
   ·rw[vW] at h1
    split at h1
    ·cases h1
    ·rename_i hnm'
     rw[m'_old r fun j hj e=>h3 ⟨by omega,by rw[e]; exact Nat.add_lt_add_left hj K⟩] at e2;refine .inl ⟨⟨o,hh,off,h1,e2,e3,e4⟩,fun r' e=>?_⟩;cases e
     rw[hpls];exact fun hx=>hx.elim hnm' h2
   ·have hj:j<OL.length:=(List.getElem?_eq_some_iff.1 h2).1
    obtain ⟨hh',k1,_⟩:=hO.own j o (by rw[List.getElem?_map,h2]; rfl);have:m'.hd r=some hh':=by rw[h1]; exact m'_new _ _ k1
    rw[this] at e2;simp at e2;subst e2;exact .inr ⟨r,K+j,hh',off,rfl,k1,e3,e4,j,o,rfl,.inl ⟨h1,h2⟩⟩
   ·have hj:j<OL.length:=(List.getElem?_eq_some_iff.1 h2).1
    obtain ⟨hh',k1,_⟩:=hO.own j o (by rw[List.getElem?_map,h2]; rfl);have hmr:m.hd r=some hh':=by rw[<-hIP j r h1]; exact k1
    rw[m'_hd r hh' hmr] at e2;simp at e2;subst e2;exact .inr ⟨r,K+j,hh',off,rfl,k1,e3,e4,j,o,rfl,.inr ⟨h1,h2⟩⟩
 have hMvOwn:∀b,Mv g b->qz σ m b:=fun b hb=>by obtain ⟨p,_,hp⟩:=hmv b hb; exact ⟨_,hp⟩
 have hio:∀b,v6 (xy m 0 s.args es) b->∃p,.ib p∈ss/\m.blk p=some b:=fun b hb=>TR h hr hb
 have hownG1:∀{b:Nat} {n:Nat} {hh:Hd} {off:Nat},g1.hd n=some hh->hh.a=some ⟨b,off,none⟩->0<hh.cap->b<w'.heap.size/\¬qC cx σ m g b/\(w.heap.size<=b\/Mv g b):=fun h1 h2 h3=>by
  obtain ⟨a1,a2,_,a4⟩:=hO.mv _ ⟨_,_,_,h1,h2,h3⟩;exact ⟨a1,a2,a4⟩
 have hq:QLe w w' (cx.q σ m w) (cx.q σ' m' w') :=
  Cx.qle hp.size (fun b hb ⟨p,hpo⟩=>by
   rcases how p b hpo with ⟨h',_⟩ | ⟨r,n,hh,off,_,h1,h2,h3,_⟩
   ·exact ⟨p,h'⟩
   ·rcases (hownG1 h1 h2 h3).2.2 with h' | h'
    ·omega
    ·exact hMvOwn b h') (fun b hb hnb _=>hp.mem b hb (fun hi=>by obtain ⟨p,_,hpb⟩:=hio b hi; exact hnb ⟨.inl p,hpb⟩) (fun hmb=>hnb (hMvOwn b hmb)))
 have hle:Le w w' (cx.q σ m w) (cx.q σ' m' w'):={
  toQLe:=hq
  hd:=m'_hd
  blk:=fun _ _ h=>h
  sz:=fun b cs T hb=>by
   by_cases hi:v6 (xy m 0 s.args es) b\/Mv g b
   ·exact hp.sz b cs T hi hb
   ·exact ⟨cs,by rw[hp.mem b (h.lt hb) (fun h=>hi (.inl h)) (fun h=>hi (.inr h))]; exact hb,rfl⟩
  mp:=fun b es c hb=>by
   rw[hp.mem b (h.lt hb) (fun hi=>?_) (fun hi=>?_)]
   ·exact hb
   ·obtain ⟨p,_,hpb⟩:=hio b hi
    obtain ⟨cs,T,e⟩:=h.cells_of (p:=.inl p) hpb;rw[hb] at e; cases e
   ·obtain ⟨p,hpo⟩:=hMvOwn b hi
    obtain ⟨cs,T,e⟩:=h.cells_of hpo;rw[hb] at e; cases e}
 have hXn:∀b,qC cx σ m g b\/¬(cx.X b\/cx.Iq b\/qz σ m b)\/Mv g b:=fun b=>by
  by_cases h1:Mv g b
  ·exact .inr (.inr h1)
  ·by_cases h2:cx.X b\/cx.Iq b\/qz σ m b
   ·exact .inl ⟨h2,h1⟩
   ·exact .inr (.inl h2)
 have hMvX:∀b,Mv g b->¬cx.X b/\¬cx.Iq b:=fun b hb=>by
  obtain ⟨p,_,hpo⟩:=hmv b hb;exact ⟨(h.newOf hpo).1,(h.newOf hpo).2.1⟩
 have hqok:∀b,(th w' (qC cx σ m g) (v6 (xy m 0 s.args es)) g1).ok b->(cx.q σ' m' w').ok b:=by
  intro b ⟨b1,b2,b3,b4⟩;refine ⟨b1,fun ⟨p,hpo⟩=>?_,fun hx=>?_,fun hx=>?_⟩
  ·rcases how p b hpo with ⟨h',hr'⟩ | ⟨r,n,hh,off,_,h1,h2,h3,_⟩
   ·refine b2 ⟨.inr (.inr ⟨p,h'⟩),fun hmb=>?_⟩
    obtain ⟨p',p1,p2⟩:=hmv b hmb;have:=h.inj _ _ b h' p2;exact hr' p' this p1
   ·exact b4 ⟨n,hh,off,h1,h2,h3⟩
  ·rcases hXn b with h' | h' | h'
   ·exact b2 h'
   ·exact h' (.inl hx)
   ·exact (hMvX b h').1 hx
  ·rcases hXn b with h' | h' | h'
   ·exact b2 h'
   ·exact h' (.inr (.inl hx))
   ·exact (hMvX b h').2 hx
 have hqo:QLeH w' w' (th w' (qC cx σ m g) (v6 (xy m 0 s.args es)) g1) (cx.q σ' m' w'):={
  ok:=fun b hb=>⟨hqok b hb,fun _ _ h=>h⟩
  okb:=fun b hb=>⟨cx.q_ok σ' m' w' b (hqok b hb),fun _ _ h=>h⟩
  hd:=fun p hh hp=>m'_new p hh hp
  me:=fun b hb=>by have:=hO.me b hb; rw[hgm] at this; exact this}
 refine ⟨m',?_,?_⟩
 ·exact {
   size:=h.size
   defers:=h.defers
   env:=fun t=>RE.mono hle (h.env t)
   box:=fun p d hd=>by
    simp only[qb] at hd;cases hz:wK ((wX ss).zip (ux (K+(wE s.res y.1).length) s.args y.2)) p with
    | some z =>
     rw[hz] at hd;simp only[Option.getD_some] at hd;obtain ⟨b,cs,cs',T,L,q1,q2,q3,q4,q5,q6⟩:=oA p z hz;rw[hd] at q5;simp at q5;subst q5;exact ⟨b,cs',T,q1,q3,q6.mono fun _ _=>RC.mono hqo⟩
    | none =>
     rw[hz] at hd;simp only[Option.getD_none] at hd;obtain ⟨b,cs,T,e1,e2,e3⟩:=h.box p d hd;refine ⟨b,cs,T,e1,?_,RB.mono hle.toQLeH e3⟩;rw[hp.mem b (h.lt e2) (fun hi=>?_) (fun hmb=>?_)]
     ·exact e2
     ·obtain ⟨p',p1,p2⟩:=hio b hi
      have:=UC h p p' b e1 p2;subst this;obtain ⟨z,hz'⟩:=oB p p1;rw[hz] at hz'; cases hz'
     ·obtain ⟨p',_,p2⟩:=hmv b hmb
      have:=h.inj (.inl p) _ b e1 p2;simp at this
   nobox:=fun p b hb=>by
    simp only[qb];cases hz:wK ((wX ss).zip (ux (K+(wE s.res y.1).length) s.args y.2)) p with
    | some z =>
     obtain ⟨_,_,_,_,_,_,_,_,_,q5,_⟩:=oA p z hz;rw[q5]; simp
    | none=>exact h.nobox p b hb
   own:=fun p o ho=>by
    rcases f2 p o ho with ⟨h1,h2,h3⟩ | ⟨j,h1,h2⟩ | ⟨j,h1,h2⟩
    ·rw[vW] at h1
     split at h1
     ·cases h1
     ·rename_i hnm'
      obtain ⟨hd,e1,l⟩:=h.own p o h1;refine ⟨hd,m'_hd p hd e1,l.mono hq fun b off hb hc=>?_⟩;have hob:xz σ m (.inr p) b:=⟨o,hd,off,h1,e1,hb,hc⟩;refine hp.mem b (h.dom _ b hob).1 (fun hi=>?_) (fun hmb=>?_)
      ·obtain ⟨p',_,p2⟩:=hio b hi
       have:=h.inj (.inr p) (.inl p') b hob p2;simp at this
      ·obtain ⟨p',p1,p2⟩:=hmv b hmb
       have:=Yl h p p' b hob p2;subst this;exact ((hpls p).1 p1).elim hnm' h2
    ·obtain ⟨hh',k1,k2⟩:=hO.own j o (by rw[List.getElem?_map,h2]; rfl)
     exact ⟨hh',by rw[h1]; exact m'_new _ _ k1,k2.mono hqo.toQLe fun _ _ _ _=>rfl⟩
    ·obtain ⟨hh',k1,k2⟩:=hO.own j o (by rw[List.getElem?_map,h2]; rfl)
     exact ⟨hh',m'_hd p hh' (by rw[<-hIP j p h1]; exact k1),k2.mono hqo.toQLe fun _ _ _ _=>rfl⟩
   noown:=fun p hh hp' hno'=>by
    obtain ⟨h1,h2⟩:=f3 p hno';rw[m'_old p fun j hj e=>h2 ⟨by omega,by rw[e]; exact Nat.add_lt_add_left hj K⟩] at hp';rw[vW] at h1;split at h1
    ·cases h1
    ·exact h.noown p hh hp' h1
   dom:=fun p b hb=>by
    rcases how p b hb with ⟨h',_⟩ | ⟨r,n,hh,off,_,h1,h2,h3,_⟩
    ·exact ⟨Nat.lt_of_lt_of_le (h.dom p b h').1 hp.size,(h.dom p b h').2⟩
    ·obtain ⟨a1,a2,a3⟩:=hownG1 h1 h2 h3
     refine ⟨a1,.inl ?_⟩;rcases a3 with h' | h'
     ·exact h.newGe (Nat.le_trans h.grown h')
     ·obtain ⟨p',_,hpo⟩:=hmv b h'
      exact h.newOf hpo
   inj:=fun p p' b hb hb'=>by
    have mix:∀{p:Nat ⊕ Nat} {n:Nat} {hh:Hd} {off:Nat},xz σ m p b->(∀r,p=.inr r->r ∉ wi ss)->g1.hd n=some hh->hh.a=some ⟨b,off,none⟩->0<hh.cap->False:=by
     intro p n hh off h1 h2 h3 h4 h5;rcases (hownG1 h3 h4 h5).2.2 with h' | h'
     ·have:=(h.dom p b h1).1; omega
     ·obtain ⟨p',p1,p2⟩:=hmv b h'
      have:=h.inj _ _ b h1 p2;exact h2 p' this p1
    rcases how p b hb with ⟨h1,r1⟩ | ⟨r,n,hh,off,e,h1,h2,h3,j,o,hn,hc⟩<;>rcases how p' b hb' with ⟨h1',r1'⟩ | ⟨r',n',hh',off',e',h1',h2',h3',j',o',hn',hc'⟩
    ·exact h.inj p p' b h1 h1'
    ·exact (mix h1 r1 h1' h2' h3').elim
    ·exact (mix h1' r1' h1 h2 h3).elim
    ·have hnn:=hO.injm n n' hh hh' b off off' h1 h1' h2 h3 h2' h3'
     have hjj:j=j':=by omega
     subst hjj;rw[e,e'];rcases hc with ⟨c1,c2⟩ | ⟨c1,c2⟩<;>rcases hc' with ⟨d1,d2⟩ | ⟨d1,d2⟩
     ·rw[c1,d1,hnn]
     ·rw[c2] at d2; simp at d2
     ·rw[c2] at d2; simp at d2
     ·rw[c1] at d1; simp at d1; rw[d1]
   mem:=fun b hb hi hmb=>by
    rw[hp.mem b (Nat.lt_of_lt_of_le hb h.grown) (fun hc=>?_) (fun hc=>?_)]
    ·exact h.mem b hb hi hmb
    ·obtain ⟨p,_,p2⟩:=hio b hc
     rcases (h.dom (.inl p) b p2).2 with h' | h'
     ·rcases h'.2.2 with h' | h'
      ·omega
      ·exact hmb h'
     ·exact hi h'.1
    ·obtain ⟨p,_,p2⟩:=hmv b hc
     rcases (h.newOf p2).2.2 with h' | h'
     ·omega
     ·exact hmb h'
   grown:=Nat.le_trans h.grown hp.size
   oldX:=h.oldX
   argna:=h.argna
   arg:=h.arg
   argp:=h.argp
   argh:=fun p h1 h0 e1 e0=>by
    have hap':=h.argp p h0 e0;rw[m'_old p fun j hj e=>by rw[e,(f1 j hj).2] at hap'; cases hap'] at e1;exact h.argh p h1 h0 e1 e0
   iosz:=fun b cs T hi h0=>let ⟨cs1,h1,s1⟩:=h.iosz b cs T hi h0; let ⟨cs2,h2,s2⟩:=hle.sz b cs1 T h1; ⟨cs2,h2,s2.trans s1⟩
   os:=hp.os.trans h.os
   tape:=hp.tape.trans h.tape
   output:=hp.output.trans h.output
   me:=h.me
   melt:=h.melt
   mebox:=h.mebox}
 ·have hret:=hO.ret
  generalize vZ K s.res y.1=l at hret;have tup:∀l,(∃vs,v=.tuple vs/\All2 (RD w' (th w' (qC cx σ m g) (v6 (xy m 0 s.args es)) g1)) l vs.toList)->
    ∃vs,v=.tuple vs/\All2 (RD w' (cx.q σ' m' w')) l vs.toList :=
   fun l ⟨vs,e,r⟩=>⟨vs,e,r.mono fun _ _=>RD.mono hqo⟩
  match l,hret with
  | [],hret=>exact tup _ hret
  | [d],hret=>exact RD.mono hqo hret
  | d::d'::r,hret=>exact tup _ hret
end
section
variable {cx:Cx} {m:Gh} {σ:St} {a:Act} {w:World}
theorem Rel.give (h:Rel cx m σ a w) (s:Nat):Rel cx m (Q5 σ s) a w:=by
 unfold Q5;split;case h_2=>exact h
 rename_i o ho;let σ':St:={env:=fun x=>Re s o.t o.l (σ.env x),box:=fun x=>match σ.box x with | some d=>some (Xj s o.t o.l d) | none=>none,own:=upd σ.own s .dead}
 show Rel cx m σ' a w;have hown':∀r x,σ'.own r=.is x->r≠s/\σ.own r=.is x:=by
  intro r x hr;have hr:upd σ.own s .dead r=.is x:=hr;by_cases e:r=s
  ·subst e; rw[yp] at hr; cases hr
  ·rw[yN _ _ e] at hr; exact ⟨e,hr⟩
 have how:∀p b,xz σ' m p b->xz σ m p b/\p≠.inr s:=by
  intro p b hp;cases p with
  | inl r=>exact ⟨hp,by simp⟩
  | inr r =>
   obtain ⟨x,hd,off,h1,h2,h3,h4⟩:=hp;obtain ⟨e1,e2⟩:=hown' r x h1;exact ⟨⟨x,hd,off,e2,h2,h3,h4⟩,by simpa using e1⟩
 have hq:QLe w w (cx.q σ m w) (cx.q σ' m w):=Cx.qle (Nat.le_refl _) (fun b _ ⟨p,hp⟩=>⟨p,(how p b hp).1⟩) (fun _ _ _ _=>rfl);have hqH:QLeH w w (cx.q σ m w) (cx.q σ' m w):={hq with hd:=fun _ _ h=>h};have hLe:Le w w (cx.q σ m w) (cx.q σ' m w):={hqH with blk:=fun _ _ h=>h,sz:=fun b cs T h=>⟨cs,h,rfl⟩,mp:=fun _ _ _ h=>h};obtain ⟨hd,g1,g2⟩:=h.own s o ho;have good:∀b off,hd.a=some ⟨b,off,none⟩->0<hd.cap->(cx.q σ' m w).ok b:=by
  intro b off hb hc;have hob:xz σ m (.inr s) b:=⟨o,hd,off,ho,g1,hb,hc⟩;have hnew:=h.newOf hob;refine ⟨(h.dom _ b hob).1,fun ⟨p,hp⟩=>?_,hnew.1,hnew.2.1⟩;obtain ⟨h1,h2⟩:=how p b hp;exact h2 (h.inj _ _ b h1 hob)
 have hsl:SlR w (cx.q σ' m w).ok o.t.size (RT w (cx.q σ' m w).ok (cx.q σ' m w).okb m.me o.t) o.l (.slice hd.a hd.len hd.cap) :=
  SlR.mono (fun b hb=>⟨hb,fun _ _ h=>h⟩) (RT.mono hq.ok hq.okb hq.me o.t) (g2.slr good)
 have hC:∀c v,RC w (cx.q σ m w) c v->RC w (cx.q σ' m w) (Tr s o.t o.l c) v:=by
  intro c v hc;cases c with
  | own r =>
   simp only[Tr];cases hb:Nat.beq r s with
   | false=>exact RC.mono hqH hc
   | true =>
    have e:=yx hb;subst e;obtain ⟨hd',e1,e2⟩:=hc;rw[show (cx.q σ m w).m.hd r=m.hd r from rfl,g1] at e1;simp at e1;subst e1;rw[e2];exact hsl
  | vw r lo hi =>
   simp only[Tr];cases hb:Nat.beq r s with
   | false=>exact RC.mono hqH hc
   | true =>
    have e:=yx hb;subst e;obtain ⟨hd',e1,e2,e3,e4⟩:=hc;rw[show (cx.q σ m w).m.hd r=m.hd r from rfl,g1] at e1;simp at e1;subst e1;rw[e4,g2.2.1];exact hsl.cut e2 (by rw[<-g2.1]; exact e3)
  | _=>exact RC.mono hqH hc
 have hD:∀d v,RD w (cx.q σ m w) d v->RD w (cx.q σ' m w) (Xj s o.t o.l d) v:=by
  intro d v hd;cases d with
  | c x=>exact hC x v hd
  | g k =>
   obtain ⟨cs,e,r⟩:=hd;exact ⟨cs,e,All2.map_left.2 (r.mono fun c v=>hC c v)⟩
  | a k x=>exact hd
 have hE:∀e v,RE w (cx.q σ m w) e v->RE w (cx.q σ' m w) (Re s o.t o.l e) v:=by
  intro e v he;cases e with
  | d x=>exact hD x v he
  | t k =>
   obtain ⟨vs,e,r⟩:=he;exact ⟨vs,e,All2.map_left.2 (r.mono fun c v=>hD c v)⟩
  | opos r i off =>
   simp only[Re];cases hb:Nat.beq r s with
   | false=>exact RE.mono hLe he
   | true=>exact trivial
  | _=>exact RE.mono hLe he
 have hbox:∀r d',σ'.box r=some d'->∃d,σ.box r=some d/\d'=Xj s o.t o.l d:=by
  intro r d' hr;have hr:(match σ.box r with | some d=>some (Xj s o.t o.l d) | none=>none)=some d':=hr
  split at hr<;>simp at hr;rename_i d hd;exact ⟨d,hd,hr.symm⟩
 exact {
  size:=h.size
  defers:=h.defers
  env:=fun t=>hE _ _ (h.env t)
  box:=fun r d' hr=>by
   obtain ⟨d,h1,rfl⟩:=hbox r d' hr;obtain ⟨b,cs,T,e1,e2,e3⟩:=h.box r d h1;refine ⟨b,cs,T,e1,e2,?_⟩;cases d with
   | c x=>obtain ⟨v,r1,r2⟩:=e3; exact ⟨v,r1,hC x v r2⟩
   | g k=>exact All2.map_left.2 (All2.mono (fun c v=>hC c v) e3)
   | a k x=>exact e3
  nobox:=fun r b hb hno=>by
   have hno:(match σ.box r with | some d=>some (Xj s o.t o.l d) | none=>none)=none:=hno
   split at hno
   ·cases hno
   ·rename_i h0; exact h.nobox r b hb h0
  own:=fun r x hr=>by
   obtain ⟨e1,e2⟩:=hown' r x hr;obtain ⟨hd',k1,k2⟩:=h.own r x e2;exact ⟨hd',k1,k2.mono hq fun _ _ _ _=>rfl⟩
  noown:=fun r hd' hr hno=>by
   have hno:upd σ.own s .dead r=.no:=hno;by_cases e:r=s
   ·subst e; rw[yp] at hno; cases hno
   ·rw[yN _ _ e] at hno; exact h.noown r hd' hr hno
  dom:=fun p b hp=>h.dom p b (how p b hp).1
  inj:=fun p p' b hp hp'=>h.inj p p' b (how p b hp).1 (how p' b hp').1
  mem:=h.mem
  grown:=h.grown
  oldX:=h.oldX
  argna:=h.argna
  arg:=h.arg
  argp:=h.argp
  argh:=h.argh
  iosz:=h.iosz
  os:=h.os
  tape:=h.tape
  output:=h.output
  me:=h.me
  melt:=h.melt
  mebox:=h.mebox}
theorem Rel.giveB {Hh:Hn} (hna:cx.na=Hh.na) (hme:cx.me=Hh.me) (h:Rel cx m σ a w) (s:Nat):∃m',Rel cx m' (giveB Hh σ s) a w:=by
 unfold VS.giveB;split;case h_2=>exact ⟨m,h⟩
 rename_i t l ht hl;split;case h_2=>exact ⟨m,h⟩
 rename_i y hy;cases hs:Nat.ble Hh.na s&&!(qi Hh s) with
 | false=>exact ⟨m,h⟩
 | true =>
  simp only[cond_true];rw[Bool.and_eq_true] at hs;have hnm:=XC hme hs.2;have hs:cx.na<=s:=by rw[hna]; exact Nat.le_of_ble_eq_true hs.1
  obtain ⟨b,cs,T,hb,hc,hr⟩:=h.box s _ hl;have hp:=wR hy;obtain ⟨r1,r2,r3⟩:=h.freeze hb hl hs hnm hc hr hp;have hob:=h.dom (.inl s) b hb;have hfresh:cx.new b:=by
   rcases hob.2 with h' | ⟨_,s',e,h'⟩
   ·exact h'
   ·simp at e; omega
  let σ':St:={σ with env:=fun x=>trE s l (.tr t (.nd y.1 y.2)) (σ.env x),box:=upd σ.box s none}
  let m':Gh:={m with blk:=upd m.blk s none}
  have hok:(cx.q σ' m' w).ok b:=⟨r3.1,r3.2.1,hfresh.1,r3.2.2⟩;have hd:TrR w (cx.q σ' m' w).ok t.size (RT w (cx.q σ' m' w).ok (cx.q σ' m' w).okb m'.me t) (.nd y.1 y.2) (.pointer (some ⟨b,0,none⟩)):=by
   have hr':All2 (RC w (cx.q σ' m' w)) l cs.toList:=qN r2 hp hr;unfold Ty.decA at hy;split at hy<;>simp at hy;rename_i e;subst hy;obtain ⟨us,ws,e1,e2,e3⟩:=zab (cx.q_ok σ' m' w) _ _ _ _ _ e hr';have e3:=e3.nil_left;subst e3;obtain ⟨u1,u2,e4,e5,v,e6,e7⟩:=e2;subst e6;have hcc:=xH hc;rw[e1,List.append_nil,e4] at hcc;exact tr_mk hok hcc e5 e7
  refine ⟨m',?_⟩;exact {
   size:=r1.size
   defers:=r1.defers
   env:=fun k=>by
    have h0:=h.env k;have h1:=r1.env k;show RE w (cx.q σ' m' w) (trE s l (.tr t (.nd y.1 y.2)) (σ.env k)) _;have h1:RE w (cx.q σ' m' w) (ZC s l (σ.env k)) (a.tmps.getD k Go.undef):=h1;generalize σ.env k=e at h0 h1;cases e with
    | loc s' off =>
     simp only[trE];cases hss:Nat.beq s' s with
     | false=>simpa [ZC,hss] using h1
     | true =>
      cases ho:Nat.beq off 0 with
      | false=>simpa [ZC,hss] using h1
      | true =>
       have e1:=yx hss;have e2:=yx ho;subst e1; subst e2;obtain ⟨b',hb',e⟩:=h0;have hbb:b'=b:=by rw[show (cx.q σ m w).m.blk s'=m.blk s' from rfl,hb] at hb'; simpa using hb'.symm
       subst hbb;rw[e];exact hd
    | _=>exact h1
   box:=r1.box
   nobox:=r1.nobox
   own:=r1.own
   noown:=r1.noown
   dom:=r1.dom
   inj:=r1.inj
   mem:=r1.mem
   grown:=r1.grown
   oldX:=r1.oldX
   argna:=r1.argna
   arg:=r1.arg
   argp:=r1.argp
   argh:=r1.argh
   iosz:=r1.iosz
   os:=r1.os
   tape:=r1.tape
   output:=r1.output
   me:=r1.me
   melt:=r1.melt
   mebox:=r1.mebox}
theorem Rel.giveL {Hh:Hn} (hna:cx.na=Hh.na) (hme:cx.me=Hh.me):∀(l:List Nat) {m:Gh} {σ:St},Rel cx m σ a w->∃m',Rel cx m' (giveL Hh σ l) a w
 | [],m,_,h=>⟨m,h⟩
 | s::r,_,_,h=>by
  obtain ⟨m',h'⟩:=(h.give s).giveB hna hme s;exact Rel.giveL hna hme r h'
end
end Go.VS
