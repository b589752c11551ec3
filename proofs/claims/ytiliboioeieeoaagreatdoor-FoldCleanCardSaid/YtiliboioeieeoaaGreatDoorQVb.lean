import Derived.Laws.StructEq
import Derived.Test.YtiliboioeieeoaaGreatDoorQVa
namespace Go.VS
open Go
section
variable {cx:Cx} {Hh:Hn} {m:Gh} {σ:St} {a:Act} {w:World} {o:Oper} {eff:Eff}
theorem SR (hna:cx.na=Hh.na) (hG:ul cx) (h:Rel cx m σ a w) {f:Nat} {fa fb:Array Operand} (ho:o.op=.makeFunc (.func f) fa fb)
  (he:(match fa.toList,fb.toList with
  | [],[]=>Vy (.fn (f+1))
  | [],[x]=>match σ.ev cx.G x with
   | .loc s off=>bif Nat.beq off 0 then (match σ.box s with
    | some d=>match (Hh.CT (o.dst.getD 0)).decA (cellsOf d) with
     | some y=>bif (cellsOf d).all uX&&Nat.ble Hh.na s then some (true,(⟨.d (.c (.clo f (Hh.CT (o.dst.getD 0)) y)),.freeze s (cellsOf d)⟩:Eff)) else none
     | none=>none
    | none=>none) else none
   | .adr l=>match (Hh.CT (o.dst.getD 0)).decA l with
    | some y=>Vy (.clo f (Hh.CT (o.dst.getD 0)) y)
    | none=>none
   | _=>none
  | [],[x,z]=>match σ.ev cx.G x,σ.ev cx.G z,Hh.CT (o.dst.getD 0) with
   | .loc s off,.loc s' off',.pair t u=>bif Nat.beq off 0&&Nat.beq off' 0&&!(Nat.beq s' s) then (match σ.box s,σ.box s' with
    | some (.g l),some (.g l')=>match t.decA l,u.decA l' with
     | some y,some y'=>bif l.all uX&&l'.all uX&&Nat.ble Hh.na s&&Nat.ble Hh.na s' then some (true,(⟨.d (.c (.clo2 f t y u y')),.freeze2 s l s' l'⟩:Eff)) else none
     | _,_=>none
    | _,_=>none) else none
   | _,_,_=>none
  | [x],[]=>match σ.ev cx.G x with
   | .d (.g l)=>match (Hh.CT (o.dst.getD 0)).decA l with
    | some y=>Vy (.bnd (f+1) (Hh.CT (o.dst.getD 0)) y)
    | none=>none
   | _=>none
  | _,_=>none)=some (true,eff)):Done cx σ a w o eff:=by
 split at he
 ·rename_i h1 h2
  simp only[Vy,ent,Option.some.injEq,Prod.mk.injEq,true_and] at he;subst he;refine Done.pure (v:=.func (.func f) #[] #[]) h ?_ rfl;have e1:fa=#[]:=by simpa using h1
  have e2:fb=#[]:=by simpa using h2
  simp[execOp,ho,Instr.makeFunc,e1,e2]
 ·rename_i x h1 h2
  have e1:fa=#[]:=by simpa using h1
  have e2:fb=#[x]:=by apply Array.ext'; simpa using h2
  have hx:=uP hG h x;have hrun:(execOp a.eval o).run cx.P w=.ok (.value (.func (.func f) #[] #[a.eval x])) w:=by simp[execOp,ho,Instr.makeFunc,e1,e2]
  generalize σ.ev cx.G x=ex at he hx;split at he
  ·rename_i s off
   cases h0:Nat.beq off 0 with
   | false=>simp[h0] at he
   | true =>
    simp only[h0,cond_true] at he;have h0:=xW h0;subst h0;split at he<;>try simp at he
    rename_i d hl;split at he<;>try simp at he
    rename_i y hy;cases hk:(cellsOf d).all uX&&Nat.ble Hh.na s with
    | false=>simp[hk] at he
    | true =>
     simp only[hk,cond_true,Option.some.injEq,Prod.mk.injEq,true_and] at he;subst he;simp only[Bool.and_eq_true] at hk;obtain ⟨b,hb,ex⟩:=hx;have hb:m.blk s=some b:=hb;obtain ⟨b',cs,T,k1,k2,k3⟩:=h.box s _ hl;rw[hb] at k1;simp at k1;subst k1;have k3:=k3.cells;obtain ⟨r1,r2,r3⟩:=h.freeze hb hl (by rw[hna]; exact Nat.le_of_ble_eq_true hk.2) k2 k3 (by simpa using hk.1);refine ⟨_,w,{m with blk:=upd m.blk s none},.inl hrun,fun σ1 hm=>?_⟩;simp only[qu,Option.some.injEq] at hm;subst hm;have hrt:=uy (Cx.q_ok _ _ _ _) hy (All2.mono (fun _ _=>RC.mono {toQLe:=r2,hd:=fun _ _ h=>h}) k3);exact ⟨r1,b,0,cs.toList,by rw[ex],r3,RT.len _ _ _ hrt,vr k2,hrt⟩
  ·rename_i l
   split at he<;>try simp at he
   rename_i y hy;obtain ⟨_,rfl⟩:=Vx he;obtain ⟨b,off,vs,k1,k2,k3,k4,k5⟩:=hx;have hrt:=uy (cx.q_ok σ m w) hy k4;exact Done.pure h (by rw[hrun,k1]) ⟨b,off,vs,rfl,k2,RT.len _ _ _ hrt,k3,hrt⟩
  ·simp at he
 ·rename_i x z h1 h2
  have e1:fa=#[]:=by simpa using h1
  have e2:fb=#[x,z]:=by apply Array.ext'; simpa using h2
  have hx:=uP hG h x;have hz:=uP hG h z;have hrun:(execOp a.eval o).run cx.P w=.ok (.value (.func (.func f) #[] #[a.eval x,a.eval z])) w:=by simp[execOp,ho,Instr.makeFunc,e1,e2]
  generalize σ.ev cx.G x=ex at he hx;generalize σ.ev cx.G z=ez at he hz;split at he<;>try simp at he
  rename_i s off s' off' t u _;cases h0:Nat.beq off 0&&Nat.beq off' 0&&!(Nat.beq s' s) with
  | false=>simp[h0] at he
  | true =>
   simp only[h0,cond_true] at he;simp only[Bool.and_eq_true,Bool.not_eq_true'] at h0;obtain ⟨⟨o1,o2⟩,hne⟩:=h0;have o1:=xW o1;have o2:=xW o2;subst o1;subst o2;have hne:s'≠s:=fun e=>by subst e; simp at hne
   split at he<;>try simp at he
   rename_i l l' hl hl';split at he<;>try simp at he
   rename_i y y' hy hy';cases hk:l.all uX&&l'.all uX&&Nat.ble Hh.na s&&Nat.ble Hh.na s' with
   | false=>simp[hk] at he
   | true =>
    simp only[hk,cond_true,Option.some.injEq,Prod.mk.injEq,true_and] at he;subst he;simp only[Bool.and_eq_true] at hk;obtain ⟨⟨⟨p1,p2⟩,p3⟩,p4⟩:=hk;obtain ⟨b,hb,ex⟩:=hx;obtain ⟨c,hc,ez⟩:=hz;have hb:m.blk s=some b:=hb;have hc:m.blk s'=some c:=hc;obtain ⟨b',cs,T,k1,k2,k3⟩:=h.box s _ hl;rw[hb] at k1;simp at k1;subst k1;obtain ⟨r1,r2,r3⟩:=h.freeze hb hl (by rw[hna]; exact Nat.le_of_ble_eq_true p3) k2 k3 (by simpa using p1);have hl2:(upd σ.box s none) s'=some (.g l'):=by rw[ww _ _ hne]; exact hl'
    have hc2:(upd m.blk s none) s'=some c:=by rw[ww _ _ hne]; exact hc
    obtain ⟨c',cs',T',j1,j2,j3⟩:=r1.box s' _ hl2;have j1:(upd m.blk s none) s'=some c':=j1;rw[hc2] at j1;simp at j1;subst j1;obtain ⟨q1,q2,q3⟩:=r1.freeze (s:=s') hc2 hl2 (by rw[hna]; exact Nat.le_of_ble_eq_true p4) j2 j3 (by simpa using p2);refine ⟨_,w,{m with blk:=upd (upd m.blk s none) s' none},.inl hrun,fun σ1 hm=>?_⟩;simp only[qu,Option.some.injEq] at hm;subst hm;have hrt:=uy (Cx.q_ok _ _ _ _) hy (All2.mono (fun _ _=>RC.mono {toQLe:=r2,hd:=fun _ _ h=>h}) k3);have hrt2:=RT.mono q2.ok q2.okb _ _ _ hrt;have hrt':=uy (Cx.q_ok _ _ _ _) hy' (All2.mono (fun _ _=>RC.mono {toQLe:=q2,hd:=fun _ _ h=>h}) j3);exact ⟨q1,b,0,cs.toList,c,0,cs'.toList,by rw[ex,ez],⟨(q2.okb b r3).1,RT.len _ _ _ hrt,vr k2,hrt2⟩,⟨q3,RT.len _ _ _ hrt',vr j2,hrt'⟩⟩
 ·rename_i x h1 h2
  have e1:fa=#[x]:=by apply Array.ext'; simpa using h1
  have e2:fb=#[]:=by simpa using h2
  have hx:=uP hG h x;have hrun:(execOp a.eval o).run cx.P w=.ok (.value (.func (.func f) #[a.eval x] #[])) w:=by simp[execOp,ho,Instr.makeFunc,e1,e2]
  generalize σ.ev cx.G x=ex at he hx;split at he<;>try simp at he
  rename_i l;split at he<;>try simp at he
  rename_i y hy;obtain ⟨_,rfl⟩:=Vx he;obtain ⟨cells,k1,k2⟩:=hx;have hrt:=uy (cx.q_ok σ m w) hy k2;exact Done.pure h (by rw[hrun,k1]) (.inr ⟨f,cells,rfl,rfl,hrt⟩)
 ·simp at he
def Lent (cx:Cx) (σ:St) (m:Gh) (w:World) (b:Nat):Prop:=b<w.heap.size/\((cx.q σ m w).okb b\/∃s,vm σ m (.inr s) b)
theorem OwnRep.slr {q:Q} {hd:Hd} {ow:vG} {good:Nat->Prop} (h:OwnRep w q hd ow) (hg:∀b off,hd.a=some ⟨b,off,none⟩->0<hd.cap->good b) :
  SlR w good ow.t.size (RT w q.ok q.okb ow.t) ow.l (.slice hd.a hd.len hd.cap):=by
 obtain ⟨l1,l2,l3,l4⟩:=h;refine ⟨hd.a,hd.cap,by rw[l1],by omega,fun hne=>?_⟩;have:0<ow.l.length:=List.length_pos_iff.2 hne;obtain ⟨b,off,cs,T,e1,e2,e3,e4⟩:=l4 (by omega);exact ⟨b,off,e1,hg b off e1 (by omega),e4⟩
theorem zax (h:Rel cx m σ a w) {s:Nat} {ow:vG} {hd:Hd} (ho:σ.own s=.is ow) (hh:m.hd s=some hd) (b off:Nat) (e:hd.a=some ⟨b,off,none⟩) (hc:0<hd.cap):Lent cx σ m w b :=
 have h1:vm σ m (.inr s) b:=⟨ow,hd,off,ho,hh,e,hc⟩
 ⟨(h.dom _ _ h1).1,.inr ⟨s,h1⟩⟩
theorem Tn (h:Rel cx m σ a w) {e:Ent} {v:Value} {ow:vG} (he:qe σ e=some ow) (hr:RE w (cx.q σ m w) e v) :
  SlR w (Lent cx σ m w) ow.t.size (RT w (cx.q σ m w).ok (cx.q σ m w).okb ow.t) ow.l v:=by
 unfold qe at he;split at he
 ·simp at he; subst he
  exact SlR.mono (fun b hb=>⟨⟨hb.1,.inl (cx.q_ok σ m w b hb)⟩,fun _ _ h=>h⟩) (fun _ _ h=>h) hr
 ·simp at he; subst he
  exact SlR.mono (fun b hb=>⟨⟨hb.1,.inl hb⟩,fun _ _ h=>h⟩) (fun _ _ h=>h) hr
 ·rename_i s
  split at he<;>simp at he;rename_i o' ho;subst he;obtain ⟨hd,e1,e2⟩:=hr;obtain ⟨hd',f1,l⟩:=h.own s _ ho;rw[show (cx.q σ m w).m.hd s=m.hd s from rfl] at e1;rw[e1] at f1;simp at f1;subst f1;rw[e2];exact l.slr (zax h ho e1)
 ·rename_i s lo hi
  split at he<;>simp at he;rename_i o' ho;subst he;obtain ⟨hd,e1,e2,e3,e4⟩:=hr;obtain ⟨hd',f1,l⟩:=h.own s _ ho;rw[show (cx.q σ m w).m.hd s=m.hd s from rfl] at e1;rw[e1] at f1;simp at f1;subst f1;rw[e4,l.2.1];exact (l.slr (zax h ho e1)).cut e2 (by rw[<-l.1]; exact e3)
 ·simp at he
theorem OwnRep.front {q:Q} {hd:Hd} {ow:vG} (h:OwnRep w q hd ow) {hi:Nat} (hh:hi<=hd.len) :
  OwnRep w q ⟨if hd.cap=0 then hd.a else hd.a.map (·.add (0*hd.sz)),hi,hd.cap,hd.sz⟩ ⟨ow.t,ow.l.take hi⟩:=by
 obtain ⟨l1,l2,l3,l4⟩:=h;refine ⟨by simp; omega,l2,by simp only; omega,fun hc=>?_⟩;obtain ⟨b,off,cs,T,e1,e2,e3,e4⟩:=l4 hc;refine ⟨b,off,cs,T,?_,e2,e3,fun i hi'=>?_⟩
 ·simp only at hc
  simp only;rw[if_neg (by omega),e1];simp[Zx]
 ·simp only at hi' ⊢
  obtain ⟨us,u1,u2,u3⟩:=e4 i (by simp at hi'; omega);exact ⟨us,u1,u2,by simpa using u3⟩
theorem OwnRep.emp {q:Q} (t:Ty):OwnRep w q ⟨.none,0,0,t.size⟩ ⟨t,[]⟩:=⟨rfl,rfl,Nat.le_refl _,fun h=>absurd h (by simp)⟩
theorem Elems.sc {α:Type} {R:α->List Value->Prop} {sz:Nat} (hR:∀x us,R x us->∀u∈us,scalar u=true):∀{L:List α} {cs:List Value},Elems R sz L cs->cs.length=L.length*sz->∀u∈cs,scalar u=true
 | [],cs,_,hl,u,hu=>by
  have:cs=[]:=List.eq_nil_of_length_eq_zero (by simpa using hl);subst this; cases hu
 | _::L,_,⟨us,r,e,h1,h2,h3⟩,hl,u,hu=>by
  subst e;rcases List.mem_append.1 hu with h | h
  ·exact hR _ _ h2 u h
  ·exact Elems.sc hR h3 (by simp[Nat.succ_mul] at hl; omega) u h
theorem slr_src {q:Q} {P:Program} {good:Nat->Prop} {t:Ty} {l:List t.T} {v:Value} {tx e':TypeId} (hk:P.underlying tx=some (.slice e')) (h:SlR w good t.size (RT w q.ok q.okb t) l v) :
  ∃news,Go.Src P t.size tx v l.length news w/\Elems (RT w q.ok q.okb t) t.size l news:=by
 obtain ⟨ad,cap,e,_,h⟩:=h;subst e;by_cases hl:l=[]
 ·subst hl
  refine ⟨[],?_,trivial⟩;cases ad with
  | none=>exact Go.Src.ofNil w hk cap
  | some ad=>exact Go.Src.ofSlice w hk ad 0 cap [] (by simp) (by simp) (by simp)
 ·obtain ⟨b,off,e,_,h'⟩:=h hl
  subst e;obtain ⟨cs,c1,c2,c3⟩:=Elems.of h';refine ⟨cs,Go.Src.ofSlice w hk _ l.length cap cs c1 (fun j u hj=>by rw[Zx]; exact vU c2 hj) (fun u hu=>?_),c3⟩;exact sc_ok (c3.sc (fun x us h=>RT.sc t x us h) c1 u hu)
theorem zcz {q:Q} {P:Program} {t:Ty} {et:TypeId} {i:TypeInfo} {z:Value} {tx ty tr e':TypeId} (ht:P.underlying tx=some (.slice et)) (hi:P.info? et=some i) (hz:i.zero=some z)
  (hzs:z.cells.size=t.size) (his:i.size=t.size) (hb:i.bytes<=128) (hk:P.underlying ty=some (.slice e'))
  {hd:Hd} {L ys:List t.T} {v:Value} {good:Nat->Prop} (hL:OwnRep w q hd ⟨t,L⟩) (hy:SlR w good t.size (RT w q.ok q.okb t) ys v) (hm:L.length+ys.length<=wF) :
  (hd.cap=0/\ys=[]/\L=[]/\(Builtin.append_ #[tx,ty] tr #[.slice hd.a hd.len hd.cap,v]).run P w=.ok (.slice hd.a 0 0) w) \/
  (∃b off cs cs' T,0<hd.cap/\hd.len+ys.length<=hd.cap/\hd.a=some ⟨b,off,none⟩/\w.heap[b]?=some (.cells cs T (0,0))/\cs'.size=cs.size/\off+hd.cap*hd.sz<=cs.size /\
   (Builtin.append_ #[tx,ty] tr #[.slice hd.a hd.len hd.cap,v]).run P w=.ok (.slice hd.a (L++ys).length hd.cap) (w.setRow b cs') /\
   ∃all,wQ (w.setRow b cs') b off all/\Elems (RT w q.ok q.okb t) t.size (L++ys) all) \/
  (∃cs' cap w',(L++ys).length<=cap/\cap*t.size<=cs'.size/\w'.heap=w.heap.push (.cells cs' et (0,0))/\w'.os=w.os/\w'.tape=w.tape/\w'.output=w.output /\
   (Builtin.append_ #[tx,ty] tr #[.slice hd.a hd.len hd.cap,v]).run P w=.ok (.slice (some ⟨w.heap.size,0,none⟩) (L++ys).length cap) w' /\
   Elems (RT w q.ok q.okb t) t.size (L++ys) cs'.toList):=by
 obtain ⟨l1,l2,l3,l4⟩:=hL;simp only at l1 l2 l4;obtain ⟨news,hs,hn⟩:=slr_src hk hy;have hs':Go.Src P i.size ty v ys.length news w:=by rw[his]; exact hs
 by_cases hr:hd.len+ys.length<=hd.cap
 ·by_cases hc:hd.cap=0
  ·have e1:ys=[]:=List.eq_nil_of_length_eq_zero (by omega)
   have e2:L=[]:=List.eq_nil_of_length_eq_zero (by omega);refine .inl ⟨hc,e1,e2,?_⟩;have hn0:news=[]:=List.eq_nil_of_length_eq_zero (by rw[hs.newsLen,e1]; simp);have hlen:=hs'.len;have hcl:=hs'.cells;rw[e1,hn0] at hcl;rw[e1] at hlen;simp only[List.length_nil] at hlen hcl;have hl0:hd.len=0:=by omega
   rw[hl0,hc];cases hd.a<;>simp[Builtin.append_,run_underlying ht,run_underlying hk,sizeOf,typeInfo,hi,hlen,hcl,storeCells]
  ·obtain ⟨b,off,cs,T,e1,e2,e3,e4⟩:=l4 (by omega)
   have hnl:=hs.newsLen;have hle:off+hd.len*t.size+news.length<=cs.size:=by
    rw[hnl];have:=Nat.mul_le_mul_right t.size hr;rw[Nat.add_mul] at this;rw[l2] at e3;omega
   have hst:=run_storeCells_at P b (off+hd.len*t.size) T news 0 cs w e2 (by simpa using hle) hs.one;simp only[Nat.add_zero] at hst;refine .inr (.inl ⟨b,off,cs,(cs.toList.take (off+hd.len*t.size)++news++cs.toList.drop (off+hd.len*t.size+news.length)).toArray,T,by omega,hr,e1,e2,?_,e3,?_,?_⟩)
   ·simp; omega
   ·rw[e1,List.length_append,<-l1]
    simp[Builtin.append_,run_underlying ht,run_underlying hk,sizeOf,typeInfo,hi,hs'.len,hr,his,hs.cells,Addr.add_lit,hst]
   ·obtain ⟨olds,o1,o2,o3⟩:=Elems.of e4
    refine ⟨olds++news,tN fun j u hj=>?_,o3.app o1 hn⟩;have hnew:=setRow_heap w b cs (cs.toList.take (off+hd.len*t.size)++news++cs.toList.drop (off+hd.len*t.size+news.length)).toArray T (0,0) e2;have hsg:=qS (l:=cs.toList) (vs:=news) (n:=off+hd.len*t.size) (by simpa using hle) (off+j);rw[<-l1] at o1;rw[List.getElem?_append] at hj;simp only[World.cell?,hnew];have hgoal:(cs.toList.take (off+hd.len*t.size)++news++cs.toList.drop (off+hd.len*t.size+news.length))[off+j]?=some u:=by
     rw[hsg];split at hj
     ·rename_i hj'
      rw[if_neg (by omega)];have:=vU o2 hj;simpa [World.cell?,e2] using this
     ·rename_i hj'
      have:j-olds.length<news.length:=by
       rcases Nat.lt_or_ge (j-olds.length) news.length with h' | h'
       ·exact h'
       ·rw[List.getElem?_eq_none h'] at hj; simp at hj
      rw[if_pos (by omega),<-hj];congr 1; omega
    simpa using hgoal
 ·have hne:hd.cap<hd.len+ys.length:=by omega
  have hlen:hd.len+ys.length<=1099511627776:=by rw[l1]; exact hm
  have hfit:=growslice_fits (bytes:=i.bytes) hne (by
   have:(hd.len+ys.length)*i.bytes<=1099511627776*128:=Nat.mul_le_mul hlen hb;omega)
  have hold:∃olds,olds.length=L.length*t.size/\Elems (RT w q.ok q.okb t) t.size L olds/\(Builtin.firstCells i.size hd.len (.slice hd.a hd.len hd.cap)).run P w.drew=.ok olds.toArray w.drew:=by
   by_cases hc:0<hd.cap
   ·obtain ⟨b,off,cs,T,e1,e2,e3,e4⟩:=l4 hc
    obtain ⟨olds,o1,o2,o3⟩:=Elems.of e4;refine ⟨olds,o1,o3,?_⟩;rw[e1];exact run_firstCells_some (P:=P) w.drew i.size hd.len _ hd.len hd.cap olds (by rw[o1,l1,his]) (fun j u hj=>by rw[Zx]; have:=vU o2 hj; simpa using this)
   ·have e2:L=[]:=List.eq_nil_of_length_eq_zero (by omega)
    subst e2;refine ⟨[],by simp,trivial,?_⟩;have hl0:hd.len=0:=by simpa using l1
    rw[hl0];cases hd.a with
    | none=>exact run_firstCells_none w.drew _ _ _ _
    | some ad=>exact run_firstCells_some (P:=P) w.drew i.size 0 ad 0 hd.cap [] (by simp) (by simp)
  obtain ⟨olds,o1,o2,o3⟩:=hold;have hrun:=run_append_grow_src (P:=P) w tx ty tr et i z ht hi hz hd.a hd.len hd.cap olds o3 v ys.length news hs' hne (by omega) hfit;refine .inr (.inr ⟨(olds++news).toArray++Builtin.zeroCells z.cells (grownCap w (hd.len+ys.length) hd.cap et-(hd.len+ys.length)),grownCap w (hd.len+ys.length) hd.cap et,
   w.drew.alloc (.cells ((olds++news).toArray++Builtin.zeroCells z.cells (grownCap w (hd.len+ys.length) hd.cap et-(hd.len+ys.length))) et),?_,?_,rfl,rfl,rfl,rfl,?_,?_⟩)
  ·rw[List.length_append,<-l1]; exact grownCap_ge w _ _ _
  ·have hge:=grownCap_ge w (hd.len+ys.length) hd.cap et
   simp only[Array.size_append,List.size_toArray,size_zeroCells,hzs,List.length_append,o1,hs.newsLen,<-Nat.add_mul,<-l1];rw[show hd.len+ys.length+(grownCap w (hd.len+ys.length) hd.cap et-(hd.len+ys.length))=grownCap w (hd.len+ys.length) hd.cap et by omega];exact Nat.le_refl _
  ·rw[List.length_append,<-l1]; exact hrun
  ·simp only[Array.toList_append]
   exact (o2.app o1 hn).more
end
end Go.VS
namespace Go.VS
open Go
section
variable {cx:Cx} {Hh:Hn} {m:Gh} {σ:St} {a:Act} {w:World} {o:Oper} {eff:Eff}
theorem OwnRep.ofElems {q:Q} {w':World} {ad:Option Addr} {cap:Nat} {t:Ty} {L:List t.T} {b off:Nat} {cs:Array Value} {T:TypeId} {all:List Value} (h1:L.length<=cap) (ha:ad=some ⟨b,off,none⟩)
  (hc:w'.heap[b]?=some (.cells cs T (0,0))) (hs:off+cap*t.size<=cs.size) (hal:wQ w' b off all) (he:Elems (RT w' q.ok q.okb t) t.size L all) :
  OwnRep w' q ⟨ad,L.length,cap,t.size⟩ ⟨t,L⟩ :=
 ⟨rfl,rfl,h1,fun _=>⟨b,off,cs,T,ha,hc,hs,fun i hi=>he.at hal i hi⟩⟩
theorem zb6 (hT:∀t,qp cx.P t (cx.TI t)) (h:Rel cx m σ a w) {t u:TypeId} {vx vy:Value} {x y:Ent} {uu:Ty}
  (hrun:∀v w',(Builtin.append_ #[t,u] o.type #[vx,vy]).run cx.P w=.ok v w'->(execOp a.eval o).run cx.P w=.ok (.value v) w')
  (hx:RE w (cx.q σ m w) x vx) (hy:RE w (cx.q σ m w) y vy) (hu:(cx.TI u).el=some uu)
  (he:Wv (cx.TI t) σ o.dst x y=some (true,eff)):Done cx σ a w o eff:=by
 unfold Wv at he;split at he<;>try simp at he
 rename_i e s hel hd;obtain ⟨et,i,z,g1,g2,g3,g4,g5,g6,g7,g8⟩:=Vz (hT t) hel;obtain ⟨et',_,_,k1,_⟩:=Vz (hT u) hu;split at he<;>try simp at he
 rename_i ys hys;have hslr:∃good,SlR w good e.size (RT w (cx.q σ m w).ok (cx.q σ m w).okb e) ys vy:=by
  unfold zaE at hys;split at hys
  ·simp at hys
   subst hys;obtain ⟨rfl,_⟩:=hy.v_eq;exact ⟨fun _=>True,SlR.nil⟩
  ·split at hys
   ·rename_i ow how
    obtain ⟨e1,e2⟩:=ur hys;have:=Tn h how hy;subst e1; subst e2;exact ⟨_,this⟩
   ·simp at hys
 obtain ⟨good,hslr⟩:=hslr;have key:∀{hdr:Hd} {L:List e.T},vx=.slice hdr.a hdr.len hdr.cap->OwnRep w (cx.q σ m w) hdr ⟨e,L⟩->L.length+ys.length<=wF->_ :=
  fun {hdr L} hv hL hm=>zcz (tr:=o.type) g1 g2 g3 g4 g5 g7 k1 hL hslr hm
 have nilCase:vx=.slice none 0 0->ys.length<=wF->Done cx σ a w o ⟨.d (.c (.own s)),.newOwn e ys⟩:=by
  intro hv hm;subst hv;rcases key (hdr:=⟨none,0,0,e.size⟩) (L:=[]) rfl (OwnRep.emp e) (by simpa using hm) with ⟨_,h1,_,h2⟩ | ⟨_,_,_,_,_,h1,_⟩ | ⟨cs',cap,w',h1,h2,h3,h4,h5,h6,h7,h8⟩
  ·refine ⟨.slice none 0 0,w,{m with hd:=upd m.hd s (some ⟨none,0,0,e.size⟩)},.inl (hrun _ _ h2),fun σ1 hm=>?_⟩
   simp only[qu,hd] at hm;split at hm<;>try simp at hm
   rename_i hs';cases hp':ZG s with
   | true=>simp[hp'] at hm
   | false =>
   simp[hp'] at hm;subst hm;obtain ⟨r1,_⟩:=h.newOwn (w':=w) (s:=s) (o:=⟨e,ys⟩) (hd:=⟨none,0,0,e.size⟩) hs' hp' (Nat.le_refl _) (fun _ _=>rfl) rfl rfl rfl (fun _ _ h=>by simp at h) (fun _=>by subst h1; exact OwnRep.emp e);exact ⟨r1,_,xK _ _ _,rfl⟩
  ·simp at h1
  ·exact X1 h hd (hrun _ _ h7) h3 h4 h5 h6 h1 h2 h8
 have ownCase:∀{r:Nat} {ow:vG} {hd0 hdr:Hd} {L:List e.T},σ.own r=.is ow->m.hd r=some hd0->vx=.slice hdr.a hdr.len hdr.cap->OwnRep w (cx.q σ m w) hdr ⟨e,L⟩->L.length+ys.length<=wF->
   (∀b off,hdr.a=some ⟨b,off,none⟩->0<hdr.cap->∃off',hd0.a=some ⟨b,off',none⟩/\0<hd0.cap)->
   Done cx σ a w o ⟨.d (.c (.own s)),.grow r e (L++ys)⟩:=by
  intro r ow hd0 hdr L ho hh hv hL hm hsame;rcases key hv hL hm with ⟨hc,h1,h0,h2⟩ | ⟨b,off,cs,cs',T,c1,c2,c3,c4,c5,c6,c7,all,c8,c9⟩ | ⟨cs',cap,w',h1,h2,h3,h4,h5,h6,h7,h8⟩
  ·rw[<-hv] at h2
   refine ⟨_,_,{m with hd:=upd m.hd s (some ⟨hdr.a,0,0,e.size⟩)},.inl (hrun _ _ h2),fun σ1 hm=>?_⟩;simp only[qu,hd] at hm;split at hm<;>try simp at hm
   rename_i hs';cases hp':ZG s with
   | true=>simp[hp'] at hm
   | false =>
   simp[hp'] at hm;subst hm;obtain ⟨r1,_⟩:=h.moveOwn (w':=w) (s:=s) (o':=⟨e,L++ys⟩) (hd':=⟨hdr.a,0,0,e.size⟩) ho hs' hp' (Nat.le_refl _) (fun _ _=>rfl) rfl rfl rfl (fun _ _ _ h=>by simp at h)
    (fun _=>by subst h1; subst h0; exact ⟨rfl,rfl,Nat.le_refl _,fun h=>absurd h (by simp)⟩)
   exact ⟨r1,_,xK _ _ _,rfl⟩
  ·rw[<-hv] at c7
   obtain ⟨off0,f1,f2⟩:=hsame b off c3 c1;refine ⟨_,_,{m with hd:=upd m.hd s (some ⟨some ⟨b,off,none⟩,(L++ys).length,hdr.cap,e.size⟩)},.inl (hrun _ _ c7),fun σ1 hm=>?_⟩;simp only[qu,hd] at hm;split at hm<;>try simp at hm
   rename_i hs';cases hp':ZG s with
   | true=>simp[hp'] at hm
   | false =>
   simp[hp'] at hm;subst hm;have hne:s≠r:=fun e=>by subst e; rw[hs'] at ho; simp at ho
   have hlen:(L++ys).length<=hdr.cap:=by simp; have:=hL.1; simp only at this; omega
   have hsz:hdr.sz=e.size:=hL.2.1;obtain ⟨r1,_⟩:=h.setOwn (r:=r) (s:=s) (o:=ow) (o':=⟨e,L++ys⟩) (hd:=hd0) (hd':=⟨some ⟨b,off,none⟩,(L++ys).length,hdr.cap,e.size⟩) (own':=upd (upd σ.own r .dead) s (.is ⟨e,L++ys⟩))
    (hds:=upd m.hd s (some ⟨some ⟨b,off,none⟩,(L++ys).length,hdr.cap,e.size⟩)) ho hh f1 f2 c4 c5 (.inr ⟨hs',hp'⟩) ⟨off,rfl⟩
    (fun x=>by
     by_cases hx:x=s
     ·subst hx; simp[xK]
     ·rw[ww _ _ hx,if_neg hx]
      by_cases hr:x=r
      ·subst hr; simp[xK]
      ·rw[ww _ _ hr,if_neg hr])
    (fun x=>by
     by_cases hx:x=s
     ·subst hx; simp[xK]
     ·rw[ww _ _ hx,if_neg hx])
    (fun hq=>OwnRep.ofElems hlen rfl (setRow_heap w b cs cs' T (0,0) c4) (by rw[hsz] at c6; omega) c8 (Elems.mono (fun x us h=>RT.mono hq.ok hq.okb e x us h) c9))
   refine ⟨r1,_,xK _ _ _,?_⟩;rw[c3]
  ·rw[<-hv] at h7
   refine ⟨_,_,{m with hd:=upd m.hd s (some ⟨some ⟨w.heap.size,0,none⟩,(L++ys).length,cap,e.size⟩)},.inl (hrun _ _ h7),fun σ1 hm=>?_⟩;simp only[qu,hd] at hm;split at hm<;>try simp at hm
   rename_i hs';cases hp':ZG s with
   | true=>simp[hp'] at hm
   | false =>
   simp[hp'] at hm;subst hm;have hnew:=Tw h3;obtain ⟨r1,_⟩:=h.moveOwn (w':=w') (s:=s) (o':=⟨e,L++ys⟩) (hd':=⟨some ⟨w.heap.size,0,none⟩,(L++ys).length,cap,e.size⟩) ho hs' hp' (by rw[h3]; simp) (fun b hb=>Yg h3 hb) h4 h5 h6
    (fun b off e _=>by simp only[Option.some.injEq,Addr.mk.injEq] at e; rw[<-e.1,h3]; simp)
    (fun hq=>OwnRep.ofElems h1 rfl hnew (by simpa using h2) (vr hnew) (Elems.mono (fun x us h=>RT.mono hq.ok hq.okb e x us h) h8))
   exact ⟨r1,_,xK _ _ _,rfl⟩
 split at he
 ·simp at he
  obtain ⟨hm,rfl⟩:=he;obtain ⟨hv,_⟩:=hx.v_eq;exact nilCase hv (Nat.le_of_ble_eq_true (by simpa using hm))
 ·rename_i r
  split at he<;>try simp at he
  rename_i ow how;split at he<;>simp at he;rename_i l hl;obtain ⟨hm,rfl⟩:=he;obtain ⟨hdr,e1,e2⟩:=hx;obtain ⟨hd',f1,lr⟩:=h.own r _ how;rw[show (cx.q σ m w).m.hd r=m.hd r from rfl] at e1;rw[e1] at f1;simp at f1;subst f1;obtain ⟨et,e3⟩:=ur hl;obtain ⟨t',l'⟩:=ow;simp only at et e3;subst et;simp only at e3;subst e3;exact ownCase how e1 e2 lr (Nat.le_of_ble_eq_true (by simpa using hm)) (fun b off h1 h2=>⟨off,h1,h2⟩)
 ·rename_i r lo hi
  split at he<;>try simp at he
  rename_i ow how;split at he<;>try simp at he
  rename_i l hl;cases h0:Nat.beq lo 0 with
  | false=>simp[h0] at he
  | true =>
  simp[h0] at he;obtain ⟨hm,rfl⟩:=he;have h0:=xW h0;subst h0;obtain ⟨hdr,e1,e2,e3,e4⟩:=hx;obtain ⟨hd',f1,lr⟩:=h.own r _ how;rw[show (cx.q σ m w).m.hd r=m.hd r from rfl] at e1;rw[e1] at f1;simp at f1;subst f1;obtain ⟨et,e5⟩:=ur hl;obtain ⟨t',l'⟩:=ow;simp only at et e5;subst et;simp only at e5;subst e5;have hlen:(l'.take hi).length=hi:=by have:=lr.1; simp only at this; simp; omega
  refine ownCase (hdr:=⟨if hdr.cap=0 then hdr.a else hdr.a.map (·.add (0*hdr.sz)),hi,hdr.cap,hdr.sz⟩) how e1 (by rw[e4]; simp) (lr.front e3) (by rw[hlen]; exact Nat.le_of_ble_eq_true (by simpa using hm)) (fun b off h1 h2=>?_)
  simp only at h1 h2;rw[if_neg (by omega)] at h1;obtain ⟨bb,oo,cs,T,q1,_⟩:=lr.2.2.2 h2;rw[q1] at h1;simp[Zx] at h1;exact ⟨oo,by rw[q1,h1.1],h2⟩
 ·simp at he
end
end Go.VS
namespace Go.VS
open Go
section
variable {cx:Cx} {Hh:Hn} {m:Gh} {σ:St} {a:Act} {w:World} {o:Oper} {eff:Eff}
theorem Sa:∀{r:List Ent} {rv:List Value} {x n:Int} {k:IntKind},Y8 true x r k=some n->All2 (RE w (cx.q σ m w)) r rv->
  (rv.foldlM Builtin.max2 (.int k x)).run cx.P w=.ok (.int k n) w
 | [],[],_,_,_,h,_=>by simp[Y8] at h; subst h; rfl
 | e::r,v::rv,x,n,k,h,⟨h1,h2⟩=>by
  unfold Y8 at h;split at h
  ·simp_all
  ·rename_i he
   cases he
   split at h<;>simp at h;rename_i hk;subst hk;obtain ⟨rfl,_⟩:=h1.v_eq;have:=Sa h h2;simp[List.foldlM_cons,Builtin.max2,this]
  ·simp at h
 | [],_::_,_,_,_,_,h=>h.elim
 | _::_,[],_,_,_,_,h=>h.elim
theorem T9:∀{r:List Ent} {rv:List Value} {x n:Int} {k:IntKind},Y8 false x r k=some n->All2 (RE w (cx.q σ m w)) r rv->
  (rv.foldlM Builtin.min2 (.int k x)).run cx.P w=.ok (.int k n) w
 | [],[],_,_,_,h,_=>by simp[Y8] at h; subst h; rfl
 | e::r,v::rv,x,n,k,h,⟨h1,h2⟩=>by
  unfold Y8 at h;split at h
  ·simp_all
  ·rename_i he
   cases he
   split at h<;>simp at h;rename_i hk;subst hk;obtain ⟨rfl,_⟩:=h1.v_eq;have:=T9 h h2;simp[List.foldlM_cons,Builtin.min2,this]
  ·simp at h
 | [],_::_,_,_,_,_,h=>h.elim
 | _::_,[],_,_,_,_,h=>h.elim
theorem Q5 (hG:ul cx) (h:Rel cx m σ a w):∀(xs:List Operand),All2 (RE w (cx.q σ m w)) (xs.map (σ.ev cx.G)) (xs.map a.eval)
 | []=>trivial
 | x::xs=>⟨uP hG h x,Q5 hG h xs⟩
theorem QS (hT:∀t,qp cx.P t (cx.TI t)) (hG:ul cx) (h:Rel cx m σ a w) {c:Call} {b:Builtin} (ho:o.op=.call c) (hb:c.callee=.builtin b)
  (he:YN cx.TI σ o.dst b c.argTypes.toList (c.args.toList.map (σ.ev cx.G))=some (true,eff)):Done cx σ a w o eff:=by
 have hargs:=Q5 hG h c.args.toList;have hmap:(c.args.map a.eval)=(c.args.toList.map a.eval).toArray:=by apply Array.ext'; simp
 have hrun:∀(s:Sem Value) (v:Value) (w':World),(∀cs,builtin b c.argTypes o.type cs (c.args.toList.map a.eval).toArray=(do pure (.value (<-s))))->s.run cx.P w=.ok v w'->
   (execOp a.eval o).run cx.P w=.ok (.value v) w':=by
  intro s v w' h1 h2;simp[execOp,ho,resolve,hb,invoke,h1,h2,hmap]
 generalize c.args.toList.map (σ.ev cx.G)=es at he hargs;generalize c.args.toList.map a.eval=vs at hargs hrun;unfold YN at he;split at he
 ·
  rename_i x;obtain ⟨vx,vs',e,hx,hnil⟩:=hargs.cons_left;have:=hnil.nil_left;subst this;subst e;split at he<;>try simp at he
  rename_i t ts hts;have ht0:c.argTypes[0]?=some t:=by rw[<-Array.getElem?_toList,hts]; rfl
  have hlen:∀{n:Nat},(∀d v,cx.P.underlying t=some d->(match d,v with | .string,Value.string s=>some s.size | .slice _,.slice _ n _=>some n | _,_=>none)=some n->v=vx->
    (Builtin.len_ c.argTypes o.type #[vx]).run cx.P w=.ok (goInt n) w):=by
   intro n d v hu hm hv;subst hv;split at hm<;>simp at hm
   ·subst hm; simp[Builtin.len_,ht0,run_underlying hu]
   ·subst hm; simp[Builtin.len_,ht0,run_underlying hu]
  have fin:∀{n:Nat} {k:Int},k=(n:Int)->(Builtin.len_ c.argTypes o.type #[vx]).run cx.P w=.ok (goInt n) w->Done cx σ a w o ⟨.d (.c (.v (.int .i64 k))),.none⟩:=by
   intro n k hk hr;subst hk;exact Done.pure h (hrun _ _ _ (fun _=>rfl) hr) ⟨rfl,rfl⟩
  split at he
  ·rename_i s
   cases hs:(cx.TI t).str with
   | false=>simp[hs] at he
   | true =>
    simp only[hs,cond_true] at he;obtain ⟨_,rfl⟩:=tD he;obtain ⟨hv,_⟩:=hx.v_eq;exact fin rfl (hlen _ _ ((hT t).str hs) (by rw[hv]) rfl)
  ·split at he<;>try simp at he
   rename_i e hel;obtain ⟨et,_,_,hu,_⟩:=Vz (hT t) hel;split at he
   ·obtain ⟨_,rfl⟩:=tD he
    obtain ⟨hv,_⟩:=hx.v_eq;exact fin (n:=0) rfl (hlen _ _ hu (by rw[hv]) rfl)
   ·rename_i s lo hi _
    obtain ⟨_,rfl⟩:=tD he;obtain ⟨hd,_,_,_,hv⟩:=hx;exact fin (n:=hi-lo) rfl (hlen _ _ hu (by rw[hv]) rfl)
   ·split at he<;>try simp at he
    rename_i ow how;obtain ⟨_,rfl⟩:=tD he;obtain ⟨ad,cap,hv,_⟩:=Tn h how hx;exact fin (n:=ow.l.length) rfl (hlen _ _ hu (by rw[hv]) rfl)
 ·
  rename_i x y;obtain ⟨vx,vs',e,hx,hr⟩:=hargs.cons_left;obtain ⟨vy,vs'',e',hy,hnil⟩:=hr.cons_left;have:=hnil.nil_left;subst this;subst e';subst e;split at he<;>try simp at he
  rename_i t u ts hts;split at he<;>try simp at he
  rename_i uu hu;have ht:c.argTypes[0]?=some t:=by rw[<-Array.getElem?_toList,hts]; rfl
  have hu':c.argTypes[1]?=some u:=by rw[<-Array.getElem?_toList,hts]; rfl
  refine zb6 hT h (fun v w' hr=>hrun _ _ _ (fun _=>rfl) ?_) hx hy hu he;rw[<-hr];simp[Builtin.append_,ht,hu']
 ·
  rename_i k x r;obtain ⟨vx,vs',e,hx,hr⟩:=hargs.cons_left;subst e;obtain ⟨rfl,_⟩:=hx.v_eq;split at he<;>try simp at he
  rename_i n hn;obtain ⟨_,rfl⟩:=tD he;exact Done.pure h (hrun _ _ _ (fun _=>rfl) (by simp[Builtin.max_,Sa hn hr])) ⟨rfl,rfl⟩
 ·
  rename_i k x r;obtain ⟨vx,vs',e,hx,hr⟩:=hargs.cons_left;subst e;obtain ⟨rfl,_⟩:=hx.v_eq;split at he<;>try simp at he
  rename_i n hn;obtain ⟨_,rfl⟩:=tD he;exact Done.pure h (hrun _ _ _ (fun _=>rfl) (by simp[Builtin.min_,T9 hn hr])) ⟨rfl,rfl⟩
 ·simp at he
theorem zg9 (hna:cx.na=Hh.na) (hT:∀t,qp cx.P t (cx.TI t)) (hG:ul cx) (h:Rel cx m σ a w) (he:efG cx.TI cx.G Hh o σ=some (true,eff)):Done cx σ a w o eff:=by
 unfold efG at he;split at he
 ·rename_i ho; exact RO hG h (.inl ho) he
 ·rename_i ho; exact RO hG h (.inr ho) he
 ·rename_i ho; exact zgb hna hG h ho he
 ·rename_i ho; exact zcm hna hT h ho he
 ·rename_i ho; exact zel hT hG h ho he
 ·rename_i ho; exact zch hT hG h ho he
 ·rename_i ho; exact Sp hT hG h ho he
 ·rename_i ho; exact zck hT hG h ho he
 ·rename_i ho; exact So hT hG h ho he
 ·rename_i ho; exact zcj hT hG h ho he
 ·rename_i ho; exact zgc hT hG h ho he
 ·rename_i ho; exact done_un hG h ho he
 ·rename_i ho; exact QR hT hG h ho he
 ·rename_i ho; exact zcl hT hG h ho he
 ·rename_i ho; exact UW (Hh:=Hh) hT hG h ho he
 ·rename_i ho; exact Sn hT hG h ho he
 ·rename_i ho; exact zci hT hG h ho he
 ·rename_i ho; exact QQ hG h ho he
 ·rename_i ho; exact SQ hG h ho he
 ·rename_i ho; exact SR hna hG h ho he
 ·rename_i c ho
  split at he
  ·rename_i b hb; exact QS hT hG h ho hb he
  ·simp at he
 ·simp at he
end
end Go.VS
namespace Go.VS
open Go
def Alg {Sg:Nat->Sig} (V:tQ Sg):Prop:=∀f x (R:Type) (K:(Sg f).R->Option R),V f x K=(V f x some).bind K
def AlgD {Hh:Hn} (VD:uM Hh):Prop:=∀d f x (R:Type) (K:(Hh.sig d).R->Option R),VD d f x K=(VD d f x some).bind K
section
variable {TI:Nat->TS} {G:Nat->Option vG} {Hh:Hn} {Sg:Nat->Sig} {V:tQ Sg} {VD:uM Hh} {N:Nat} {R:Type}
def Uk (TI:Nat->TS) (G:Nat->Option vG) (Hh:Hn) (Sg:Nat->Sig) (V:tQ Sg) (VD:uM Hh) (o:Oper) (σ:St):Option Eff:=efK TI G Hh Sg V VD o σ some
theorem Uy {R:Type} (off sz:Nat) (f:Nat->Eff) (K:Eff->Option R):∀c j,WI off sz (fun j=>K (f j)) c j=(WI off sz (fun j=>some (f j)) c j).bind K
 | 0,j=>rfl
 | c+1,j=>by
  simp only[WI];cases Nat.beq off j with
  | true=>rfl
  | false=>exact Uy off sz f K c (j+sz)
theorem Ux {off sz:Nat} {f:Nat->Eff} {e:Eff}:∀{c j},WI off sz (fun j=>some (f j)) c j=some e->e=f off
 | 0,j,h=>by cases h
 | c+1,j,h=>by
  simp only[WI] at h;cases hb:Nat.beq off j with
  | true=>rw[hb] at h; simp at h; rw[Nat.eq_of_beq_eq_true hb]; exact h.symm
  | false=>rw[hb] at h; exact Ux h
theorem efK_alg (hV:Alg V) (hVD:AlgD VD) (o:Oper) (σ:St) (K:Eff->Option R):efK TI G Hh Sg V VD o σ K=(Uk TI G Hh Sg V VD o σ).bind K:=by
 unfold Uk efK;split
 ·split
  ·rename_i t _; cases t<;>rfl
  ·rfl
 ·split
  ·split
   ·split
    ·rfl
    ·split
     ·rename_i x _
      cases v7 x.2 with
      | false=>rfl
      | true=>simp only[cond_true]; rw[hV _ _ R,hV _ _ Eff]; cases V _ x.1 some<;>rfl
     ·rfl
   ·split
    ·rename_i x _
     cases v7 x.2 with
     | false=>rfl
     | true=>simp only[cond_true]; rw[hVD _ _ _ R,hVD _ _ _ Eff]; cases VD _ _ x.1 some<;>rfl
    ·rfl
  ·split
   ·rename_i x _
    cases v7 x.2 with
    | false=>rfl
    | true=>simp only[cond_true]; rw[hVD _ _ _ R,hVD _ _ _ Eff]; cases VD _ _ x.1 some<;>rfl
   ·rfl
  ·split
   ·rename_i x _
    cases v7 x.2 with
    | false=>rfl
    | true=>simp only[cond_true]; rw[hVD _ _ _ R,hVD _ _ _ Eff]; cases VD _ _ x.1 some<;>rfl
   ·rfl
  ·split
   ·rename_i x _
    cases v7 x.2 with
    | false=>rfl
    | true=>simp only[cond_true]; rw[hVD _ _ _ R,hVD _ _ _ Eff]; cases VD _ _ x.1 some<;>rfl
   ·rfl
  ·rfl
 ·split
  ·rename_i b e _
   cases b with
   | false=>rfl
   | true =>
    simp only[cond_true];split
    ·exact Uy _ _ (fun j=>⟨.loc _ j,.none⟩) K _ _
    ·rfl
  ·rfl
 ·split
  ·rename_i b e _; cases b<;>rfl
  ·rfl
def Y6 (all:List Oper) (o:Oper) (σ:St):Option Bool :=
 match o.guard with
 | none=>some true
 | some (g,want)=>match qX all g with
  | none=>none
  | some s=>match σ.env s with
   | .d (.c (.v (.bool b)))=>some (b==want)
   | .skip=>some false
   | _=>none
def VA (TI:Nat->TS) (G:Nat->Option vG) (Hh:Hn) (Sg:Nat->Sig) (V:tQ Sg) (VD:uM Hh) (all:List Oper) (o:Oper) (σ:St):Option Eff :=
 match Y6 all o σ with
 | none=>none
 | some true=>Uk TI G Hh Sg V VD o σ
 | some false=>some ⟨.skip,.none⟩
theorem zeG {α:Type} (f:Nat->α) (s:Nat) (e:α) (h:f s=e):upd f s e=f:=by
 funext x
 by_cases hx:x=s
 ·subst hx; rw[xK,h]
 ·rw[ww _ _ hx]
theorem oK_eq (hV:Alg V) (hVD:AlgD VD) (all:List Oper) (o:Oper) (σ:St) (K:St->List Nat->Option R) :
  oK TI G Hh Sg V VD N all o σ K=(VA TI G Hh Sg V VD all o σ).bind fun e=>(uL Hh.sp N σ o.dst e).bind fun σ'=>K σ' (wr o.dst e.mem):=by
 have hrun:∀σ,runK TI G Hh Sg V VD N o σ K=(Uk TI G Hh Sg V VD o σ).bind fun e=>(uL Hh.sp N σ o.dst e).bind fun σ'=>K σ' (wr o.dst e.mem):=by
  intro σ;unfold runK;rw[efK_alg hV hVD];cases Uk TI G Hh Sg V VD o σ with
  | none=>rfl
  | some e =>
   simp only[Option.bind_some,uL];cases WC Hh.sp σ o.dst e.mem with
   | none=>rfl
   | some b =>
    cases b with
    | false=>rfl
    | true =>
     simp only[cond_true];cases qu σ o.dst e.mem with
     | none=>rfl
     | some σ' =>
      simp only;cases o.dst with
      | none=>rfl
      | some s=>simp only; cases Nat.blt s N<;>rfl
 have hskip:zae Hh N o σ K=(uL Hh.sp N σ o.dst ⟨.skip,.none⟩).bind fun σ'=>K σ' []:=by
  unfold zae;cases uL Hh.sp N σ o.dst ⟨.skip,.none⟩<;>rfl
 unfold oK VA Y6;cases o.guard with
 | none=>exact hrun σ
 | some g =>
  obtain ⟨g,want⟩:=g;simp only;cases qX all g with
  | none=>rfl
  | some s =>
   simp only;generalize hb:σ.env s=e;split
   ·rename_i b
    have e1:∀c,b=c->({σ with env:=upd σ.env s (.d (.c (.v (.bool c))))}:St)=σ:=by
     intro c hc; subst hc; rw[zeG _ _ _ hb]
    cases b
    ·rw[e1 false rfl]
     cases want
     ·simp only[cond_false]; exact hrun σ
     ·simp only[cond_false,cond_true]; rw[hskip]; rfl
    ·rw[e1 true rfl]
     cases want
     ·simp only[cond_false,cond_true]; rw[hskip]; rfl
     ·simp only[cond_true]; exact hrun σ
   ·rw[hskip]; rfl
   ·rename_i h1 h2
    split<;>first | rfl | simp_all
def SameAt (l:List Nat) (σ σ':St):Prop:=∀s,(2*s+1∈l->σ.box s=σ'.box s)/\(2*s+2∈l->σ.own s=σ'.own s)
theorem SameAt.mono {l k:List Nat} {σ σ':St} (h:SameAt l σ σ') (hs:∀x∈k,x∈l):SameAt k σ σ':=fun s=>⟨fun hx=>(h s).1 (hs _ hx),fun hx=>(h s).2 (hs _ hx)⟩
variable {σ σ':St}
theorem zbZ {t:TS} {x:Ent} (h:SameAt (plE x) σ σ'):Zz t σ x=Zz t σ' x:=by
 cases x with
 | loc s off=>simp only[Zz]; rw[(h s).1 (by simp[plE])]
 | locx s i=>simp only[Zz]; rw[(h s).1 (by simp[plE])]
 | opos s i off=>simp only[Zz]; rw[(h s).2 (by simp[plE])]
 | _=>rfl
theorem za9 {t:TS} {x y:Ent} (h:SameAt (plE x) σ σ'):VL t σ x y=VL t σ' x y:=by
 unfold VL;congr 1
 unfold Qe;split
 ·rename_i s off _; rw[(h s).1 (by simp[plE])]
 ·rename_i s i _ _; rw[(h s).1 (by simp[plE])]
 ·rename_i s i off _; rw[(h s).2 (by simp[plE])]
 ·rfl
theorem UU {t:TS} {x i:Ent} (h:SameAt (plE x) σ σ'):qv t σ x i=qv t σ' x i:=by
 unfold qv;split
 ·split
  ·rfl
  ·rfl
  ·rename_i s; rw[(h s).2 (by simp[plE,plC])]
  ·rename_i s lo hi; rw[(h s).2 (by simp[plE,plC])]
  ·rename_i s off; rw[(h s).1 (by simp[plE])]
  ·rfl
  ·rfl
 ·rfl
theorem zad {t:TS} {x:Ent} {lo hi:Option Ent} (h:SameAt (plE x) σ σ'):VO t σ x lo hi=VO t σ' x lo hi:=by
 unfold VO;split
 ·split
  ·rfl
  ·rfl
  ·rfl
  ·rename_i s; rw[(h s).2 (by simp[plE,plC])]
  ·rfl
 ·rfl
theorem YU {x:Ent} (h:SameAt (plE x) σ σ'):qe σ x=qe σ' x:=by
 unfold qe;split
 ·rfl
 ·rfl
 ·rename_i s; rw[(h s).2 (by simp[plE,plC])]
 ·rename_i s lo hi; rw[(h s).2 (by simp[plE,plC])]
 ·rfl
theorem Q6 {t:TS} {dst:Option Nat} {x y:Ent} (h:SameAt (plE x) σ σ') (hy:SameAt (plE y) σ σ'):Wv t σ dst x y=Wv t σ' dst x y:=by
 have hn:∀e,zaE σ e y=zaE σ' e y:=by
  intro e;unfold zaE;split
  ·rfl
  ·rw[YU hy]
 unfold Wv;split
 ·rw[hn]
  split
  ·rfl
  ·split
   ·rfl
   ·rename_i s; rw[(h s).2 (by simp[plE,plC])]
   ·rename_i s lo hi; rw[(h s).2 (by simp[plE,plC])]
   ·rfl
 ·rfl
theorem SS {dst:Option Nat} {b:Builtin} {ts:List Nat} {args:List Ent} (h:∀x∈args,SameAt (plE x) σ σ'):YN TI σ dst b ts args=YN TI σ' dst b ts args:=by
 unfold YN;split
 ·rename_i x
  have hs:=YU (h x (by simp));split
  ·split
   ·rfl
   ·split
    ·rfl
    ·split
     ·rfl
     ·rfl
     ·rw[hs]
  ·rfl
 ·rename_i x y
  split
  ·split
   ·exact Q6 (h x (by simp)) (h y (by simp))
   ·rfl
  ·rfl
 ·rfl
 ·rfl
 ·rfl
theorem zc0 {c:C} (h:SameAt (plC [c]) σ σ'):Yi σ c=Yi σ' c:=by
 cases c with
 | own s=>simp only[Yi]; rw[(h s).2 (by simp[plC])]
 | vw s lo hi=>simp only[Yi]; rw[(h s).2 (by simp[plC])]
 | _=>rfl
theorem Qp:∀{l:List C} {c:C},c∈l->∀x∈plC [c],x∈plC l
 | d::r,c,hc,x,hx=>by
  rcases List.mem_cons.1 hc with rfl | hc
  ·cases c<;>simp_all [plC]
  ·have:=Qp hc x hx
   cases d<;>simp_all [plC]
theorem zfP {c:C} (h:SameAt (plC [c]) σ σ'):jnC σ c=jnC σ' c:=by
 cases c with
 | own s=>simp only[jnC]; rw[(h s).2 (by simp[plC])]
 | vw s lo hi=>simp only[jnC]; rw[(h s).2 (by simp[plC])]
 | v x=>unfold jnC; split<;>simp_all
 | _=>rfl
theorem Vq:∀{ms:List Nat} {l:List C},SameAt (plC l) σ σ'->jnM σ ms l=jnM σ' ms l
 | [],_,_=>rfl
 | _::_,[],_=>rfl
 | b::ms,c::r,h=>by
  simp only[jnM];rw[Vq (ms:=ms) (l:=r) (h.mono fun x hx=>by cases c<;>simp_all [plC]),zfP (h.mono (Qp (List.mem_cons_self)))]
theorem plB_loc {s off:Nat} {l:List C} (h:σ.box s=some (.g l)):plB σ [.loc s off]=plC l:=by simp[plB,h]
theorem Qj {x:Ent} (h:SameAt (plE x) σ σ') (hb:SameAt (plB σ [x]) σ σ') (a:AT):vF σ x a=vF σ' x a:=by
 cases a with
 | io t ms =>
  cases x with
  | loc s off =>
   simp only[vF];rw[<-(h s).1 (by simp[plE])];cases hl:σ.box s with
   | none=>rfl
   | some d =>
    cases d with
    | g l=>simp only; rw[Vq (by rw[plB_loc hl] at hb; exact hb)]
    | _=>rfl
  | _=>rfl
 | ios t =>
  cases x with
  | d y =>
   cases y with
   | c z =>
    cases z with
    | own s=>simp only[vF]; rw[(h s).2 (by simp[plE,plC])]
    | _=>rfl
   | _=>rfl
  | _=>rfl
 | d k =>
  cases k with
  | c t=>rfl
  | b t =>
   simp only[vF];split
   ·rfl
   ·rename_i s lo hi; rw[(h s).2 (by simp[plE,plC])]
   ·rw[YU h]
   ·rfl
  | g t =>
   cases x with
   | d y =>
    cases y with
    | g l =>
     simp only[vF];rw[show l.map (Yi σ)=l.map (Yi σ') from List.map_congr_left fun c hc=>zc0 (h.mono fun x hx=>by simp only[plE]; exact Qp hc x hx)]
    | _=>rfl
   | _=>rfl
  | a k=>rfl
  | p t =>
   cases x with
   | loc s off=>simp only[vF]; rw[(h s).1 (by simp[plE])]
   | _=>rfl
  | cl t=>rfl
  | os t =>
   cases x with
   | d y =>
    cases y with
    | c z=>simp only[vF]; rw[Vq h]
    | _=>rfl
   | _=>rfl
  | og t ms =>
   cases x with
   | d y =>
    cases y with
    | g l=>simp only[vF]; rw[Vq h]
    | _=>rfl
   | _=>rfl
  | _=>rfl
theorem zav {e:Ent} {es:List Ent}:∀x,x∈plB σ [e]\/x∈plB σ es->x∈plB σ (e::es):=by
 intro x hx;cases e<;>simp_all [plB]
theorem Yp:∀{as:List AT} {es:List Ent},(∀x∈es,SameAt (plE x) σ σ')->SameAt (plB σ es) σ σ'->wG σ as es=wG σ' as es
 | [],[],_,_=>rfl
 | [],_::_,_,_=>rfl
 | _::_,[],_,_=>rfl
 | a::as,e::es,h,hb=>by
  simp only[wG];rw[Qj (h e (by simp)) (hb.mono fun x hx=>zav x (.inl hx)),Yp (fun x hx=>h x (by simp[hx])) (hb.mono fun x hx=>zav x (.inr hx))]
def SJ (G:Nat->Option vG) (σ σ':St) (l:List Operand):Prop:=∀x∈l,σ.ev G x=σ'.ev G x
theorem WL:∀{ps:List (Nat×Operand)},SJ G σ σ' (ps.map (·.2))->qH G σ ps=qH G σ' ps
 | [],_=>rfl
 | (i,x)::r,h=>by
  simp only[qH];rw[h x (by simp),WL (fun y hy=>h y (by simp at hy ⊢; right; exact hy))]
theorem TP {l:List Operand} (h:SJ G σ σ' l):l.map (σ.ev G)=l.map (σ'.ev G):=List.map_congr_left h
theorem Qo:∀{l:List Ent} {e:Ent},e∈l->∀x∈plE e,x∈plL l
 | d::r,e,he,x,hx=>by
  simp only[plL,List.mem_append];rcases List.mem_cons.1 he with rfl | he
  ·exact .inl hx
  ·exact .inr (Qo he x hx)
theorem zg8 {o:Oper} (h:SJ G σ σ' (YB o.op)) (hp:∀x∈Yr o.op,SameAt (plE (σ.ev G x)) σ σ'):efG TI G Hh o σ=efG TI G Hh o σ':=by
 unfold efG;generalize o.op=op at h hp;cases op<;>simp only[YB,Yr] at h hp<;>try simp only
 case move x=>rw[h x (by simp)]
 case assign x=>rw[h x (by simp)]
 case box t x=>rw[h x (by simp)]
 case load t x=>rw[<-h x (by simp)]; exact zbZ (hp x (by simp))
 case store t x y=>rw[<-h x (by simp),<-h y (by simp)]; exact za9 (hp x (by simp))
 case fieldAddr t x i=>rw[h x (by simp)]
 case field t x i=>rw[h x (by simp)]
 case indexAddr t x i=>rw[<-h x (by simp),<-h i (by simp)]; exact UU (hp x (by simp))
 case index t x i=>rw[h x (by simp),h i (by simp)]
 case binOp op t x y u=>rw[h x (by simp),h y (by simp)]
 case unOp op t x=>rw[h x (by simp)]
 case convert u t x=>rw[h x (by simp)]
 case build t ps=>rw[WL h]
 case buildSlice t n ps=>rw[WL h]
 case makeSlice t n c=>rw[h n (by simp),h c (by simp)]
 case extract x i=>rw[h x (by simp)]
 case nilCheck x=>rw[h x (by simp)]
 case slice t x lo hi mx =>
  cases mx with
  | some _=>rfl
  | none =>
   have e1:lo.map (σ.ev G)=lo.map (σ'.ev G):=by
    cases lo with
    | none=>rfl
    | some y=>simp only[Option.map_some]; rw[h y (by simp)]
   have e2:hi.map (σ.ev G)=hi.map (σ'.ev G):=by
    cases hi with
    | none=>rfl
    | some y=>simp only[Option.map_some]; rw[h y (by simp)]
   simp only;rw[<-e1,<-e2,<-h x (by simp)];exact zad (hp x (by simp))
 case makeFunc fn fa fb =>
  cases fn<;>simp only
  split
  ·rfl
  ·rename_i x _ hb
   rw[<-h x (by simp[hb])];split
   ·rename_i s off hx
    rw[(hp x (by simp[hb]) s).1 (by rw[hx]; simp[plE])]
   ·rfl
   ·rfl
  ·rename_i x z _ hb
   rw[<-h x (by simp[hb]),<-h z (by simp[hb])];split
   ·rename_i s off s' off' t u hx hz _
    rw[(hp x (by simp[hb]) s).1 (by rw[hx]; simp[plE]),(hp z (by simp[hb]) s').1 (by rw[hz]; simp[plE])]
   ·rfl
  ·rename_i x ha _
   rw[<-h x (by simp[ha])]
  ·rfl
 case call c =>
  split
  ·rename_i b hb
   rw[hb] at h;simp only at h;rw[<-TP h];refine SS fun x hx=>?_
   obtain ⟨y,hy,rfl⟩:=List.mem_map.1 hx;exact hp y hy
  ·rfl
theorem Qq:∀(t:Ty) (x:t.T) (r:List C),plC (t.enc x r)=plC r
 | .int _,_,_=>rfl
 | .bool,_,_=>rfl
 | .str,_,_=>rfl
 | .fn,_,_=>rfl
 | .sl _,_,_=>rfl
 | .bsl _,_,_=>rfl
 | .pt _,_,_=>rfl
 | .tr _,_,_=>rfl
 | .bnd _,_,_=>rfl
 | .unit,_,_=>rfl
 | .pair a b,x,r=>by
  show plC (a.enc x.1 (b.enc x.2 r))=_;rw[Qq a,Qq b]
theorem zcQ:∀(l k:List Ent),plB σ (l++k)=plB σ l++plB σ k
 | [],_=>rfl
 | e::l,k=>by cases e<;>simp[plB,zcQ l k]
theorem zau:∀{l:List Ent},(∀x∈l,plE x=[])->plB σ l=[]
 | [],_=>rfl
 | e::l,h=>by
  have h1:=h e (by simp);have h2:=zau (l:=l) fun x hx=>h x (by simp[hx])
  cases e<;>simp_all [plB,plE]
theorem zej {o:Oper} (h:SJ G σ σ' (YB o.op)) (hp:∀x∈Yr o.op,SameAt (plE (σ.ev G x)) σ σ') (hcp:SameAt (Up G o σ) σ σ'):Uk TI G Hh Sg V VD o σ=Uk TI G Hh Sg V VD o σ':=by
 have hG:=zg8 (TI:=TI) (Hh:=Hh) h hp;unfold Uk efK;unfold Up at hcp;generalize o.op=op at h hp hcp ⊢;split
 ·simp only[YB] at h
  rw[h _ (by simp),h _ (by simp),h _ (by simp)]
 ·rename_i f args _
  simp only[YB,Yr] at h hp hcp;have hm:args.toList.map (σ.ev G)=args.toList.map (σ'.ev G):=TP fun x hx=>h x (by simp at hx ⊢; right; exact hx)
  have hr:∀(as:List AT) (e:List Ent),(∀x∈e,plE x=[])->wG σ as (args.toList.map (σ.ev G)++e)=wG σ' as (args.toList.map (σ'.ev G)++e):=by
   intro as e he;rw[<-hm];refine Yp (fun x hx=>?_) (by rw[zcQ,zau he,List.append_nil]; exact hcp);rcases List.mem_append.1 hx with hx | hx
   ·obtain ⟨y,hy,rfl⟩:=List.mem_map.1 hx
    exact hp y hy
   ·rw[he x hx]; intro s; simp
  have hr0:∀(as:List AT),wG σ as (args.toList.map (σ.ev G))=wG σ' as (args.toList.map (σ'.ev G)):=by
   intro as;have:=hr as [] (by simp);simpa using this
  rw[<-h f (by simp)];split
  ·simp only[hr0]
  ·rw[hr _ _ (by simp[plE])]
  ·rw[hr _ _ (by simp[plE])]
  ·rename_i f' t' y' _
   have hr1:∀(as:List AT),wG σ as (.d (.g (t'.enc y' []))::args.toList.map (σ.ev G))=wG σ' as (.d (.g (t'.enc y' []))::args.toList.map (σ'.ev G)):=by
    intro as;rw[<-hm];refine Yp (fun x hx=>?_) (by simpa only [plB] using hcp);rcases List.mem_cons.1 hx with rfl | hx
    ·intro s; simp[plE,Qq,plC]
    ·obtain ⟨y,hy,rfl⟩:=List.mem_map.1 hx
     exact hp y hy
   rw[hr1]
  ·rfl
 ·rw[hG]
 ·rw[hG]
theorem Tk {t:Nat}:∀{l:List Operand},Operand.tmp t∈l->t∈Xy l
 | x::r,h=>by
  rcases List.mem_cons.1 h with rfl | h
  ·simp[Xy]
  ·have:=Tk h
   cases x<;>simp_all [Xy]
theorem Vo {all:List Oper} {o:Oper} (h:∀s∈looks all o,σ.env s=σ'.env s):SJ G σ σ' (YB o.op):=by
 intro x hx;cases x with
 | tmp t =>
  refine h t ?_;have:=Tk hx;unfold looks;split
  ·split
   ·exact List.mem_cons_of_mem _ this
   ·exact this
  ·exact this
 | _=>rfl
theorem zbV {op:Op} {x:Operand} (h:x∈Yr op):x∈YB op:=by
 cases op<;>simp only[Yr,YB] at h ⊢<;>try (simp_all; done)
 case call c=>split<;>simp_all
def SK (k:Nat) (a b:Option DV):Prop:=a=b\/∃l m,a=some (.g l)/\b=some (.g m)/\l.length=m.length/\k<=l.length/\l.take k=m.take k
def HeadS (sp:Nat->Nat) (σ σ':St):Prop:=∀s,0<sp s->SK (sp s) (σ.box s) (σ'.box s)
theorem HeadS.symm {sp:Nat->Nat} {σ τ:St} (h:HeadS sp σ τ):HeadS sp τ σ:=fun s hs=>by
 rcases h s hs with h | ⟨l,m,h1,h2,h3,h4,h5⟩
 ·exact .inl h.symm
 ·exact .inr ⟨m,l,h2,h1,h3.symm,by omega,h5.symm⟩
theorem zdW {t:TS} {off k:Nat} {l m:List C} (hl:l.length=m.length) (hk:off+t.zs.length<=k) (h:l.take k=m.take k):part t off l=part t off m:=by
 have e:∀(j:Nat),(l.drop off).take j=(l.take (off+j)).drop off:=fun j=>by rw[List.drop_take]; congr 1; omega
 have e':∀(j:Nat),(m.drop off).take j=(m.take (off+j)).drop off:=fun j=>by rw[List.drop_take]; congr 1; omega
 have key:(l.drop off).take t.zs.length=(m.drop off).take t.zs.length:=by
  rw[e,e'];have hh:(l.take k).take (off+t.zs.length)=(m.take k).take (off+t.zs.length):=by rw[h]
  rw[List.take_take,List.take_take,Nat.min_eq_left hk] at hh;rw[hh]
 unfold part;rw[key,hl];cases t.agg with
 | true=>rfl
 | false =>
  simp only[cond_false];split
  ·rename_i z x r h1 h2
   rw[h1,h2] at key;cases hm:m.drop off with
   | nil=>rw[hm] at key; simp at key
   | cons y s=>rw[hm] at key; simp at key; rw[h1]; simp[key]
  ·rename_i hne
   split
   ·rename_i z x r h1 h2
    rw[h1,h2] at key;cases hl':l.drop off with
    | nil=>rw[hl'] at key; simp at key
    | cons y s=>exact absurd hl' (hne z y s h1)
   ·rfl
theorem ze6 {t:TS} {s off k:Nat} (h:SK k (σ.box s) (σ'.box s)) (hk:off+t.zs.length<=k):Zz t σ (.loc s off)=Zz t σ' (.loc s off):=by
 simp only[Zz];rcases h with h | ⟨l,m,h1,h2,h3,h4,h5⟩
 ·rw[h]
 ·rw[h1,h2]
  simp only;rw[zdW h3 hk h5]
theorem SP {all:List Oper} {o:Oper} (h:∀s∈looks all o,σ.env s=σ'.env s):Zr TI G Hh o σ=Zr TI G Hh o σ':=by
 have hx:=Vo (G:=G) h;unfold Zr;cases ho:o.op<;>try rfl
 simp only;rw[hx _ (by rw[ho]; simp[YB])]
theorem zat:∀{es:List Ent},(∀x∈es,SameAt (plE x) σ σ')->plB σ es=plB σ' es
 | [],_=>rfl
 | e::es,h=>by
  have h1:=h e (by simp);have h2:=zat (es:=es) fun x hx=>h x (by simp[hx])
  cases e<;>simp only[plB,h2]
  rename_i s off;rw[(h1 s).1 (by simp[plE])]
theorem Tj {all:List Oper} {o:Oper} (h:∀s∈looks all o,σ.env s=σ'.env s) (hp:SameAt (qD TI G Hh o σ) σ σ'):qD TI G Hh o σ=qD TI G Hh o σ':=by
 unfold qD at hp ⊢;have hm:(Yr o.op).map (σ.ev G)=(Yr o.op).map (σ'.ev G):=TP fun x hx=>Vo h x (zbV hx)
 rw[<-hm,<-SP h];cases hb:Zr TI G Hh o σ with
 | true=>rfl
 | false =>
  rw[hb] at hp;have:Up G o σ=Up G o σ':=by
   unfold Up;cases ho:o.op<;>try rfl
   rename_i c;simp only;rw[ho] at hm hp;simp only[Yr] at hm hp;rw[<-hm];exact zat fun x hx=>hp.mono fun y hy=>List.mem_cons_of_mem _ (List.mem_append_left _ (Qo hx y hy))
  rw[this]
theorem Ti {o:Oper}:0∈qD TI G Hh o σ:=by
 unfold qD;cases Zr TI G Hh o σ<;>simp
theorem RN {all:List Oper} {o:Oper} (h:∀s∈looks all o,σ.env s=σ'.env s) (hp:SameAt (qD TI G Hh o σ) σ σ') (hh:HeadS Hh.sp σ σ') :
  VA TI G Hh Sg V VD all o σ=VA TI G Hh Sg V VD all o σ':=by
 have hg:Y6 all o σ=Y6 all o σ':=by
  unfold Y6;cases hgd:o.guard with
  | none=>rfl
  | some g =>
   simp only;cases hs:qX all g.1 with
   | none=>rfl
   | some s =>
    simp only;rw[h s (by unfold looks; simp[hgd,hs])]
 have he:Uk TI G Hh Sg V VD o σ=Uk TI G Hh Sg V VD o σ':=by
  unfold qD at hp;cases hb:Zr TI G Hh o σ with
  | false =>
   rw[hb] at hp;exact zej (Vo h) (fun x hx=>hp.mono fun y hy=>List.mem_cons_of_mem _ (List.mem_append_left _ (Qo (List.mem_map.2 ⟨x,hx,rfl⟩) y hy)))
    (hp.mono fun y hy=>List.mem_cons_of_mem _ (List.mem_append_right _ hy))
  | true =>
   unfold Zr at hb;split at hb<;>try simp at hb
   rename_i t x ho;split at hb<;>try simp at hb
   rename_i s off hx;obtain ⟨h1,h2⟩:=hb;have hx':=Vo (G:=G) h x (by rw[ho]; simp[YB]);have key:efG TI G Hh o σ=efG TI G Hh o σ':=by
    unfold efG;rw[ho];simp only;rw[<-hx',hx];exact ze6 (hh s h1) h2
   unfold Uk efK;rw[ho];simp only;rw[key]
 unfold VA;rw[hg,he]
end
end Go.VS
namespace Go.VS
open Go
section
variable {TI:Nat->TS} {G:Nat->Option vG} {Hh:Hn} {Sg:Nat->Sig} {V:tQ Sg} {VD:uM Hh} {N:Nat}
theorem TL {x:Nat}:∀{l:List Nat},memN x l=true↔x∈l
 | []=>by simp[memN]
 | y::r=>by
  simp only[memN,Bool.or_eq_true,List.mem_cons,TL (l:=r)];constructor
  ·rintro (h | h)
   ·exact .inl (Nat.eq_of_beq_eq_true h).symm
   ·exact .inr h
  ·rintro (h | h)
   ·subst h; exact .inl (by simp)
   ·exact .inr h
theorem Wq:∀{l k:List Nat},disj l k=true->∀x∈l,x ∉ k
 | y::r,k,h,x,hx=>by
  simp only[disj,Bool.and_eq_true,Bool.not_eq_true'] at h;rcases List.mem_cons.1 hx with rfl | hx
  ·intro hk; rw[TL.2 hk] at h; simp at h
  ·exact Wq h.2 x hx
theorem WV {d:Option Nat} {l:List Nat} (h:zb4 d l=false):∀s,d=some s->s ∉ l:=by
 intro s hs hl;subst hs;simp[zb4,TL.2 hl] at h
def uY:List (Nat×DV)->Nat->Option (Option DV)
 | [],_=>none
 | (s,d)::r,p=>match uY r p with
  | some x=>some x
  | none=>if p=s then some (some d) else none
def V3 (dst:Option Nat):ME->Nat->Option (Option DV)
 | .newBox d,p=>if dst=some p then some (some d) else none
 | .setBox s d,p=>if p=s then some (some d) else none
 | .outs l _ _ _ _,p=>uY l p
 | _,_=>none
def XU:Nat->List (Bool×vG)->List Nat->Nat->Option Xi
 | k,(false,o)::r,ips,p=>match XU (k+1) r ips p with
  | some x=>some x
  | none=>if p=k then some (.is o) else none
 | k,(true,o)::r,q::ips,p=>match XU (k+1) r ips p with
  | some x=>some x
  | none=>if p=q then some (.is o) else if p=k then some .dead else none
 | _,_,_,_=>none
def Vk (dst:Option Nat):ME->Nat->Option Xi
 | .newOwn t l,p=>if dst=some p then some (.is ⟨t,l⟩) else none
 | .setOwn s t l,p=>if p=s then some (.is ⟨t,l⟩) else none
 | .grow r t l,p=>if dst=some p then some (.is ⟨t,l⟩) else if p=r then some .dead else none
 | .outs _ mv k os ips,p=>match XU k os ips p with
  | some x=>some x
  | none=>if p∈mv then some .dead else none
 | _,_=>none
theorem YV:∀(l:List (Nat×DV)) (f:Nat->Option DV) (p:Nat),Va f l p=(uY l p).getD (f p)
 | [],_,_=>rfl
 | (s,d)::r,f,p=>by
  simp only[Va,uY];rw[YV r];cases uY r p with
  | some x=>rfl
  | none =>
   simp only[Option.getD_none];by_cases hp:p=s
   ·subst hp; simp[xK]
   ·simp[hp,ww _ _ hp]
theorem Wr {α:Type} {b:Bool} {x y:α} (h:(bif b then none else some x)=some y):b=false/\x=y:=by
 cases b<;>simp_all
theorem qJ:∀{l:List Nat} {f:Nat->Xi} {p:Nat},Rt l f p=(if p∈l then .dead else f p)
 | [],f,p=>by simp[Rt]
 | s::r,f,p=>by
  simp only[Rt];rw[qJ];by_cases h1:p∈r
  ·simp[h1]
  ·by_cases h2:p=s
   ·subst h2; simp[h1,xK]
   ·simp[h1,h2,ww _ _ h2]
theorem QF:∀{os:List (Bool×vG)} {k:Nat} {ips:List Nat} {f f':Nat->Xi},Z1 k os ips f=some f'->∀p,f' p=(XU k os ips p).getD (f p)
 | [],k,[],f,f',h,p=>by simp[Z1] at h; subst h; rfl
 | [],k,_::_,f,f',h,p=>by simp[Z1] at h
 | (true,o)::r,k,[],f,f',h,p=>by simp[Z1] at h
 | (false,o)::r,k,ips,f,f',h,p=>by
  simp only[Z1] at h;split at h<;>try simp at h
  cases ha:ZG k with
  | true=>simp[ha] at h
  | false =>
  simp only[ha,cond_false] at h;rw[QF h p];simp only[XU];cases XU (k+1) r ips p with
  | some x=>rfl
  | none =>
   simp only[Option.getD_none];by_cases e:p=k
   ·subst e; simp[xK]
   ·simp[e,ww _ _ e]
 | (true,o)::r,k,q::ips,f,f',h,p=>by
  simp only[Z1] at h;split at h<;>try simp at h
  cases ha:ZG k with
  | true=>simp[ha] at h
  | false =>
  simp only[ha,cond_false] at h;rw[QF h p];simp only[XU];cases XU (k+1) r ips p with
  | some x=>rfl
  | none =>
   simp only[Option.getD_none];by_cases e:p=q
   ·subst e; simp[xK]
   ·rw[ww _ _ e]
    by_cases e':p=k
    ·subst e'; simp[xK,e]
    ·simp[e,e',ww _ _ e']
theorem TY:∀{os:List (Bool×vG)} {k:Nat} {ips:List Nat} {p:Nat},(XU k os ips p).isSome=true->p∈qU k os++ips
 | [],k,ips,p,h=>by cases ips<;>simp[XU] at h
 | (true,o)::r,k,[],p,h=>by simp[XU] at h
 | (false,o)::r,k,ips,p,h=>by
  simp only[XU] at h;cases e:XU (k+1) r ips p with
  | some x =>
   have:=TY (os:=r) (k:=k+1) (ips:=ips) (p:=p) (by rw[e]; rfl);simp only[qU,List.cons_append,List.mem_cons]; exact .inr this
  | none =>
   rw[e] at h;simp only at h;split at h
   ·rename_i e'; subst e'; simp[qU]
   ·simp at h
 | (true,o)::r,k,q::ips,p,h=>by
  simp only[XU] at h;cases e:XU (k+1) r ips p with
  | some x =>
   have:=TY (os:=r) (k:=k+1) (ips:=ips) (p:=p) (by rw[e]; rfl);simp only[qU,List.cons_append,List.mem_cons,List.mem_append] at this ⊢;rcases this with h1 | h1
   ·exact .inr (.inl h1)
   ·exact .inr (.inr (.inr h1))
  | none =>
   rw[e] at h;simp only at h;split at h
   ·rename_i e'; subst e'; simp[qU]
   ·split at h
    ·rename_i e'; subst e'; simp[qU]
    ·simp at h
theorem Uc:∀{os:List (Bool×vG)} {k:Nat} {ips:List Nat} {f f' g:Nat->Xi},Z1 k os ips f=some f'->(∀p∈qU k os,f p=g p)->∃g',Z1 k os ips g=some g'
 | [],k,[],f,f',g,h,_=>⟨g,rfl⟩
 | [],k,_::_,f,f',g,h,_=>by simp[Z1] at h
 | (true,o)::r,k,[],f,f',g,h,_=>by simp[Z1] at h
 | (false,o)::r,k,ips,f,f',g,h,hg=>by
  simp only[Z1] at h;split at h<;>try simp at h
  rename_i hk;cases ha:ZG k with
  | true=>simp[ha] at h
  | false =>
  simp only[ha,cond_false] at h;obtain ⟨g',hg'⟩:=Uc (g:=upd g k (.is o)) h fun p hp=>by
   by_cases e:p=k
   ·subst e; rw[xK,xK]
   ·rw[ww _ _ e,ww _ _ e]; exact hg p (by simp[qU,hp])
  exact ⟨g',by simp only[Z1,<-hg k (by simp[qU]),hk,ha,cond_false]; exact hg'⟩
 | (true,o)::r,k,q::ips,f,f',g,h,hg=>by
  simp only[Z1] at h;split at h<;>try simp at h
  rename_i hk;cases ha:ZG k with
  | true=>simp[ha] at h
  | false =>
  simp only[ha,cond_false] at h;obtain ⟨g',hg'⟩:=Uc (g:=upd (upd g k .dead) q (.is o)) h fun p hp=>by
   by_cases e:p=q
   ·subst e; rw[xK,xK]
   ·rw[ww _ _ e,ww _ _ e]
    by_cases e':p=k
    ·subst e'; rw[xK,xK]
    ·rw[ww _ _ e',ww _ _ e']; exact hg p (by simp[qU,hp])
  exact ⟨g',by simp only[Z1,<-hg k (by simp[qU]),hk,ha,cond_false]; exact hg'⟩
theorem ZN {σ σ':St} {dst:Option Nat} {m:ME} (h:qu σ dst m=some σ') (h0:0 ∉ wr dst m) :
  σ'.env=σ.env/\(∀p,σ'.box p=(V3 dst m p).getD (σ.box p))/\(∀p,σ'.own p=(Vk dst m p).getD (σ.own p)):=by
 cases m<;>simp only[qu] at h
 case none=>simp at h; subst h; exact ⟨rfl,fun _=>rfl,fun _=>rfl⟩
 case newBox d =>
  split at h<;>try simp at h
  split at h<;>simp at h;subst h;refine ⟨rfl,fun p=>?_,fun _=>rfl⟩;rename_i s _ _;by_cases hp:p=s
  ·subst hp; simp[V3,xK]
  ·simp[V3,ww _ _ hp,Ne.symm hp]
 case newOwn t l =>
  split at h<;>try simp at h
  split at h<;>try simp at h
  rename_i s _ _;obtain ⟨_,rfl⟩:=Wr h;refine ⟨rfl,fun _=>rfl,fun p=>?_⟩;by_cases hp:p=s
  ·subst hp; simp[Vk,xK]
  ·simp[Vk,ww _ _ hp,Ne.symm hp]
 case setBox s d =>
  simp at h; subst h;refine ⟨rfl,fun p=>?_,fun _=>rfl⟩;by_cases hp:p=s
  ·subst hp; simp[V3,xK]
  ·simp[V3,ww _ _ hp,hp]
 case setOwn s t l =>
  simp at h; subst h;refine ⟨rfl,fun _=>rfl,fun p=>?_⟩;by_cases hp:p=s
  ·subst hp; simp[Vk,xK]
  ·simp[Vk,ww _ _ hp,hp]
 case grow r t l =>
  split at h<;>try simp at h
  split at h<;>try simp at h
  rename_i s _ _;obtain ⟨_,rfl⟩:=Wr h;refine ⟨rfl,fun _=>rfl,fun p=>?_⟩;by_cases hp:p=s
  ·subst hp; simp[Vk,xK]
  ·by_cases hr:p=r
   ·subst hr; simp[Vk,ww _ _ hp,xK,Ne.symm hp]
   ·simp[Vk,ww _ _ hp,ww _ _ hr,hr,Ne.symm hp]
 case outs l mv k os ips =>
  split at h<;>simp at h;rename_i f hf;subst h;refine ⟨rfl,fun p=>YV l _ p,fun p=>?_⟩;simp only[Vk];rw[QF hf p,qJ];cases XU k os ips p with
  | some x=>rfl
  | none=>simp only[Option.getD_none]; split<;>rfl
 case freeze s l=>simp[wr] at h0
 case freeze2 s l s' l'=>simp[wr] at h0
theorem TB:∀{l:List (Nat×DV)} {p:Nat},(uY l p).isSome=true->2*p+1∈l.map fun x=>2*x.1+1
 | (s,d)::r,p,h=>by
  simp only[uY] at h;cases hr:uY r p with
  | some x=>exact List.mem_cons_of_mem _ (TB (by rw[hr]; rfl))
  | none =>
   rw[hr] at h;simp only at h;split at h
   ·rename_i e; subst e; simp
   ·simp at h
theorem TH {dst:Option Nat} {m:ME} {p:Nat} (h:(V3 dst m p).isSome=true):2*p+1∈wr dst m:=by
 cases m<;>simp only[V3] at h<;>try (simp at h; done)
 case newBox d=>split at h<;>simp at h; rename_i e; subst e; simp[wr]
 case setBox s d=>split at h<;>simp at h; rename_i e; subst e; simp[wr]
 case outs l mv k os ips=>exact List.mem_append_left _ (TB h)
theorem TF {dst:Option Nat} {m:ME} {p:Nat} (h:(Vk dst m p).isSome=true):2*p+2∈wr dst m:=by
 cases m<;>simp only[Vk] at h<;>try (simp at h; done)
 case newOwn t l=>split at h<;>simp at h; rename_i e; subst e; simp[wr]
 case setOwn s t l=>split at h<;>simp at h; rename_i e; subst e; simp[wr]
 case grow r t l =>
  split at h
  ·rename_i e; subst e; simp[wr]
  ·split at h<;>simp at h
   rename_i e; subst e; cases dst<;>simp[wr]
 case outs l mv k os ips =>
  refine List.mem_append_right _ (List.mem_map.2 ⟨p,?_,rfl⟩);cases hi:XU k os ips p with
  | some x=>exact List.mem_append_right _ (TY (by rw[hi]; rfl))
  | none =>
   rw[hi] at h;simp only at h;split at h
   ·rename_i e; exact List.mem_append_left _ e
   ·simp at h
theorem Rn {σ τ σ':St} {dst:Option Nat} {m:ME} (h:qu σ dst m=some σ') (h0:0 ∉ wr dst m) (hs:SameAt (wr dst m) σ τ):∃τ',qu τ dst m=some τ':=by
 cases m<;>simp only[qu] at h ⊢
 case none=>exact ⟨_,rfl⟩
 case newBox d =>
  split at h<;>try simp at h
  split at h<;>simp at h;rename_i s _ hb;rw[<-(hs s).1 (by simp[wr]),hb];exact ⟨_,rfl⟩
 case newOwn t l =>
  split at h<;>try simp at h
  split at h<;>try simp at h
  rename_i s _ hb;obtain ⟨hp,_⟩:=Wr h;try simp only
  rw[<-(hs s).2 (by simp[wr]),hb];simp only[hp,cond_false];exact ⟨_,rfl⟩
 case setBox s d=>exact ⟨_,rfl⟩
 case setOwn s t l=>exact ⟨_,rfl⟩
 case grow r t l =>
  split at h<;>try simp at h
  split at h<;>try simp at h
  rename_i s _ hb;obtain ⟨hp,_⟩:=Wr h;try simp only
  rw[<-(hs s).2 (by simp[wr]),hb];simp only[hp,cond_false];exact ⟨_,rfl⟩
 case outs l mv k os ips =>
  split at h<;>simp at h;rename_i f hf;obtain ⟨g',hg'⟩:=Uc (g:=Rt mv τ.own) hf fun p hp=>by
   rw[qJ,qJ,(hs p).2 (List.mem_append_right _ (List.mem_map.2 ⟨p,by simp[hp],rfl⟩))]
  rw[hg'];exact ⟨_,rfl⟩
 case freeze s l=>exact ⟨_,rfl⟩
 case freeze2 s l s' l'=>exact ⟨_,rfl⟩
def YY (f:Nat->Ent) (dst:Option Nat) (e:Ent):Nat->Ent:=match dst with | some s=>upd f s e | none=>f
theorem qz {sp:Nat->Nat} {σ σ1:St} {dst:Option Nat} {e:Eff} (h:uL sp N σ dst e=some σ1) :
  ∃σ',qu σ dst e.mem=some σ'/\σ1={σ' with env:=YY σ'.env dst e.ent}/\(∀s,dst=some s->s<N)/\WC sp σ dst e.mem=some true:=by
 unfold uL at h;split at h<;>try simp at h
 rename_i b hh;cases b with
 | false=>simp at h
 | true =>
 simp only[cond_true] at h;split at h<;>try simp at h
 rename_i σ' hm;cases dst with
 | none=>simp at h; subst h; exact ⟨σ',hm,rfl,fun _ h=>(by cases h),hh⟩
 | some s =>
  simp only at h;cases hb:Nat.blt s N with
  | false=>simp[hb] at h
  | true =>
   simp[hb] at h;subst h;refine ⟨σ',hm,rfl,fun r hr=>?_,hh⟩;cases hr
   have:=Nat.le_of_ble_eq_true hb; omega
theorem RZ {sp:Nat->Nat} {σ σ':St} {dst:Option Nat} {e:Eff} (h:qu σ dst e.mem=some σ') (hd:∀s,dst=some s->s<N) (hh:WC sp σ dst e.mem=some true) :
  uL sp N σ dst e=some {σ' with env:=YY σ'.env dst e.ent}:=by
 unfold uL;rw[hh,h];cases dst with
 | none=>rfl
 | some s =>
  have hb:Nat.blt s N=true:=by have:=hd s rfl; exact Nat.ble_eq_true_of_le (by omega)
  simp[hb,YY]
theorem zgu {a b:ByteArray} (h:(a==b)=true):a=b:=by
 rw[beq_toListBytes,ByteArray.toList_eq,ByteArray.toList_eq] at h;have h:=eq_of_beq h;obtain ⟨⟨x⟩⟩:=a;obtain ⟨⟨y⟩⟩:=b;simp at h;rw[h]
theorem Vw:∀{l m:List C},eqC l m=some true->l=m
 | [],[],_=>rfl
 | [],_::_,h=>by simp[eqC] at h
 | _::_,[],h=>by unfold eqC at h; split at h<;>simp_all
 | a::l,b::m,h=>by
  unfold eqC at h;split at h
  ·rename_i e _; cases e
  ·rename_i e1 e2; cases e1; cases e2
   split at h<;>try simp at h
   rename_i hk;split at h<;>simp at h;rename_i q hq;obtain ⟨h1,rfl⟩:=h;rw[hk,h1,Vw hq]
  ·rename_i e1 e2; cases e1; cases e2
   split at h<;>simp at h;rename_i q hq;obtain ⟨h1,rfl⟩:=h;rw[h1,Vw hq]
  ·rename_i e1 e2; cases e1; cases e2
   split at h<;>try simp only[Option.some.injEq,Bool.and_eq_true,reduceCtorEq] at h
   rename_i q hq;obtain ⟨h1,rfl⟩:=h;rw[zgu h1,Vw hq]
  ·simp at h
theorem zc3 {k:Nat} {a:Option DV} {d:DV} (h:zd7 k a d=some true):SK k a (some d):=by
 unfold zd7 at h;split at h<;>try simp at h
 rename_i l m;cases hb:Nat.beq l.length m.length&&Nat.ble k l.length with
 | false=>simp[hb] at h
 | true =>
  simp only[hb,cond_true] at h;simp only[Bool.and_eq_true] at hb;exact .inr ⟨l,m,rfl,rfl,Nat.eq_of_beq_eq_true hb.1,Nat.le_of_ble_eq_true hb.2,Vw h⟩
theorem WR {sp:Nat->Nat} {σ:St}:∀{l:List (Nat×DV)},WD sp σ l=some true->∀s d,0<sp s->uY l s=some d->SK (sp s) (σ.box s) d
 | [],_,s,d,_,hd=>by simp[uY] at hd
 | (r,x)::l,h,s,d,hs,hd=>by
  simp only[WD] at h;have hl:WD sp σ l=some true/\(0<sp r->zd7 (sp r) (σ.box r) x=some true):=by
   cases hb:Nat.beq (sp r) 0 with
   | true=>rw[hb] at h; simp only[cond_true] at h; have:=Nat.eq_of_beq_eq_true hb; exact ⟨h,fun hp=>by omega⟩
   | false =>
    rw[hb] at h;simp only[cond_false] at h;split at h<;>simp at h;rename_i a b ha hb';obtain ⟨rfl,rfl⟩:=h;exact ⟨hb',fun _=>ha⟩
  simp only[uY] at hd;cases ho:uY l s with
  | some y =>
   rw[ho] at hd;simp only at hd;have:=WR hl.1 s y hs ho;first | (simp at hd; subst hd; exact this) | (rw[<-hd]; exact this)
  | none =>
   rw[ho] at hd;simp only at hd;split at hd<;>simp at hd;rename_i e;subst e;subst hd;exact zc3 (hl.2 hs)
theorem zc2 {sp:Nat->Nat} {σ:St} {dst:Option Nat} {m:ME} (h:WC sp σ dst m=some true) {s:Nat} {d:Option DV} (hs:0<sp s) (hd:V3 dst m s=some d):SK (sp s) (σ.box s) d:=by
 cases m<;>simp only[V3] at hd<;>try (simp at hd; done)
 case newBox x =>
  split at hd<;>simp at hd;rename_i e;subst e;simp only[WC] at h;cases hb:Nat.beq (sp s) 0 with
  | true=>have:=Nat.eq_of_beq_eq_true hb; omega
  | false=>simp[hb] at h
 case setBox r x =>
  simp only[WC] at h;refine WR h s d hs ?_;simp only[uY];exact hd
 case outs l mv k os ips=>exact WR h s d hs hd
theorem WS {sp:Nat->Nat} {σ τ:St}:∀{l:List (Nat×DV)},(∀p∈l,σ.box p.1=τ.box p.1)->WD sp σ l=WD sp τ l
 | [],_=>rfl
 | (s,d)::l,h=>by
  simp only[WD];rw[WS (l:=l) fun p hp=>h p (by simp[hp]),h (s,d) (by simp)]
theorem T0 {sp:Nat->Nat} {σ τ:St} {dst:Option Nat} {m:ME} (h0:0 ∉ wr dst m) (h:SameAt (wr dst m) σ τ):WC sp σ dst m=WC sp τ dst m:=by
 cases m<;>try rfl
 case setBox s d=>exact WS fun p hp=>by simp at hp; subst hp; exact (h _).1 (by simp[wr])
 case outs l mv k os ips =>
  exact WS fun p hp=>(h _).1 (by simp only[wr]; exact List.mem_append_left _ (List.mem_map.2 ⟨p,hp,rfl⟩))
theorem YX {f:Nat->Ent} {dst:Option Nat} {e:Ent} {s:Nat} (h:dst≠some s):YY f dst e s=f s:=by
 cases dst with
 | none=>rfl
 | some d=>exact ww _ _ fun hs=>h (by rw[hs])
theorem zdU {f:Nat->Ent} {d d':Option Nat} {e e':Ent} (h:∀s,d=some s->d'≠some s):YY (YY f d e) d' e'=YY (YY f d' e') d e:=by
 funext x
 by_cases h1:d=some x
 ·rw[YX (h x h1)]
  subst h1; simp[YY,xK]
 ·rw[YX (dst:=d) h1]
  by_cases h2:d'=some x
  ·subst h2; simp[YY,xK]
  ·rw[YX h2,YX h2,YX h1]
theorem Yl {sp:Nat->Nat} {σ σ1:St} {dst:Option Nat} {e:Eff} (h:uL sp N σ dst e=some σ1) {l:List Nat} (hd:∀x∈wr dst e.mem,x ∉ l) (h0:0∈l):SameAt l σ σ1:=by
 obtain ⟨σ',hm,rfl,_,_⟩:=qz h;obtain ⟨_,h2,h3⟩:=ZN hm fun hx=>hd 0 hx h0
 intro s;refine ⟨fun hs=>?_,fun hs=>?_⟩
 ·simp only
  rw[h2];cases hb:V3 dst e.mem s with
  | none=>rfl
  | some x=>exact absurd hs (hd _ (TH (by rw[hb]; rfl)))
 ·simp only
  rw[h3];cases hb:Vk dst e.mem s with
  | none=>rfl
  | some x=>exact absurd hs (hd _ (TF (by rw[hb]; rfl)))
theorem UQ {sp:Nat->Nat} {σ σ1:St} {dst:Option Nat} {e:Eff} (h:uL sp N σ dst e=some σ1) (h0:0 ∉ wr dst e.mem):HeadS sp σ σ1:=by
 obtain ⟨σ',hm,rfl,_,hh⟩:=qz h;obtain ⟨_,h2,_⟩:=ZN hm h0;intro s hs;simp only;rw[h2];cases hb:V3 dst e.mem s with
 | none=>exact .inl rfl
 | some d=>exact zc2 hh hs hb
theorem SameAt.symm {l:List Nat} {σ τ:St} (h:SameAt l σ τ):SameAt l τ σ:=fun s=>⟨fun hx=>((h s).1 hx).symm,fun hx=>((h s).2 hx).symm⟩
theorem swap {all:List Oper} {oi oj:Oper} {σ σ1 σ2:St} {ei ej:Eff} {i j mi mj:Nat}
  (hi:VA TI G Hh Sg V VD all oi σ=some ei) (ai:uL Hh.sp N σ oi.dst ei=some σ1) (hj:VA TI G Hh Sg V VD all oj σ1=some ej) (aj:uL Hh.sp N σ1 oj.dst ej=some σ2)
  (hf:QI ⟨i,oi.dst,looks all oi,qD TI G Hh oi σ,wr oi.dst ei.mem,mi⟩ ⟨j,oj.dst,looks all oj,qD TI G Hh oj σ1,wr oj.dst ej.mem,mj⟩=true) :
  ∃σ1',VA TI G Hh Sg V VD all oj σ=some ej/\uL Hh.sp N σ oj.dst ej=some σ1'/\qD TI G Hh oj σ=qD TI G Hh oj σ1 /\
   VA TI G Hh Sg V VD all oi σ1'=some ei/\uL Hh.sp N σ1' oi.dst ei=some σ2/\qD TI G Hh oi σ1'=qD TI G Hh oi σ:=by
 simp only[QI,Bool.and_eq_true,Bool.not_eq_true'] at hf;obtain ⟨⟨⟨⟨⟨f1,f2⟩,f3⟩,f4⟩,f5⟩,f6⟩:=hf;have f1:=WV f1;have f2:=WV f2;have f4:=Wq f4;have f5:=Wq f5;have f6:=Wq f6;have hne:∀s,oi.dst=some s->oj.dst≠some s:=fun s h1 h2=>by have:=WV f3 s h1; rw[h2] at this; simp at this
 have t0j:0∈qD TI G Hh oj σ1:=Ti;have t0i:0∈qD TI G Hh oi σ:=Ti;obtain ⟨τ1,m1,rfl,n1,g1⟩:=qz ai;have z1:0 ∉ wr oi.dst ei.mem:=fun h=>f4 0 h t0j
 have z2:0 ∉ wr oj.dst ej.mem:=fun h=>f5 0 h t0i
 obtain ⟨b1,b2,b3⟩:=ZN m1 z1;have lj:∀s∈looks all oj,({τ1 with env:=YY τ1.env oi.dst ei.ent}:St).env s=σ.env s:=fun s hs=>by
  show YY τ1.env oi.dst ei.ent s=σ.env s;rw[YX fun h=>f1 s h hs,b1]
 have sj:=(Yl ai f4 t0j).symm;have tj:=Tj (TI:=TI) (G:=G) (Hh:=Hh) (o:=oj) lj sj;have hj':=RN (TI:=TI) (Hh:=Hh) (Sg:=Sg) (V:=V) (VD:=VD) lj sj (UQ ai z1).symm;obtain ⟨τ2,m2,rfl,n2,g2⟩:=qz aj;have sw:SameAt (0::wr oj.dst ej.mem) σ {τ1 with env:=YY τ1.env oi.dst ei.ent}:=Yl ai (fun x hx=>by
  simp only[List.mem_cons,not_or]; exact ⟨fun e=>z1 (e ▸ hx),f6 x hx⟩) (by simp)
 obtain ⟨τ3,m3⟩:=Rn m2 z2 (τ:=σ) (sw.symm.mono fun x hx=>List.mem_cons_of_mem _ hx);have aj':=RZ (N:=N) m3 n2 ((T0 z2 (sw.mono fun x hx=>List.mem_cons_of_mem _ hx)).trans g2);obtain ⟨c1,c2,c3⟩:=ZN m3 z2;obtain ⟨d1,d2,d3⟩:=ZN m2 z2;have li:∀s∈looks all oi,σ.env s=({τ3 with env:=YY τ3.env oj.dst ej.ent}:St).env s:=fun s hs=>by
  show σ.env s=YY τ3.env oj.dst ej.ent s;rw[YX fun h=>f2 s h hs,c1]
 have si:=Yl aj' f5 t0i;have ti:=Tj (TI:=TI) (G:=G) (Hh:=Hh) (o:=oi) li si;have hi':=RN (TI:=TI) (Hh:=Hh) (Sg:=Sg) (V:=V) (VD:=VD) li si (UQ aj' z2);have sw':SameAt (0::wr oi.dst ei.mem) σ {τ3 with env:=YY τ3.env oj.dst ej.ent}:=Yl aj' (fun x hx=>by
  simp only[List.mem_cons,not_or]; exact ⟨fun e=>z2 (e ▸ hx),fun h=>f6 x h hx⟩) (by simp)
 obtain ⟨τ4,m4⟩:=Rn m1 z1 (τ:={τ3 with env:=YY τ3.env oj.dst ej.ent}) (sw'.mono fun x hx=>List.mem_cons_of_mem _ hx);obtain ⟨e1,e2,e3⟩:=ZN m4 z1;refine ⟨_,by rw[<-hj',hj],aj',tj.symm,by rw[<-hi',hi],?_,ti.symm⟩;rw[RZ m4 n1 ((T0 z1 (sw'.symm.mono fun x hx=>List.mem_cons_of_mem _ hx)).trans g1)];congr 1
 obtain ⟨env4,box4,own4⟩:=τ4;obtain ⟨env2,box2,own2⟩:=τ2;simp only at e1 e2 e3 d1 d2 d3 ⊢;have x1:YY env4 oi.dst ei.ent=YY env2 oj.dst ej.ent:=by
  rw[e1,d1,c1,b1];exact (zdU hne).symm
 have x2:box4=box2:=by
  funext p
  rw[e2,d2,c2,b2];cases h1:V3 oi.dst ei.mem p with
  | none=>rfl
  | some y =>
   cases h2:V3 oj.dst ej.mem p with
   | none=>rfl
   | some z=>exact absurd (TH (by rw[h2]; rfl)) (f6 _ (TH (by rw[h1]; rfl)))
 have x3:own4=own2:=by
  funext p
  rw[e3,d3,c3,b3];cases h1:Vk oi.dst ei.mem p with
  | none=>rfl
  | some y =>
   cases h2:Vk oj.dst ej.mem p with
   | none=>rfl
   | some z=>exact absurd (TF (by rw[h2]; rfl)) (f6 _ (TF (by rw[h1]; rfl)))
 rw[x1,x2,x3]
end
end Go.VS
namespace Go.VS
open Go
section
variable {TI:Nat->TS} {G:Nat->Option vG} {Hh:Hn} {Sg:Nat->Sig} {V:tQ Sg} {VD:uM Hh} {N:Nat} {R:Type}
def RunN (TI:Nat->TS) (G:Nat->Option vG) (Hh:Hn) (Sg:Nat->Sig) (V:tQ Sg) (VD:uM Hh) (N:Nat) (all:List Oper):List (Oper×FP)->St->St->Prop
 | [],σ,σe=>σ=σe
 | x::l,σ,σe=>∃e σ1,VA TI G Hh Sg V VD all x.1 σ=some e/\uL Hh.sp N σ x.1.dst e=some σ1/\x.2.dst=x.1.dst/\x.2.looks=looks all x.1/\x.2.T=qD TI G Hh x.1 σ /\
   x.2.W=wr x.1.dst e.mem/\RunN TI G Hh Sg V VD N all l σ1 σe
theorem RunN.front {all:List Oper}:∀(l1:List (Oper×FP)) {x:Oper×FP} {l2:List (Oper×FP)} {σ σe:St},RunN TI G Hh Sg V VD N all (l1++x::l2) σ σe->
  (∀y∈l1,QI y.2 x.2=true)->RunN TI G Hh Sg V VD N all (x::(l1++l2)) σ σe
 | [],_,_,_,_,h,_=>h
 | y::l1,x,l2,σ,σe,h,hf=>by
  obtain ⟨e,σ1,h1,h2,h3,h4,h5,h6,h7⟩:=h;obtain ⟨e',σ2,k1,k2,k3,k4,k5,k6,k7⟩:=RunN.front l1 h7 fun z hz=>hf z (by simp[hz])
  have hfree:=hf y (by simp);obtain ⟨oy,⟨iy,dy,ly,Ty,Wy,my⟩⟩:=y;obtain ⟨ox,⟨ix,dx,lx,Tx,Wx,mx⟩⟩:=x;simp only at h1 h2 h3 h4 h5 h6 k1 k2 k3 k4 k5 k6 hfree;subst h3 h4 h5 h6 k3 k4 k5 k6;obtain ⟨σ1',s1,s2,s3,s4,s5,s6⟩:=swap h1 h2 k1 k2 hfree;exact ⟨e',σ1',s1,s2,rfl,rfl,s3.symm,rfl,e,σ2,s4,s5,rfl,rfl,s6.symm,rfl,k7⟩
def uE (all:List Oper):List FP->Nat->List Oper->List (List Nat×List Nat)->List (Oper×FP)
 | done,j,o::r,p::q=>match WN done o.after.toList with
  | some m=>(o,⟨j,o.dst,looks all o,p.1,p.2,m⟩)::uE all (⟨j,o.dst,looks all o,p.1,p.2,m⟩::done) (j+1) r q
  | none=>[]
 | _,_,_,_=>[]
theorem UL:∀{l:List FP} {i:Nat} {p:FP},QK i l=some p->p∈l/\p.i=i
 | q::r,i,p,h=>by
  simp only[QK] at h;cases hb:Nat.beq q.i i with
  | true=>simp[hb] at h; subst h; exact ⟨by simp,Nat.eq_of_beq_eq_true hb⟩
  | false=>simp[hb] at h; have:=UL h; exact ⟨by simp[this.1],this.2⟩
theorem XO {done:List FP}:∀{es:List Edge} {m:Nat},WN done es=some m->
  (∀a,m.testBit a=true->∃e∈es,Region.binds .any e=true/\∃p∈done,p.i=e.on/\(p.m.testBit a=true\/a=p.i)) /\
  (∀e∈es,Region.binds .any e=true->∃p∈done,p.i=e.on)
 | [],m,h=>by simp[WN] at h; subst h; exact ⟨fun a ha=>by simp at ha,fun e he=>by cases he⟩
 | e::r,m,h=>by
  simp only[WN] at h;cases hb:Region.binds .any e with
  | false =>
   simp only[hb,cond_false] at h;obtain ⟨h1,h2⟩:=XO h;refine ⟨fun a ha=>?_,fun e' he' hb'=>?_⟩
   ·obtain ⟨e',he',r'⟩:=h1 a ha; exact ⟨e',by simp[he'],r'⟩
   ·rcases List.mem_cons.1 he' with rfl | he'
    ·rw[hb] at hb'; cases hb'
    ·exact h2 e' he' hb'
  | true =>
   simp only[hb,cond_true] at h;split at h<;>simp at h;rename_i p m' hp hm;subst h;obtain ⟨h1,h2⟩:=XO hm;obtain ⟨p1,p2⟩:=UL hp;refine ⟨fun a ha=>?_,fun e' he' hb'=>?_⟩
   ·rw[Nat.testBit_or,Nat.testBit_or,Nat.one_shiftLeft,Nat.testBit_two_pow] at ha
    simp only[Bool.or_eq_true,decide_eq_true_eq] at ha;rcases ha with (ha | ha) | ha
    ·obtain ⟨e',he',r'⟩:=h1 a ha; exact ⟨e',by simp[he'],r'⟩
    ·exact ⟨e,by simp,hb,p,p1,p2,.inl ha⟩
    ·exact ⟨e,by simp,hb,p,p1,p2,.inr ha.symm⟩
   ·rcases List.mem_cons.1 he' with rfl | he'
    ·exact ⟨p,p1,p2⟩
    ·exact h2 e' he' hb'
structure Sound (items:List (Oper×FP)):Prop where
 idx:∀(k:Nat) (x:Oper×FP),items[k]?=some x->x.2.i=k
 lt:items.Pairwise fun x y=>x.2.i<y.2.i
 pair:items.Pairwise fun x y=>y.2.m.testBit x.2.i=true\/QI x.2 y.2=true
 clos:∀L:Nat->Prop,(∀x∈items,L x.2.i->∀e∈x.1.after.toList,Region.binds .any e=true->L e.on)->
  ∀x∈items,(∀e∈x.1.after.toList,Region.binds .any e=true->L e.on)->∀a,x.2.m.testBit a=true->L a
 edge:∀x∈items,∀e∈x.1.after.toList,Region.binds .any e=true->e.on<x.2.i
theorem X6 {all:List Oper}:∀{ops:List Oper} {fs:List (List Nat×List Nat)} {done:List FP} {j:Nat},qo all done j ops fs=true->(∀p∈done,p.i<j)->
  (uE all done j ops fs).map (·.1)=ops/\(∀(k:Nat) (x:Oper×FP),(uE all done j ops fs)[k]?=some x->x.2.i=j+k)/\(∀x∈uE all done j ops fs,j<=x.2.i) /\
  (uE all done j ops fs).Pairwise (fun x y=>x.2.i<y.2.i) /\
  (uE all done j ops fs).Pairwise (fun x y=>y.2.m.testBit x.2.i=true\/QI x.2 y.2=true) /\
  (∀p∈done,∀x∈uE all done j ops fs,x.2.m.testBit p.i=true\/QI p x.2=true) /\
  (∀L:Nat->Prop,(∀p∈done,L p.i->∀a,p.m.testBit a=true->L a)->(∀x∈uE all done j ops fs,L x.2.i->∀e∈x.1.after.toList,Region.binds .any e=true->L e.on)->
   ∀x∈uE all done j ops fs,(∀e∈x.1.after.toList,Region.binds .any e=true->L e.on)->∀a,x.2.m.testBit a=true->L a) /\
  (∀x∈uE all done j ops fs,∀e∈x.1.after.toList,Region.binds .any e=true->e.on<x.2.i)
 | [],[],done,j,_,_=>by simp[uE]
 | [],_::_,done,j,h,_=>by simp[qo] at h
 | _::_,[],done,j,h,_=>by simp[qo] at h
 | o::r,p::q,done,j,h,hd=>by
  simp only[qo] at h;split at h<;>try simp at h
  rename_i m hm;obtain ⟨h1,h2⟩:=h;obtain ⟨m1,m2⟩:=XO hm;have hit:uE all done j (o::r) (p::q)=(o,⟨j,o.dst,looks all o,p.1,p.2,m⟩)::uE all (⟨j,o.dst,looks all o,p.1,p.2,m⟩::done) (j+1) r q:=by simp only[uE,hm]
  obtain ⟨i1,i2,i3,i4,i5,i6,i7,i8⟩:=X6 (done:=⟨j,o.dst,looks all o,p.1,p.2,m⟩::done) h2 (fun p' hp'=>by
   rcases List.mem_cons.1 hp' with rfl | hp'
   ·exact Nat.lt_succ_self j
   ·have:=hd p' hp'; omega)
  rw[hit];generalize hdd:(⟨j,o.dst,looks all o,p.1,p.2,m⟩:FP)=d at*;have hdi:d.i=j:=by rw[<-hdd]
  have hdm:d.m=m:=by rw[<-hdd]
  refine ⟨by simp[i1],fun k x hk=>?_,fun x hx=>?_,List.pairwise_cons.2 ⟨fun x hx=>?_,i4⟩,List.pairwise_cons.2 ⟨fun x hx=>i6 d (by simp) x hx,i5⟩,fun p' hp' x hx=>?_,fun L hL hc x hx=>?_,fun x hx e he hb=>?_⟩
  ·cases k with
   | zero=>simp at hk; subst hk; simpa using hdi
   | succ k=>simp at hk; have:=i2 k x hk; omega
  ·rcases List.mem_cons.1 hx with rfl | hx
   ·simp only; omega
   ·have:=i3 x hx; omega
  ·have:=i3 x hx; simp only; omega
  ·rcases List.mem_cons.1 hx with rfl | hx
   ·have:=h1 p' hp'
    rw[hdm];exact this
   ·exact i6 p' (by simp[hp']) x hx
  ·have hdL:(∀e∈o.after.toList,Region.binds .any e=true->L e.on)->∀a,d.m.testBit a=true->L a:=by
    intro he a ha;rw[hdm] at ha;obtain ⟨e,e1,e2,p',p1,p2,p3⟩:=m1 a ha;have hl:=he e e1 e2;rw[<-p2] at hl;rcases p3 with p3 | p3
    ·exact hL p' p1 hl a p3
    ·rw[p3]; exact hl
   rcases List.mem_cons.1 hx with rfl | hx
   ·exact hdL
   ·refine i7 L (fun p' hp' hl a ha=>?_) (fun y hy=>hc y (by simp[hy])) x hx
    rcases List.mem_cons.1 hp' with rfl | hp'
    ·exact hdL (hc (o,p') (by simp) hl) a ha
    ·exact hL p' hp' hl a ha
  ·rcases List.mem_cons.1 hx with rfl | hx
   ·obtain ⟨p',p1,p2⟩:=m2 e he hb
    have:=hd p' p1;simp only; omega
   ·exact i8 x hx e he hb
theorem Rj (hV:Alg V) (hVD:AlgD VD) {all:List Oper}:∀{ops:List Oper} {σ:St} {acc:List (List Nat×List Nat)} {K:St->List (List Nat×List Nat)->Option R} {r:R},
  V2 TI G Hh Sg V VD N all ops σ acc K=some r->∃fs σe,K σe (fs.reverse++acc)=some r /\
   ∀done j,qo all done j ops fs=true->RunN TI G Hh Sg V VD N all (uE all done j ops fs) σ σe
 | [],σ,acc,K,r,h=>⟨[],σ,by simpa [V2] using h,fun _ _ _=>rfl⟩
 | o::ops,σ,acc,K,r,h=>by
  simp only[V2,oK_eq hV hVD] at h;cases he:VA TI G Hh Sg V VD all o σ with
  | none=>simp[he] at h
  | some e =>
   simp only[he,Option.bind_some] at h;cases ha:uL Hh.sp N σ o.dst e with
   | none=>simp[ha] at h
   | some σ1 =>
    simp only[ha,Option.bind_some] at h;obtain ⟨fs,σe,h1,h2⟩:=Rj hV hVD h;refine ⟨(qD TI G Hh o σ,wr o.dst e.mem)::fs,σe,by simpa using h1,fun done j hc=>?_⟩;simp only[qo] at hc;split at hc<;>try simp at hc
    rename_i m hm;simp only[uE,hm];exact ⟨e,σ1,he,ha,rfl,rfl,rfl,rfl,h2 _ _ hc.2⟩
def StepW (cx:Cx) (Hh:Hn) (Sg:Nat->Sig) (V:tQ Sg) (VD:uM Hh) (ops:Array Oper) (Q:Exit->Act->World->Prop):Prop :=
 ∀(i:Nat) (o:Oper) (σ:St) (e:Eff) (σ1:St) (m:Gh) (a:Act) (w:World) (next:Act->World->Prop),ops[i]?=some o->Rel cx m σ a w->
  VA cx.TI cx.G Hh Sg V VD ops.toList o σ=some e->uL Hh.sp cx.N σ o.dst e=some σ1->(∀m1 a1 w1,Rel cx m1 σ1 a1 w1->next a1 w1)->wpOp cx.P ops Q i next a w
theorem any_wp {cx:Cx} {ops:Array Oper} {Q:Exit->Act->World->Prop} {items:List (Oper×FP)} {σe:St} (hS:Sound items) (hmap:items.map (·.1)=ops.toList) (hW:StepW cx Hh Sg V VD ops Q)
  (hQ:∀m a w,Rel cx m σe a w->Q .normal a w):∀(fuel:Nat) (listed:Array Bool) (σ:St) (m:Gh) (a:Act) (w:World),
  listed.size=ops.size->(∀x∈items,listed.getD x.2.i false=true->∀e∈x.1.after.toList,Region.binds .any e=true->listed.getD e.on false=true)->
  RunN cx.TI cx.G Hh Sg V VD cx.N ops.toList (items.filter fun x=>!(listed.getD x.2.i true)) σ σe->(items.filter fun x=>!(listed.getD x.2.i true)).length<=fuel->Rel cx m σ a w->
  wpAny cx.P .any ops Q fuel listed a w:=by
 have hops:∀(k:Nat) x,items[k]?=some x->ops[k]?=some x.1:=fun k x hk=>by
  rw[<-Array.getElem?_toList,<-hmap,List.getElem?_map,hk]; rfl
 have hlen:items.length=ops.size:=by have:=congrArg List.length hmap; simpa using this
 have hmem:∀x∈items,∃k:Nat,items[k]?=some x/\x.2.i=k:=fun x hx=>by
  obtain ⟨k,hk⟩:=List.getElem?_of_mem hx;exact ⟨k,hk,hS.idx k x hk⟩
 have hat:∀k,k<ops.size->∃x∈items,x.2.i=k/\items[k]?=some x:=fun k hk=>by
  have:k<items.length:=by omega
  exact ⟨items[k],List.getElem_mem _,hS.idx k _ (List.getElem?_eq_getElem this),List.getElem?_eq_getElem this⟩
 have hsame:∀(listed:Array Bool) (k:Nat),listed.size=ops.size->k<ops.size->listed.getD k true=listed.getD k false:=fun listed k h1 h2=>by
  have:k<listed.size:=by omega
  simp[this]
 have hready:∀(listed:Array Bool),listed.size=ops.size->∀x l,(items.filter fun x=>!(listed.getD x.2.i true))=x::l->x.2.i∈Region.ready .any ops listed:=by
  intro listed hsz x l hl;have hx:x∈items.filter fun x=>!(listed.getD x.2.i true):=by rw[hl]; simp
  rw[List.mem_filter] at hx;obtain ⟨k,hk,hki⟩:=hmem x hx.1;refine mem_ready.2 ⟨by simpa using hx.2,x.1,by rw[hki]; exact hops k x hk,fun e he hb=>?_⟩;have helt:=hS.edge x hx.1 e (Array.mem_toList_iff.2 he) hb;have hklt:k<ops.size:=by have:=hops k x hk; exact (Array.getElem?_eq_some_iff.1 this).1
  obtain ⟨y,hy,hyi,_⟩:=hat e.on (by omega);cases hle:listed.getD e.on true with
  | true=>rw[<-hsame listed _ hsz (by omega)]; exact hle
  | false =>
   exfalso
   have hyr:y∈items.filter fun x=>!(listed.getD x.2.i true):=List.mem_filter.2 ⟨hy,by rw[hyi,hle]; rfl⟩
   rw[hl] at hyr;have hpw:(x::l).Pairwise fun x y=>x.2.i<y.2.i:=by rw[<-hl]; exact hS.lt.filter _
   rcases List.mem_cons.1 hyr with rfl | hyr
   ·omega
   ·have:=(List.pairwise_cons.1 hpw).1 y hyr; omega
 have hfin:∀(listed:Array Bool) (σ:St) (m:Gh) (a:Act) (w:World),listed.size=ops.size->Region.ready .any ops listed=[]->
   RunN cx.TI cx.G Hh Sg V VD cx.N ops.toList (items.filter fun x=>!(listed.getD x.2.i true)) σ σe->Rel cx m σ a w->Q .normal a w:=by
  intro listed σ m a w hsz hr hrun hrel;cases hl:items.filter fun x=>!(listed.getD x.2.i true) with
  | nil=>rw[hl] at hrun; simp only[RunN] at hrun; subst hrun; exact hQ m a w hrel
  | cons x l=>have:=hready listed hsz x l hl; rw[hr] at this; cases this
 intro fuel;induction fuel with
 | zero =>
  intro listed σ m a w hsz hcl hrun hle hrel;have hnil:(items.filter fun x=>!(listed.getD x.2.i true))=[]:=List.eq_nil_of_length_eq_zero (by omega);have hr:Region.ready .any ops listed=[]:=by
   rw[List.eq_nil_iff_forall_not_mem];intro k hk;obtain ⟨h0,o,ho,_⟩:=mem_ready.1 hk;obtain ⟨x,hx,hxi,_⟩:=hat k (Array.getElem?_eq_some_iff.1 ho).1;have:x∈items.filter fun x=>!(listed.getD x.2.i true):=List.mem_filter.2 ⟨hx,by rw[hxi,h0]; rfl⟩
   rw[hnil] at this;cases this
  exact ⟨hr,hfin listed σ m a w hsz hr hrun hrel⟩
 | succ fuel ih =>
  intro listed σ m a w hsz hcl hrun hle hrel;refine ⟨fun hr=>hfin listed σ m a w hsz hr hrun hrel,fun k hk=>?_⟩;obtain ⟨h0,o,ho,hall⟩:=mem_ready.1 hk;have hklt:=(Array.getElem?_eq_some_iff.1 ho).1;obtain ⟨x,hx,hxi,hxk⟩:=hat k hklt;have hxo:x.1=o:=by have:=hops k x hxk; rw[ho] at this; simpa using this.symm
  have hxr:x∈items.filter fun x=>!(listed.getD x.2.i true):=List.mem_filter.2 ⟨hx,by rw[hxi,h0]; rfl⟩
  obtain ⟨l1,l2,hl⟩:=List.append_of_mem hxr;have hpw:(l1++x::l2).Pairwise fun x y=>x.2.i<y.2.i:=by rw[<-hl]; exact hS.lt.filter _
  have hpp:(l1++x::l2).Pairwise fun x y=>y.2.m.testBit x.2.i=true\/QI x.2 y.2=true:=by rw[<-hl]; exact hS.pair.filter _
  have hbits:=hS.clos (fun a=>listed.getD a false=true) hcl x hx (fun e he hb=>hall e (by rw[<-hxo]; exact Array.mem_toList_iff.1 he) hb);have hfree:∀y∈l1,QI y.2 x.2=true:=by
   intro y hy;rcases (List.pairwise_append.1 hpp).2.2 y hy x (by simp) with hb | hb
   ·exfalso
    have hyl:=hbits y.2.i hb;have hyr:y∈items.filter fun x=>!(listed.getD x.2.i true):=by rw[hl]; simp[hy]
    rw[List.mem_filter] at hyr;obtain ⟨k',hk',hk''⟩:=hmem y hyr.1;have hlt':y.2.i<ops.size:=by rw[hk'',<-hlen]; exact (List.getElem?_eq_some_iff.1 hk').1
    rw[hsame listed _ hsz hlt'] at hyr;rw[hyl] at hyr;simp at hyr
   ·exact hb
  rw[hl] at hrun;obtain ⟨e,σ1,r1,r2,_,_,_,_,r7⟩:=RunN.front l1 hrun hfree;rw[hxo] at r1 r2;have hfil:(items.filter fun y=>!((listed.setIfInBounds k true).getD y.2.i true))=l1++l2:=by
   have e1:(items.filter fun y=>!((listed.setIfInBounds k true).getD y.2.i true))=(items.filter fun x=>!(listed.getD x.2.i true)).filter fun y=>decide (y.2.i≠k):=by
    rw[List.filter_filter];apply List.filter_congr;intro y _;by_cases hyk:y.2.i=k
    ·have:k<listed.size:=by omega
     simp[hyk,this]
    ·rw[getD_set_ne true (Ne.symm hyk)]; simp[hyk]
   rw[e1,hl,List.filter_append,List.filter_cons];have q1:l1.filter (fun y=>decide (y.2.i≠k))=l1:=List.filter_eq_self.2 fun y hy=>by
    have:=(List.pairwise_append.1 hpw).2.2 y hy x (by simp);simp; omega
   have q2:l2.filter (fun y=>decide (y.2.i≠k))=l2:=List.filter_eq_self.2 fun y hy=>by
    have:=(List.pairwise_cons.1 (List.pairwise_append.1 hpw).2.1).1 y hy;simp; omega
   rw[q1,q2];simp[hxi]
  refine hW k o σ e σ1 m a w _ ho hrel r1 r2 fun m1 a1 w1 hrel1=>?_
  refine ih (listed.setIfInBounds k true) σ1 m1 a1 w1 (by simpa using hsz) ?_ (by rw[hfil]; exact r7) (by rw[hfil]; rw[hl] at hle; simp at hle ⊢; omega) hrel1;intro y hy hyl e' he' hb';by_cases hyk:y.2.i=k
  ·have:y=x:=by
    obtain ⟨k1,hk1,hk2⟩:=hmem y hy;rw[<-hk2,hyk,hxk] at hk1;simpa using hk1.symm
   subst this;exact getD_set_true (hall e' (by rw[<-hxo]; exact Array.mem_toList_iff.1 he') hb')
  ·rw[getD_set_ne false (Ne.symm hyk)] at hyl
   exact getD_set_true (hcl y hy hyl e' he' hb')
end
end Go.VS
namespace Go.VS
open Go
def CallsTo (P:Program) (f:FuncId) (args:Array Value) (w:World) (R:Value->World->Prop):Prop :=
 (∃v w',(callFunc f args).run P w=.ok (.value v) w'/\R v w') \/
 ((callFunc f args).run P w=.ok (.enter f args) w/\Calls P f args w fun | .returned v,w'=>R v w' | _,_=>False)
def SE (n:Nat):(k:KS)->k.T->Ent
 | .p t,x=>.adr (t.enc x [])
 | k,x=>.d (zcg n k x)
def OwnsR (w:World) (q:Q) (k:Nat) (os:List vG):Prop:=∀j o,os[j]?=some o->∃h,q.m.hd (k+j)=some h/\OwnRep w q h o
def YQ (w:World) (q:Q):(i k:Nat)->(as:List AT)->TA as->List Value->Prop
 | i,k,[],_,[]=>(∀j,i<=j->q.m.blk j=none)/\∀p h,q.m.hd p=some h->p<k
 | i,k,.d a::as,x,v::vs=>q.m.blk i=none/\RE w q (SE k a x.1) v/\OwnsR w q k (tG (.d a) x.1)/\YQ w q (i+1) (k+(tG (.d a) x.1).length) as x.2 vs
 | i,k,.io t ms::as,x,v::vs=>(∃b cs T,q.m.blk i=some b/\v=.pointer (some ⟨b,0,none⟩)/\w.heap[b]?=some (.cells cs T (0,0))/\All2 (RC w q) (unM k ms (t.enc x.1 [])).1 cs.toList) /\
  OwnsR w q k (tG (.io t ms) x.1)/\YQ w q (i+1) (k+(tG (.io t ms) x.1).length) as x.2 vs
 | i,k,.ios t::as,x,v::vs=>q.m.blk i=none/\RE w q (.d (.c (.own k))) v/\OwnsR w q k (tG (.ios t) x.1)/\YQ w q (i+1) (k+1) as x.2 vs
 | _,_,_,_,_=>False
def RetR (w:World) (q:Q):List DV->Value->Prop
 | [d],v=>RD w q d v
 | l,v=>∃vs,v=.tuple vs/\All2 (RD w q) l vs.toList
def zcC (w w':World) (q:Q) (blk:Nat->Option Nat):(i n:Nat)->(as:List AT)->TIo as->Prop
 | _,_,[],_=>True
 | i,n,.d _::as,y=>zcC w w' q blk (i+1) n as y
 | i,n,.ios _::as,y=>zcC w w' q blk (i+1) (n+1) as y.2
 | i,n,.io t ms::as,y=>(∃b cs cs' T,blk i=some b/\w.heap[b]?=some (.cells cs T (0,0))/\w'.heap[b]?=some (.cells cs' T (0,0))/\cs'.size=cs.size/\All2 (RC w' q) (unM n ms (t.enc y.1 [])).1 cs'.toList) /\
  zcC w w' q blk (i+1) (n+(unM 0 ms (t.enc y.1 [])).2.length) as y.2
def IoH (g g1:Gh):(k n:Nat)->(as:List AT)->TA as->TIo as->Prop
 | _,_,[],_,_=>True
 | k,n,.d a::r,x,y=>IoH g g1 (k+(tG (.d a) x.1).length) n r x.2 y
 | k,n,.io t ms::r,x,y=>IoH g g1 (k+(tG (.io t ms) x.1).length) (n+(unM 0 ms (t.enc y.1 [])).2.length) r x.2 y.2
 | k,n,.ios _::r,x,y=>g1.hd n=g.hd k/\IoH g g1 (k+1) (n+1) r x.2 y.2
def Yb (G:Nat->Option vG) (w:World) (Iq:Nat->Prop):Prop :=
 ∀g o,G g=some o->g<w.heap.size/\¬Iq g/\∀i (h:i<o.l.length),∃us,us.length=o.t.size/\wQ w g (0+i*o.t.size) us /\
  ∀w ok okb,RT w ok okb o.t o.l[i] us
def Zj:Gh:=⟨fun _=>none,fun _=>none⟩
def qIn (w:World) (X Iq:Nat->Prop) (g:Gh):Q:=⟨fun b=>b<w.heap.size/\¬X b/\¬Iq b/\¬Mv g b,fun b=>b<w.heap.size/\¬Iq b/\¬Mv g b,g⟩
def XF (w:World) (X Iq:Nat->Prop) (g:Gh):Q:=⟨fun b=>b<w.heap.size/\¬X b/\¬Iq b/\¬Mv g b,fun b=>b<w.heap.size/\¬X b/\¬Iq b/\¬Mv g b,g⟩
def InjM (g:Gh):Prop:=∀p p' h h' b off off',g.hd p=some h->g.hd p'=some h'->h.a=some ⟨b,off,none⟩->0<h.cap->h'.a=some ⟨b,off',none⟩->0<h'.cap->p=p'
structure SM (G:Nat->Option vG) (w:World) (X Iq:Nat->Prop) (g:Gh) (as:List AT) (x:TA as) (vs:List Value):Prop where
 glob:Yb G w Iq
 globm:∀b o,G b=some o->¬Mv g b
 old:∀b,X b\/Iq b->b<w.heap.size
 mv:∀b,Mv g b->b<w.heap.size/\¬X b/\¬Iq b
 io:∀b,Iq b↔∃i,g.blk i=some b
 inj:∀i j b,g.blk i=some b->g.blk j=some b->i=j
 injm:InjM g
 low:∀p h,g.hd p=some h->inN<=p
 args:YQ w (qIn w X Iq g) 0 inN as x vs
structure PostO (w w':World) (X Iq:Nat->Prop) (g:Gh) (s:Sig) (x:TA s.args) (y:s.R) (v:Value) (K:Nat) (g1:Gh):Prop where
 ret:RetR w' (XF w' X Iq g1) (Xo K s.res y.1) v
 ios:zcC w w' (XF w' X Iq g1) g.blk 0 (K+(tm s.res y.1).length) s.args y.2
 own:OwnsR w' (XF w' X Iq g1) K ((tm s.res y.1++Yc s.args y.2).map (·.2))
 low:∀p h,g1.hd p=some h->K<=p/\p<K+(tm s.res y.1++Yc s.args y.2).length
 mv:∀b,Mv g1 b->b<w'.heap.size/\¬X b/\¬Iq b/\(w.heap.size<=b\/Mv g b)
 injm:InjM g1
 ioh:IoH g g1 inN (K+(tm s.res y.1).length) s.args x y.2
structure Post (w w':World) (X Iq:Nat->Prop) (g:Gh) (s:Sig) (x:TA s.args) (y:s.R) (v:Value) (K:Nat):Prop where
 size:w.heap.size<=w'.heap.size
 mem:∀b,b<w.heap.size->¬Iq b->¬Mv g b->w'.heap[b]?=w.heap[b]?
 sz:∀(b:Nat) (cs:Array Value) (T:TypeId),Iq b\/Mv g b->w.heap[b]?=some (Obj.cells cs T (0,0))->∃cs':Array Value,w'.heap[b]?=some (Obj.cells cs' T (0,0))/\cs'.size=cs.size
 os:w'.os=w.os
 tape:w'.tape=w.tape
 output:w'.output=w.output
 out:∃g1,PostO w w' X Iq g s x y v K g1
def uH (P:Program) (G:Nat->Option vG) (f:FuncId) (s:Sig) (x:TA s.args) (y:s.R):Prop :=
 ∀w X Iq g vs K,SM G w X Iq g s.args x vs->CallsTo P f vs.toArray w fun v w'=>Post w w' X Iq g s x y v K
theorem zaD:∀b,¬Mv Zj b:=fun b ⟨_,_,_,h,_⟩=>by simp[Zj] at h
theorem Post.old {w w':World} {X Iq:Nat->Prop} {g:Gh} {s:Sig} {x:TA s.args} {y:s.R} {v:Value} {K:Nat} (hs:w.heap.size<=w'.heap.size) (hm:∀b,b<w.heap.size->w'.heap[b]?=w.heap[b]?)
  (h1:w'.os=w.os) (h2:w'.tape=w.tape) (h3:w'.output=w.output) (hr:RetR w' (XF w' X Iq Zj) (Xo K s.res y.1) v) (ho:tm s.res y.1=[]) (hd:∀a∈s.args,∃k,a=.d k):Post w w' X Iq g s x y v K:=by
 have hn:∀(as:List AT) (y:TIo as),(∀a∈as,∃k,a=.d k)->Yc as y=[]/\∀i n,zcC w w' (XF w' X Iq Zj) g.blk i n as y:=by
  intro as;induction as with
  | nil=>exact fun y _=>⟨rfl,fun _ _=>trivial⟩
  | cons a r ih =>
   intro y h;obtain ⟨k,rfl⟩:=h a (by simp);obtain ⟨i1,i2⟩:=ih y fun a ha=>h a (by simp[ha])
   exact ⟨i1,fun i n=>i2 (i+1) n⟩
 have hh:∀(as:List AT) (x:TA as) (y:TIo as),(∀a∈as,∃k,a=.d k)->∀k n,IoH g Zj k n as x y:=by
  intro as;induction as with
  | nil=>exact fun _ _ _ _ _=>trivial
  | cons a r ih =>
   intro x y h;obtain ⟨k,rfl⟩:=h a (by simp);exact fun k n=>ih x.2 y (fun a ha=>h a (by simp[ha])) _ n
 obtain ⟨n1,n2⟩:=hn _ y.2 hd;exact {
  size:=hs
  mem:=fun b hb _ _=>hm b hb
  sz:=fun b cs T _ hb=>⟨cs,by
   have hlt:b<w.heap.size:=by
    rcases Nat.lt_or_ge b w.heap.size with h' | h'
    ·exact h'
    ·rw[Array.getElem?_eq_none h'] at hb; simp at hb
   rw[hm b hlt]; exact hb,rfl⟩
  os:=h1
  tape:=h2
  output:=h3
  out:=⟨Zj,{
   ret:=hr
   ios:=n2 _ _
   own:=by rw[ho,n1]; intro j o h; simp at h
   low:=fun p h hp=>by simp[Zj] at hp
   mv:=fun b hb=>(zaD b hb).elim
   injm:=fun p p' h h' b off off' hp=>by simp[Zj] at hp
   ioh:=hh _ _ _ hd _ _}⟩}
def vu (m:Gh):Nat->List AT->List Ent->Nat->Option Nat
 | i,.io _ _::as,.loc s _::es,n=>if n=i then m.blk s else vu m (i+1) as es n
 | i,_::as,_::es,n=>vu m (i+1) as es n
 | _,_,_,_=>none
def uB:List Lk->List Nat
 | []=>[]
 | .mp s::r=>s::uB r
 | .ip s::r=>s::uB r
 | _::r=>uB r
def HdP (σ:St) (m:Gh):List Hd->List Nat->Prop
 | [],[]=>True
 | [],_::_=>False
 | h::hs,[]=>h.cap=0/\HdP σ m hs []
 | h::hs,s::ps=>(h.cap=0/\HdP σ m hs (s::ps))\/((∃o hd,σ.own s=.is o/\m.hd s=some hd/\hd.cap=h.cap/\∀b off,h.a=some ⟨b,off,none⟩->0<h.cap->∃off',hd.a=some ⟨b,off',none⟩)/\HdP σ m hs ps)
inductive Sim:C->C->Prop
 | refl (c:C):Sim c c
 | bs (t:Ty) (l:List t.T):Sim (.sl t l) (.bs t l)
 | nil (t:Ty):Sim (.v (.slice none 0 0)) (.sl t [])
 | nilb (t:Ty):Sim (.v (.slice none 0 0)) (.bs t [])
 | fn:Sim (.v .nilFunc) (.fn 0)
 | bnd (t:Ty) (x:t.T):Sim (.v .nilFunc) (.bnd 0 t x)
 | tr (t:Ty):Sim (.v (.pointer none)) (.tr t .nil)
theorem Sim.RC {w:World} {q:Q} (hok:∀b,q.ok b->q.okb b) {c d:C} {v:Value} (h:Sim c d) (hr:RC w q c v):RC w q d v:=by
 cases h with
 | refl=>exact hr
 | bs t l=>exact SlR.mono (fun b hb=>⟨hok b hb,fun _ _ h=>h⟩) (fun _ _ h=>h) hr
 | nil t=>obtain ⟨rfl,_⟩:=hr; exact SlR.nil
 | nilb t=>obtain ⟨rfl,_⟩:=hr; exact SlR.nil
 | fn=>obtain ⟨rfl,_⟩:=hr; rfl
 | bnd t x=>obtain ⟨rfl,_⟩:=hr; exact .inl ⟨rfl,rfl⟩
 | tr t=>obtain ⟨rfl,_⟩:=hr; exact .nil
theorem U8:∀(t:Ty) (x:t.T) (r:List C),t.enc x r=t.enc x []++r
 | .int _,_,_=>rfl
 | .bool,_,_=>rfl
 | .str,_,_=>rfl
 | .fn,_,_=>rfl
 | .sl _,_,_=>rfl
 | .bsl _,_,_=>rfl
 | .pt _,_,_=>rfl
 | .tr _,_,_=>rfl
 | .bnd _,_,_=>rfl
 | .unit,_,_=>rfl
 | .pair a b,x,r=>by
  show a.enc x.1 (b.enc x.2 r)=a.enc x.1 (b.enc x.2 [])++r;rw[U8 a x.1 (b.enc x.2 r),U8 a x.1 (b.enc x.2 []),U8 b x.2 r,List.append_assoc]
theorem dec_sim:∀(t:Ty) (l:List C) (x:t.T) (r:List C),t.dec l=some (x,r)->∃l1,l=l1++r/\All2 Sim l1 (t.enc x []):=by
 intro t;induction t with
 | int k =>
  intro l x r h;unfold Ty.dec QU at h;split at h<;>simp at h;obtain ⟨hk,rfl,rfl⟩:=h;subst hk;exact ⟨[_],rfl,.refl _,trivial⟩
 | bool =>
  intro l x r h;unfold Ty.dec Ta at h;split at h<;>simp at h;obtain ⟨rfl,rfl⟩:=h;exact ⟨[_],rfl,.refl _,trivial⟩
 | str =>
  intro l x r h;unfold Ty.dec QT at h;split at h<;>simp at h;obtain ⟨rfl,rfl⟩:=h;exact ⟨[_],rfl,.refl _,trivial⟩
 | fn =>
  intro l x r h;unfold Ty.dec zdn at h;split at h<;>simp at h
  ·obtain ⟨rfl,rfl⟩:=h; exact ⟨[_],rfl,.refl _,trivial⟩
  ·obtain ⟨rfl,rfl⟩:=h; exact ⟨[_],rfl,.fn,trivial⟩
 | sl t ih =>
  intro l x r h;unfold Ty.dec zdl at h;split at h<;>try simp at h
  ·split at h<;>simp at h
   rename_i hc;obtain ⟨rfl,rfl⟩:=h;obtain ⟨e,e2⟩:=ur hc;subst e; subst e2;exact ⟨[_],rfl,.refl _,trivial⟩
  ·obtain ⟨rfl,rfl⟩:=h; exact ⟨[_],rfl,.nil _,trivial⟩
 | bsl t ih =>
  intro l x r h;unfold Ty.dec QV at h;split at h<;>try simp at h
  ·split at h<;>simp at h
   rename_i hc;obtain ⟨rfl,rfl⟩:=h;obtain ⟨e,e2⟩:=ur hc;subst e; subst e2;exact ⟨[_],rfl,.bs _ _,trivial⟩
  ·split at h<;>simp at h
   rename_i hc;obtain ⟨rfl,rfl⟩:=h;obtain ⟨e,e2⟩:=ur hc;subst e; subst e2;exact ⟨[_],rfl,.refl _,trivial⟩
  ·obtain ⟨rfl,rfl⟩:=h; exact ⟨[_],rfl,.nilb _,trivial⟩
 | pt t ih =>
  intro l x r h;unfold Ty.dec zdm at h;split at h<;>try simp at h
  split at h<;>simp at h;rename_i hc;obtain ⟨rfl,rfl⟩:=h;obtain ⟨e,e2⟩:=Zu hc;subst e; subst e2;exact ⟨[_],rfl,.refl _,trivial⟩
 | bnd t ih =>
  intro l x r h;unfold Ty.dec QW at h;split at h<;>try simp at h
  ·split at h<;>simp at h
   rename_i hc;obtain ⟨rfl,rfl⟩:=h;obtain ⟨e,e2⟩:=Zu hc;subst e; subst e2;exact ⟨[_],rfl,.refl _,trivial⟩
  ·obtain ⟨rfl,rfl⟩:=h; exact ⟨[_],rfl,.bnd _ _,trivial⟩
 | tr t ih =>
  intro l x r h;unfold Ty.dec zdk at h;split at h<;>try simp at h
  ·split at h<;>simp at h
   rename_i hc;obtain ⟨rfl,rfl⟩:=h;obtain ⟨e,e2⟩:=zbi hc;subst e; subst e2;exact ⟨[_],rfl,.refl _,trivial⟩
  ·obtain ⟨rfl,rfl⟩:=h; exact ⟨[_],rfl,.tr _,trivial⟩
 | unit =>
  intro l x r h;unfold Ty.dec at h;simp at h;obtain ⟨_,rfl⟩:=h;exact ⟨[],rfl,trivial⟩
 | pair a b iha ihb =>
  intro l x r h;unfold Ty.dec at h;split at h<;>try simp at h
  rename_i h1;split at h<;>simp at h;rename_i h2;obtain ⟨rfl,rfl⟩:=h;obtain ⟨l1,e1,s1⟩:=iha _ _ _ h1;obtain ⟨l2,e2,s2⟩:=ihb _ _ _ h2;subst e2; subst e1;refine ⟨l1++l2,by simp,?_⟩;show All2 Sim (l1++l2) (a.enc _ (b.enc _ []));rw[U8 a];exact s1.app s2
theorem YM {t:Ty} {l:List C} {x:t.T} (h:t.decA l=some x):All2 Sim l (t.enc x []):=by
 unfold Ty.decA at h;split at h<;>simp at h;rename_i e;subst h;obtain ⟨l1,e1,s1⟩:=dec_sim t _ _ _ e;rw[e1,List.append_nil]; exact s1
def nbC:C->Bool
 | .v _=>true | .fn _=>true | .sl t _=>noB t | .pt t _=>noB t | .tr t _=>noB t | .bnd _ t _=>noB t | _=>false
theorem X0:∀(t:Ty) (x:t.T) (r:List C),noB t=true->(∀c∈r,nbC c=true)->∀c∈t.enc x r,nbC c=true
 | .int _,_,_,h,hr,c,hc=>by rcases List.mem_cons.1 hc with rfl | hc<;>first | rfl | exact hr c hc
 | .bool,_,_,h,hr,c,hc=>by rcases List.mem_cons.1 hc with rfl | hc<;>first | rfl | exact hr c hc
 | .str,_,_,h,hr,c,hc=>by rcases List.mem_cons.1 hc with rfl | hc<;>first | rfl | exact hr c hc
 | .fn,_,_,h,hr,c,hc=>by rcases List.mem_cons.1 hc with rfl | hc<;>first | rfl | exact hr c hc
 | .sl _,_,_,h,hr,c,hc=>by rcases List.mem_cons.1 hc with rfl | hc<;>first | exact h | exact hr c hc
 | .bsl _,_,_,h,hr,c,hc=>by simp[noB] at h
 | .pt _,_,_,h,hr,c,hc=>by rcases List.mem_cons.1 hc with rfl | hc<;>first | exact h | exact hr c hc
 | .tr _,_,_,h,hr,c,hc=>by rcases List.mem_cons.1 hc with rfl | hc<;>first | exact h | exact hr c hc
 | .bnd _,_,_,h,hr,c,hc=>by rcases List.mem_cons.1 hc with rfl | hc<;>first | exact h | exact hr c hc
 | .unit,_,_,h,hr,c,hc=>hr c hc
 | .pair a b,x,r,h,hr,c,hc=>by
  simp only[noB,Bool.and_eq_true] at h;exact X0 a x.1 _ h.1 (X0 b x.2 r h.2 hr) c hc
theorem qw {w w':World} {ok okb ok' okb':Nat->Prop} (h1:∀b,ok b->ok' b/\∀off v,w.cell? ⟨b,off,none⟩=some v->w'.cell? ⟨b,off,none⟩=some v) :
  ∀(t:Ty) (x:t.T) (vs:List Value),noB t=true->RT w ok okb t x vs->RT w' ok' okb' t x vs
 | .int _,_,_,_,h=>h
 | .bool,_,_,_,h=>h
 | .str,_,_,_,h=>h
 | .fn,_,_,_,h=>h
 | .sl t,_,_,hn,⟨v,e,h⟩=>⟨v,e,h.mono h1 (fun x us=>qw h1 t x us hn)⟩
 | .bsl t,_,_,hn,_=>by simp[noB] at hn
 | .tr t,_,_,hn,⟨v,e,h⟩=>⟨v,e,h.mono h1 (fun x us=>qw h1 t x us hn)⟩
 | .pt t,_,_,hn,⟨b,off,us,e,hb,hl,hc,h⟩=>⟨b,off,us,e,(h1 b hb).1,hl,wR (h1 b hb).2 hc,qw h1 t _ _ hn h⟩
 | .bnd t,_,_,hn,h=>h.imp (fun h=>h) fun ⟨f,us,e1,e2,e3⟩=>⟨f,us,e1,e2,qw h1 t _ _ hn e3⟩
 | .unit,_,_,_,h=>h
 | .pair a b,_,_,hn,⟨us,ws,e,p,q⟩=>by
  simp only[noB,Bool.and_eq_true] at hn;exact ⟨us,ws,e,qw h1 a _ _ hn.1 p,qw h1 b _ _ hn.2 q⟩
theorem RC.mono_nb {w:World} {q q':Q} (hq:∀b,q.ok b->q'.ok b):∀{c:C} {v:Value},nbC c=true->RC w q c v->RC w q' c v
 | .v _,_,_,h=>h
 | .sl t _,_,hn,h=>SlR.mono (fun b hb=>⟨hq b hb,fun _ _ h=>h⟩) (fun x us=>qw (fun b hb=>⟨hq b hb,fun _ _ h=>h⟩) t x us hn) h
 | .pt t _,_,hn,⟨b,off,us,e,hb,hl,hc,h⟩=>⟨b,off,us,e,hq b hb,hl,hc,qw (fun b hb=>⟨hq b hb,fun _ _ h=>h⟩) t _ _ hn h⟩
 | .fn _,_,_,h=>h
 | .tr t _,_,hn,h=>TrR.mono (fun b hb=>⟨hq b hb,fun _ _ h=>h⟩) (fun x us=>qw (fun b hb=>⟨hq b hb,fun _ _ h=>h⟩) t x us hn) h
 | .bnd _ t _,_,hn,h=>h.imp (fun h=>h) fun ⟨f,us,e1,e2,e3⟩=>⟨f,us,e1,e2,qw (fun b hb=>⟨hq b hb,fun _ _ h=>h⟩) t _ _ hn e3⟩
 | .bs _ _,_,hn,_=>by simp[nbC] at hn
 | .own _,_,hn,_=>by simp[nbC] at hn
 | .vw _ _ _,_,hn,_=>by simp[nbC] at hn
 | .clo _ _ _,_,hn,_=>by simp[nbC] at hn
 | .clo2 _ _ _ _ _,_,hn,_=>by simp[nbC] at hn
theorem OwnRep.mono_nb {w:World} {q q':Q} {h:Hd} {o:vG} (hq:∀b,q.ok b->q'.ok b) (hn:noB o.t=true) (r:OwnRep w q h o):OwnRep w q' h o:=by
 obtain ⟨l1,l2,l3,l4⟩:=r;refine ⟨l1,l2,l3,fun hc=>?_⟩;obtain ⟨b,off,cs,T,e1,e2,e3,e4⟩:=l4 hc;refine ⟨b,off,cs,T,e1,e2,e3,fun i hi=>?_⟩;obtain ⟨us,u1,u2,u3⟩:=e4 i hi;exact ⟨us,u1,u2,qw (fun b hb=>⟨hq b hb,fun _ _ h=>h⟩) _ _ _ hn u3⟩
theorem zcf {w:World} {q:Q} {n:Nat} {t:Ty} {y:t.T} {v:Value} (h:RT w q.ok q.okb t y [v]):RD w q (zcg n (.c t) y) v:=by
 have h1:=vC h;simp only[zcg];split
 ·rename_i c hc
  rw[hc] at h1;exact h1.1
 ·rename_i hno
  have:=h1.len;simp at this;obtain ⟨c,hc⟩:=List.length_eq_one_iff.1 this;exact absurd hc (hno c)
def hdL (K:Nat) (hs:List Hd) (p:Nat):Option Hd:=if K<=p then hs[p-K]? else none
theorem zc4 {K:Nat} {hs:List Hd} {j:Nat}:hdL K hs (K+j)=hs[j]?:=by simp[hdL]
theorem qL {K:Nat} {hs:List Hd} {p:Nat} {h:Hd} (e:hdL K hs p=some h):∃j,p=K+j/\hs[j]?=some h:=by
 unfold hdL at e;split at e
 ·exact ⟨p-K,by omega,e⟩
 ·cases e
theorem VJ (k n:Nat):∀(ms:List Nat) (l:List C),(unM k ms l).2=(unM n ms l).2
 | [],_=>rfl
 | _::_,[]=>rfl
 | b::ms,c::r=>by
  simp only[unM];cases zbP b c with
  | none=>exact VJ k n ms r
  | some o=>simp only; rw[VJ (k+1) (n+1) ms r]
section
variable {σ:St} {m:Gh}
theorem HdP.app:∀{hs hs':List Hd} {ps ps':List Nat},HdP σ m hs ps->HdP σ m hs' ps'->HdP σ m (hs++hs') (ps++ps')
 | [],_,[],_,_,h=>h
 | [],_,_::_,_,h,_=>h.elim
 | h::hs,hs',[],ps',⟨h0,h1⟩,h2=>by
  have:=HdP.app h1 h2;cases ps' with
  | nil=>exact ⟨h0,this⟩
  | cons=>exact .inl ⟨h0,this⟩
 | h::hs,hs',s::ps,ps',h1,h2=>by
  rcases h1 with ⟨h0,h1⟩ | ⟨h0,h1⟩
  ·exact .inl ⟨h0,h1.app h2⟩
  ·exact .inr ⟨h0,h1.app h2⟩
theorem HdP.at:∀{hs:List Hd} {ps:List Nat},HdP σ m hs ps->∀{j:Nat} {h:Hd} {b off:Nat},hs[j]?=some h->h.a=some ⟨b,off,none⟩->0<h.cap->∃s∈ps,vm σ m (.inr s) b
 | h::hs,[],⟨h0,h1⟩,0,_,b,off,e,ha,hc=>by simp at e; subst e; omega
 | h::hs,[],⟨h0,h1⟩,j+1,_,b,off,e,ha,hc=>h1.at (by simpa using e) ha hc
 | h::hs,s::ps,h1,0,_,b,off,e,ha,hc=>by
  simp at e;subst e;rcases h1 with ⟨h0,_⟩ | ⟨⟨o,hd,e1,e2,e3,e4⟩,_⟩
  ·omega
  ·obtain ⟨off',e5⟩:=e4 b off ha hc
   exact ⟨s,by simp,o,hd,off',e1,e2,e5,by omega⟩
 | h::hs,s::ps,h1,j+1,_,b,off,e,ha,hc=>by
  rcases h1 with ⟨_,h1⟩ | ⟨_,h1⟩
  ·exact h1.at (by simpa using e) ha hc
  ·obtain ⟨r,r1,r2⟩:=h1.at (by simpa using e) ha hc
   exact ⟨r,by simp[r1],r2⟩
theorem HdP.inj (hi:∀s r b,vm σ m (.inr s) b->vm σ m (.inr r) b->s=r):∀{hs:List Hd} {ps:List Nat},ps.Nodup->HdP σ m hs ps->∀{i j:Nat} {h h':Hd} {b off off':Nat},hs[i]?=some h->hs[j]?=some h'->
   h.a=some ⟨b,off,none⟩->0<h.cap->h'.a=some ⟨b,off',none⟩->0<h'.cap->i=j
 | h::hs,ps,hn,h1,0,0,_,_,b,off,off',e,e',ha,hc,ha',hc'=>rfl
 | h::hs,ps,hn,h1,0,j+1,_,_,b,off,off',e,e',ha,hc,ha',hc'=>by
  simp at e;subst e;cases ps with
  | nil=>obtain ⟨h0,_⟩:=h1; omega
  | cons s ps =>
   rcases h1 with ⟨h0,_⟩ | ⟨⟨o,hd,e1,e2,e3,e4⟩,h1⟩
   ·omega
   ·obtain ⟨off2,e5⟩:=e4 b off ha hc
    obtain ⟨r,r1,r2⟩:=h1.at (j:=j) (by simpa using e') ha' hc';have:=hi s r b ⟨o,hd,off2,e1,e2,e5,by omega⟩ r2;subst this;exact absurd r1 (List.nodup_cons.1 hn).1
 | h::hs,ps,hn,h1,i+1,0,_,_,b,off,off',e,e',ha,hc,ha',hc'=>by
  simp at e';subst e';cases ps with
  | nil=>obtain ⟨h0,_⟩:=h1; omega
  | cons s ps =>
   rcases h1 with ⟨h0,_⟩ | ⟨⟨o,hd,e1,e2,e3,e4⟩,h1⟩
   ·omega
   ·obtain ⟨off2,e5⟩:=e4 b off' ha' hc'
    obtain ⟨r,r1,r2⟩:=h1.at (j:=i) (by simpa using e) ha hc;have:=hi s r b ⟨o,hd,off2,e1,e2,e5,by omega⟩ r2;subst this;exact absurd r1 (List.nodup_cons.1 hn).1
 | h::hs,ps,hn,h1,i+1,j+1,_,_,b,off,off',e,e',ha,hc,ha',hc'=>by
  have:i=j:=by
   cases ps with
   | nil=>exact HdP.inj hi hn h1.2 (by simpa using e) (by simpa using e') ha hc ha' hc'
   | cons s ps =>
    rcases h1 with ⟨_,h1⟩ | ⟨_,h1⟩
    ·exact HdP.inj hi hn h1 (by simpa using e) (by simpa using e') ha hc ha' hc'
    ·exact HdP.inj hi (List.nodup_cons.1 hn).2 h1 (by simpa using e) (by simpa using e') ha hc ha' hc'
  omega
theorem HdP.one {h:Hd} {s:Nat} (h1:∃o hd,σ.own s=.is o/\m.hd s=some hd/\hd.cap=h.cap/\∀b off,h.a=some ⟨b,off,none⟩->0<h.cap->∃off',hd.a=some ⟨b,off',none⟩):HdP σ m [h] [s]:=.inr ⟨h1,trivial⟩
theorem qT:∀(l k:List Lk),uB (l++k)=uB l++uB k
 | [],_=>rfl
 | x::l,k=>by cases x<;>simp[uB,qT l k]
theorem ZL {p:Nat}:∀{l:List Lk},p∈uB l↔(.mp p∈l\/.ip p∈l)
 | []=>by simp[uB]
 | x::l=>by
  have:=ZL (p:=p) (l:=l);cases x<;>simp only[uB,List.mem_cons,this,reduceCtorEq,false_or,Lk.mp.injEq,Lk.ip.injEq]
  ·exact or_assoc.symm
  ·exact or_left_comm
theorem ZE {a:Lk}:∀{l:List Lk},Wi a l=true->∀b∈l,Z6 a b=false
 | c::l,h,b,hb=>by
  simp only[Wi,Bool.and_eq_true,Bool.not_eq_true'] at h;rcases List.mem_cons.1 hb with rfl | hb
  ·exact h.1
  ·exact ZE h.2 b hb
theorem Xh:∀{l:List Lk},v7 l=true->(uB l).Nodup
 | [],_=>List.nodup_nil
 | x::l,h=>by
  simp only[v7,Bool.and_eq_true] at h;have ih:=Xh h.2;have hx:=ZE h.1;cases x<;>simp only[uB]<;>try exact ih
  ·rename_i p
   refine List.nodup_cons.2 ⟨fun hm=>?_,ih⟩;rcases ZL.1 hm with hm | hm<;>(have:=hx _ hm; simp[Z6,Lk.key,Lk.x] at this)
  ·rename_i p
   refine List.nodup_cons.2 ⟨fun hm=>?_,ih⟩;rcases ZL.1 hm with hm | hm<;>(have:=hx _ hm; simp[Z6,Lk.key,Lk.x] at this)
theorem zcv (a b:Lk):Z6 a b=Z6 b a:=by
 unfold Z6;rw[Bool.or_comm,show Nat.beq a.key b.key=Nat.beq b.key a.key from by
  cases h:Nat.beq a.key b.key with
  | true=>rw[Nat.eq_of_beq_eq_true h]; simp
  | false=>cases h':Nat.beq b.key a.key with
   | false=>rfl
   | true=>rw[Nat.eq_of_beq_eq_true h'] at h; simp at h]
theorem Z9:∀{l:List Lk},v7 l=true->∀{a b:Lk},a∈l->b∈l->a≠b->Z6 a b=false
 | x::l,h,a,b,ha,hb,hn=>by
  simp only[v7,Bool.and_eq_true] at h;have hx:=ZE h.1;rcases List.mem_cons.1 ha with e1 | h1<;>rcases List.mem_cons.1 hb with e2 | h2
  ·exact absurd (e1.trans e2.symm) hn
  ·rw[e1]; exact hx b h2
  ·rw[zcv,e2]; exact hx a h1
  ·exact Z9 h.2 h1 h2 hn
end
end Go.VS
namespace Go.VS
open Go
section
variable {cx:Cx} {Hh:Hn} {Sg:Nat->Sig} {m:Gh} {σ:St} {a:Act} {w w':World}
theorem X3:∀{as:List AT} {es:List Ent} {i n:Nat},n<i->vu m i as es n=none
 | [],_,_,_,_=>by simp[vu]
 | .io t ms::as,[],_,_,_=>by simp[vu]
 | .ios t::as,[],_,_,_=>by simp[vu]
 | .d k::as,[],_,_,_=>by simp[vu]
 | .d k::as,e::es,i,n,h=>by simp only[vu]; exact X3 (by omega)
 | .ios t::as,e::es,i,n,h=>by simp only[vu]; exact X3 (by omega)
 | .io t ms::as,e::es,i,n,h=>by
  have:=X3 (as:=as) (es:=es) (i:=i+1) (n:=n) (by omega);cases e<;>simp only[vu]<;>first | exact this | skip
  rw[if_neg (by omega)]; exact this
theorem TX {σ:St} {e:Ent} {t:Ty} {ms:List Nat} {x:t.T} {ss:List Lk} (h:vF σ e (.io t ms)=some (x,ss)) :
  ∃s l l' ps,e=.loc s 0/\σ.box s=some (.g l)/\jnM σ ms l=some (l',ps)/\t.decA l'=some x/\ss=.ib s::ps/\noB t=true:=by
 cases e<;>simp only[vF] at h<;>try (simp at h; done)
 rename_i s off;cases h0:Nat.beq off 0 with
 | false=>simp[h0] at h
 | true =>
  simp only[h0,cond_true] at h;have h0:=xW h0;subst h0;split at h<;>try simp at h
  rename_i l hl;split at h<;>try simp at h
  rename_i l' ps hj;split at h<;>try simp at h
  rename_i y hy;cases hn:noB t with
  | false=>simp[hn] at h
  | true =>
   simp[hn] at h;obtain ⟨rfl,rfl⟩:=h;exact ⟨s,l,l',ps,rfl,hl,hj,hy,rfl,rfl⟩
theorem jnC_mp {c c':C} {ps:List Lk} (h:jnC σ c=some (c',ps)):∀x∈ps,∃p,x=.mp p:=by
 unfold jnC at h;split at h<;>try simp at h
 ·obtain ⟨_,rfl⟩:=h; simp
 ·split at h<;>simp at h
  obtain ⟨_,rfl⟩:=h; simp
 ·split at h<;>try simp at h
  rename_i lo _ _ _ _;cases hb:Nat.beq lo 0 with
  | false=>simp[hb] at h
  | true=>simp[hb] at h; obtain ⟨_,rfl⟩:=h; simp
theorem XT:∀{ms:List Nat} {l l':List C} {ps:List Lk},jnM σ ms l=some (l',ps)->∀x∈ps,∃p,x=.mp p
 | [],_,_,_,h=>by simp[jnM] at h; obtain ⟨_,rfl⟩:=h; simp
 | _::_,[],_,_,h=>by simp[jnM] at h; obtain ⟨_,rfl⟩:=h; simp
 | b::ms,c::r,_,_,h=>by
  simp only[jnM] at h;split at h<;>try simp at h
  rename_i r' ps' h1;have ih:=XT h1;cases hb:Nat.beq b 1 with
  | false=>simp[hb] at h; obtain ⟨_,rfl⟩:=h; exact ih
  | true =>
   simp[hb] at h;split at h<;>simp at h;rename_i c' p hc;obtain ⟨_,rfl⟩:=h;intro x hx;rcases List.mem_append.1 hx with hx | hx
   ·exact jnC_mp hc x hx
   ·exact ih x hx
theorem vd {σ:St} {a:AT} {as:List AT} {e:Ent} {es:List Ent} {x:TA (a::as)} {ss:List Lk} (h:wG σ (a::as) (e::es)=some (x,ss)) :
  ∃ss1 ss2,vF σ e a=some (x.1,ss1)/\wG σ as es=some (x.2,ss2)/\ss=ss1++ss2:=by
 simp only[wG] at h;split at h<;>simp at h;rename_i x1 x2 h1 h2;obtain ⟨rfl,rfl⟩:=h;exact ⟨x1.2,x2.2,h1,h2,rfl⟩
theorem YP:∀{as:List AT} {es:List Ent} {x:TA as} {ss:List Lk} {i n b:Nat},wG σ as es=some (x,ss)->vu m i as es n=some b->∃s,.ib s∈ss/\m.blk s=some b/\i<=n
 | [],[],_,_,_,_,_,_,h=>by simp[vu] at h
 | [],_::_,_,_,_,_,_,h,_=>by simp[wG] at h
 | _::_,[],_,_,_,_,_,h,_=>by simp[wG] at h
 | .d k::as,e::es,x,ss,i,n,b,h,hb=>by
  obtain ⟨s1,s2,h1,h2,rfl⟩:=vd h;simp only[vu] at hb;obtain ⟨s,k1,k2,k3⟩:=YP h2 hb;exact ⟨s,by simp[k1],k2,by omega⟩
 | .ios t::as,e::es,x,ss,i,n,b,h,hb=>by
  obtain ⟨s1,s2,h1,h2,rfl⟩:=vd h;simp only[vu] at hb;obtain ⟨s,k1,k2,k3⟩:=YP h2 hb;exact ⟨s,by simp[k1],k2,by omega⟩
 | .io t ms::as,e::es,x,ss,i,n,b,h,hb=>by
  obtain ⟨s1,s2,h1,h2,rfl⟩:=vd h;obtain ⟨s,l,l',ps,rfl,_,_,_,rfl,_⟩:=TX h1;simp only[vu] at hb;split at hb
  ·rename_i hn; exact ⟨s,by simp,hb,by omega⟩
  ·obtain ⟨s,k1,k2,k3⟩:=YP h2 hb
   exact ⟨s,by simp[k1],k2,by omega⟩
theorem Ya:∀{l k:List Lk},v7 (l++k)=true->v7 l=true/\v7 k=true/\∀a b,a∈l->b∈k->Z6 a b=false
 | [],k,h=>⟨rfl,h,fun _ _ h=>by cases h⟩
 | x::l,k,h=>by
  simp only[List.cons_append,v7,Bool.and_eq_true] at h ⊢;have hx:=ZE h.1;have h2:=Ya h.2;have h1:∀{r:List Lk},(∀b∈r,Z6 x b=false)->Wi x r=true:=by
   intro r;induction r with
   | nil=>exact fun _=>rfl
   | cons c r ih=>intro hr; simp only[Wi,hr c (by simp),ih fun b hb=>hr b (by simp[hb])]; rfl
  refine ⟨⟨h1 fun b hb=>hx b (by simp[hb]),h2.1⟩,h2.2.1,fun a b ha hb=>?_⟩;rcases List.mem_cons.1 ha with e | ha
  ·rw[e]; exact hx b (by simp[hb])
  ·exact h2.2.2 a b ha hb
theorem Ws (hi:∀s r b,m.blk s=some b->m.blk r=some b->s=r):∀{as:List AT} {es:List Ent} {x:TA as} {ss:List Lk} {i n n' b:Nat},wG σ as es=some (x,ss)->v7 ss=true->
  vu m i as es n=some b->vu m i as es n'=some b->n=n'
 | [],[],_,_,_,_,_,_,_,_,h,_=>by simp[vu] at h
 | [],_::_,_,_,_,_,_,_,h,_,_,_=>by simp[wG] at h
 | _::_,[],_,_,_,_,_,_,h,_,_,_=>by simp[wG] at h
 | .d k::as,e::es,x,ss,i,n,n',b,h,ha,hb,hb'=>by
  obtain ⟨s1,s2,h1,h2,rfl⟩:=vd h;simp only[vu] at hb hb';exact Ws hi h2 (Ya ha).2.1 hb hb'
 | .ios t::as,e::es,x,ss,i,n,n',b,h,ha,hb,hb'=>by
  obtain ⟨s1,s2,h1,h2,rfl⟩:=vd h;simp only[vu] at hb hb';exact Ws hi h2 (Ya ha).2.1 hb hb'
 | .io t ms::as,e::es,x,ss,i,n,n',b,h,ha,hb,hb'=>by
  obtain ⟨s1,s2,h1,h2,rfl⟩:=vd h;obtain ⟨s,l,l',ps,rfl,_,_,_,rfl,_⟩:=TX h1;have key:∀{n:Nat},m.blk s=some b->vu m (i+1) as es n=some b->False:=fun k1 k2=>by
   obtain ⟨r,r1,r2,_⟩:=YP h2 k2;have:=hi s r b k1 r2;subst this;have:=(Ya ha).2.2 (.ib s) (.ib s) (by simp) r1;simp[Z6,Lk.key,Lk.x] at this
  simp only[vu] at hb hb';split at hb<;>split at hb'
  ·omega
  ·exact (key hb hb').elim
  ·exact (key hb' hb).elim
  ·exact Ws hi h2 (Ya ha).2.1 hb hb'
theorem Q4 (h:Rel cx m σ a w):∀s r b,m.blk s=some b->m.blk r=some b->s=r:=fun s r b h1 h2=>by
 have:=h.inj (.inl s) (.inl r) b h1 h2; simpa using this
theorem Vh (h:Rel cx m σ a w):∀s r b,vm σ m (.inr s) b->vm σ m (.inr r) b->s=r:=fun s r b h1 h2=>by
 have:=h.inj (.inr s) (.inr r) b h1 h2; simpa using this
theorem UH (h:Rel cx m σ a w):∀{ms:List Nat} {l l':List C} {ps:List Lk} {L:List C} {vs:List Value},jnM σ ms l=some (l',ps)->All2 Sim l' L->(∀c∈L,nbC c=true)->
  All2 (RC w (cx.q σ m w)) l vs->∃hs:List Hd,hs.length=(unM 0 ms L).2.length/\HdP σ m hs (uB ps) /\
   ∀(q:Q) (k:Nat),(∀b,(cx.q σ m w).ok b->q.ok b)->(∀j hh,hs[j]?=some hh->q.m.hd (k+j)=some hh)->All2 (RC w q) (unM k ms L).1 vs/\OwnsR w q k (unM 0 ms L).2
 | [],l,l',ps,L,vs,hj,hs,hn,hr=>by
  simp[jnM] at hj;obtain ⟨rfl,rfl⟩:=hj;refine ⟨[],rfl,trivial,fun q k hq _=>⟨?_,fun j o ho=>by simp[unM] at ho⟩⟩;have go:∀{l L:List C} {vs:List Value},All2 Sim l L->(∀c∈L,nbC c=true)->All2 (RC w (cx.q σ m w)) l vs->All2 (RC w q) L vs:=by
   intro l;induction l with
   | nil=>intro L vs h1 _ h2; cases L<;>cases vs<;>simp_all [All2]
   | cons c l ih =>
    intro L vs h1 h2 h3;obtain ⟨d,L',rfl,s1,s2⟩:=h1.cons_left;obtain ⟨v,vs',rfl,r1,r2⟩:=h3.cons_left;exact ⟨RC.mono_nb hq (h2 d (by simp)) (s1.RC (cx.q_ok σ m w) r1),ih s2 (fun c hc=>h2 c (by simp[hc])) r2⟩
  exact go hs hn hr
 | b::ms,[],l',ps,L,vs,hj,hs,hn,hr=>by
  simp[jnM] at hj;obtain ⟨rfl,rfl⟩:=hj;have e1:=hs.nil_left;have e2:=hr.nil_left;subst e1; subst e2;exact ⟨[],rfl,trivial,fun q k _ _=>⟨trivial,fun j o ho=>by simp[unM] at ho⟩⟩
 | b::ms,c::r,l',ps,L,vs,hj,hs,hn,hr=>by
  simp only[jnM] at hj;split at hj<;>try simp at hj
  rename_i r' ps' h1;obtain ⟨v,vs',rfl,r1,r2⟩:=hr.cons_left;cases hb:Nat.beq b 1 with
  | false =>
   simp[hb] at hj;obtain ⟨rfl,rfl⟩:=hj;obtain ⟨d,L',rfl,s1,s2⟩:=hs.cons_left;obtain ⟨hs',e1,e2,e3⟩:=UH h h1 s2 (fun c hc=>hn c (by simp[hc])) r2;have hno:zbP b d=none:=by
    unfold zbP;split
    ·simp at hb
    ·rfl
   refine ⟨hs',by simp only[unM,hno]; exact e1,e2,fun q k hq hk=>?_⟩;obtain ⟨i1,i2⟩:=e3 q k hq hk;simp only[unM,hno];exact ⟨⟨RC.mono_nb hq (hn d (by simp)) (s1.RC (cx.q_ok σ m w) r1),i1⟩,i2⟩
  | true =>
   have hb:=xW hb;subst hb;simp at hj;split at hj<;>simp at hj;rename_i c' p hc;obtain ⟨rfl,rfl⟩:=hj;obtain ⟨d,L',rfl,s1,s2⟩:=hs.cons_left;obtain ⟨hs',e1,e2,e3⟩:=UH h h1 s2 (fun c hc=>hn c (by simp[hc])) r2;have hd:=hn d (by simp);have place:∀(t:Ty) (x:List t.T) (hh:Hd) (s:Nat),d=.sl t x->p=[.mp s]->v=.slice hh.a hh.len hh.cap->OwnRep w (cx.q σ m w) hh ⟨t,x⟩->
     (∃o hd,σ.own s=.is o/\m.hd s=some hd/\hd.cap=hh.cap/\∀b off,hh.a=some ⟨b,off,none⟩->0<hh.cap->∃off',hd.a=some ⟨b,off',none⟩)->
     ∃hs:List Hd,hs.length=(unM 0 (1::ms) (d::L')).2.length/\HdP σ m hs (uB (p++ps')) /\
      ∀(q:Q) (k:Nat),(∀b,(cx.q σ m w).ok b->q.ok b)->(∀j hh,hs[j]?=some hh->q.m.hd (k+j)=some hh)->All2 (RC w q) (unM k (1::ms) (d::L')).1 (v::vs')/\OwnsR w q k (unM 0 (1::ms) (d::L')).2:=by
    intro t x hh s hde hp hv hrep hpl;subst hde;subst hp;have hno:zbP 1 (.sl t x)=some ⟨t,x⟩:=rfl;refine ⟨hh::hs',by simp only[unM,hno,List.length_cons,e1]; rw[VJ 1 0],.inr ⟨hpl,e2⟩,fun q k hq hk=>?_⟩;obtain ⟨i1,i2⟩:=e3 q (k+1) hq fun j h2 hj=>by rw[show k+1+j=k+(j+1) by omega]; exact hk (j+1) h2 (by simpa using hj)
    simp only[unM,hno];refine ⟨⟨⟨hh,by have:=hk 0 hh rfl; simpa using this,hv⟩,i1⟩,fun j o ho=>?_⟩;cases j with
    | zero =>
     simp at ho;subst ho;exact ⟨hh,hk 0 hh rfl,hrep.mono_nb hq hd⟩
    | succ j =>
     rw[VJ (0+1) 0] at ho;obtain ⟨h2,k1,k2⟩:=i2 j o (by simpa using ho);exact ⟨h2,by rw[show k+(j+1)=k+1+j by omega]; exact k1,k2⟩
   unfold jnC at hc;split at hc<;>try simp at hc
   ·obtain ⟨rfl,rfl⟩:=hc
    obtain ⟨hv,_⟩:=r1;subst hv;generalize hcn:C.v (.slice none 0 0)=cn at s1;have hpl:HdP σ m hs' (uB ([]++ps')):=e2;cases s1<;>cases hcn
    ·have hno:zbP 1 (.v (.slice none 0 0))=none:=rfl
     refine ⟨hs',by simp only[unM,hno]; exact e1,hpl,fun q k hq hk=>?_⟩;obtain ⟨i1,i2⟩:=e3 q k hq hk;simp only[unM,hno];exact ⟨⟨⟨rfl,rfl⟩,i1⟩,i2⟩
    ·rename_i t
     have hno:zbP 1 (.sl t [])=some ⟨t,[]⟩:=rfl;have hpl2:HdP σ m (⟨none,0,0,t.size⟩::hs') (uB ([]++ps')):=by
      cases hps:uB ([]++ps') with
      | nil=>rw[hps] at hpl; exact ⟨rfl,hpl⟩
      | cons s r=>rw[hps] at hpl; exact .inl ⟨rfl,hpl⟩
     refine ⟨⟨none,0,0,t.size⟩::hs',by simp only[unM,hno,List.length_cons,e1]; rw[VJ 1 0],hpl2,fun q k hq hk=>?_⟩;obtain ⟨i1,i2⟩:=e3 q (k+1) hq fun j h2 hj=>by rw[show k+1+j=k+(j+1) by omega]; exact hk (j+1) h2 (by simpa using hj)
     simp only[unM,hno];refine ⟨⟨⟨_,by have:=hk 0 _ rfl; simpa using this,rfl⟩,i1⟩,fun j o ho=>?_⟩;cases j with
     | zero =>
      simp at ho;subst ho;exact ⟨_,hk 0 _ rfl,OwnRep.emp t⟩
     | succ j =>
      rw[VJ (0+1) 0] at ho;obtain ⟨h2,k1,k2⟩:=i2 j o (by simpa using ho);exact ⟨h2,by rw[show k+(j+1)=k+1+j by omega]; exact k1,k2⟩
    ·simp[nbC] at hd
   ·rename_i s
    split at hc<;>simp at hc;rename_i ow how;obtain ⟨rfl,rfl⟩:=hc;obtain ⟨hh,g1,g2⟩:=r1;obtain ⟨hh',g3,g4⟩:=h.own s _ how;rw[show (cx.q σ m w).m.hd s=m.hd s from rfl,g3] at g1;simp at g1;subst g1;obtain ⟨t,x⟩:=ow;generalize hcn:C.sl t x=cn at s1;cases s1 with
    | refl =>
     subst hcn;exact place t x hh' s rfl rfl g2 g4 ⟨_,hh',how,g3,rfl,fun b off e _=>⟨off,e⟩⟩
    | bs=>simp[nbC] at hd
    | _=>cases hcn
   ·rename_i s lo hi
    split at hc<;>try simp at hc
    rename_i ow how;cases h0:Nat.beq lo 0 with
    | false=>simp[h0] at hc
    | true =>
    simp[h0] at hc;have h0:=xW h0;subst h0;obtain ⟨rfl,rfl⟩:=hc;obtain ⟨hh,g1,g2,g5,g6⟩:=r1;obtain ⟨hh',g3,g4⟩:=h.own s _ how;rw[show (cx.q σ m w).m.hd s=m.hd s from rfl,g3] at g1;simp at g1;subst g1;obtain ⟨t,x⟩:=ow;generalize hcn:C.sl t (x.take hi)=cn at s1;cases s1 with
    | refl =>
     subst hcn;refine place t (x.take hi) _ s rfl rfl (by rw[g6]; simp only[Nat.sub_zero]) (g4.front g5) ⟨_,hh',how,g3,rfl,fun b off e hc=>?_⟩;simp only at hc;simp only[if_neg (show ¬hh'.cap=0 by omega)] at e;cases ha:hh'.a with
     | none=>rw[ha] at e; simp at e
     | some ad =>
      obtain ⟨b2,o2,cs,T,e2,_⟩:=g4.2.2.2 hc;rw[e2] at ha;simp at ha;subst ha;rw[e2] at e;simp[Zx] at e;exact ⟨o2,by rw[e.1]⟩
    | bs=>simp[nbC] at hd
    | _=>cases hcn
theorem zeo:∀(t:Ty) (l:List C) (x:t.T) (r:List C),t.dec l=some (x,r)->∀c∈l,c∈r\/uX c=true:=by
 intro t;induction t with
 | pair a b iha ihb =>
  intro l x r h c hc;simp only[Ty.dec] at h;split at h<;>try simp at h
  rename_i x1 r1 h1;split at h<;>simp at h;rename_i x2 r2 h2;obtain ⟨_,rfl⟩:=h;rcases iha _ _ _ h1 c hc with hc | hc
  ·exact ihb _ _ _ h2 c hc
  ·exact .inr hc
 | unit=>intro l x r h c hc; simp[Ty.dec] at h; obtain ⟨_,rfl⟩:=h; exact .inl hc
 | _ =>
  intro l x r h c hc;simp only[Ty.dec,QU,Ta,QT,zdn,zdl,QV,zdm,QW,zdk] at h
  (repeat' (split at h))<;>(try simp at h)
  all_goals (first
   | (obtain ⟨_,_,rfl⟩:=h; rcases List.mem_cons.1 hc with rfl | hc<;>first | exact .inr rfl | exact .inl hc)
   | (obtain ⟨_,rfl⟩:=h; rcases List.mem_cons.1 hc with rfl | hc<;>first | exact .inr rfl | exact .inl hc))
theorem th {t:Ty} {l:List C} {x:t.T} (h:t.decA l=some x):∀c∈l,uX c=true:=by
 intro c hc;unfold Ty.decA at h;split at h<;>simp at h;rename_i e;rcases zeo t _ _ _ e c hc with h | h
 ·cases h
 ·exact h
theorem XH {q q':Q} (hq:QLe w w q q'):∀{l:List C} {vs:List Value},(∀c∈l,uX c=true)->All2 (RC w q) l vs->All2 (RC w q') l vs
 | [],[],_,_=>trivial
 | c::l,v::vs,hp,⟨h1,h2⟩=>⟨RC.mono_plain hq (hp c (by simp)) h1,XH hq (fun d hd=>hp d (by simp[hd])) h2⟩
theorem U4 (h:Rel cx m σ a w) {q:Q} (hq:QLe w w (cx.q σ m w) q) {c:C} {v:Value} {ow:vG} (he:qe σ (.d (.c c))=some ow) (hl:∀p,.lp p∈tf [c]->∀b,vm σ m (.inr p) b->q.okb b)
  (hr:RC w (cx.q σ m w) c v):SlR w q.okb ow.t.size (RT w q.ok q.okb ow.t) ow.l v:=by
 cases c<;>simp only[qe] at he<;>try (simp at he; done)
 ·simp at he; subst he
  exact SlR.mono (fun b hb=>⟨(hq.okb b (cx.q_ok σ m w b hb)).1,fun _ _ h=>h⟩) (RT.mono hq.ok hq.okb _) hr
 ·simp at he; subst he
  exact SlR.mono hq.okb (RT.mono hq.ok hq.okb _) hr
 ·rename_i s
  split at he<;>simp at he;rename_i o' ho;subst he;obtain ⟨hd,e1,e2⟩:=hr;obtain ⟨hd',f1,l⟩:=h.own s _ ho;rw[show (cx.q σ m w).m.hd s=m.hd s from rfl,f1] at e1;simp at e1;subst e1;rw[e2];exact SlR.mono (fun b hb=>⟨hb,fun _ _ h=>h⟩) (RT.mono hq.ok hq.okb _) (l.slr fun b off h1 h2=>hl s (by simp[tf]) b ⟨o',hd',off,ho,f1,h1,h2⟩)
 ·rename_i s lo hi
  split at he<;>simp at he;rename_i o' ho;subst he;obtain ⟨hd,e1,e2,e3,e4⟩:=hr;obtain ⟨hd',f1,l⟩:=h.own s _ ho;rw[show (cx.q σ m w).m.hd s=m.hd s from rfl,f1] at e1;simp at e1;subst e1;rw[e4,l.2.1];exact SlR.mono (fun b hb=>⟨hb,fun _ _ h=>h⟩) (RT.mono hq.ok hq.okb _) ((l.slr fun b off h1 h2=>hl s (by simp[tf]) b ⟨o',hd',off,ho,f1,h1,h2⟩).cut e2 (by rw[<-l.1]; exact e3))
theorem lend_ok (h:Rel cx m σ a w) {q:Q} (hq:QLe w w (cx.q σ m w) q) {c:C} {v:Value} (hl:∀p,.lp p∈tf [c]->∀b,vm σ m (.inr p) b->q.okb b)
  (hr:RC w (cx.q σ m w) c v) (hp:uX (Yi σ c)=true):RC w q (Yi σ c) v:=by
 cases c with
 | own s =>
  simp only[Yi] at hp ⊢;split
  ·rename_i ow how
   exact U4 h hq (ow:=ow) (c:=.own s) (by simp only[qe,how]) hl hr
  ·rename_i hno; split at hp<;>simp_all [uX]
 | vw s lo hi =>
  simp only[Yi] at hp ⊢;split
  ·rename_i ow how
   exact U4 h hq (ow:=⟨ow.t,(ow.l.take hi).drop lo⟩) (c:=.vw s lo hi) (by simp only[qe,how]) hl hr
  ·rename_i hno; split at hp<;>simp_all [uX]
 | _=>exact RC.mono_plain hq (by rfl) hr
theorem TR:∀{l:List C} {c:C},c∈l->∀x∈tf [c],x∈tf l
 | d::r,c,hc,x,hx=>by
  rcases List.mem_cons.1 hc with rfl | hc
  ·cases c<;>simp_all [tf]
  ·have:=TR hc x hx
   cases d<;>simp_all [tf]
theorem zaL (h:Rel cx m σ a w) {q:Q} (hq:QLe w w (cx.q σ m w) q):∀{l:List C} {vs:List Value},(∀p,.lp p∈tf l->∀b,vm σ m (.inr p) b->q.okb b)->(∀c∈l,uX (Yi σ c)=true)->
  All2 (RC w (cx.q σ m w)) l vs->All2 (fun c b=>RC w q (Yi σ c) b) l vs
 | [],[],_,_,_=>trivial
 | [],_::_,_,_,h=>h.elim
 | _::_,[],_,_,h=>h.elim
 | c::l,v::vs,hlp,hp,⟨r1,r2⟩=>⟨lend_ok h hq (fun p hp'=>hlp p (TR (by simp) _ hp')) r1 (hp c (by simp)),
   zaL h hq (fun p hp'=>hlp p (by cases c<;>simp_all [tf])) (fun d hd=>hp d (by simp[hd])) r2⟩
theorem uS:∀(l:List C),uB (tf l)=[]/\tu (tf l)=[]/\tv (tf l)=[]/\YH (tf l)=[]
 | []=>⟨rfl,rfl,rfl,rfl⟩
 | c::r=>by
  have:=uS r;cases c<;>simp_all [tf,uB,tu,tv,YH]
theorem ZM:∀{l:List Lk},(∀x∈l,∃p,x=.mp p)->tu l=[]/\tv l=[]/\YH l=uB l
 | [],_=>⟨rfl,rfl,rfl⟩
 | x::r,h=>by
  obtain ⟨p,rfl⟩:=h x (by simp);obtain ⟨h1,h2,h3⟩:=ZM (l:=r) fun y hy=>h y (by simp[hy])
  simp[tu,tv,YH,uB,h1,h2,h3]
theorem zcy (h:Rel cx m σ a w) {k:KS} {e:Ent} {v:Value} {x:k.T} {ss:List Lk} (hr:vF σ e (.d k)=some (x,ss)) (he:RE w (cx.q σ m w) e v) :
  tu ss=[]/\tv ss=[]/\YH ss=uB ss/\∃hs:List Hd,hs.length=(tG (.d k) x).length/\HdP σ m hs (uB ss)/\∀(q:Q) (n:Nat),QLe w w (cx.q σ m w) q->(∀b,q.ok b->q.okb b)->(∀j hh,hs[j]?=some hh->q.m.hd (n+j)=some hh)->
   (∀p,.lp p∈ss->∀b,vm σ m (.inr p) b->q.okb b)->(∀s,.lb s∈ss->∀b,m.blk s=some b->q.okb b)->RE w q (SE n k x) v/\OwnsR w q n (tG (.d k) x):=by
 have none_:∀(q:Q) n,OwnsR w q n ([]:List vG):=fun q n j o ho=>by simp at ho
 cases k with
 | c t =>
  simp only[vF] at hr;split at hr<;>try simp at hr
  rename_i c;split at hr<;>simp at hr;rename_i y hy;obtain ⟨rfl,rfl⟩:=hr;refine ⟨rfl,rfl,rfl,[],rfl,trivial,fun q n hq hok _ _ _=>⟨?_,none_ q n⟩⟩;have hp:=th hy c (by simp);have h1:All2 (RC w q) [c] [v]:=⟨RC.mono_plain hq hp he,trivial⟩;exact zcf (uy hok hy h1)
 | b t =>
  simp only[vF] at hr;split at hr
  ·simp at hr
   obtain ⟨rfl,rfl⟩:=hr;refine ⟨rfl,rfl,rfl,[],rfl,trivial,fun q n hq hok _ _ _=>⟨?_,none_ q n⟩⟩;obtain ⟨e1,_⟩:=he.v_eq;subst e1;exact SlR.nil
  ·rename_i s lo hi
   split at hr<;>try simp at hr
   rename_i ow how;split at hr<;>simp at hr;rename_i l hl;obtain ⟨rfl,rfl⟩:=hr;refine ⟨rfl,rfl,rfl,[],rfl,trivial,fun q n hq hok _ hlp _=>⟨?_,none_ q n⟩⟩;obtain ⟨e1,e2⟩:=ur hl;have:=U4 h hq (c:=.vw s lo hi) (ow:=⟨ow.t,(ow.l.take hi).drop lo⟩) (by simp only[qe,how]) (by simpa [tf] using hlp) he;obtain ⟨t0,l0⟩:=ow;simp only at e1 e2;subst e1;simp only at e2;subst e2;exact this
  ·rename_i c _ _
   split at hr<;>try simp at hr
   rename_i ow how;split at hr<;>simp at hr;rename_i l hl;obtain ⟨rfl,rfl⟩:=hr;refine ⟨(uS _).2.1,(uS _).2.2.1,by rw[(uS _).2.2.2,(uS _).1],[],rfl,by rw[(uS _).1]; trivial,fun q n hq hok _ hlp _=>⟨?_,none_ q n⟩⟩;obtain ⟨e1,e2⟩:=ur hl;have:=U4 h hq how hlp he;obtain ⟨t0,l0⟩:=ow;simp only at e1 e2;subst e1;simp only at e2;subst e2;exact this
  ·simp at hr
 | g t =>
  simp only[vF] at hr;split at hr<;>try simp at hr
  rename_i l;split at hr<;>simp at hr;rename_i y hy;obtain ⟨rfl,rfl⟩:=hr;refine ⟨(uS _).2.1,(uS _).2.2.1,by rw[(uS _).2.2.2,(uS _).1],[],rfl,by rw[(uS _).1]; trivial,fun q n hq hok _ hlp _=>⟨?_,none_ q n⟩⟩;obtain ⟨cs,e1,e2⟩:=he;have hp:=th hy;have h1:All2 (RC w q) (l.map (Yi σ)) cs.toList:=All2.map_left.2 (zaL h hq hlp (fun c hc=>hp _ (List.mem_map.2 ⟨c,hc,rfl⟩)) e2);exact ⟨cs,e1,vC (uy hok hy h1)⟩
 | a k =>
  simp only[vF] at hr;split at hr<;>try simp at hr
  obtain ⟨rfl,rfl,rfl⟩:=hr;exact ⟨rfl,rfl,rfl,[],rfl,trivial,fun q n hq hok _ _ _=>⟨he,none_ q n⟩⟩
 | p t =>
  simp only[vF] at hr;split at hr<;>try simp at hr
  ·rename_i l
   split at hr<;>simp at hr;rename_i y hy;obtain ⟨rfl,rfl⟩:=hr;refine ⟨rfl,rfl,rfl,[],rfl,trivial,fun q n hq hok _ _ _=>⟨?_,none_ q n⟩⟩;obtain ⟨b,off,vs,e1,e2,e3,e4,e5⟩:=he;exact ⟨b,off,vs,e1,(hq.okb b e2).1,e3,vC (uy hok hy (XH hq e5 e4)),u9 _ _ _ (by simp)⟩
  ·rename_i s off
   cases h0:Nat.beq off 0 with
   | false=>simp[h0] at hr
   | true =>
    simp only[h0,cond_true] at hr;have h0:=xW h0;subst h0;split at hr<;>try simp at hr
    rename_i l hl;split at hr<;>simp at hr;rename_i y hy;obtain ⟨rfl,rfl⟩:=hr;refine ⟨rfl,rfl,rfl,[],rfl,trivial,fun q n hq hok _ _ hlb=>⟨?_,none_ q n⟩⟩;obtain ⟨b,hb,ev⟩:=he;have hb:m.blk s=some b:=hb;obtain ⟨b',cs,T,k1,k2,k3⟩:=h.box s _ hl;rw[hb] at k1;simp at k1;subst k1;exact ⟨b,0,cs.toList,ev,hlb s (by simp) b hb,vr k2,vC (uy hok hy (XH hq (th hy) k3)),u9 _ _ _ (by simp)⟩
 | cl t =>
  simp only[vF] at hr;split at hr<;>try simp at hr
  rename_i f t' y';split at hr<;>simp at hr;rename_i y hy;obtain ⟨rfl,rfl⟩:=hr;refine ⟨rfl,rfl,rfl,[],rfl,trivial,fun q n hq hok _ _ _=>⟨?_,none_ q n⟩⟩;obtain ⟨e1,e2⟩:=Zu hy;subst e1;subst e2;exact RC.mono_plain (c:=.clo f t' y') hq rfl he
 | os t =>
  simp only[vF] at hr;split at hr<;>try simp at hr
  rename_i c;split at hr<;>try simp at hr
  rename_i l' ps hj;split at hr<;>try simp at hr
  rename_i y hy;cases hn:noB t with
  | false=>simp[hn] at hr
  | true =>
  simp[hn] at hr;obtain ⟨rfl,rfl⟩:=hr;obtain ⟨m1,m2,m3⟩:=ZM (XT hj);obtain ⟨hs,e1,e2,e3⟩:=UH h hj (YM hy) (X0 (.sl t) y [] hn (by simp)) (vs:=[v]) (⟨he,trivial⟩:All2 (RC w (cx.q σ m w)) [c] [v]);refine ⟨m1,m2,m3,hs,e1,e2,fun q n hq _ hk _ _=>?_⟩;obtain ⟨i1,i2⟩:=e3 q n (fun b hb=>(hq.ok b hb).1) hk;exact ⟨(show RC w q (.own n) v/\_ from i1).1,i2⟩
 | og t ms =>
  simp only[vF] at hr;split at hr<;>try simp at hr
  rename_i l;split at hr<;>try simp at hr
  rename_i l' ps hj;split at hr<;>try simp at hr
  rename_i y hy;cases hn:noB t with
  | false=>simp[hn] at hr
  | true =>
  simp[hn] at hr;obtain ⟨rfl,rfl⟩:=hr;obtain ⟨m1,m2,m3⟩:=ZM (XT hj);obtain ⟨cs,c1,c2⟩:=he;obtain ⟨hs,e1,e2,e3⟩:=UH h hj (YM hy) (X0 t y [] hn (by simp)) c2;refine ⟨m1,m2,m3,hs,e1,e2,fun q n hq _ hk _ _=>?_⟩;obtain ⟨i1,i2⟩:=e3 q n (fun b hb=>(hq.ok b hb).1) hk;exact ⟨⟨cs,c1,i1⟩,i2⟩
 | _=>simp[vF] at hr
theorem QE {σ:St} {e:Ent} {t:Ty} {x:List t.T} {ss:List Lk} (h:vF σ e (.ios t)=some (x,ss)):∃s,e=.d (.c (.own s))/\σ.own s=.is ⟨t,x⟩/\ss=[.ip s]/\noB t=true:=by
 simp only[vF] at h;split at h<;>try simp at h
 rename_i s;split at h<;>try simp at h
 rename_i o ho;split at h<;>try simp at h
 rename_i l hl;cases hn:noB t with
 | false=>simp[hn] at h
 | true =>
 simp[hn] at h;obtain ⟨rfl,rfl⟩:=h;obtain ⟨e1,e2⟩:=ur hl;obtain ⟨t0,l0⟩:=o;simp only at e1 e2;subst e1;simp only at e2;subst e2;exact ⟨s,rfl,ho,rfl,rfl⟩
def IoP (m g:Gh):(k:Nat)->(as:List AT)->TA as->List Nat->Prop
 | _,[],_,ps=>ps=[]
 | k,.ios _::r,x,ps=>∃p ps',ps=p::ps'/\g.hd k=m.hd p/\IoP m g (k+1) r x.2 ps'
 | k,.d b::r,x,ps=>IoP m g (k+(tG (.d b) x.1).length) r x.2 ps
 | k,.io t ms::r,x,ps=>IoP m g (k+(tG (.io t ms) x.1).length) r x.2 ps
theorem YJ:∀(l k:List Lk),tu (l++k)=tu l++tu k
 | [],_=>rfl
 | x::l,k=>by cases x<;>simp[tu,YJ l k]
theorem Wn:∀(l k:List Lk),tv (l++k)=tv l++tv k
 | [],_=>rfl
 | x::l,k=>by cases x<;>simp[tv,Wn l k]
theorem Td (h:Rel cx m σ a w):∀{as:List AT} {es:List Ent} {vs:List Value} {x:TA as} {ss:List Lk},wG σ as es=some (x,ss)->All2 (RE w (cx.q σ m w)) es vs->
  ∃hs:List Hd,HdP σ m hs (uB ss)/\∀(q:Q) (i k:Nat),QLe w w (cx.q σ m w) q->(∀b,q.ok b->q.okb b)->(∀j hh,hs[j]?=some hh->q.m.hd (k+j)=some hh)->
   (∀p,.lp p∈ss->∀b,vm σ m (.inr p) b->q.okb b)->(∀s,.lb s∈ss->∀b,m.blk s=some b->q.okb b)->(∀n,i<=n->q.m.blk n=vu m i as es n)->(∀p hh,q.m.hd p=some hh->p<k+hs.length)->
   YQ w q i k as x vs/\IoP m q.m k as x (tu ss)
 | [],[],[],_,_,hr,_=>by
  simp[wG] at hr;obtain ⟨_,rfl⟩:=hr;refine ⟨[],trivial,fun q i k _ _ _ _ _ hb hk=>⟨⟨fun j hj=>by rw[hb j hj]; simp[vu],fun p hh hp=>by have:=hk p hh hp; simpa using this⟩,rfl⟩⟩
 | [],[],_::_,_,_,_,h=>h.elim
 | [],_::_,_,_,_,h,_=>by simp[wG] at h
 | _::_,[],_,_,_,h,_=>by simp[wG] at h
 | _::_,_::_,[],_,_,_,h=>h.elim
 | .d c::as,e::es,v::vs,x,ss,hr,⟨he,hes⟩=>by
  obtain ⟨s1,s2,h1,h2,rfl⟩:=vd hr;obtain ⟨m1,_,_,hs1,a1,a2,a3⟩:=zcy h h1 he;obtain ⟨hs2,b2,b3⟩:=Td h h2 hes;refine ⟨hs1++hs2,by rw[qT]; exact a2.app b2,fun q i k hq hok hk hlp hlb hb hu=>?_⟩;obtain ⟨i1,i2⟩:=a3 q k hq hok (fun j hh hj=>hk j hh (by rw[List.getElem?_append_left ((List.getElem?_eq_some_iff.1 hj).1)]; exact hj)) (fun p hp=>hlp p (by simp[hp])) (fun p hp=>hlb p (by simp[hp]));obtain ⟨j1,j2⟩:=b3 q (i+1) (k+hs1.length) hq hok (fun j hh hj=>by rw[Nat.add_assoc]; exact hk _ hh (by rw[List.getElem?_append_right (by omega)]; simpa using hj)) (fun p hp=>hlp p (by simp[hp])) (fun p hp=>hlb p (by simp[hp]))
   (fun n hn=>by rw[hb n (by omega)]; simp only[vu]) (fun p hh hp=>by have:=hu p hh hp; simp at this; omega)
  rw[a1] at j1 j2;refine ⟨⟨?_,i1,i2,j1⟩,?_⟩
  ·rw[hb i (Nat.le_refl _)]; simp only[vu]; exact X3 (by omega)
  ·rw[YJ,m1]; exact j2
 | .ios t::as,e::es,v::vs,x,ss,hr,⟨he,hes⟩=>by
  obtain ⟨s1,s2,h1,h2,rfl⟩:=vd hr;obtain ⟨s,rfl,how,rfl,hn⟩:=QE h1;obtain ⟨hs2,b2,b3⟩:=Td h h2 hes;obtain ⟨hh,g1,g2⟩:=he;obtain ⟨hh',g3,g4⟩:=h.own s _ how;rw[show (cx.q σ m w).m.hd s=m.hd s from rfl,g3] at g1;simp at g1;subst g1;refine ⟨hh'::hs2,.inr ⟨⟨_,hh',how,g3,rfl,fun b off e _=>⟨off,e⟩⟩,b2⟩,fun q i k hq hok hk hlp hlb hb hu=>?_⟩;have hk0:=hk 0 hh' rfl;obtain ⟨j1,j2⟩:=b3 q (i+1) (k+1) hq hok (fun j hh hj=>by rw[show k+1+j=k+(j+1) by omega]; exact hk (j+1) hh (by simpa using hj)) (fun p hp=>hlp p (by simp[hp])) (fun p hp=>hlb p (by simp[hp]))
   (fun n hn=>by rw[hb n (by omega)]; simp only[vu]) (fun p hh hp=>by have:=hu p hh hp; simp at this; omega)
  refine ⟨⟨?_,⟨hh',hk0,g2⟩,fun j o ho=>?_,j1⟩,⟨s,_,rfl,by rw[show q.m.hd k=some hh' from hk0,g3],j2⟩⟩
  ·rw[hb i (Nat.le_refl _)]; simp only[vu]; exact X3 (by omega)
  ·cases j with
   | zero=>simp[tG] at ho; subst ho; exact ⟨hh',hk0,g4.mono_nb (fun b hb=>(hq.ok b hb).1) hn⟩
   | succ j=>simp[tG] at ho
 | .io t ms::as,e::es,v::vs,x,ss,hr,⟨he,hes⟩=>by
  obtain ⟨s1,s2,h1,h2,rfl⟩:=vd hr;obtain ⟨s,l,l',ps,rfl,hl,hj,hy,rfl,hn⟩:=TX h1;obtain ⟨b,hbk,ev⟩:=he;have hbk:m.blk s=some b:=hbk;obtain ⟨b',cs,T,k1,k2,k3⟩:=h.box s _ hl;rw[hbk] at k1;simp at k1;subst k1;obtain ⟨hs1,a1,a2,a3⟩:=UH h hj (YM hy) (X0 t x.1 [] hn (by simp)) k3;obtain ⟨hs2,b2,b3⟩:=Td h h2 hes;refine ⟨hs1++hs2,by rw[qT]; exact a2.app b2,fun q i k hq hok hk hlp hlb hb hu=>?_⟩;obtain ⟨i1,i2⟩:=a3 q k (fun b hb=>(hq.ok b hb).1) (fun j hh hj=>hk j hh (by rw[List.getElem?_append_left ((List.getElem?_eq_some_iff.1 hj).1)]; exact hj));obtain ⟨j1,j2⟩:=b3 q (i+1) (k+hs1.length) hq hok (fun j hh hj=>by rw[Nat.add_assoc]; exact hk _ hh (by rw[List.getElem?_append_right (by omega)]; simpa using hj)) (fun p hp=>hlp p (by simp[hp])) (fun p hp=>hlb p (by simp[hp]))
   (fun n hn=>by rw[hb n (by omega)]; simp only[vu]; rw[if_neg (by omega)]) (fun p hh hp=>by have:=hu p hh hp; simp at this; omega)
  rw[a1] at j1 j2;refine ⟨⟨⟨b,cs,T,?_,ev,k2,i1⟩,i2,j1⟩,?_⟩
  ·rw[hb i (Nat.le_refl _)]; simp only[vu,if_true]; exact hbk
  ·rw[YJ,show tu (.ib s::ps)=[] from (ZM (XT hj)).1]; exact j2
def Xp (cx:Cx) (σ:St) (m g:Gh) (b:Nat):Prop:=(cx.X b\/cx.Iq b\/Xl σ m b)/\¬Mv g b
def qP (blk:Nat->Option Nat) (b:Nat):Prop:=∃i,blk i=some b
theorem zbl (h:Rel cx m σ a w) {as:List AT} {es:List Ent} {x:TA as} {ss:List Lk} {i:Nat} (hr:wG σ as es=some (x,ss)) {b:Nat} (hb:qP (vu m i as es) b) :
  ∃s,.ib s∈ss/\m.blk s=some b:=by
 obtain ⟨n,hn⟩:=hb;obtain ⟨s,h1,h2,_⟩:=YP hr hn;exact ⟨s,h1,h2⟩
theorem zg5 (hG:ul cx) (h:Rel cx m σ a w) {as:List AT} {es:List Ent} {vs:List Value} {x:TA as} {ss:List Lk} (hr:wG σ as es=some (x,ss)) (hap:v7 ss=true)
  (he:All2 (RE w (cx.q σ m w)) es vs):∃g:Gh,g.blk=vu m 0 as es/\(∀b,Mv g b->∃p∈uB ss,vm σ m (.inr p) b)/\IoP m g inN as x (tu ss) /\
   SM cx.G w (Xp cx σ m g) (qP (vu m 0 as es)) g as x vs:=by
 obtain ⟨hs,hp,hall⟩:=Td h hr he;let g:Gh:=⟨vu m 0 as es,hdL inN hs⟩
 have hmv:∀b,Mv g b->∃p∈uB ss,vm σ m (.inr p) b:=by
  intro b ⟨p,hh,off,h1,h2,h3⟩;obtain ⟨j,_,hj⟩:=qL h1;exact hp.at hj h2 h3
 have hio:∀b,qP (vu m 0 as es) b->∃s,.ib s∈ss/\m.blk s=some b:=fun b hb=>zbl h hr hb
 have hq:QLe w w (cx.q σ m w) (qIn w (Xp cx σ m g) (qP (vu m 0 as es)) g):={
  ok:=fun b hb=>⟨⟨hb.1,fun hx=>by
   rcases hx.1 with hx | hx | hx
   ·exact hb.2.2.1 hx
   ·exact hb.2.2.2 hx
   ·exact hb.2.1 hx,fun hi=>by obtain ⟨s,_,hs⟩:=hio b hi; exact hb.2.1 ⟨.inl s,hs⟩,fun hm=>by obtain ⟨p,_,hp⟩:=hmv b hm; exact hb.2.1 ⟨.inr p,hp⟩⟩,fun _ _ h=>h⟩
  okb:=fun b hb=>⟨⟨hb.1,fun hi=>by obtain ⟨s,_,hs⟩:=hio b hi; exact hb.2.1 ⟨.inl s,hs⟩,fun hm=>by obtain ⟨p,_,hp⟩:=hmv b hm; exact hb.2.1 ⟨.inr p,hp⟩⟩,fun _ _ h=>h⟩}
 have hlp:∀p,.lp p∈ss->∀b,vm σ m (.inr p) b->(qIn w (Xp cx σ m g) (qP (vu m 0 as es)) g).okb b:=by
  intro p hps b hb;refine ⟨(h.dom _ b hb).1,fun hi=>?_,fun hm=>?_⟩
  ·obtain ⟨s,_,hs⟩:=hio b hi
   have:=h.inj _ _ b hb (show vm σ m (.inl s) b from hs); simp at this
  ·obtain ⟨p',p1,p2⟩:=hmv b hm
   have:=Vh h p p' b hb p2;subst this;rcases ZL.1 p1 with h' | h'<;>(have:=Z9 hap hps h' (by simp); simp[Z6,Lk.key,Lk.x] at this)
 have hlb:∀s,.lb s∈ss->∀b,m.blk s=some b->(qIn w (Xp cx σ m g) (qP (vu m 0 as es)) g).okb b:=by
  intro s hs b hb;refine ⟨(h.dom (.inl s) b hb).1,fun hi=>?_,fun hm=>?_⟩
  ·obtain ⟨r,hr1,hr2⟩:=hio b hi
   have:=Q4 h s r b hb hr2;subst this;have:=Z9 hap hs hr1 (by simp);simp[Z6,Lk.key,Lk.x] at this
  ·obtain ⟨p',_,p2⟩:=hmv b hm
   have:=h.inj (.inl s) _ b hb p2; simp at this
 obtain ⟨hA,hI⟩:=hall (qIn w (Xp cx σ m g) (qP (vu m 0 as es)) g) 0 inN hq (fun b hb=>⟨hb.1,hb.2.2.1,hb.2.2.2⟩) (fun j hh hj=>by show hdL inN hs (inN+j)=some hh; rw[zc4]; exact hj) hlp hlb (fun _ _=>rfl)
  (fun p hh hp=>by obtain ⟨j,e,hj⟩:=qL hp; have:=(List.getElem?_eq_some_iff.1 hj).1; omega)
 refine ⟨g,rfl,hmv,hI,?_⟩;exact {
  glob:=fun b o hg=>by
   obtain ⟨h1,h2,h3⟩:=hG.at_ b o hg;refine ⟨Nat.lt_of_lt_of_le h1 h.grown,fun hi=>?_,fun i hi=>?_⟩
   ·obtain ⟨s,_,hs⟩:=hio b hi
    rcases (h.dom (.inl s) b hs).2 with h' | h'
    ·rcases h'.2.2 with h' | h'
     ·omega
     ·exact hG.mv b o hg h'
    ·exact h2 h'.1
   ·obtain ⟨us,u1,u2,u3⟩:=h3 i hi
    exact ⟨us,u1,wR (fun off v hv=>by rw[tO (h.mem b h1 h2 (hG.mv b o hg))]; exact hv) u2,u3⟩
  globm:=fun b o hg hm=>by
   obtain ⟨h1,h2,h3⟩:=hG.at_ b o hg;obtain ⟨p,_,hp⟩:=hmv b hm;rcases (h.newOf hp).2.2 with h' | h'
   ·omega
   ·exact hG.mv b o hg h'
  old:=fun b hb=>by
   rcases hb with ⟨hb | hb | ⟨p,hp⟩,_⟩ | hb
   ·exact Nat.lt_of_lt_of_le (h.oldX b (.inl hb)) h.grown
   ·exact Nat.lt_of_lt_of_le (h.oldX b (.inr hb)) h.grown
   ·exact (h.dom p b hp).1
   ·obtain ⟨s,_,hs⟩:=hio b hb
    exact (h.dom (.inl s) b hs).1
  mv:=fun b hm=>by
   obtain ⟨p,_,hp⟩:=hmv b hm;refine ⟨(h.dom _ b hp).1,fun hx=>hx.2 hm,fun hi=>?_⟩;obtain ⟨s,_,hs⟩:=hio b hi;have:=h.inj (.inl s) _ b hs hp; simp at this
  io:=fun b=>Iff.rfl
  inj:=fun i j b h1 h2=>Ws (Q4 h) hr hap h1 h2
  injm:=fun p p' hh hh' b off off' h1 h2 h3 h4 h5 h6=>by
   obtain ⟨j,e,hj⟩:=qL h1;obtain ⟨j',e',hj'⟩:=qL h2;have:=hp.inj (Vh h) (Xh hap) hj hj' h3 h4 h5 h6;omega
  low:=fun p hh hp=>by obtain ⟨j,e,_⟩:=qL hp; omega
  args:=hA}
end
end Go.VS
namespace Go.VS
open Go
section
variable {cx:Cx} {Hh:Hn} {Sg:Nat->Sig} {m:Gh} {σ:St} {a:Act} {w w':World}
theorem Rx {s:Nat}:∀{l:List Lk},s∈tv l↔.ib s∈l
 | []=>by simp[tv]
 | x::l=>by
  have:=Rx (s:=s) (l:=l);cases x<;>simp[tv,this]
theorem Ub {s:Nat}:∀{l:List Lk},s∈tu l↔.ip s∈l
 | []=>by simp[tu]
 | x::l=>by
  have:=Ub (s:=s) (l:=l);cases x<;>simp[tu,this]
theorem V7 {s:Nat}:∀{l:List Lk},s∈YH l↔.mp s∈l
 | []=>by simp[YH]
 | x::l=>by
  have:=V7 (s:=s) (l:=l);cases x<;>simp[YH,this]
theorem Qr (h:Rel cx m σ a w) {q:Q} {blk:Nat->Option Nat}:∀{as:List AT} {es:List Ent} {vs:List Value} {x:TA as} {ss:List Lk} {i n:Nat} {y:TIo as},wG σ as es=some (x,ss)->All2 (RE w (cx.q σ m w)) es vs->zcC w w' q blk i n as y->
  (∀r,i<=r->blk r=vu m i as es r)->
  (∀p z,uY ((tv ss).zip (Zt n as y)) p=some z->∃b cs cs' T L,m.blk p=some b/\w.heap[b]?=some (Obj.cells cs T (0,0))/\w'.heap[b]?=some (Obj.cells cs' T (0,0))/\cs'.size=cs.size /\
   z=some (.g L)/\All2 (RC w' q) L cs'.toList) /\
  (∀p,.ib p∈ss->∃z,uY ((tv ss).zip (Zt n as y)) p=some z)
 | [],[],_,x,ss,i,n,y,hr,_,_,_=>by
  simp[wG] at hr;obtain ⟨_,rfl⟩:=hr;exact ⟨fun p z h=>by simp[tv,uY] at h,fun p h=>by cases h⟩
 | [],_::_,_,_,_,_,_,_,h,_,_,_=>by simp[wG] at h
 | _::_,[],_,_,_,_,_,_,h,_,_,_=>by simp[wG] at h
 | _::_,_::_,[],_,_,_,_,_,_,h,_,_=>h.elim
 | .d k::as,e::es,v::vs,x,ss,i,n,y,hr,⟨he,hes⟩,hio,hb=>by
  obtain ⟨s1,s2,h1,h2,rfl⟩:=vd hr;have hn:=(zcy h h1 he).2.1;obtain ⟨i1,i2⟩:=Qr h (as:=as) (i:=i+1) (n:=n) (y:=(y:TIo as)) h2 hes hio (fun r hr=>by rw[hb r (by omega)]; simp only[vu]);have hz:Zt n (.d k::as) y=Zt n as y:=rfl;rw[hz,Wn,hn,List.nil_append];refine ⟨i1,fun p hp=>?_⟩;rcases List.mem_append.1 hp with hp | hp
  ·have:=Rx.2 hp; rw[hn] at this; cases this
  ·exact i2 p hp
 | .ios t::as,e::es,v::vs,x,ss,i,n,y,hr,⟨he,hes⟩,hio,hb=>by
  obtain ⟨s1,s2,h1,h2,rfl⟩:=vd hr;obtain ⟨s,rfl,_,rfl,_⟩:=QE h1;obtain ⟨i1,i2⟩:=Qr h (as:=as) (i:=i+1) (n:=n+1) (y:=y.2) h2 hes hio (fun r hr=>by rw[hb r (by omega)]; simp only[vu]);have hz:Zt n (.ios t::as) y=Zt (n+1) as y.2:=rfl;rw[hz,Wn,show tv [Lk.ip s]=[] from rfl,List.nil_append];refine ⟨i1,fun p hp=>?_⟩;rcases List.mem_append.1 hp with hp | hp
  ·simp at hp
  ·exact i2 p hp
 | .io t ms::as,e::es,v::vs,x,ss,i,n,y,hr,⟨he,hes⟩,⟨hh,hio⟩,hb=>by
  obtain ⟨s1,s2,h1,h2,rfl⟩:=vd hr;obtain ⟨s,l,l',ps,rfl,hl,hj,hy,rfl,_⟩:=TX h1;obtain ⟨i1,i2⟩:=Qr h (i:=i+1) (n:=n+(unM 0 ms (t.enc y.1 [])).2.length) (y:=y.2) h2 hes hio (fun r hr=>by rw[hb r (by omega)]; simp only[vu]; rw[if_neg (by omega)]);have hz:(tv ((.ib s::ps)++s2)).zip (Zt n (.io t ms::as) y)=(s,.g (unM n ms (t.enc y.1 [])).1)::(tv s2).zip (Zt (n+(unM 0 ms (t.enc y.1 [])).2.length) as y.2):=by
   rw[Wn,show tv (.ib s::ps)=[s] from by simp only[tv,(ZM (XT hj)).2.1]]; rfl
  rw[hz];refine ⟨fun p z hp=>?_,fun p hp=>?_⟩
  ·simp only[uY] at hp
   cases ht:uY ((tv s2).zip (Zt (n+(unM 0 ms (t.enc y.1 [])).2.length) as y.2)) p with
   | some z'=>rw[ht] at hp; simp at hp; subst hp; exact i1 p _ ht
   | none =>
    rw[ht] at hp;simp only at hp;split at hp<;>simp at hp;rename_i hps;subst hps;subst hp;obtain ⟨b,cs,cs',T,b1,b2,b3,b4,b5⟩:=hh;have hbi:=hb i (Nat.le_refl _);simp only[vu,if_true] at hbi;exact ⟨b,cs,cs',T,_,by rw[<-hbi,b1],b2,b3,b4,rfl,b5⟩
  ·simp only[uY]
   cases ht:uY ((tv s2).zip (Zt (n+(unM 0 ms (t.enc y.1 [])).2.length) as y.2)) p with
   | some z'=>exact ⟨_,rfl⟩
   | none =>
    rcases List.mem_append.1 hp with hp | hp
    ·rcases List.mem_cons.1 hp with hp | hp
     ·cases hp
      exact ⟨_,by simp only[if_true]; rfl⟩
     ·obtain ⟨p',e⟩:=XT hj _ hp
      cases e
    ·obtain ⟨z,hz⟩:=i2 p hp
     rw[ht] at hz; cases hz
def Ww:List (Bool×vG)->List Nat->Nat->Option Nat
 | (true,_)::_,p::_,0=>some p
 | (true,_)::r,_::ips,j+1=>Ww r ips j
 | (false,_)::r,ips,j+1=>Ww r ips j
 | _,_,_=>none
theorem TW {r:List (Bool×vG)}:∀{os:List vG} {ips:List Nat} {j p:Nat},Ww (os.map (fun o=>(false,o))++r) ips j=some p->∃i,j=os.length+i/\Ww r ips i=some p
 | [],ips,j,p,h=>⟨j,by simp,h⟩
 | o::os,ips,0,p,h=>by simp[Ww] at h
 | o::os,ips,j+1,p,h=>by
  simp only[List.map_cons,List.cons_append,Ww] at h;obtain ⟨i,e,h'⟩:=TW h;exact ⟨i,by simp; omega,h'⟩
theorem zd5 {g g1:Gh}:∀{as:List AT} {x:TA as} {y:TIo as} {k n:Nat} {ips:List Nat},IoP m g k as x ips->IoH g g1 k n as x y->∀j p,Ww (Yc as y) ips j=some p->g1.hd (n+j)=m.hd p
 | [],_,_,_,_,_,_,_,j,p,h=>by simp[Yc,Ww] at h
 | .d b::as,x,y,k,n,ips,h1,h2,j,p,h=>zd5 (as:=as) h1 h2 j p h
 | .io t ms::as,x,y,k,n,ips,h1,h2,j,p,h=>by
  obtain ⟨i,e,h'⟩:=TW h;have:=zd5 (as:=as) h1 h2 i p h';rw[e,<-Nat.add_assoc]; exact this
 | .ios t::as,x,y,k,n,_,⟨p0,ps,rfl,e1,h1⟩,⟨e2,h2⟩,0,p,h=>by
  simp[Yc,Ww] at h;subst h;rw[Nat.add_zero,e2,e1]
 | .ios t::as,x,y,k,n,_,⟨p0,ps,rfl,e1,h1⟩,⟨e2,h2⟩,j+1,p,h=>by
  have:=zd5 (as:=as) h1 h2 j p (by simpa only [Yc,Ww] using h);rw[show n+(j+1)=n+1+j by omega]; exact this
theorem S9:∀{ks:List KS} {y:TK ks},tm ks y=((tm ks y).map (·.2)).map (fun o=>(false,o))
 | [],_=>rfl
 | k::ks,y=>by
  simp only[tm,List.map_append,List.map_map];congr 1
  exact (S9 (ks:=ks) (y:=y.2)).trans (by simp only[List.map_map])
theorem Ud:∀{os:List (Bool×vG)} {k:Nat} {ips:List Nat} {f f':Nat->Xi},Z1 k os ips f=some f'->(∀p∈ips,∃o,f p=.is o)->
  (∀j,j<os.length->f (k+j)=.no/\ZG (k+j)=false) /\
  (∀p o,f' p=.is o->(f p=.is o/\p ∉ ips/\¬(k<=p/\p<k+os.length))\/(∃j,p=k+j/\os[j]?=some (false,o))\/(∃j,Ww os ips j=some p/\os[j]?=some (true,o))) /\
  (∀p,f' p=.no->f p=.no/\¬(k<=p/\p<k+os.length))
 | [],k,[],f,f',h,_=>by
  simp[Z1] at h;subst h;exact ⟨fun j hj=>by simp at hj,fun p o ho=>.inl ⟨ho,by simp,fun hk=>by simp at hk; omega⟩,fun p hp=>⟨hp,fun hk=>by simp at hk; omega⟩⟩
 | [],k,_::_,f,f',h,_=>by simp[Z1] at h
 | (true,o)::r,k,[],f,f',h,_=>by simp[Z1] at h
 | (false,o)::r,k,ips,f,f',h,hi=>by
  simp only[Z1] at h;split at h<;>try simp at h
  rename_i hk;cases ha:ZG k with
  | true=>simp[ha] at h
  | false =>
  simp only[ha,cond_false] at h;obtain ⟨i1,i2,i3⟩:=Ud h fun p hp=>by
   by_cases e:p=k
   ·subst e; exact ⟨o,xK _ _ _⟩
   ·obtain ⟨o',h'⟩:=hi p hp; exact ⟨o',by rw[ww _ _ e]; exact h'⟩
  refine ⟨fun j hj=>?_,fun p o' ho=>?_,fun p hp=>?_⟩
  ·cases j with
   | zero=>exact ⟨hk,ha⟩
   | succ j =>
    obtain ⟨h1,h2⟩:=i1 j (by simp at hj; omega);rw[show k+(j+1)=k+1+j by omega];rw[ww _ _ (by omega)] at h1;exact ⟨h1,h2⟩
  ·rcases i2 p o' ho with ⟨h1,h2,h3⟩ | ⟨j,h1,h2⟩ | ⟨j,h1,h2⟩
   ·by_cases e:p=k
    ·subst e
     rw[xK] at h1;cases h1
     exact .inr (.inl ⟨0,rfl,rfl⟩)
    ·rw[ww _ _ e] at h1
     exact .inl ⟨h1,h2,fun hk=>h3 ⟨by omega,by simp at hk; omega⟩⟩
   ·exact .inr (.inl ⟨j+1,by omega,by simpa using h2⟩)
   ·exact .inr (.inr ⟨j+1,by simp only[Ww]; exact h1,by simpa using h2⟩)
  ·obtain ⟨h1,h2⟩:=i3 p hp
   by_cases e:p=k
   ·subst e; rw[xK] at h1; cases h1
   ·rw[ww _ _ e] at h1
    exact ⟨h1,fun hk=>h2 ⟨by omega,by simp at hk; omega⟩⟩
 | (true,o)::r,k,s::ips,f,f',h,hi=>by
  simp only[Z1] at h;split at h<;>try simp at h
  rename_i hk;cases ha:ZG k with
  | true=>simp[ha] at h
  | false =>
  simp only[ha,cond_false] at h;obtain ⟨os,hs⟩:=hi s (by simp);have hsk:s≠k:=fun e=>by subst e; rw[hk] at hs; cases hs
  obtain ⟨i1,i2,i3⟩:=Ud h fun p hp=>by
   by_cases e:p=s
   ·subst e; exact ⟨o,xK _ _ _⟩
   ·obtain ⟨o',h'⟩:=hi p (by simp[hp])
    have hpk:p≠k:=fun e=>by subst e; rw[hk] at h'; cases h'
    exact ⟨o',by rw[ww _ _ e,ww _ _ hpk]; exact h'⟩
  refine ⟨fun j hj=>?_,fun p o' ho=>?_,fun p hp=>?_⟩
  ·cases j with
   | zero=>exact ⟨hk,ha⟩
   | succ j =>
    obtain ⟨h1,h2⟩:=i1 j (by simp at hj; omega);rw[show k+(j+1)=k+1+j by omega];by_cases e:k+1+j=s
    ·subst e; rw[xK] at h1; cases h1
    ·rw[ww _ _ e,ww _ _ (by omega)] at h1
     exact ⟨h1,h2⟩
  ·rcases i2 p o' ho with ⟨h1,h2,h3⟩ | ⟨j,h1,h2⟩ | ⟨j,h1,h2⟩
   ·by_cases e:p=s
    ·subst e
     rw[xK] at h1;cases h1
     exact .inr (.inr ⟨0,rfl,rfl⟩)
    ·rw[ww _ _ e] at h1
     by_cases e':p=k
     ·subst e'; rw[xK] at h1; cases h1
     ·rw[ww _ _ e'] at h1
      exact .inl ⟨h1,by simp[e,h2],fun hk=>h3 ⟨by omega,by simp at hk; omega⟩⟩
   ·exact .inr (.inl ⟨j+1,by omega,by simpa using h2⟩)
   ·exact .inr (.inr ⟨j+1,by simp only[Ww]; exact h1,by simpa using h2⟩)
  ·obtain ⟨h1,h2⟩:=i3 p hp
   by_cases e:p=s
   ·subst e; rw[xK] at h1; cases h1
   ·rw[ww _ _ e] at h1
    by_cases e':p=k
    ·subst e'; rw[xK] at h1; cases h1
    ·rw[ww _ _ e'] at h1
     exact ⟨h1,fun hk=>h2 ⟨by omega,by simp at hk; omega⟩⟩
theorem Wm:∀{as:List AT} {es:List Ent} {vs:List Value} {x:TA as} {ss:List Lk},Rel cx m σ a w->wG σ as es=some (x,ss)->All2 (RE w (cx.q σ m w)) es vs->∀p∈tu ss,∃o,σ.own p=.is o
 | [],[],_,_,_,_,hr,_,p,hp=>by
  simp[wG] at hr;obtain ⟨_,rfl⟩:=hr;simp[tu] at hp
 | [],_::_,_,_,_,_,h,_,_,_=>by simp[wG] at h
 | _::_,[],_,_,_,_,h,_,_,_=>by simp[wG] at h
 | _::_,_::_,[],_,_,_,_,h,_,_=>h.elim
 | .d k::as,e::es,v::vs,x,ss,h,hr,⟨he,hes⟩,p,hp=>by
  obtain ⟨s1,s2,h1,h2,rfl⟩:=vd hr;rw[YJ,(zcy h h1 he).1] at hp;exact Wm h h2 hes p hp
 | .ios t::as,e::es,v::vs,x,ss,h,hr,⟨he,hes⟩,p,hp=>by
  obtain ⟨s1,s2,h1,h2,rfl⟩:=vd hr;obtain ⟨s,rfl,how,rfl,_⟩:=QE h1;rcases List.mem_cons.1 (show p∈s::tu s2 from hp) with rfl | hp
  ·exact ⟨_,how⟩
  ·exact Wm h h2 hes p hp
 | .io t ms::as,e::es,v::vs,x,ss,h,hr,⟨he,hes⟩,p,hp=>by
  obtain ⟨s1,s2,h1,h2,rfl⟩:=vd hr;obtain ⟨s,l,l',ps,rfl,hl,hj,hy,rfl,_⟩:=TX h1;rw[YJ,show tu (.ib s::ps)=[] from (ZM (XT hj)).1] at hp;exact Wm h h2 hes p hp
theorem zgt (h:Rel cx m σ a w) {s:Sig} {es:List Ent} {vs:List Value} {x:TA s.args} {ss:List Lk} (hr:wG σ s.args es=some (x,ss)) (hap:v7 ss=true) (he:All2 (RE w (cx.q σ m w)) es vs)
  {g:Gh} (hgb:g.blk=vu m 0 s.args es) (hmv:∀b,Mv g b->∃p∈uB ss,vm σ m (.inr p) b) (hI:IoP m g inN s.args x (tu ss)) {dst:Option Nat} {y:s.R} {v:Value}
  (hp:Post w w' (Xp cx σ m g) (qP (vu m 0 s.args es)) g s x y v (WY dst)) {σ1:St} (hm:qu σ dst (Qi dst s ss y).mem=some σ1) :
  ∃m',Rel cx m' σ1 a w'/\RE w' (cx.q σ1 m' w') (Qi dst s ss y).ent v:=by
 obtain ⟨g1,hO⟩:=hp.out;generalize hK:WY dst=K at hO hp;simp only[Qi,qu,hK] at hm ⊢;split at hm<;>simp at hm;rename_i f hf;subst hm;have hios:=hO.ios;rw[hgb] at hios;obtain ⟨oA,oB⟩:=Qr h hr he hios (fun _ _=>rfl);have halive:=Wm h hr he;have hnm:∀p∈tu ss,p ∉ YH ss:=fun p h1 h2=>by
  have:=Z9 hap (Ub.1 h1) (V7.1 h2) (by simp);simp[Z6,Lk.key,Lk.x] at this
 have hpls:∀p,p∈uB ss↔p∈YH ss\/p∈tu ss:=fun p=>by rw[ZL,V7,Ub]
 obtain ⟨f1,f2,f3⟩:=Ud hf fun p hp=>by
  obtain ⟨o,ho⟩:=halive p hp;exact ⟨o,by rw[qJ,if_neg (hnm p hp)]; exact ho⟩
 let OL:List (Bool×vG):=tm s.res y.1++Yc s.args y.2
 have hIP:∀j p,Ww OL (tu ss) j=some p->g1.hd (K+j)=m.hd p:=by
  intro j p hj;have hj':Ww (((tm s.res y.1).map (·.2)).map (fun o=>(false,o))++Yc s.args y.2) (tu ss) j=some p:=by rw[<-S9]; exact hj
  obtain ⟨i,e,h'⟩:=TW hj';have:=zd5 hI hO.ioh i p h';rw[e,show K+(((tm s.res y.1).map (·.2)).length+i)=K+(tm s.res y.1).length+i by simp; omega]
  exact this
 have hno:∀j,j<OL.length->m.hd (K+j)=none/\(∀p,σ.own p≠.no->p≠K+j):=by
  intro j hj;obtain ⟨h1,_⟩:=f1 j hj;have h0:σ.own (K+j)=.no:=by
   rw[qJ] at h1;split at h1
   ·cases h1
   ·exact h1
  refine ⟨?_,fun p hp e=>hp (e ▸ h0)⟩;cases e:m.hd (K+j) with
  | none=>rfl
  | some hh=>exact absurd h0 (h.noown _ hh e)
 have hg1:∀p hh,g1.hd p=some hh->∃j,j<OL.length/\p=K+j:=fun p hh hp=>by
  obtain ⟨l1,l2⟩:=hO.low p hh hp;have l2:p<K+OL.length:=l2;exact ⟨p-K,by omega,by omega⟩
 let m':Gh:=⟨m.blk,fun p=>match g1.hd p with | some hh=>some hh | none=>m.hd p⟩
 let σ':St:={σ with box:=Va σ.box ((tv ss).zip (Zt (K+(tm s.res y.1).length) s.args y.2)),own:=f}
 have m'_new:∀p hh,g1.hd p=some hh->m'.hd p=some hh:=fun p hh hp=>by simp only[m',hp]
 have m'_old:∀p,(∀j,j<OL.length->p≠K+j)->m'.hd p=m.hd p:=fun p hp=>by
  simp only[m'];cases e:g1.hd p with
  | none=>rfl
  | some hh=>obtain ⟨j,j1,j2⟩:=hg1 p hh e; exact absurd j2 (hp j j1)
 have m'_hd:∀p hh,m.hd p=some hh->m'.hd p=some hh:=fun p hh hp=>by
  rw[m'_old p fun j hj e=>by rw[e,(hno j hj).1] at hp; cases hp]; exact hp
 have how:∀p b,vm σ' m' p b->(vm σ m p b/\∀r,p=.inr r->r ∉ uB ss)\/(∃r n hh off,p=.inr r/\g1.hd n=some hh/\hh.a=some ⟨b,off,none⟩/\0<hh.cap /\
   ∃j o,n=K+j/\((r=n/\OL[j]?=some (false,o))\/(Ww OL (tu ss) j=some r/\OL[j]?=some (true,o)))):=by
  intro p b hb;cases p with
  | inl r=>exact .inl ⟨hb,fun r' e=>by cases e⟩
  | inr r =>
   obtain ⟨o,hh,off,e1,e2,e3,e4⟩:=hb;rcases f2 r o e1 with ⟨h1,h2,h3⟩ | ⟨j,h1,h2⟩ | ⟨j,h1,h2⟩
   ·rw[qJ] at h1
    split at h1
    ·cases h1
    ·rename_i hnm'
     rw[m'_old r fun j hj e=>h3 ⟨by omega,by rw[e]; exact Nat.add_lt_add_left hj K⟩] at e2;refine .inl ⟨⟨o,hh,off,h1,e2,e3,e4⟩,fun r' e=>?_⟩;cases e
     rw[hpls];exact fun hx=>hx.elim hnm' h2
   ·have hj:j<OL.length:=(List.getElem?_eq_some_iff.1 h2).1
    obtain ⟨hh',k1,_⟩:=hO.own j o (by rw[List.getElem?_map,h2]; rfl);have:m'.hd r=some hh':=by rw[h1]; exact m'_new _ _ k1
    rw[this] at e2;simp at e2;subst e2;exact .inr ⟨r,K+j,hh',off,rfl,k1,e3,e4,j,o,rfl,.inl ⟨h1,h2⟩⟩
   ·have hj:j<OL.length:=(List.getElem?_eq_some_iff.1 h2).1
    obtain ⟨hh',k1,_⟩:=hO.own j o (by rw[List.getElem?_map,h2]; rfl);have hmr:m.hd r=some hh':=by rw[<-hIP j r h1]; exact k1
    rw[m'_hd r hh' hmr] at e2;simp at e2;subst e2;exact .inr ⟨r,K+j,hh',off,rfl,k1,e3,e4,j,o,rfl,.inr ⟨h1,h2⟩⟩
 have hMvOwn:∀b,Mv g b->Xl σ m b:=fun b hb=>by obtain ⟨p,_,hp⟩:=hmv b hb; exact ⟨_,hp⟩
 have hio:∀b,qP (vu m 0 s.args es) b->∃p,.ib p∈ss/\m.blk p=some b:=fun b hb=>zbl h hr hb
 have hownG1:∀{b:Nat} {n:Nat} {hh:Hd} {off:Nat},g1.hd n=some hh->hh.a=some ⟨b,off,none⟩->0<hh.cap->b<w'.heap.size/\¬Xp cx σ m g b/\(w.heap.size<=b\/Mv g b):=fun h1 h2 h3=>by
  obtain ⟨a1,a2,_,a4⟩:=hO.mv _ ⟨_,_,_,h1,h2,h3⟩;exact ⟨a1,a2,a4⟩
 have hq:QLe w w' (cx.q σ m w) (cx.q σ' m' w') :=
  Cx.qle hp.size (fun b hb ⟨p,hpo⟩=>by
   rcases how p b hpo with ⟨h',_⟩ | ⟨r,n,hh,off,_,h1,h2,h3,_⟩
   ·exact ⟨p,h'⟩
   ·rcases (hownG1 h1 h2 h3).2.2 with h' | h'
    ·omega
    ·exact hMvOwn b h') (fun b hb hnb _=>hp.mem b hb (fun hi=>by obtain ⟨p,_,hpb⟩:=hio b hi; exact hnb ⟨.inl p,hpb⟩) (fun hmb=>hnb (hMvOwn b hmb)))
 have hle:Le w w' (cx.q σ m w) (cx.q σ' m' w'):={
  toQLe:=hq
  hd:=m'_hd
  blk:=fun _ _ h=>h
  sz:=fun b cs T hb=>by
   by_cases hi:qP (vu m 0 s.args es) b\/Mv g b
   ·exact hp.sz b cs T hi hb
   ·exact ⟨cs,by rw[hp.mem b (h.lt hb) (fun h=>hi (.inl h)) (fun h=>hi (.inr h))]; exact hb,rfl⟩}
 have hXn:∀b,Xp cx σ m g b\/¬(cx.X b\/cx.Iq b\/Xl σ m b)\/Mv g b:=fun b=>by
  by_cases h1:Mv g b
  ·exact .inr (.inr h1)
  ·by_cases h2:cx.X b\/cx.Iq b\/Xl σ m b
   ·exact .inl ⟨h2,h1⟩
   ·exact .inr (.inl h2)
 have hMvX:∀b,Mv g b->¬cx.X b/\¬cx.Iq b:=fun b hb=>by
  obtain ⟨p,_,hpo⟩:=hmv b hb;exact ⟨(h.newOf hpo).1,(h.newOf hpo).2.1⟩
 have hqok:∀b,(XF w' (Xp cx σ m g) (qP (vu m 0 s.args es)) g1).ok b->(cx.q σ' m' w').ok b:=by
  intro b ⟨b1,b2,b3,b4⟩;refine ⟨b1,fun ⟨p,hpo⟩=>?_,fun hx=>?_,fun hx=>?_⟩
  ·rcases how p b hpo with ⟨h',hr'⟩ | ⟨r,n,hh,off,_,h1,h2,h3,_⟩
   ·refine b2 ⟨.inr (.inr ⟨p,h'⟩),fun hmb=>?_⟩
    obtain ⟨p',p1,p2⟩:=hmv b hmb;have:=h.inj _ _ b h' p2;exact hr' p' this p1
   ·exact b4 ⟨n,hh,off,h1,h2,h3⟩
  ·rcases hXn b with h' | h' | h'
   ·exact b2 h'
   ·exact h' (.inl hx)
   ·exact (hMvX b h').1 hx
  ·rcases hXn b with h' | h' | h'
   ·exact b2 h'
   ·exact h' (.inr (.inl hx))
   ·exact (hMvX b h').2 hx
 have hqo:QLeH w' w' (XF w' (Xp cx σ m g) (qP (vu m 0 s.args es)) g1) (cx.q σ' m' w'):={
  ok:=fun b hb=>⟨hqok b hb,fun _ _ h=>h⟩
  okb:=fun b hb=>⟨cx.q_ok σ' m' w' b (hqok b hb),fun _ _ h=>h⟩
  hd:=fun p hh hp=>m'_new p hh hp}
 refine ⟨m',?_,?_⟩
 ·exact {
   size:=h.size
   defers:=h.defers
   env:=fun t=>RE.mono hle (h.env t)
   box:=fun p d hd=>by
    simp only[YV] at hd;cases hz:uY ((tv ss).zip (Zt (K+(tm s.res y.1).length) s.args y.2)) p with
    | some z =>
     rw[hz] at hd;simp only[Option.getD_some] at hd;obtain ⟨b,cs,cs',T,L,q1,q2,q3,q4,q5,q6⟩:=oA p z hz;rw[hd] at q5;simp at q5;subst q5;exact ⟨b,cs',T,q1,q3,q6.mono fun _ _=>RC.mono hqo⟩
    | none =>
     rw[hz] at hd;simp only[Option.getD_none] at hd;obtain ⟨b,cs,T,e1,e2,e3⟩:=h.box p d hd;refine ⟨b,cs,T,e1,?_,RB.mono hle.toQLeH e3⟩;rw[hp.mem b (h.lt e2) (fun hi=>?_) (fun hmb=>?_)]
     ·exact e2
     ·obtain ⟨p',p1,p2⟩:=hio b hi
      have:=Q4 h p p' b e1 p2;subst this;obtain ⟨z,hz'⟩:=oB p p1;rw[hz] at hz'; cases hz'
     ·obtain ⟨p',_,p2⟩:=hmv b hmb
      have:=h.inj (.inl p) _ b e1 p2;simp at this
   nobox:=fun p b hb=>by
    simp only[YV];cases hz:uY ((tv ss).zip (Zt (K+(tm s.res y.1).length) s.args y.2)) p with
    | some z =>
     obtain ⟨_,_,_,_,_,_,_,_,_,q5,_⟩:=oA p z hz;rw[q5]; simp
    | none=>exact h.nobox p b hb
   own:=fun p o ho=>by
    rcases f2 p o ho with ⟨h1,h2,h3⟩ | ⟨j,h1,h2⟩ | ⟨j,h1,h2⟩
    ·rw[qJ] at h1
     split at h1
     ·cases h1
     ·rename_i hnm'
      obtain ⟨hd,e1,l⟩:=h.own p o h1;refine ⟨hd,m'_hd p hd e1,l.mono hq fun b off hb hc=>?_⟩;have hob:vm σ m (.inr p) b:=⟨o,hd,off,h1,e1,hb,hc⟩;refine hp.mem b (h.dom _ b hob).1 (fun hi=>?_) (fun hmb=>?_)
      ·obtain ⟨p',_,p2⟩:=hio b hi
       have:=h.inj (.inr p) (.inl p') b hob p2;simp at this
      ·obtain ⟨p',p1,p2⟩:=hmv b hmb
       have:=Vh h p p' b hob p2;subst this;exact ((hpls p).1 p1).elim hnm' h2
    ·obtain ⟨hh',k1,k2⟩:=hO.own j o (by rw[List.getElem?_map,h2]; rfl)
     exact ⟨hh',by rw[h1]; exact m'_new _ _ k1,k2.mono hqo.toQLe fun _ _ _ _=>rfl⟩
    ·obtain ⟨hh',k1,k2⟩:=hO.own j o (by rw[List.getElem?_map,h2]; rfl)
     exact ⟨hh',m'_hd p hh' (by rw[<-hIP j p h1]; exact k1),k2.mono hqo.toQLe fun _ _ _ _=>rfl⟩
   noown:=fun p hh hp' hno'=>by
    obtain ⟨h1,h2⟩:=f3 p hno';rw[m'_old p fun j hj e=>h2 ⟨by omega,by rw[e]; exact Nat.add_lt_add_left hj K⟩] at hp';rw[qJ] at h1;split at h1
    ·cases h1
    ·exact h.noown p hh hp' h1
   dom:=fun p b hb=>by
    rcases how p b hb with ⟨h',_⟩ | ⟨r,n,hh,off,_,h1,h2,h3,_⟩
    ·exact ⟨Nat.lt_of_lt_of_le (h.dom p b h').1 hp.size,(h.dom p b h').2⟩
    ·obtain ⟨a1,a2,a3⟩:=hownG1 h1 h2 h3
     refine ⟨a1,.inl ?_⟩;rcases a3 with h' | h'
     ·exact h.newGe (Nat.le_trans h.grown h')
     ·obtain ⟨p',_,hpo⟩:=hmv b h'
      exact h.newOf hpo
   inj:=fun p p' b hb hb'=>by
    have mix:∀{p:Nat ⊕ Nat} {n:Nat} {hh:Hd} {off:Nat},vm σ m p b->(∀r,p=.inr r->r ∉ uB ss)->g1.hd n=some hh->hh.a=some ⟨b,off,none⟩->0<hh.cap->False:=by
     intro p n hh off h1 h2 h3 h4 h5;rcases (hownG1 h3 h4 h5).2.2 with h' | h'
     ·have:=(h.dom p b h1).1; omega
     ·obtain ⟨p',p1,p2⟩:=hmv b h'
      have:=h.inj _ _ b h1 p2;exact h2 p' this p1
    rcases how p b hb with ⟨h1,r1⟩ | ⟨r,n,hh,off,e,h1,h2,h3,j,o,hn,hc⟩<;>rcases how p' b hb' with ⟨h1',r1'⟩ | ⟨r',n',hh',off',e',h1',h2',h3',j',o',hn',hc'⟩
    ·exact h.inj p p' b h1 h1'
    ·exact (mix h1 r1 h1' h2' h3').elim
    ·exact (mix h1' r1' h1 h2 h3).elim
    ·have hnn:=hO.injm n n' hh hh' b off off' h1 h1' h2 h3 h2' h3'
     have hjj:j=j':=by omega
     subst hjj;rw[e,e'];rcases hc with ⟨c1,c2⟩ | ⟨c1,c2⟩<;>rcases hc' with ⟨d1,d2⟩ | ⟨d1,d2⟩
     ·rw[c1,d1,hnn]
     ·rw[c2] at d2; simp at d2
     ·rw[c2] at d2; simp at d2
     ·rw[c1] at d1; simp at d1; rw[d1]
   mem:=fun b hb hi hmb=>by
    rw[hp.mem b (Nat.lt_of_lt_of_le hb h.grown) (fun hc=>?_) (fun hc=>?_)]
    ·exact h.mem b hb hi hmb
    ·obtain ⟨p,_,p2⟩:=hio b hc
     rcases (h.dom (.inl p) b p2).2 with h' | h'
     ·rcases h'.2.2 with h' | h'
      ·omega
      ·exact hmb h'
     ·exact hi h'.1
    ·obtain ⟨p,_,p2⟩:=hmv b hc
     rcases (h.newOf p2).2.2 with h' | h'
     ·omega
     ·exact hmb h'
   grown:=Nat.le_trans h.grown hp.size
   oldX:=h.oldX
   argna:=h.argna
   arg:=h.arg
   argp:=h.argp
   argh:=fun p h1 h0 e1 e0=>by
    have hap':=h.argp p h0 e0;rw[m'_old p fun j hj e=>by rw[e,(f1 j hj).2] at hap'; cases hap'] at e1;exact h.argh p h1 h0 e1 e0
   iosz:=fun b cs T hi h0=>let ⟨cs1,h1,s1⟩:=h.iosz b cs T hi h0; let ⟨cs2,h2,s2⟩:=hle.sz b cs1 T h1; ⟨cs2,h2,s2.trans s1⟩
   os:=hp.os.trans h.os
   tape:=hp.tape.trans h.tape
   output:=hp.output.trans h.output}
 ·have hret:=hO.ret
  generalize Xo K s.res y.1=l at hret;have tup:∀l,(∃vs,v=.tuple vs/\All2 (RD w' (XF w' (Xp cx σ m g) (qP (vu m 0 s.args es)) g1)) l vs.toList)->
    ∃vs,v=.tuple vs/\All2 (RD w' (cx.q σ' m' w')) l vs.toList :=
   fun l ⟨vs,e,r⟩=>⟨vs,e,r.mono fun _ _=>RD.mono hqo⟩
  match l,hret with
  | [],hret=>exact tup _ hret
  | [d],hret=>exact RD.mono hqo hret
  | d::d'::r,hret=>exact tup _ hret
end
section
variable {cx:Cx} {m:Gh} {σ:St} {a:Act} {w:World}
theorem Rel.give (h:Rel cx m σ a w) (s:Nat):Rel cx m (zfV σ s) a w:=by
 unfold zfV;split;case h_2=>exact h
 rename_i o ho;let σ':St:={env:=fun x=>zd9 s o.t o.l (σ.env x),box:=fun x=>match σ.box x with | some d=>some (UJ s o.t o.l d) | none=>none,own:=upd σ.own s .dead}
 show Rel cx m σ' a w;have hown':∀r x,σ'.own r=.is x->r≠s/\σ.own r=.is x:=by
  intro r x hr;have hr:upd σ.own s .dead r=.is x:=hr;by_cases e:r=s
  ·subst e; rw[xK] at hr; cases hr
  ·rw[ww _ _ e] at hr; exact ⟨e,hr⟩
 have how:∀p b,vm σ' m p b->vm σ m p b/\p≠.inr s:=by
  intro p b hp;cases p with
  | inl r=>exact ⟨hp,by simp⟩
  | inr r =>
   obtain ⟨x,hd,off,h1,h2,h3,h4⟩:=hp;obtain ⟨e1,e2⟩:=hown' r x h1;exact ⟨⟨x,hd,off,e2,h2,h3,h4⟩,by simpa using e1⟩
 have hq:QLe w w (cx.q σ m w) (cx.q σ' m w):=Cx.qle (Nat.le_refl _) (fun b _ ⟨p,hp⟩=>⟨p,(how p b hp).1⟩) (fun _ _ _ _=>rfl);have hqH:QLeH w w (cx.q σ m w) (cx.q σ' m w):={hq with hd:=fun _ _ h=>h};have hLe:Le w w (cx.q σ m w) (cx.q σ' m w):={hqH with blk:=fun _ _ h=>h,sz:=fun b cs T h=>⟨cs,h,rfl⟩};obtain ⟨hd,g1,g2⟩:=h.own s o ho;have good:∀b off,hd.a=some ⟨b,off,none⟩->0<hd.cap->(cx.q σ' m w).ok b:=by
  intro b off hb hc;have hob:vm σ m (.inr s) b:=⟨o,hd,off,ho,g1,hb,hc⟩;have hnew:=h.newOf hob;refine ⟨(h.dom _ b hob).1,fun ⟨p,hp⟩=>?_,hnew.1,hnew.2.1⟩;obtain ⟨h1,h2⟩:=how p b hp;exact h2 (h.inj _ _ b h1 hob)
 have hsl:SlR w (cx.q σ' m w).ok o.t.size (RT w (cx.q σ' m w).ok (cx.q σ' m w).okb o.t) o.l (.slice hd.a hd.len hd.cap) :=
  SlR.mono (fun b hb=>⟨hb,fun _ _ h=>h⟩) (RT.mono hq.ok hq.okb o.t) (g2.slr good)
 have hC:∀c v,RC w (cx.q σ m w) c v->RC w (cx.q σ' m w) (zaR s o.t o.l c) v:=by
  intro c v hc;cases c with
  | own r =>
   simp only[zaR];cases hb:Nat.beq r s with
   | false=>exact RC.mono hqH hc
   | true =>
    have e:=xW hb;subst e;obtain ⟨hd',e1,e2⟩:=hc;rw[show (cx.q σ m w).m.hd r=m.hd r from rfl,g1] at e1;simp at e1;subst e1;rw[e2];exact hsl
  | vw r lo hi =>
   simp only[zaR];cases hb:Nat.beq r s with
   | false=>exact RC.mono hqH hc
   | true =>
    have e:=xW hb;subst e;obtain ⟨hd',e1,e2,e3,e4⟩:=hc;rw[show (cx.q σ m w).m.hd r=m.hd r from rfl,g1] at e1;simp at e1;subst e1;rw[e4,g2.2.1];exact hsl.cut e2 (by rw[<-g2.1]; exact e3)
  | _=>exact RC.mono hqH hc
 have hD:∀d v,RD w (cx.q σ m w) d v->RD w (cx.q σ' m w) (UJ s o.t o.l d) v:=by
  intro d v hd;cases d with
  | c x=>exact hC x v hd
  | g k =>
   obtain ⟨cs,e,r⟩:=hd;exact ⟨cs,e,All2.map_left.2 (r.mono fun c v=>hC c v)⟩
  | a k x=>exact hd
 have hE:∀e v,RE w (cx.q σ m w) e v->RE w (cx.q σ' m w) (zd9 s o.t o.l e) v:=by
  intro e v he;cases e with
  | d x=>exact hD x v he
  | t k =>
   obtain ⟨vs,e,r⟩:=he;exact ⟨vs,e,All2.map_left.2 (r.mono fun c v=>hD c v)⟩
  | opos r i off =>
   simp only[zd9];cases hb:Nat.beq r s with
   | false=>exact RE.mono hLe he
   | true=>exact trivial
  | _=>exact RE.mono hLe he
 have hbox:∀r d',σ'.box r=some d'->∃d,σ.box r=some d/\d'=UJ s o.t o.l d:=by
  intro r d' hr;have hr:(match σ.box r with | some d=>some (UJ s o.t o.l d) | none=>none)=some d':=hr
  split at hr<;>simp at hr;rename_i d hd;exact ⟨d,hd,hr.symm⟩
 exact {
  size:=h.size
  defers:=h.defers
  env:=fun t=>hE _ _ (h.env t)
  box:=fun r d' hr=>by
   obtain ⟨d,h1,rfl⟩:=hbox r d' hr;obtain ⟨b,cs,T,e1,e2,e3⟩:=h.box r d h1;refine ⟨b,cs,T,e1,e2,?_⟩;cases d with
   | c x=>obtain ⟨v,r1,r2⟩:=e3; exact ⟨v,r1,hC x v r2⟩
   | g k=>exact All2.map_left.2 (All2.mono (fun c v=>hC c v) e3)
   | a k x=>exact e3
  nobox:=fun r b hb hno=>by
   have hno:(match σ.box r with | some d=>some (UJ s o.t o.l d) | none=>none)=none:=hno
   split at hno
   ·cases hno
   ·rename_i h0; exact h.nobox r b hb h0
  own:=fun r x hr=>by
   obtain ⟨e1,e2⟩:=hown' r x hr;obtain ⟨hd',k1,k2⟩:=h.own r x e2;exact ⟨hd',k1,k2.mono hq fun _ _ _ _=>rfl⟩
  noown:=fun r hd' hr hno=>by
   have hno:upd σ.own s .dead r=.no:=hno;by_cases e:r=s
   ·subst e; rw[xK] at hno; cases hno
   ·rw[ww _ _ e] at hno; exact h.noown r hd' hr hno
  dom:=fun p b hp=>h.dom p b (how p b hp).1
  inj:=fun p p' b hp hp'=>h.inj p p' b (how p b hp).1 (how p' b hp').1
  mem:=h.mem
  grown:=h.grown
  oldX:=h.oldX
  argna:=h.argna
  arg:=h.arg
  argp:=h.argp
  argh:=h.argh
  iosz:=h.iosz
  os:=h.os
  tape:=h.tape
  output:=h.output}
theorem Rel.giveB {Hh:Hn} (hna:cx.na=Hh.na) (h:Rel cx m σ a w) (s:Nat):∃m',Rel cx m' (giveB Hh σ s) a w:=by
 unfold VS.giveB;split;case h_2=>exact ⟨m,h⟩
 rename_i t l ht hl;split;case h_2=>exact ⟨m,h⟩
 rename_i y hy;cases hs:Nat.ble Hh.na s with
 | false=>exact ⟨m,h⟩
 | true =>
  simp only[cond_true];have hs:cx.na<=s:=by rw[hna]; exact Nat.le_of_ble_eq_true hs
  obtain ⟨b,cs,T,hb,hc,hr⟩:=h.box s _ hl;have hp:=th hy;obtain ⟨r1,r2,r3⟩:=h.freeze hb hl hs hc hr hp;have hob:=h.dom (.inl s) b hb;have hfresh:cx.new b:=by
   rcases hob.2 with h' | ⟨_,s',e,h'⟩
   ·exact h'
   ·simp at e; omega
  let σ':St:={σ with env:=fun x=>trE s l (.tr t (.nd y.1 y.2)) (σ.env x),box:=upd σ.box s none}
  let m':Gh:={m with blk:=upd m.blk s none}
  have hok:(cx.q σ' m' w).ok b:=⟨r3.1,r3.2.1,hfresh.1,r3.2.2⟩;have hd:TrR w (cx.q σ' m' w).ok t.size (RT w (cx.q σ' m' w).ok (cx.q σ' m' w).okb t) (.nd y.1 y.2) (.pointer (some ⟨b,0,none⟩)):=by
   have hr':All2 (RC w (cx.q σ' m' w)) l cs.toList:=XH r2 hp hr;unfold Ty.decA at hy;split at hy<;>simp at hy;rename_i e;subst hy;obtain ⟨us,ws,e1,e2,e3⟩:=zgg (cx.q_ok σ' m' w) _ _ _ _ _ e hr';have e3:=e3.nil_left;subst e3;obtain ⟨u1,u2,e4,e5,v,e6,e7⟩:=e2;subst e6;have hcc:=vr hc;rw[e1,List.append_nil,e4] at hcc;exact tr_mk hok hcc e5 e7
  refine ⟨m',?_⟩;exact {
   size:=r1.size
   defers:=r1.defers
   env:=fun k=>by
    have h0:=h.env k;have h1:=r1.env k;show RE w (cx.q σ' m' w) (trE s l (.tr t (.nd y.1 y.2)) (σ.env k)) _;have h1:RE w (cx.q σ' m' w) (Wz s l (σ.env k)) (a.tmps.getD k Go.undef):=h1;generalize σ.env k=e at h0 h1;cases e with
    | loc s' off =>
     simp only[trE];cases hss:Nat.beq s' s with
     | false=>simpa [Wz,hss] using h1
     | true =>
      cases ho:Nat.beq off 0 with
      | false=>simpa [Wz,hss] using h1
      | true =>
       have e1:=xW hss;have e2:=xW ho;subst e1; subst e2;obtain ⟨b',hb',e⟩:=h0;have hbb:b'=b:=by rw[show (cx.q σ m w).m.blk s'=m.blk s' from rfl,hb] at hb'; simpa using hb'.symm
       subst hbb;rw[e];exact hd
    | _=>exact h1
   box:=r1.box
   nobox:=r1.nobox
   own:=r1.own
   noown:=r1.noown
   dom:=r1.dom
   inj:=r1.inj
   mem:=r1.mem
   grown:=r1.grown
   oldX:=r1.oldX
   argna:=r1.argna
   arg:=r1.arg
   argp:=r1.argp
   argh:=r1.argh
   iosz:=r1.iosz
   os:=r1.os
   tape:=r1.tape
   output:=r1.output}
theorem Rel.giveL {Hh:Hn} (hna:cx.na=Hh.na):∀(l:List Nat) {m:Gh} {σ:St},Rel cx m σ a w->∃m',Rel cx m' (giveL Hh σ l) a w
 | [],m,_,h=>⟨m,h⟩
 | s::r,_,_,h=>by
  obtain ⟨m',h'⟩:=(h.give s).giveB hna s;exact Rel.giveL hna r h'
end
end Go.VS
namespace Go.VS
open Go
section
variable {cx:Cx} {Hh:Hn} {Sg:Nat->Sig} {V:tQ Sg} {VD:uM Hh} {m:Gh} {σ σ1:St} {a:Act} {w w':World} {o:Oper} {e:Eff} {next:Act->World->Prop} {Q:Exit->Act->World->Prop}
structure US (cx:Cx) (Hh:Hn) (Sg:Nat->Sig) (V:tQ Sg) (VD:uM Hh):Prop where
 na:cx.na=Hh.na
 ts:∀t,qp cx.P t (cx.TI t)
 glob:ul cx
 alg:Alg V
 algD:AlgD VD
 V:∀f x y,V f x some=some y->uH cx.P cx.G f (Sg f) x y
 VD:∀d f x y,VD d f x some=some y->∃g,f=g+1/\uH cx.P cx.G g (Hh.sig d) x y
theorem XG {m':Gh} {σ':St} {v:Value} (ha:uL Hh.sp cx.N σ o.dst e=some σ1) (h:∀σ',qu σ o.dst e.mem=some σ'->Rel cx m' σ' a w'/\RE w' (cx.q σ' m' w') e.ent v):Rel cx m' σ1 (a.put o.dst v) w':=by
 obtain ⟨σ',hm,rfl,hd,_⟩:=qz ha;obtain ⟨h1,h2⟩:=h σ' hm;cases hdst:o.dst with
 | none=>exact h1
 | some s=>exact h1.put (hd s hdst) h2
theorem zdT {v:Value} (ha:uL Hh.sp cx.N σ o.dst e=some σ1) (h:∀σ',qu σ o.dst e.mem=some σ'->∃m',Rel cx m' σ' a w'/\RE w' (cx.q σ' m' w') e.ent v):∃m',Rel cx m' σ1 (a.put o.dst v) w':=by
 obtain ⟨σ',hm,rfl,hd,_⟩:=qz ha;obtain ⟨m',h1,h2⟩:=h σ' hm;cases hdst:o.dst with
 | none=>exact ⟨m',h1⟩
 | some s=>exact ⟨m',h1.put (hd s hdst) h2⟩
theorem VG (hL:US cx Hh Sg V VD) (h:Rel cx m σ a w) {s:Sig} {f:Nat} {es:List Ent} {vs:List Value} {x:TA s.args} {ss:List Lk} {y:s.R}
  (hrun:execOp a.eval o=callFunc f vs.toArray) (hr:wG σ s.args es=some (x,ss)) (hap:v7 ss=true) (hes:All2 (RE w (cx.q σ m w)) es vs) (hc:uH cx.P cx.G f s x y)
  (ha:uL Hh.sp cx.N σ o.dst (Qi o.dst s ss y)=some σ1) (hn:∀m1 a1 w1,Rel cx m1 σ1 a1 w1->next a1 w1):o.wp cx.P a w next Q:=by
 obtain ⟨g,hgb,hmv,hI,hE⟩:=zg5 hL.glob h hr hap hes;have hcall:=hc w _ _ _ vs (WY o.dst) hE;have fin:∀v w',Post w w' (Xp cx σ m g) (qP (vu m 0 s.args es)) g s x y v (WY o.dst)->next (a.put o.dst v) w':=by
  intro v w' hp;obtain ⟨m',hm'⟩:=zdT ha fun σ' hm=>zgt h hr hap hes hgb hmv hI hp hm
  exact hn m' _ _ hm'
 unfold Oper.wp;rw[hrun];rcases hcall with ⟨v,w',h1,h2⟩ | ⟨h1,h2⟩
 ·rw[h1]; exact fin v w' h2
 ·rw[h1,Oper.upon_enter]
  refine Calls.mono h2 fun e w'' he=>?_
  cases e with
  | returned v=>exact fin v w'' he
  | panicked c=>exact he.elim
  | outgrown=>exact he.elim
theorem SO {t:TypeId} {x i:Operand} {b:Bool} {en:Ent} {me:ME} (hg:efG cx.TI cx.G Hh o σ=some (b,⟨en,me⟩)) (ho:o.op=.indexAddr t x i):me=.none:=by
 unfold efG at hg;rw[ho] at hg;simp only at hg;unfold qv at hg;split at hg<;>try simp at hg
 split at hg<;>try simp at hg
 ·cases hz:(cx.TI t).elSz _<;>rw[hz] at hg<;>simp at hg; exact hg.2.2.symm
 ·cases hz:(cx.TI t).elSz _<;>rw[hz] at hg<;>simp at hg; exact hg.2.2.symm
 ·split at hg<;>try simp at hg
  cases hz:(cx.TI t).elSz _<;>rw[hz] at hg<;>simp at hg; exact hg.2.2.symm
 ·split at hg<;>try simp at hg
  cases hz:(cx.TI t).elSz _<;>rw[hz] at hg<;>simp at hg; exact hg.2.2.symm
 ·split at hg
  ·cases hz:Nat.beq _ 0<;>rw[hz] at hg<;>simp at hg; exact hg.2.2.symm
  ·split at hg<;>try simp at hg
   cases hz:Nat.beq _ 0<;>rw[hz] at hg<;>simp at hg; exact hg.2.2.symm
  ·simp at hg
 ·split at hg<;>try simp at hg
  cases hz:(Nat.beq _ _&&Nat.beq _ _)<;>rw[hz] at hg<;>simp at hg; exact hg.2.2.symm
theorem effS_wp (hL:US cx Hh Sg V VD) (h:Rel cx m σ a w) (he:Uk cx.TI cx.G Hh Sg V VD o σ=some e) (ha:uL Hh.sp cx.N σ o.dst e=some σ1)
  (hn:∀m1 a1 w1,Rel cx m1 σ1 a1 w1->next a1 w1):o.wp cx.P a w next Q:=by
 unfold Uk efK at he;split at he
 ·
  rename_i c x y ho;have hc:=uP hL.glob h c;have hx:=uP hL.glob h x;have hy:=uP hL.glob h y;split at he<;>try simp at he
  rename_i t ht;rw[ht] at hc;obtain ⟨hc,_⟩:=hc.v_eq;have hrun:∀t',t=t'->(execOp a.eval o).run cx.P w=.ok (.value (if t' then a.eval x else a.eval y)) w:=by
   intro t' e; subst e;simp[execOp,ho,hc,asBool]
  unfold Oper.wp;cases t
  ·simp at he
   subst he;rw[hrun false rfl];exact hn m _ _ (XG (σ':=σ) ha fun σ' hm=>by simp only[qu,Option.some.injEq] at hm; subst hm; exact ⟨h,by simpa using hy⟩)
  ·simp at he
   subst he;rw[hrun true rfl];exact hn m _ _ (XG (σ':=σ) ha fun σ' hm=>by simp only[qu,Option.some.injEq] at hm; subst hm; exact ⟨h,by simpa using hx⟩)
 ·
  rename_i f args _ ho;have hf:=uP hL.glob h f;have hargs:=Q5 hL.glob h args.toList;have hmap:args.map a.eval=(args.toList.map a.eval).toArray:=by apply Array.ext'; simp
  generalize σ.ev cx.G f=ef at he hf;split at he
  ·rename_i fid0
   have hf:a.eval f=fnV fid0:=hf;have hrun:∀fid,fid0=fid+1->execOp a.eval o=callFunc fid (args.toList.map a.eval).toArray:=by
    rintro fid rfl
    simp only[execOp,ho,resolve,hf,fnV,Deferred.ofValue,invoke,hmap];simp[pure_bind]
   split at he
   ·split at he<;>try simp at he
    skip
    have hrun:=hrun _ rfl;split at he<;>try simp at he
    rename_i x hx;cases hap:v7 x.2 with
    | false=>simp[hap] at he
    | true =>
     simp only[hap,cond_true] at he;rw[hL.alg] at he;generalize hv:V _ x.1 some=ov at he;cases ov with
     | none=>simp at he
     | some y =>
      simp at he;subst he;exact VG hL h hrun hx hap hargs (hL.V _ _ _ hv) ha hn
   ·split at he<;>try simp at he
    rename_i x hx;cases hap:v7 x.2 with
    | false=>simp[hap] at he
    | true =>
     simp only[hap,cond_true] at he;rw[hL.algD] at he;cases hv:VD (o.dst.getD 0) fid0 x.1 some with
     | none=>simp[hv] at he
     | some y =>
      simp[hv] at he;subst he;obtain ⟨g,hg,hcon⟩:=hL.VD _ _ _ _ hv;exact VG hL h (hrun g hg) hx hap hargs hcon ha hn
  ·rename_i fid t y0
   obtain ⟨b,off,us,hf,k1,k2,k3,k4⟩:=hf;have hrun:execOp a.eval o=callFunc fid (args.toList.map a.eval++[Value.pointer (some ⟨b,off,none⟩)]).toArray:=by
    simp only[execOp,ho,resolve,hf,Deferred.ofValue,invoke,hmap];simp[pure_bind]
   split at he<;>try simp at he
   rename_i x hx;cases hap:v7 x.2 with
   | false=>simp[hap] at he
   | true =>
    simp only[hap,cond_true] at he;rw[hL.algD] at he;cases hv:VD (o.dst.getD 0) (fid+1) x.1 some with
    | none=>simp[hv] at he
    | some y =>
     simp[hv] at he;subst he;obtain ⟨g,hg,hcon⟩:=hL.VD _ _ _ _ hv;have hg:fid=g:=by omega
     subst hg;refine VG hL h hrun hx hap (hargs.app ⟨?_,trivial⟩) hcon ha hn;exact ⟨b,off,us,rfl,k1,k3,vC k4,u9 _ _ _ (by simp)⟩
  ·rename_i fid t y0 u z0
   obtain ⟨b,off,us,b',off',us',hf,⟨k1,k2,k3,k4⟩,⟨k1',k2',k3',k4'⟩⟩:=hf;have hrun:execOp a.eval o=callFunc fid (args.toList.map a.eval++[Value.pointer (some ⟨b,off,none⟩),Value.pointer (some ⟨b',off',none⟩)]).toArray:=by
    simp only[execOp,ho,resolve,hf,Deferred.ofValue,invoke,hmap];simp[pure_bind]
   split at he<;>try simp at he
   rename_i x hx;cases hap:v7 x.2 with
   | false=>simp[hap] at he
   | true =>
    simp only[hap,cond_true] at he;rw[hL.algD] at he;cases hv:VD (o.dst.getD 0) (fid+1) x.1 some with
    | none=>simp[hv] at he
    | some y =>
     simp[hv] at he;subst he;obtain ⟨g,hg,hcon⟩:=hL.VD _ _ _ _ hv;have hg:fid=g:=by omega
     subst hg;refine VG hL h hrun hx hap (hargs.app ⟨?_,?_,trivial⟩) hcon ha hn
     ·exact ⟨b,off,us,rfl,k1,k3,vC k4,u9 _ _ _ (by simp)⟩
     ·exact ⟨b',off',us',rfl,k1',k3',vC k4',u9 _ _ _ (by simp)⟩
  ·rename_i fid t y0
   split at he<;>try simp at he
   rename_i x hx;cases hap:v7 x.2 with
   | false=>simp[hap] at he
   | true =>
    simp only[hap,cond_true] at he;rw[hL.algD] at he;cases hv:VD (o.dst.getD 0) fid x.1 some with
    | none=>simp[hv] at he
    | some y =>
     simp[hv] at he;subst he;obtain ⟨g,hg,hcon⟩:=hL.VD _ _ _ _ hv;rcases hf with ⟨h0,_⟩ | ⟨f',us,h0,hf,k4⟩
     ·exact absurd h0 (by omega)
     have h0:g=f':=by omega
     subst h0;have hrun:execOp a.eval o=callFunc g (Value.agg us::args.toList.map a.eval).toArray:=by
      simp only[execOp,ho,resolve,hf,Deferred.ofValue,invoke,hmap];simp[pure_bind]
     exact VG hL h hrun hx hap ⟨⟨us,rfl,vC k4⟩,hargs⟩ hcon ha hn
  ·simp at he
 ·
  split at he<;>try simp at he
  rename_i b e' hg;cases b with
  | false=>simp at he
  | true =>
   simp only[cond_true] at he;have he:e=e':=by
    split at he
    ·rename_i s off mm sz h1 _ _
     have:=Ux he;subst this;obtain ⟨en,me⟩:=e';simp only at h1;subst h1;rw[SO hg (by assumption)]
    ·simpa using he.symm
   subst he;obtain ⟨v,w',m',hr,hd⟩:=zg9 hL.na hL.ts hL.glob h hg;have key:next (a.put o.dst v) w':=hn m' _ _ (XG (σ':=σ) ha hd)
   unfold Oper.wp;rcases hr with hr | ⟨hr,rfl⟩
   ·rw[hr]; exact key
   ·rw[hr]; exact key
 ·
  split at he<;>try simp at he
  rename_i b e' hg;cases b with
  | false=>simp at he
  | true =>
   simp at he;subst he;obtain ⟨v,w',m',hr,hd⟩:=zg9 hL.na hL.ts hL.glob h hg;have key:next (a.put o.dst v) w':=hn m' _ _ (XG (σ':=σ) ha hd)
   unfold Oper.wp;rcases hr with hr | ⟨hr,rfl⟩
   ·rw[hr]; exact key
   ·rw[hr]; exact key
theorem zaP {ops:Array Oper} {all:List Oper} (hall:ops.toList=all) (h:Rel cx m σ a w) {b:Bool} (hg:Y6 all o σ=some b):Region.wanted o (yielded ops a.tmps)=b:=by
 unfold Y6 at hg;unfold Region.wanted;cases hgd:o.guard with
 | none=>rw[hgd] at hg; simp at hg; simpa using hg
 | some gw =>
  obtain ⟨g,want⟩:=gw;rw[hgd] at hg;simp only at hg ⊢;cases hs:qX all g with
  | none=>rw[hs] at hg; simp at hg
  | some s =>
   rw[hs] at hg;simp only at hg;have hop:(ops[g]?).bind (·.dst)=some s:=by
    unfold qX at hs;rw[<-hall,Array.getElem?_toList] at hs;cases ho:ops[g]? with
    | none=>rw[ho] at hs; simp at hs
    | some o'=>rw[ho] at hs; simpa using hs
   have henv:=h.env s;have hy:yielded ops a.tmps g=match a.tmps[s]? with | some (.bool b)=>some b | _=>none:=by
    unfold yielded;rw[hop];rfl
   split at hg<;>try simp at hg
   ·rename_i c hc
    rw[hc] at henv;obtain ⟨hv,_⟩:=henv.v_eq;have ht:a.tmps[s]?=some (.bool c):=by
     simp only[Array.getD_eq_getD_getElem?] at hv;cases hq:a.tmps[s]? with
     | none=>rw[hq] at hv; simp[Go.undef] at hv
     | some u=>rw[hq] at hv; simpa using hv
    rw[hy,ht,<-hg];cases c<;>cases want<;>rfl
   ·rename_i hc
    rw[hc] at henv;have hv:a.tmps.getD s Go.undef=Go.undef:=henv;have:yielded ops a.tmps g=none:=by
     rw[hy];simp only[Array.getD_eq_getD_getElem?] at hv;cases hq:a.tmps[s]? with
     | none=>rfl
     | some u=>rw[hq] at hv; simp at hv; subst hv; rfl
    rw[this,hg];rfl
theorem zcH (hL:US cx Hh Sg V VD) (ops:Array Oper):StepW cx Hh Sg V VD ops Q:=by
 intro i o σ e σ1 m a w next ho h he ha hn
 unfold wpOp;rw[ho];unfold VA at he;split at he<;>try simp at he
 ·rename_i hg
  simp only[zaP rfl h hg,if_true];exact .inl (effS_wp hL h he ha hn)
 ·rename_i hg
  subst he;simp only[zaP rfl h hg,Bool.false_eq_true,if_false];exact hn m _ _ (XG (σ':=σ) ha fun σ' hm=>by simp only[qu,Option.some.injEq] at hm; subst hm; exact ⟨h,rfl⟩)
theorem ops_wp (hL:US cx Hh Sg V VD) {ops:Array Oper} {R:Type} {K:St->Option R} {r:R} (hQ:∀m σ a w,Rel cx m σ a w->K σ=some r->Q .normal a w) :
  ∀(n j:Nat) (σ:St) (m:Gh) (a:Act) (w:World),j+n=ops.size->Rel cx m σ a w->opsK cx.TI cx.G Hh Sg V VD cx.N ops.toList (ops.toList.drop j) σ K=some r->
   wpOps cx.P ops Q (List.range' j n) a w:=by
 intro n;induction n with
 | zero =>
  intro j σ m a w hj h hk;have:ops.toList.drop j=[]:=List.drop_eq_nil_of_le (by simp; omega);rw[this] at hk;exact hQ m σ a w h hk
 | succ n ih =>
  intro j σ m a w hj h hk;have hlt:j<ops.toList.length:=by simp; omega
  rw[List.drop_eq_getElem_cons hlt] at hk;have ho:ops[j]?=some ops.toList[j]:=by rw[<-Array.getElem?_toList]; exact List.getElem?_eq_getElem hlt
  obtain ⟨oj,hoj⟩:∃oj,oj=ops.toList[j]:=⟨_,rfl⟩;rw[<-hoj] at hk ho;simp only[opsK,oK_eq hL.alg hL.algD] at hk;rw[List.range'_succ,wpOps_cons];cases he:VA cx.TI cx.G Hh Sg V VD ops.toList oj (giveL Hh σ (zdc Hh oj)) with
  | none=>simp[he] at hk
  | some e =>
   simp only[he,Option.bind_some] at hk;cases ha:uL Hh.sp cx.N (giveL Hh σ (zdc Hh oj)) oj.dst e with
   | none=>simp[ha] at hk
   | some σ1 =>
    simp only[ha,Option.bind_some] at hk;obtain ⟨m0,h0⟩:=h.giveL hL.na (zdc Hh oj);exact zcH hL ops j _ _ e σ1 m0 a w _ ho h0 he ha fun m1 a1 w1 h1=>ih (j+1) σ1 m1 a1 w1 (by omega) h1 hk
theorem Rel.drew (h:Rel cx m σ a w):Rel cx m σ a {w with drawn:=w.drawn+1}:=(h.same (w':={w with drawn:=w.drawn+1}) (Nat.le_refl _) (fun _ _=>rfl) rfl rfl rfl).1
theorem zdP (hL:US cx Hh Sg V VD) {id:Nat} {ops:Array Oper} {R:Type} {K:St->Option R} {r:R} (h:Rel cx m σ a w)
  (hk:opsK cx.TI cx.G Hh Sg V VD cx.N ops.toList ops.toList σ K=some r) (hQ:∀m σ a w,Rel cx m σ a w->K σ=some r->Q .normal a w):(Code.region id ops false).wp cx.P Q a w:=by
 refine wp_region ?_;rw[List.range_eq_range'];exact ops_wp hL hQ ops.size 0 σ m a w (by simp) h (by simpa using hk)
theorem zga (hm:cx.P.follows .mixedOrders=true) (hL:US cx Hh Sg V VD) {id:Nat} {ops:Array Oper} {R:Type} {K:St->Option R} {r:R} (h:Rel cx m σ a w)
  (hk:V2 cx.TI cx.G Hh Sg V VD cx.N ops.toList ops.toList σ [] (fun σ' acc=>bif qo ops.toList [] 0 ops.toList acc.reverse then K σ' else none)=some r)
  (hQ:∀m σ a w,Rel cx m σ a w->K σ=some r->Q .normal a w):(Code.region id ops true).wp cx.P Q a w:=by
 obtain ⟨fs,σe,h1,h2⟩:=Rj hL.alg hL.algD hk;simp only[List.append_nil,List.reverse_reverse] at h1;cases hc:qo ops.toList [] 0 ops.toList fs with
 | false=>simp[hc] at h1
 | true =>
  simp only[hc,cond_true] at h1;obtain ⟨i1,i2,_,i4,i5,_,i7,i8⟩:=X6 (done:=[]) hc (by simp);have hS:Sound (uE ops.toList [] 0 ops.toList fs):={
   idx:=fun k x hx=>by have:=i2 k x hx; omega
   lt:=i4
   pair:=i5
   clos:=fun L hl=>i7 L (by simp) hl
   edge:=i8}
  have hlen:(uE ops.toList [] 0 ops.toList fs).length=ops.size:=by have:=congrArg List.length i1; simpa using this
  have hall:((uE ops.toList [] 0 ops.toList fs).filter fun x=>!((Array.replicate ops.size false).getD x.2.i true))=uE ops.toList [] 0 ops.toList fs:=by
   rw[List.filter_eq_self];intro x hx;obtain ⟨k,hk⟩:=List.getElem?_of_mem hx;have hki:=hS.idx k x hk;have hlt:x.2.i<ops.size:=by rw[hki,<-hlen]; exact (List.getElem?_eq_some_iff.1 hk).1
   simp[hlt]
  refine wp_region_any hm ?_;refine any_wp hS i1 (zcH hL ops) (fun m a w hr=>hQ m σe a w hr h1) ops.size _ σ m a _ (by simp) ?_ (by rw[hall]; exact h2 [] 0 hc) (by rw[hall,hlen]; exact Nat.le_refl _) h.drew;intro x hx hl;obtain ⟨k,hk⟩:=List.getElem?_of_mem hx;have hki:=hS.idx k x hk;have hlt:x.2.i<ops.size:=by rw[hki,<-hlen]; exact (List.getElem?_eq_some_iff.1 hk).1
  simp[hlt] at hl
end
end Go.VS
namespace Go.VS
open Go
theorem All2.of_get {α β:Type} {R:α->β->Prop}:∀{l:List α} {k:List β},l.length=k.length->(∀(i:Nat) a b,l[i]?=some a->k[i]?=some b->R a b)->All2 R l k
 | [],[],_,_=>trivial
 | [],_::_,h,_=>by simp at h
 | _::_,[],h,_=>by simp at h
 | x::l,y::k,h,hr=>⟨hr 0 x y rfl rfl,All2.of_get (by simpa using h) fun i a b h1 h2=>hr (i+1) a b (by simpa using h1) (by simpa using h2)⟩
def Uq (l:List Value):List (Nat×Nat)->List Value
 | []=>l
 | (j,_)::r=>Uq (l.set j (.slice none 0 0)) r
section
variable {cx:Cx} {m:Gh} {σ:St} {a:Act} {w:World}
theorem zbm {q:Q}:∀{ows:List (Nat×Nat)} {l:List C} {vs:List Value},All2 (RC w q) l vs->All2 (RC w q) (zgx l ows) (Uq vs ows)
 | [],_,_,h=>h
 | (j,_)::r,l,vs,h=>zbm (ows:=r) (h.set j ⟨rfl,rfl⟩)
theorem SA:∀{ows:List (Nat×Nat)} {vs:List Value} {i:Nat},(∀n,(i,n) ∉ ows)->(Uq vs ows)[i]?=vs[i]?
 | [],_,_,_=>rfl
 | (j,n)::r,vs,i,h=>by
  simp only[Uq];rw[SA fun n hn=>h n (by simp[hn]),List.getElem?_set_ne];intro e; subst e; exact h n (by simp)
theorem Sz:∀{ows:List (Nat×Nat)} {vs:List Value},(Uq vs ows).length=vs.length
 | [],_=>rfl
 | (j,n)::r,vs=>by simp only[Uq]; rw[Sz]; simp
theorem Us:∀{ows:List (Nat×Nat)} {l:List C},(Wc l ows).length=l.length
 | [],_=>rfl
 | (j,n)::r,l=>by simp only[Wc,List.length_set]; exact Us
theorem Ut:∀{ows:List (Nat×Nat)} {l:List C} {i:Nat} {c:C},(Wc l ows)[i]?=some c->(∃n,(i,n)∈ows/\c=.own n)\/((∀n,(i,n) ∉ ows)/\l[i]?=some c)
 | [],_,_,_,h=>.inr ⟨fun _ h=>(by cases h),h⟩
 | (j,n)::r,l,i,c,h=>by
  simp only[Wc,List.getElem?_set] at h;by_cases hj:j=i
  ·subst hj
   simp only[if_true] at h;split at h
   ·simp at h; exact .inl ⟨n,by simp,h.symm⟩
   ·simp at h
  ·simp only[hj,if_false] at h
   rcases Ut h with ⟨k,h1,h2⟩ | ⟨h1,h2⟩
   ·exact .inl ⟨k,by simp[h1],h2⟩
   ·refine .inr ⟨fun k hk=>?_,h2⟩
    rcases List.mem_cons.1 hk with e | hk
    ·cases e; exact hj rfl
    ·exact h1 k hk
def YF (σ:St) (m:Gh) (os:List tH) (n:Nat):Option Hd :=
 match Zs os n with
 | some p=>match tB σ (uQ σ p.src) with
  | some (s,none)=>m.hd s
  | some (s,some hi)=>(m.hd s).map fun h=>⟨if h.cap=0 then h.a else h.a.map (·.add (0*h.sz)),hi,h.cap,h.sz⟩
  | none=>some ⟨none,0,0,p.t.size⟩
 | none=>none
def keptGh (σ:St) (m:Gh) (h:Shape) (x:h.T):Gh:=⟨fun s=>match (yS h x).box s with | some _=>m.blk s | none=>none,YF σ m h.own⟩
def From (σ:St) (p:tH) (l:List p.t.T):Prop :=
 (∃s o,tB σ (uQ σ p.src)=some (s,none)/\σ.own s=.is o/\qO o.t p.t o.l=some l) \/
 (∃s hi o,tB σ (uQ σ p.src)=some (s,some hi)/\σ.own s=.is o/\qO o.t p.t (o.l.take hi)=some l) \/
 (tB σ (uQ σ p.src)=none/\Rw (uQ σ p.src)=true/\l=[])
theorem YE {α:Type} {b:Bool} {x:Option α} {y:α} (h:(bif b then none else x)=some y):b=false/\x=some y:=by
 cases b<;>simp_all
theorem Ve:∀{os:List tH} {z:TO os},Tv σ os=some z->∀n,(Zs os n=none/\zb2 os z n=.no)\/∃p l,Zs os n=some p/\p∈os/\p.n=n/\zb2 os z n=.is ⟨p.t,l⟩/\From σ p l
 | [],_,_,n=>.inl ⟨rfl,rfl⟩
 | p::r,z,h,n=>by
  simp only[Tv] at h;split at h<;>try simp at h
  rename_i x y hx hy;subst h;simp only[Zs,zb2];cases hb:Nat.beq n p.n with
  | true =>
   have e:=xW hb;have hb':Nat.beq p.n n=true:=by rw[e]; simp
   refine .inr ⟨p,x,by simp[hb'],by simp,e.symm,by simp,?_⟩;split at hx
   ·rename_i s ho
    split at hx<;>try simp at hx
    rename_i o hs;exact .inl ⟨s,o,ho,hs,(YE hx).2⟩
   ·rename_i s hi ho
    split at hx<;>try simp at hx
    rename_i o hs;exact .inr (.inl ⟨s,hi,o,ho,hs,(YE hx).2⟩)
   ·rename_i ho
    cases hn:Rw (uQ σ p.src) with
    | false=>simp[hn] at hx
    | true=>simp[hn] at hx; have:=(YE hx).2; simp at this; exact .inr (.inr ⟨ho,hn,this⟩)
  | false =>
   have hb':Nat.beq p.n n=false:=by
    cases hc:Nat.beq p.n n with
    | false=>rfl
    | true=>have:=xW hc; rw[this] at hb; simp at hb
   rcases Ve hy n with ⟨h1,h2⟩ | ⟨p',l,h1,h2,h3,h4,h5⟩
   ·exact .inl ⟨by simp[hb',h1],by simpa using h2⟩
   ·exact .inr ⟨p',l,by simp[hb',h1],by simp[h2],h3,by simpa using h4,h5⟩
theorem Ra:∀{os:List tH} {z:TO os},Tv σ os=some z->∀n p,Zs os n=some p->ZG n=true->tB σ (uQ σ p.src)=some (n,none)
 | [],_,_,n,p,h,_=>by simp[Zs] at h
 | p::r,z,h,n,p',hf,hp=>by
  simp only[Tv] at h;split at h<;>try simp at h
  rename_i x y hx hy;subst h;simp only[Zs] at hf;cases hb:Nat.beq p.n n with
  | false=>simp[hb] at hf; exact Ra hy n p' hf hp
  | true =>
   simp[hb] at hf;subst hf;have e:=xW hb;subst e;split at hx
   ·rename_i s ho
    split at hx<;>try simp at hx
    have:=(YE hx).1;rw[hp] at this;simp at this;rw[ho,this]
   ·split at hx<;>try simp at hx
    have:=(YE hx).1;rw[hp] at this; cases this
   ·cases hn:Rw (uQ σ p.src) with
    | false=>simp[hn] at hx
    | true=>simp[hn,hp] at hx
theorem zcK (h:Rel cx m σ a w) (s:Src):∃v,RE w (cx.q σ m w) (uQ σ s) v:=by
 cases s with
 | env t=>exact ⟨_,h.env t⟩
 | cell s j =>
  simp only[uQ];split
  ·rename_i l hl
   split
   ·rename_i c hc
    obtain ⟨b,cs,T,e1,e2,e3⟩:=h.box s _ hl;obtain ⟨v,_,r⟩:=All2.get e3 hc;exact ⟨v,r⟩
   ·exact ⟨.bool true,trivial⟩
  ·exact ⟨.bool true,trivial⟩
theorem own_hd {e:Ent} {v:Value} {s:Nat} (he:tB σ e=some (s,none)) (hr:RE w (cx.q σ m w) e v):∃h,m.hd s=some h/\v=.slice h.a h.len h.cap:=by
 unfold tB at he;split at he<;>try simp at he
 ·subst he; exact hr
 ·rename_i s' lo hi
  cases hb:Nat.beq lo 0<;>simp[hb] at he
theorem vw_hd {e:Ent} {v:Value} {s hi:Nat} (he:tB σ e=some (s,some hi)) (hr:RE w (cx.q σ m w) e v) :
  ∃h,m.hd s=some h/\hi<=h.len/\v=.slice (if h.cap=0 then h.a else h.a.map (·.add (0*h.sz))) hi h.cap:=by
 unfold tB at he;split at he<;>try simp at he
 rename_i s' lo hi';cases hb:Nat.beq lo 0 with
 | false=>simp[hb] at he
 | true =>
  simp[hb] at he;have:=xW hb;subst this;obtain ⟨rfl,rfl⟩:=he;obtain ⟨h,e1,_,e3,e4⟩:=hr;exact ⟨h,e1,e3,by simpa using e4⟩
theorem nil_hd {e:Ent} {v:Value} (he:Rw e=true) (hr:RE w (cx.q σ m w) e v):v=.slice none 0 0:=by
 unfold Rw at he;split at he<;>simp at he;exact hr.v_eq.1
theorem Rz (h:Rel cx m σ a w) {os:List tH} {z:TO os} (hz:Tv σ os=some z) {src:Src} {n:Nat} (ho:okOw σ os src n=true) {v:Value} (hv:RE w (cx.q σ m w) (uQ σ src) v) :
  ∃hd,YF σ m os n=some hd/\v=.slice hd.a hd.len hd.cap:=by
 unfold okOw at ho;split at ho<;>try simp at ho
 rename_i p hp;have hf:∃l,From σ p l:=by
  rcases Ve hz n with ⟨h1,_⟩ | ⟨p',l,h1,_,_,_,h5⟩
  ·rw[h1] at hp; cases hp
  ·rw[h1] at hp; simp at hp; subst hp; exact ⟨l,h5⟩
 obtain ⟨l,hf⟩:=hf;have same:∀{u:Value},RE w (cx.q σ m w) (uQ σ p.src) u->∃hd,YF σ m os n=some hd/\u=.slice hd.a hd.len hd.cap:=by
  intro u hu;unfold YF;rw[hp];simp only;rcases hf with ⟨s,o,f1,f2,_⟩ | ⟨s,hi,o,f1,f2,_⟩ | ⟨f1,f2,_⟩
  ·rw[f1]
   obtain ⟨hd,e1,e2⟩:=own_hd f1 hu;exact ⟨hd,e1,e2⟩
  ·rw[f1]
   obtain ⟨hd,e1,e2,e3⟩:=vw_hd f1 hu;exact ⟨⟨if hd.cap=0 then hd.a else hd.a.map (·.add (0*hd.sz)),hi,hd.cap,hd.sz⟩,by simp only[e1,Option.map_some],e3⟩
  ·rw[f1]
   exact ⟨_,rfl,nil_hd f2 hu⟩
 rcases ho with ho | ho
 ·have:src=p.src:=by
   generalize p.src=s' at ho;cases src<;>cases s'<;>simp[isSrc] at ho
   ·have:=xW (by simpa using ho); rw[this]
   ·obtain ⟨h1,h2⟩:=ho
    rw[h1,h2]
  rw[this] at hv;exact same hv
 ·obtain ⟨u,hu⟩:=zcK h p.src
  obtain ⟨hd,e1,e2⟩:=same hu;refine ⟨hd,e1,?_⟩;rw[<-e2];unfold sameC at ho;split at ho<;>try simp at ho
  ·rename_i s r h1 h2
   rw[h1] at hv;rw[h2] at hu;subst ho;obtain ⟨k1,a1,a2⟩:=hv;obtain ⟨k2,b1,b2⟩:=hu;rw[a1] at b1;simp at b1;subst b1;rw[a2,b2]
  ·rename_i h1 h2
   rw[h1] at hv;rw[h2] at hu;rw[hv.v_eq.1,hu.v_eq.1]
theorem UR:∀{os:List tH},SF σ os=true->∀{n n':Nat} {p p':tH} {x x':Nat×Option Nat},Zs os n=some p->Zs os n'=some p'->tB σ (uQ σ p.src)=some x->
  tB σ (uQ σ p'.src)=some x'->x.1=x'.1->n=n'
 | q::r,h,n,n',p,p',x,x',h1,h2,h3,h4,he=>by
  simp only[SF,Bool.and_eq_true,List.all_eq_true] at h;have mem:∀{k:Nat} {y:tH} {os:List tH},Zs os k=some y->y∈os/\y.n=k:=by
   intro k y os;induction os with
   | nil=>intro h; simp[Zs] at h
   | cons z os ih =>
    intro h;simp only[Zs] at h;cases hb:Nat.beq z.n k with
    | true=>simp[hb] at h; subst h; exact ⟨by simp,xW hb⟩
    | false=>simp[hb] at h; have:=ih h; exact ⟨by simp[this.1],this.2⟩
  simp only[Zs] at h1 h2;cases hb:Nat.beq q.n n with
  | true =>
   cases hb':Nat.beq q.n n' with
   | true=>rw[<-xW hb,<-xW hb']
   | false =>
    simp[hb] at h1;simp[hb'] at h2;subst h1;have:=(h.1 p' (mem h2).1).2;rw[h3,h4] at this;simp[he] at this
  | false =>
   cases hb':Nat.beq q.n n' with
   | true =>
    simp[hb] at h1;simp[hb'] at h2;subst h2;have:=(h.1 p (mem h1).1).2;rw[h3,h4] at this;simp[he] at this
   | false =>
    simp[hb] at h1;simp[hb'] at h2;exact UR h.2 h1 h2 h3 h4 he
end
end Go.VS
