import Derived.Test.YtiliboioeieeoaaGreatDoorQKb
set_option linter.unusedVariables false
set_option linter.unusedSimpArgs false
set_option linter.unusedSectionVars false
set_option linter.unusedVariables false
set_option linter.unusedSimpArgs false
set_option maxRecDepth 100000
namespace Go.VS
open Go IntKind
def toL:Tree->LTr zb.T:=Tree.fold (fun n ks=>.nd n ks)
theorem ZR (n:zb.T) (ks:List Tree):toL (.nd n ks)=.nd n (ks.map toL):=Tree.fold_nd _ n ks
theorem wL (t:Tree):LTr.isNd (toL t)=true:=by cases t; rw[ZR]; rfl
theorem wS (d:zb.T) (t:Tree):LTr.lab d (toL t)=t.root:=by cases t; rw[ZR]; rfl
theorem ug (t:Tree):LTr.kids (toL t)=t.kids.map toL:=by cases t; rw[ZR]; rfl
theorem zb2 {ks:List Tree} {i:Nat} {k:Tree} (h:ks[i]?=some k):get (.tr zb) (ks.map toL) i=toL k:=by
 unfold get;rw[List.getD_eq_getElem?_getD,List.getElem?_map,h]; rfl
theorem zbQ (F:Nat) {n:zb.T} (hg:tI n=true) (hk:uy n=true):yb.sh F n=some (((ar n:Int),()),()):=by
 have h9:∀k:Int,(nK n=k)->(k=9\/k=10)->(ar n:Int)=nC n:=by
  intro k h hkk;rw[uc h] at hk;have hk:(decide (nC n>=2)&&decide (nC n<=16))=true:=by rcases hkk with rfl | rfl<;>exact hk
  simp at hk;have:ar n=(nC n).toNat:=by rw[z8 h]; rcases hkk with rfl | rfl<;>rfl
  omega
 unfold yb.sh yb.j6 yb.j10;rcases v8 hg with h | h | h | h | h | h | h | h | h | h | h | h | h | h | h | h<;>rw[show n.1=_ from h]
 ·rw[z8 h]; rfl
 ·rw[z8 h]; rfl
 ·rw[z8 h]; rfl
 ·rw[z8 h]; rfl
 ·rw[z8 h]; rfl
 ·rw[z8 h]; rfl
 ·rw[z8 h]; rfl
 ·rw[z8 h]; rfl
 ·rw[h9 9 h (.inl rfl)]; rfl
 ·rw[h9 10 h (.inr rfl)]; rfl
 ·rw[z8 h]; rfl
 ·rw[z8 h]; rfl
 ·rw[z8 h]; rfl
 ·rw[z8 h]; rfl
 ·rw[z8 h]; rfl
 ·rw[z8 h]; rfl
def WF (dims:Nat) (t:Tree):Prop:=∀s∈t.subs,s.kids.length=ar s.root/\wD dims s.root (ar s.root)=0
theorem T0 {s:Tree} {l:List Tree}:s∈uL l↔∃k∈l,s∈k.subs:=by
 unfold uL;simp only[List.mem_flatten,List.mem_map];constructor
 ·rintro ⟨_,⟨k,hk,rfl⟩,hs⟩; exact ⟨k,hk,hs⟩
 ·rintro ⟨k,hk,hs⟩; exact ⟨_,⟨k,hk,rfl⟩,hs⟩
theorem vX {P:Tree->Prop} {n:zb.T} {ks:List Tree}:(∀s∈Tree.subs (.nd n ks),P s)↔P (.nd n ks)/\∀k∈ks,∀s∈k.subs,P s:=by
 rw[Xq];constructor
 ·intro h
  exact ⟨h _ (by simp),fun k hk s hs=>h s (List.mem_append_left _ (T0.2 ⟨k,hk,hs⟩))⟩
 ·rintro ⟨h1,h2⟩ s hs
  rcases List.mem_append.1 hs with hs | hs
  ·obtain ⟨k,hk,hs⟩:=T0.1 hs; exact h2 k hk s hs
  ·simp at hs; subst hs; exact h1
theorem tY {dims:Nat} {n:zb.T} {ks:List Tree}:WF dims (.nd n ks)↔(ks.length=ar n/\wD dims n (ar n)=0)/\∀k∈ks,WF dims k:=vX
theorem Ub {dims:Nat}:∀(xs:List zb.T) (st:List Tree),okS dims st xs->∀s∈news st xs,s.kids.length=ar s.root/\wD dims s.root (ar s.root)=0
 | [],st,_,s,hs=>by simp[news] at hs
 | n::r,st,h,s,hs=>by
  have ha:=(xF h.1).2.2.2.2.2.2.1;rcases List.mem_cons.1 hs with rfl | hs
  ·refine ⟨?_,?_⟩
   ·show (st.drop (st.length-ar n)).length=ar n
    rw[List.length_drop]; omega
   ·have h7:decide ((ar n:Int)<(ar n:Int))=false:=decide_eq_false (by omega)
    have h7':decide ((st.length:Int)<(ar n:Int))=false:=decide_eq_false (by omega);have h1:=h.1;show wD dims n (ar n)=0;unfold wD at h1 ⊢;rw[h7'] at h1;rw[h7];exact h1
  ·exact Ub r (wo st n) h.2 s hs
theorem Good.wf {p:zL.T} {t:Tree} (h:Good p t):WF p.2.1.length t:=by
 intro s hs;rw[<-h.subs] at hs;exact Ub _ _ h.ok s hs
theorem wf_step {dims:Nat} (t:Tree):WF dims t->∀(st:List Tree) (r:List zb.T),(okS dims st (t.flat++r)↔okS dims (st++[t]) r)/\ta st (t.flat++r)=ta (st++[t]) r/\news st (t.flat++r)=t.subs++news (st++[t]) r:=by
 refine Tree.ind (P:=fun t=>WF dims t->∀(st:List Tree) (r:List zb.T),(okS dims st (t.flat++r)↔okS dims (st++[t]) r)/\ta st (t.flat++r)=ta (st++[t]) r/\news st (t.flat++r)=t.subs++news (st++[t]) r) (fun n ks ih hw st r=>?_) t;obtain ⟨⟨h1,h2⟩,h3⟩:=tY.1 hw;have key:∀(l:List Tree),(∀k∈l,k∈ks)->∀(st:List Tree) (r:List zb.T),(okS dims st (yH l++r)↔okS dims (st++l) r)/\ta st (yH l++r)=ta (st++l) r/\news st (yH l++r)=uL l++news (st++l) r:=by
  intro l;induction l with
  | nil=>intro _ st r; simp[yH,uL]
  | cons k l ihl =>
   intro hl st r;obtain ⟨a1,a2,a3⟩:=ih k (hl k (by simp)) (h3 k (hl k (by simp))) st (yH l++r);obtain ⟨b1,b2,b3⟩:=ihl (fun x hx=>hl x (by simp[hx])) (st++[k]) r;rw[vo,List.append_assoc];refine ⟨a1.trans (b1.trans ?_),a2.trans (b2.trans ?_),?_⟩
   ·rw[List.append_assoc]; rfl
   ·rw[List.append_assoc]; rfl
   ·rw[a3,b3,List.append_assoc st [k] l]
    unfold uL;simp
 obtain ⟨c1,c2,c3⟩:=key ks (fun k hk=>hk) st ([n]++r);rw[Yv,List.append_assoc];have hd:(st++ks).length-ar n=st.length:=by simp; omega
 have ht:wh (st++ks) n=.nd n ks:=by
  unfold wh;rw[hd]; simp
 have hs:wo (st++ks) n=st++[.nd n ks]:=by
  unfold wo;rw[ht,hd]; simp
 refine ⟨c1.trans ?_,c2.trans ?_,?_⟩
 ·show (wD dims n (st++ks).length=0/\okS dims (wo (st++ks) n) r)↔_
  rw[hs];exact ⟨fun h=>h.2,fun h=>⟨Uv h2 (by simp; omega),h⟩⟩
 ·show ta (wo (st++ks) n) r=_
  rw[hs]
 ·rw[c3,Xq]
  show uL ks++(wh (st++ks) n::news (wo (st++ks) n) r)=_;rw[hs,ht]; simp
theorem good_of {name:ByteArray} {D:List yy.T} {m:Int} {t:Tree} (hh:ZH name D m=0) (hw:WF D.length t) (hs:t.size<=1024):Good (name,D,m,t.flat) t:=by
 obtain ⟨a1,a2,a3⟩:=wf_step t hw [] [];rw[List.append_nil] at a1 a2;exact ⟨hh,hs,a1.2 trivial,a2⟩
theorem zaq {ks:List (LTr zb.T)} (F:Nat) (h:ks.length<=4194304):yT.sh F ks=some ((ks,()),()):=by
 unfold yT.sh qD;rw[show Nat.ble ks.length 1099511627776=true from by rw[Nat.ble_eq]; omega]; rfl
theorem zap {ks:List zN.T} (F:Nat) (h:ks.length<=4194304):yI.sh F ks=some ((ks,()),()):=by
 unfold yI.sh qD;rw[show Nat.ble ks.length 1099511627776=true from by rw[Nat.ble_eq]; omega]; rfl
theorem zc0 {ks:List yy.T} (F:Nat) (h:ks.length<=4194304):xa.sh F ks=some ((ks,()),()):=by
 unfold xa.sh qD;rw[show Nat.ble ks.length 1099511627776=true from by rw[Nat.ble_eq]; omega]; rfl
theorem Qf (F:Nat) {R:Type} (k:List (LTr zb.T)->Option R) (L:List zb.T) (N:Int) (dims:Nat):∀(xs:List zb.T) (i:Int) (st:List Tree),okS dims st xs->(yH st).length+xs.length<=4096->
  zH.l3.rg F (fun _ _ _ _ p=>k p) L N xs i (st.map toL)=k ((ta st xs).map toL)
 | [],i,st,_,_=>rfl
 | n::r,i,st,h,hl=>by
  have hn:=xF h.1;have ha:=hn.2.2.2.2.2.2.1;have hst:=wP st;simp only[List.length_cons] at hl;have hstep:(yH (wo st n)).length+r.length<=4096:=by rw[vC]; simp; omega
  have ih:=Qf F k L N dims r (i+1) (wo st n) h.2 hstep;have hw:i64.wrap (((st.map toL).length:Int)-(ar n:Int))=((st.length-ar n:Nat):Int):=by rw[List.length_map]; exact qP ha (by omega)
  have b1:zA (st.map toL).length none (some ((st.length-ar n:Nat):Int))=(true,0,st.length-ar n):=by
   unfold zA;have e2:decide (((0:Int))<=((st.length-ar n:Nat):Int))=true:=decide_eq_true (by omega);have e3:decide (((st.length-ar n:Nat):Int)<=((st.map toL).length:Int))=true:=decide_eq_true (by rw[List.length_map]; omega);simp only[Option.getD_none,Option.getD_some,e2,e3,Int.toNat_natCast];rfl
  have b2:zA (st.map toL).length (some ((st.length-ar n:Nat):Int)) none=(true,st.length-ar n,(st.map toL).length):=by
   unfold zA;have e2:decide (((0:Int))<=((st.length-ar n:Nat):Int))=true:=decide_eq_true (by omega);have e3:decide (((st.length-ar n:Nat):Int)<=((st.map toL).length:Int))=true:=decide_eq_true (by rw[List.length_map]; omega);have e4:decide (((st.map toL).length:Int)<=((st.map toL).length:Int))=true:=decide_eq_true (Int.le_refl _);simp only[Option.getD_none,Option.getD_some,e2,e3,e4,Int.toNat_natCast];rfl
  have hd:(List.take (st.map toL).length (st.map toL)).drop (st.length-ar n)=(st.drop (st.length-ar n)).map toL:=by
   rw[List.take_length,List.map_drop]
  unfold zH.l3.rg;rw[zbQ F hn.1 hn.2.2.2.1,zp];simp only[hw,b1,b2,cond_true,hd];rw[zaq F (by simp; omega),zp];rw[show Nat.ble (st.length-ar n+([(LTr.nd n ((st.drop (st.length-ar n)).map toL))]:List (LTr zb.T)).length) xu=true from vW (by simp; omega)];simp only[cond_true];have e:(st.map toL).take (st.length-ar n)++[LTr.nd n ((st.drop (st.length-ar n)).map toL)]=(wo st n).map toL:=by
   unfold wo wh;rw[List.map_append,List.map_take,List.map_cons,ZR,List.map_nil]
  rw[e];exact ih
theorem zd9 (F:Nat) (hF:4096<F) {p:zL.T} {t:Tree} (h:Good p t):zH.sh F p.2.2.2=some ((toL t,()),()):=by
 have hl:=h.len;unfold zH.sh;refine Eq.trans (zH.l3.rg_eq F _ p.2.2.2 _ rfl (by omega) p.2.2.2 0 F _ (by simp) (by omega)) ?_;refine (Qf F (fun p=>zH.j8 F (fun r=>(some ((r,()),()):Option zH.sg.R)) p) p.2.2.2 (p.2.2.2.length:Int) p.2.1.length p.2.2.2 0 [] h.ok (by simp[yH]; omega)).trans ?_;rw[h.eq];rfl
theorem zaT (F:Nat) {R:Type} (me:zn.M) (k:LTr zb.T->List zb.T->Option R) (L:List (LTr zb.T)) (N:Int) (x:LTr zb.T):∀(ks:List Tree) (i:Int) (l:List zb.T),
  (∀k∈ks,∀l:List zb.T,l.length+k.size<=4096->me (toL k) l=some ((l++k.flat,()),()))->l.length+(yH ks).length<=4096->
  zn.l2.rg me F (fun x _ _ _ _ l=>k x l) L N (ks.map toL) i x l=k x (l++yH ks)
 | [],i,l,_,_=>by show k x l=_; simp[yH]
 | t::r,i,l,hm,hl=>by
  rw[vo] at hl ⊢;simp only[List.length_append] at hl;have ih:=zaT F me k L N x r (i+1) (l++t.flat) (fun k hk=>hm k (by simp[hk])) (by simp; omega);simp only[List.map_cons];unfold zn.l2.rg;rw[hm t (by simp) l (by unfold Tree.size; omega),zp];refine ih.trans ?_;rw[List.append_assoc]
theorem Vp {dims:Nat} {n:zb.T} {pile:Nat} (h:wD dims n pile=0):(nT n).length<=16:=by
 obtain ⟨_,_,_,_,_,h6,_,h8⟩:=xF h;cases hb:ut n with
 | false=>rw[h6 hb]; simp
 | true=>exact (uw (h8 hb)).2.1
theorem laid_it (F:Nat) (hF:4096<F) {dims:Nat} (t:Tree):WF dims t->∀(n:Nat) (l:List zb.T),t.size<n->l.length+t.size<=4096->zn.it F n (toL t) l=some ((l++t.flat,()),()):=by
 refine Tree.ind (P:=fun t=>WF dims t->∀(n:Nat) (l:List zb.T),t.size<n->l.length+t.size<=4096->zn.it F n (toL t) l=some ((l++t.flat,()),())) (fun m ks ih hw n l hn hl=>?_) t;obtain ⟨⟨h1,h2⟩,h3⟩:=tY.1 hw;rw[wX] at hn hl;have hk:=wP ks;obtain ⟨n',rfl⟩:∃k,n=k+1:=⟨n-1,by omega⟩;unfold zn.it;unfold zn.sh0;rw[wL,cond_true,ug];refine Eq.trans (zn.l2.rg_eq (zn.it F n') F _ (ks.map toL) _ rfl (by simp; omega) (ks.map toL) 0 F _ _ (by simp) (by simp; omega)) ?_;refine (zaT F (zn.it F n') (fun x2 l2=>bif LTr.isNd x2 then oB (yI.sh F (LTr.lab (Ty.dflt zb) x2).2.2.2.2.1) fun c_3 =>
   bif Nat.ble (l2.length+([((LTr.lab (Ty.dflt zb) x2).1,(LTr.lab (Ty.dflt zb) x2).2.1,(LTr.lab (Ty.dflt zb) x2).2.2.1,(LTr.lab (Ty.dflt zb) x2).2.2.2.1,c_3.1.1,(LTr.lab (Ty.dflt zb) x2).2.2.2.2.2)]:List zb.T).length) xu then (some ((l2++([((LTr.lab (Ty.dflt zb) x2).1,(LTr.lab (Ty.dflt zb) x2).2.1,(LTr.lab (Ty.dflt zb) x2).2.2.1,(LTr.lab (Ty.dflt zb) x2).2.2.2.1,c_3.1.1,(LTr.lab (Ty.dflt zb) x2).2.2.2.2.2)]:List zb.T),()),()):Option zn.sg.R)
   else none
  else none) (ks.map toL) ((ks.map toL).length:Int) (toL (.nd m ks)) ks 0 l (fun k hk' l hl'=>ih k hk' (h3 k hk') n' l (by have:=uz hk'; omega) hl') (by omega)).trans ?_
 have ht:=Vp h2;rw[wL,cond_true,wS];show oB (yI.sh F (nT m)) _=_;rw[zap F (by omega),zp];rw[show Nat.ble ((l++yH ks).length+([((Tree.nd m ks).root.1,(Tree.nd m ks).root.2.1,(Tree.nd m ks).root.2.2.1,(Tree.nd m ks).root.2.2.2.1,nT m,(Tree.nd m ks).root.2.2.2.2.2)]:List zb.T).length) xu=true from vW (by simp; omega),cond_true,Yv,<-List.append_assoc];rfl
end Go.VS
