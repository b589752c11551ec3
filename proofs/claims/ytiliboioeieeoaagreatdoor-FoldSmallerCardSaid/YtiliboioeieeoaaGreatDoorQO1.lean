import Derived.Test.YtiliboioeieeoaaGreatDoorQKb
set_option linter.unusedVariables false
set_option linter.unusedSimpArgs false
set_option linter.unusedSectionVars false
set_option linter.unusedVariables false
set_option linter.unusedSimpArgs false
set_option maxRecDepth 100000
namespace Go.VS
open Go IntKind
def toL:Tree->LTr zb.T:=Tree.fold (fun n ks=>.nd n ks)
theorem Zu (n:zb.T) (ks:List Tree):toL (.nd n ks)=.nd n (ks.map toL):=Tree.fold_nd _ n ks
theorem wz (t:Tree):LTr.isNd (toL t)=true:=by cases t; rw[Zu]; rfl
theorem wG (d:zb.T) (t:Tree):LTr.lab d (toL t)=t.root:=by cases t; rw[Zu]; rfl
theorem vP (t:Tree):LTr.kids (toL t)=t.kids.map toL:=by cases t; rw[Zu]; rfl
theorem zay {ks:List Tree} {i:Nat} {k:Tree} (h:ks[i]?=some k):get (.tr zb) (ks.map toL) i=toL k:=by
 unfold get;rw[List.getD_eq_getElem?_getD,List.getElem?_map,h]; rfl
theorem zbk (F:Nat) {n:zb.T} (hg:tS n=true) (hk:uw n=true):z7.sh F n=some (((ar n:Int),()),()):=by
 have h9:∀k:Int,(nK n=k)->(k=9\/k=10)->(ar n:Int)=nC n:=by
  intro k h hkk;rw[uG h] at hk;have hk:(decide (nC n>=2)&&decide (nC n<=16))=true:=by rcases hkk with rfl | rfl<;>exact hk
  simp at hk;have:ar n=(nC n).toNat:=by rw[yp h]; rcases hkk with rfl | rfl<;>rfl
  omega
 unfold z7.sh z7.j6 z7.j10;rcases uE hg with h | h | h | h | h | h | h | h | h | h | h | h | h | h | h | h<;>rw[show n.1=_ from h]
 ·rw[yp h]; rfl
 ·rw[yp h]; rfl
 ·rw[yp h]; rfl
 ·rw[yp h]; rfl
 ·rw[yp h]; rfl
 ·rw[yp h]; rfl
 ·rw[yp h]; rfl
 ·rw[yp h]; rfl
 ·rw[h9 9 h (.inl rfl)]; rfl
 ·rw[h9 10 h (.inr rfl)]; rfl
 ·rw[yp h]; rfl
 ·rw[yp h]; rfl
 ·rw[yp h]; rfl
 ·rw[yp h]; rfl
 ·rw[yp h]; rfl
 ·rw[yp h]; rfl
def WF (dims:Nat) (t:Tree):Prop:=∀s∈t.subs,s.kids.length=ar s.root/\wq dims s.root (ar s.root)=0
theorem Tr {s:Tree} {l:List Tree}:s∈uv l↔∃k∈l,s∈k.subs:=by
 unfold uv;simp only[List.mem_flatten,List.mem_map];constructor
 ·rintro ⟨_,⟨k,hk,rfl⟩,hs⟩; exact ⟨k,hk,hs⟩
 ·rintro ⟨k,hk,hs⟩; exact ⟨_,⟨k,hk,rfl⟩,hs⟩
theorem vM {P:Tree->Prop} {n:zb.T} {ks:List Tree}:(∀s∈Tree.subs (.nd n ks),P s)↔P (.nd n ks)/\∀k∈ks,∀s∈k.subs,P s:=by
 rw[VA];constructor
 ·intro h
  exact ⟨h _ (by simp),fun k hk s hs=>h s (List.mem_append_left _ (Tr.2 ⟨k,hk,hs⟩))⟩
 ·rintro ⟨h1,h2⟩ s hs
  rcases List.mem_append.1 hs with hs | hs
  ·obtain ⟨k,hk,hs⟩:=Tr.1 hs; exact h2 k hk s hs
  ·simp at hs; subst hs; exact h1
theorem tI {dims:Nat} {n:zb.T} {ks:List Tree}:WF dims (.nd n ks)↔(ks.length=ar n/\wq dims n (ar n)=0)/\∀k∈ks,WF dims k:=vM
theorem VO {dims:Nat}:∀(xs:List zb.T) (st:List Tree),okS dims st xs->∀s∈news st xs,s.kids.length=ar s.root/\wq dims s.root (ar s.root)=0
 | [],st,_,s,hs=>by simp[news] at hs
 | n::r,st,h,s,hs=>by
  have ha:=(xB h.1).2.2.2.2.2.2.1;rcases List.mem_cons.1 hs with rfl | hs
  ·refine ⟨?_,?_⟩
   ·show (st.drop (st.length-ar n)).length=ar n
    rw[List.length_drop]; omega
   ·have h7:decide ((ar n:Int)<(ar n:Int))=false:=decide_eq_false (by omega)
    have h7':decide ((st.length:Int)<(ar n:Int))=false:=decide_eq_false (by omega);have h1:=h.1;show wq dims n (ar n)=0;unfold wq at h1 ⊢;rw[h7'] at h1;rw[h7];exact h1
  ·exact VO r (wi st n) h.2 s hs
theorem Good.wf {p:zQ.T} {t:Tree} (h:Good p t):WF p.2.1.length t:=by
 intro s hs;rw[<-h.subs] at hs;exact VO _ _ h.ok s hs
theorem wf_step {dims:Nat} (t:Tree):WF dims t->∀(st:List Tree) (r:List zb.T),(okS dims st (t.flat++r)↔okS dims (st++[t]) r)/\uT st (t.flat++r)=uT (st++[t]) r/\news st (t.flat++r)=t.subs++news (st++[t]) r:=by
 refine Tree.ind (P:=fun t=>WF dims t->∀(st:List Tree) (r:List zb.T),(okS dims st (t.flat++r)↔okS dims (st++[t]) r)/\uT st (t.flat++r)=uT (st++[t]) r/\news st (t.flat++r)=t.subs++news (st++[t]) r) (fun n ks ih hw st r=>?_) t;obtain ⟨⟨h1,h2⟩,h3⟩:=tI.1 hw;have key:∀(l:List Tree),(∀k∈l,k∈ks)->∀(st:List Tree) (r:List zb.T),(okS dims st (yE l++r)↔okS dims (st++l) r)/\uT st (yE l++r)=uT (st++l) r/\news st (yE l++r)=uv l++news (st++l) r:=by
  intro l;induction l with
  | nil=>intro _ st r; simp[yE,uv]
  | cons k l ihl =>
   intro hl st r;obtain ⟨a1,a2,a3⟩:=ih k (hl k (by simp)) (h3 k (hl k (by simp))) st (yE l++r);obtain ⟨b1,b2,b3⟩:=ihl (fun x hx=>hl x (by simp[hx])) (st++[k]) r;rw[va,List.append_assoc];refine ⟨a1.trans (b1.trans ?_),a2.trans (b2.trans ?_),?_⟩
   ·rw[List.append_assoc]; rfl
   ·rw[List.append_assoc]; rfl
   ·rw[a3,b3,List.append_assoc st [k] l]
    unfold uv;simp
 obtain ⟨c1,c2,c3⟩:=key ks (fun k hk=>hk) st ([n]++r);rw[Z4,List.append_assoc];have hd:(st++ks).length-ar n=st.length:=by simp; omega
 have ht:wa (st++ks) n=.nd n ks:=by
  unfold wa;rw[hd]; simp
 have hs:wi (st++ks) n=st++[.nd n ks]:=by
  unfold wi;rw[ht,hd]; simp
 refine ⟨c1.trans ?_,c2.trans ?_,?_⟩
 ·show (wq dims n (st++ks).length=0/\okS dims (wi (st++ks) n) r)↔_
  rw[hs];exact ⟨fun h=>h.2,fun h=>⟨V6 h2 (by simp; omega),h⟩⟩
 ·show uT (wi (st++ks) n) r=_
  rw[hs]
 ·rw[c3,VA]
  show uv ks++(wa (st++ks) n::news (wi (st++ks) n) r)=_;rw[hs,ht]; simp
theorem good_of {name:ByteArray} {D:List yv.T} {m:Int} {t:Tree} (hh:Zj name D m=0) (hw:WF D.length t) (hs:t.size<=1024):Good (name,D,m,t.flat) t:=by
 obtain ⟨a1,a2,a3⟩:=wf_step t hw [] [];rw[List.append_nil] at a1 a2;exact ⟨hh,hs,a1.2 trivial,a2⟩
theorem Q6 {ks:List (LTr zb.T)} (F:Nat) (h:ks.length<=4194304):yP.sh F ks=some ((ks,()),()):=by
 unfold yP.sh qk;rw[show Nat.ble ks.length 1099511627776=true from by rw[Nat.ble_eq]; omega]; rfl
theorem Q5 {ks:List zL.T} (F:Nat) (h:ks.length<=4194304):yD.sh F ks=some ((ks,()),()):=by
 unfold yD.sh qk;rw[show Nat.ble ks.length 1099511627776=true from by rw[Nat.ble_eq]; omega]; rfl
theorem zbu {ks:List yv.T} (F:Nat) (h:ks.length<=4194304):yX.sh F ks=some ((ks,()),()):=by
 unfold yX.sh qk;rw[show Nat.ble ks.length 1099511627776=true from by rw[Nat.ble_eq]; omega]; rfl
theorem RM (F:Nat) {R:Type} (k:List (LTr zb.T)->Option R) (L:List zb.T) (N:Int) (dims:Nat):∀(xs:List zb.T) (i:Int) (st:List Tree),okS dims st xs->(yE st).length+xs.length<=4096->
  zF.l3.rg F (fun _ _ _ _ p=>k p) L N xs i (st.map toL)=k ((uT st xs).map toL)
 | [],i,st,_,_=>rfl
 | n::r,i,st,h,hl=>by
  have hn:=xB h.1;have ha:=hn.2.2.2.2.2.2.1;have hst:=wM st;simp only[List.length_cons] at hl;have hstep:(yE (wi st n)).length+r.length<=4096:=by rw[vE]; simp; omega
  have ih:=RM F k L N dims r (i+1) (wi st n) h.2 hstep;have hw:i64.wrap (((st.map toL).length:Int)-(ar n:Int))=((st.length-ar n:Nat):Int):=by rw[List.length_map]; exact Zs ha (by omega)
  have b1:zD (st.map toL).length none (some ((st.length-ar n:Nat):Int))=(true,0,st.length-ar n):=by
   unfold zD;have e2:decide (((0:Int))<=((st.length-ar n:Nat):Int))=true:=decide_eq_true (by omega);have e3:decide (((st.length-ar n:Nat):Int)<=((st.map toL).length:Int))=true:=decide_eq_true (by rw[List.length_map]; omega);simp only[Option.getD_none,Option.getD_some,e2,e3,Int.toNat_natCast];rfl
  have b2:zD (st.map toL).length (some ((st.length-ar n:Nat):Int)) none=(true,st.length-ar n,(st.map toL).length):=by
   unfold zD;have e2:decide (((0:Int))<=((st.length-ar n:Nat):Int))=true:=decide_eq_true (by omega);have e3:decide (((st.length-ar n:Nat):Int)<=((st.map toL).length:Int))=true:=decide_eq_true (by rw[List.length_map]; omega);have e4:decide (((st.map toL).length:Int)<=((st.map toL).length:Int))=true:=decide_eq_true (Int.le_refl _);simp only[Option.getD_none,Option.getD_some,e2,e3,e4,Int.toNat_natCast];rfl
  have hd:(List.take (st.map toL).length (st.map toL)).drop (st.length-ar n)=(st.drop (st.length-ar n)).map toL:=by
   rw[List.take_length,List.map_drop]
  unfold zF.l3.rg;rw[zbk F hn.1 hn.2.2.2.1,zr];simp only[hw,b1,b2,cond_true,hd];rw[Q6 F (by simp; omega),zr];rw[show Nat.ble (st.length-ar n+([(LTr.nd n ((st.drop (st.length-ar n)).map toL))]:List (LTr zb.T)).length) xv=true from vU (by simp; omega)];simp only[cond_true];have e:(st.map toL).take (st.length-ar n)++[LTr.nd n ((st.drop (st.length-ar n)).map toL)]=(wi st n).map toL:=by
   unfold wi wa;rw[List.map_append,List.map_take,List.map_cons,Zu,List.map_nil]
  rw[e];exact ih
theorem zcu (F:Nat) (hF:4096<F) {p:zQ.T} {t:Tree} (h:Good p t):zF.sh F p.2.2.2=some ((toL t,()),()):=by
 have hl:=h.len;unfold zF.sh;refine Eq.trans (zF.l3.rg_eq F _ p.2.2.2 _ rfl (by omega) p.2.2.2 0 F _ (by simp) (by omega)) ?_;refine (RM F (fun p=>zF.j8 F (fun r=>(some ((r,()),()):Option zF.sg.R)) p) p.2.2.2 (p.2.2.2.length:Int) p.2.1.length p.2.2.2 0 [] h.ok (by simp[yE]; omega)).trans ?_;rw[h.eq];rfl
theorem zap (F:Nat) {R:Type} (me:zn.M) (k:LTr zb.T->List zb.T->Option R) (L:List (LTr zb.T)) (N:Int) (x:LTr zb.T):∀(ks:List Tree) (i:Int) (l:List zb.T),
  (∀k∈ks,∀l:List zb.T,l.length+k.size<=4096->me (toL k) l=some ((l++k.flat,()),()))->l.length+(yE ks).length<=4096->
  zn.l2.rg me F (fun x _ _ _ _ l=>k x l) L N (ks.map toL) i x l=k x (l++yE ks)
 | [],i,l,_,_=>by show k x l=_; simp[yE]
 | t::r,i,l,hm,hl=>by
  rw[va] at hl ⊢;simp only[List.length_append] at hl;have ih:=zap F me k L N x r (i+1) (l++t.flat) (fun k hk=>hm k (by simp[hk])) (by simp; omega);simp only[List.map_cons];unfold zn.l2.rg;rw[hm t (by simp) l (by unfold Tree.size; omega),zr];refine ih.trans ?_;rw[List.append_assoc]
theorem W0 {dims:Nat} {n:zb.T} {pile:Nat} (h:wq dims n pile=0):(nT n).length<=16:=by
 obtain ⟨_,_,_,_,_,h6,_,h8⟩:=xB h;cases hb:v8 n with
 | false=>rw[h6 hb]; simp
 | true=>exact (ud (h8 hb)).2.1
theorem laid_it (F:Nat) (hF:4096<F) {dims:Nat} (t:Tree):WF dims t->∀(n:Nat) (l:List zb.T),t.size<n->l.length+t.size<=4096->zn.it F n (toL t) l=some ((l++t.flat,()),()):=by
 refine Tree.ind (P:=fun t=>WF dims t->∀(n:Nat) (l:List zb.T),t.size<n->l.length+t.size<=4096->zn.it F n (toL t) l=some ((l++t.flat,()),())) (fun m ks ih hw n l hn hl=>?_) t;obtain ⟨⟨h1,h2⟩,h3⟩:=tI.1 hw;rw[wL] at hn hl;have hk:=wM ks;obtain ⟨n',rfl⟩:∃k,n=k+1:=⟨n-1,by omega⟩;unfold zn.it;unfold zn.sh0;rw[wz,cond_true,vP];refine Eq.trans (zn.l2.rg_eq (zn.it F n') F _ (ks.map toL) _ rfl (by simp; omega) (ks.map toL) 0 F _ _ (by simp) (by simp; omega)) ?_;refine (zap F (zn.it F n') (fun x2 l2=>bif LTr.isNd x2 then oB (yD.sh F (LTr.lab (Ty.dflt zb) x2).2.2.2.2.1) fun c_3 =>
   bif Nat.ble (l2.length+([((LTr.lab (Ty.dflt zb) x2).1,(LTr.lab (Ty.dflt zb) x2).2.1,(LTr.lab (Ty.dflt zb) x2).2.2.1,(LTr.lab (Ty.dflt zb) x2).2.2.2.1,c_3.1.1,(LTr.lab (Ty.dflt zb) x2).2.2.2.2.2)]:List zb.T).length) xv then (some ((l2++([((LTr.lab (Ty.dflt zb) x2).1,(LTr.lab (Ty.dflt zb) x2).2.1,(LTr.lab (Ty.dflt zb) x2).2.2.1,(LTr.lab (Ty.dflt zb) x2).2.2.2.1,c_3.1.1,(LTr.lab (Ty.dflt zb) x2).2.2.2.2.2)]:List zb.T),()),()):Option zn.sg.R)
   else none
  else none) (ks.map toL) ((ks.map toL).length:Int) (toL (.nd m ks)) ks 0 l (fun k hk' l hl'=>ih k hk' (h3 k hk') n' l (by have:=ug hk'; omega) hl') (by omega)).trans ?_
 have ht:=W0 h2;rw[wz,cond_true,wG];show oB (yD.sh F (nT m)) _=_;rw[Q5 F (by omega),zr];rw[show Nat.ble ((l++yE ks).length+([((Tree.nd m ks).root.1,(Tree.nd m ks).root.2.1,(Tree.nd m ks).root.2.2.1,(Tree.nd m ks).root.2.2.2.1,nT m,(Tree.nd m ks).root.2.2.2.2.2)]:List zb.T).length) xv=true from vU (by simp; omega),cond_true,Z4,<-List.append_assoc];rfl
end Go.VS
