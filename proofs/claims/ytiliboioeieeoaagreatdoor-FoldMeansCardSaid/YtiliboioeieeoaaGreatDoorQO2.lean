import Derived.Test.YtiliboioeieeoaaGreatDoorQO1
set_option linter.unusedVariables false
set_option linter.unusedSimpArgs false
set_option linter.unusedSectionVars false
set_option linter.unusedVariables false
set_option linter.unusedSimpArgs false
set_option maxRecDepth 100000
namespace Go.VS
open Go IntKind
def UW (n:zb.T) (rs:List (Bool×Bool)):Bool×Bool:=bif isQ n then (false,false) else (rs.all (·.1),nK n==2||rs.any (·.2))
def wJ:Tree->Bool×Bool:=Tree.fold UW
theorem tc (n:zb.T) (ks:List Tree):wJ (.nd n ks)=UW n (ks.map wJ):=Tree.fold_nd _ n ks
theorem Qi (F:Nat) {R:Type} (me:zm.M) (k:Bool->Bool->Option R) (L:List (LTr zb.T)) (N:Int):∀(ks:List Tree) (i:Int) (is money:Bool),
  (∀x∈ks,me (toL x)=some (((wJ x).1,(wJ x).2,()),()))->
  zm.l5.rg me F (fun is m _ _ _ _=>k is m) L N (ks.map toL) i is money=k (is&&(ks.map wJ).all (·.1)) (money||(ks.map wJ).any (·.2))
 | [],i,is,money,_=>by show k is money=_; simp
 | t::r,i,is,money,hm=>by
  have ih:=fun is money=>Qi F me k L N r (i+1) is money (fun x hx=>hm x (by simp[hx]))
  simp only[List.map_cons];unfold zm.l5.rg;rw[hm t (by simp),zp];simp only[List.all_cons,List.any_cons];cases is<;>cases money
  ·simp only[cond_false,ih,Bool.false_and,Bool.false_or]
  ·simp only[cond_false,cond_true,ih,Bool.false_and,Bool.true_or]
  ·simp only[cond_false,cond_true,ih,Bool.true_and,Bool.false_or]
  ·simp only[cond_true,ih,Bool.true_and,Bool.true_or]
theorem zdd (F:Nat) (hF:4096<F) (t:Tree):t.size<=4096->∀n:Nat,t.size<n->zm.it F n (toL t)=some (((wJ t).1,(wJ t).2,()),()):=by
 refine Tree.ind (P:=fun t=>t.size<=4096->∀n:Nat,t.size<n->zm.it F n (toL t)=some (((wJ t).1,(wJ t).2,()),())) (fun m ks ih hs n hn=>?_) t;rw[wX] at hs hn;have hk:=wP ks;obtain ⟨n',rfl⟩:∃k,n=k+1:=⟨n-1,by omega⟩;unfold zm.it zm.sh0;rw[wL,cond_true,wS,ug,tc];unfold UW isQ;show (bif nK m==3 then _ else _)=_;cases h3:(nK m==3) with
 | true=>rfl
 | false =>
  simp only[cond_false,cond_true,Bool.false_or];show (bif nK m==4 then _ else _)=_;cases h4:(nK m==4) with
  | true=>rfl
  | false =>
   simp only[cond_false,cond_true];refine Eq.trans (zm.l5.rg_eq (zm.it F n') F _ (ks.map toL) _ rfl (by simp; omega) (ks.map toL) 0 F _ _ (by simp) (by simp; omega)) ?_;refine (Qi F (zm.it F n') (fun is money=>(some ((is,money,()),()):Option zm.sg.R)) (ks.map toL) ((ks.map toL).length:Int) ks 0 true _ (fun x hx=>ih x hx (by have:=uz hx; omega) n' (by have:=uz hx; omega))).trans ?_;rfl
theorem zde {t:Tree} (hs:t.size<=4096):zm.sh FU (toL t)=some (((wJ t).1,(wJ t).2,()),()) :=
 zdd FU vZ t hs FU (by have:(4096:Nat)<FU:=vZ; omega)
def er:Tree->Tree:=Tree.fold (fun n ks=>.nd (n.1,n.2.1,n.2.2.1,n.2.2.2.1,n.2.2.2.2.1,0) ks)
theorem zdh (n:zb.T) (ks:List Tree):er (.nd n ks)=.nd (n.1,n.2.1,n.2.2.1,n.2.2.2.1,n.2.2.2.2.1,0) (ks.map er):=Tree.fold_nd _ n ks
theorem VC {n m:zb.T} {ks ls:List Tree}:er (.nd n ks)=er (.nd m ls)↔n.1=m.1/\n.2.1=m.2.1/\n.2.2.1=m.2.2.1/\n.2.2.2.1=m.2.2.2.1/\n.2.2.2.2.1=m.2.2.2.2.1/\ks.map er=ls.map er:=by
 rw[zdh,zdh];simp only[Tree.nd.injEq,Prod.mk.injEq,and_true];constructor
 ·rintro ⟨⟨a,b,c,d,e⟩,f⟩; exact ⟨a,b,c,d,e,f⟩
 ·rintro ⟨a,b,c,d,e,f⟩; exact ⟨⟨a,b,c,d,e⟩,f⟩
noncomputable def vq (x y:Tree):Bool:=@decide (er x=er y) (Classical.propDecidable _)
theorem tS {x y:Tree}:vq x y=true↔er x=er y:=by unfold vq; exact @decide_eq_true_iff _ (Classical.propDecidable _)
theorem VE (F:Nat) {R:Type} (k0:Bool->Option R) (k1:Bool->Option R):∀(d i fu:Nat) (a b:List zN.T),a.length=b.length->i+d=a.length->d<fu->a.length<4611686018427387904->
  zD.l4 F k0 (fun _ _ _ _ t=>k1 t) fu a b (a.length:Int) (i:Int)=if a.drop i=b.drop i then k1 false else k0 false
 | 0,i,fu,a,b,h,hi,hf,hl=>by
  obtain ⟨fu,rfl⟩:∃k,fu=k+1:=⟨fu-1,by omega⟩;have e1:=vN (N:=(a.length:Int)) (n:=a.length) (i:=i) rfl (by omega);rw[if_pos (by rw[List.drop_of_length_le (by omega),List.drop_of_length_le (by omega)])];simp only[zD.l4,zD.l4.body,e1,cond_false]
 | d+1,i,fu,a,b,h,hi,hf,hl=>by
  obtain ⟨fu,rfl⟩:∃k,fu=k+1:=⟨fu-1,by omega⟩;have hia:i<a.length:=by omega
  have hib:i<b.length:=by omega
  have ih:=VE F k0 k1 d (i+1) fu a b h (by omega) (by omega) hl;have ea:get zN a ((i:Int)).toNat=a[i]:=by rw[Int.toNat_natCast]; exact W9 hia
  have eb:get zN b ((i:Int)).toNat=b[i]:=by rw[Int.toNat_natCast]; exact W9 hib
  have hw:i64.wrap ((i:Int)+1)=((i+1:Nat):Int):=by rw[yV (by omega) (by omega)]; omega
  have hd:(a.drop i=b.drop i)↔(a[i]=b[i]/\a.drop (i+1)=b.drop (i+1)):=by
   rw[List.drop_eq_getElem_cons hia,List.drop_eq_getElem_cons hib,List.cons.injEq]
  simp only[zD.l4,zD.l4.body];rw[vM (N:=(a.length:Int)) rfl hia,cond_true,xm hia,cond_true,xm hib,cond_true,ea,eb,hw];by_cases hx:a[i]=b[i]
  ·rw[hx]
   simp only[beq_self_eq_true,Bool.and_true,Bool.not_true,cond_false];rw[ih];by_cases hr:a.drop (i+1)=b.drop (i+1)
   ·rw[if_pos hr,if_pos (hd.2 ⟨hx,hr⟩)]
   ·rw[if_neg hr,if_neg (fun h=>hr (hd.1 h).2)]
  ·have hne:(!((a[i].1==b[i].1)&&((a[i].2==b[i].2)&&true)))=true:=by
    rw[Bool.not_eq_true',Bool.and_true];by_cases h1:a[i].1=b[i].1
    ·have h2:a[i].2≠b[i].2:=fun e=>hx (Prod.ext h1 e)
     rw[show (a[i].2==b[i].2)=false from by rw[beq_eq_false_iff_ne]; exact h2,Bool.and_false]
    ·rw[show (a[i].1==b[i].1)=false from by rw[beq_eq_false_iff_ne]; exact h1,Bool.false_and]
   rw[hne,cond_true,if_neg (fun h=>hx (hd.1 h).1)]
theorem zbT (F:Nat) {a b:List zN.T} (hF:a.length<F) (hl:a.length<4611686018427387904):zD.sh F a b=some ((decide (a=b),()),()):=by
 unfold zD.sh;by_cases h:a.length=b.length
 ·rw[show ((a.length:Int) != (b.length:Int))=false from by simp[h],cond_false]
  refine (VE F (fun r=>(some ((r,()),()):Option zD.sg.R)) (fun _=>some ((true,()),())) a.length 0 F a b h (by omega) hF hl).trans ?_;simp only[List.drop_zero];by_cases he:a=b
  ·rw[if_pos he,decide_eq_true he]
  ·rw[if_neg he,decide_eq_false he]
 ·rw[show ((a.length:Int) != (b.length:Int))=true from by rw[bne_iff_ne]; omega,cond_true,decide_eq_false (fun e=>h (by rw[e]))]
open Classical in
theorem Sj (F:Nat) {R:Type} (me:zZ.M) (k0:Bool->Option R) (k1:Option R) (T:List (LTr zb.T)) (N:Int) (ls:List Tree):∀(xs ys:List Tree) (i:Nat),ls.drop i=ys->xs.length=ys.length->
  (∀x∈xs,∀y:Tree,me (toL x) (toL y)=some ((vq x y,()),()))->
  zh.l4.rg me F k0 (fun _ _ _ _ _ _=>k1) T N (xs.map toL) (i:Int) (ls.map toL) uU=if xs.map er=ys.map er then k1 else k0 false
 | [],[],i,hd,_,_=>by rw[if_pos rfl]; rfl
 | [],_::_,i,hd,h,_=>by simp at h
 | _::_,[],i,hd,h,_=>by simp at h
 | x::xs,y::ys,i,hd,h,hm=>by
  have hi:i<ls.length:=by
   rcases Nat.lt_or_ge i ls.length with h' | h'
   ·exact h'
   ·rw[List.drop_of_length_le h'] at hd; cases hd
  have hy:ls[i]?=some y:=by
   have:=congrArg (fun l:List Tree=>l[0]?) hd;simpa [List.getElem?_drop] using this
  have hd':ls.drop (i+1)=ys:=by
   rw[<-List.drop_drop,hd]; rfl
  have ih:=Sj F me k0 k1 T N ls xs ys (i+1) hd' (by simpa using h) (fun x hx=>hm x (by simp[hx]));simp only[List.map_cons];unfold zh.l4.rg;rw[xm (by simpa using hi),cond_true,Int.toNat_natCast,zb2 hy];show (oB (me (toL x) (toL y)) _)=_;rw[hm x (by simp) y,zp];cases hs:vq x y with
  | true =>
   have e:=tS.1 hs;simp only[Bool.not_true,cond_false];rw[show ((i:Int)+1)=((i+1:Nat):Int) by omega,ih,e];by_cases hr:xs.map er=ys.map er
   ·rw[if_pos hr,if_pos (by rw[hr])]
   ·rw[if_neg hr,if_neg (fun h=>hr (by simpa using h))]
  | false =>
   simp only[Bool.not_false,cond_true];rw[if_neg (fun h:er x::xs.map er=er y::ys.map er=>by
    have:=tS.2 (List.cons.inj h).1;rw[hs] at this; cases this)]
theorem same_it (F:Nat) (hF:4096<F) {dims:Nat} (x:Tree):WF dims x->x.size<=4096->∀(n:Nat) (y:Tree),x.size<n->zZ.it F n (toL x) (toL y)=some ((vq x y,()),()):=by
 refine Tree.ind (P:=fun x=>WF dims x->x.size<=4096->∀(n:Nat) (y:Tree),x.size<n->zZ.it F n (toL x) (toL y)=some ((vq x y,()),())) (fun m ks ih hw hs n y hn=>?_) x;obtain ⟨⟨h1,h2⟩,h3⟩:=tY.1 hw;rw[wX] at hs hn;have hk:=wP ks;obtain ⟨n',rfl⟩:∃k,n=k+1:=⟨n-1,by omega⟩;obtain ⟨m',ls⟩:=y;have ht:=Vp h2;unfold zZ.it zZ.sh0;simp only[wL,cond_true,wS,ug];show (bif m.1==m'.1 then _ else _)=_;have no:¬(er (.nd m ks)=er (.nd m' ls))->vq (.nd m ks) (.nd m' ls)=false:=fun h=>by
  cases hb:vq (.nd m ks) (.nd m' ls) with
  | false=>rfl
  | true=>exact absurd (tS.1 hb) h
 by_cases e1:m.1=m'.1
 case neg=>rw[show (m.1==m'.1)=false from by rw[beq_eq_false_iff_ne]; exact e1,cond_false,no (fun h=>e1 (VC.1 h).1)]
 rw[show (m.1==m'.1)=true from by rw[beq_iff_eq]; exact e1,cond_true];show (bif m.2.1==m'.2.1 then _ else _)=_;by_cases e2:m.2.1=m'.2.1
 case neg=>rw[show (m.2.1==m'.2.1)=false from by rw[beq_eq_false_iff_ne]; exact e2,cond_false,no (fun h=>e2 (VC.1 h).2.1)]
 rw[show (m.2.1==m'.2.1)=true from by rw[beq_iff_eq]; exact e2,cond_true];show (bif m.2.2.1==m'.2.2.1 then _ else _)=_;by_cases e3:m.2.2.1=m'.2.2.1
 case neg=>rw[show (m.2.2.1==m'.2.2.1)=false from by rw[beq_eq_false_iff_ne]; exact e3,cond_false,no (fun h=>e3 (VC.1 h).2.2.1)]
 rw[show (m.2.2.1==m'.2.2.1)=true from by rw[beq_iff_eq]; exact e3,cond_true];show (bif m.2.2.2.1==m'.2.2.2.1 then _ else _)=_;by_cases e4:m.2.2.2.1=m'.2.2.2.1
 case neg=>rw[show (m.2.2.2.1==m'.2.2.2.1)=false from by rw[beq_eq_false_iff_ne]; exact e4,cond_false,no (fun h=>e4 (VC.1 h).2.2.2.1)]
 rw[show (m.2.2.2.1==m'.2.2.2.1)=true from by rw[beq_iff_eq]; exact e4,cond_true];show (oB (zD.sh F (nT m) (nT m')) _)=_;rw[zbT F (by omega) (by omega),zp];by_cases e5:nT m=nT m'
 case neg =>
  rw[decide_eq_false e5];simp only[cond_false];rw[no (fun h=>e5 (VC.1 h).2.2.2.2.1)]
 rw[decide_eq_true e5];simp only[cond_true];rw[wL,cond_true,wL,cond_true,ug,ug];show (oB (zh.sh (zZ.it F n') F (ks.map toL) (ls.map toL) uU) _)=_;have hsh:zh.sh (zZ.it F n') F (ks.map toL) (ls.map toL) uU=some ((vq (.nd m ks) (.nd m' ls),()),()):=by
  unfold zh.sh;by_cases hl:ks.length=ls.length
  ·rw[show (((ks.map toL).length:Int) != ((ls.map toL).length:Int))=false from by simp[hl],cond_false]
   refine Eq.trans (zh.l4.rg_eq (zZ.it F n') F _ _ (ks.map toL) _ rfl (by simp; omega) (ks.map toL) 0 F _ _ (by simp) (by simp; omega)) ?_;refine (Sj F (zZ.it F n') (fun r=>(some ((r,()),()):Option zh.sg.R)) (some ((true,()),())) (ks.map toL) ((ks.map toL).length:Int) ls ks ls 0 (by simp) hl
    (fun x hx y=>ih x hx (h3 x hx) (by have:=uz hx; omega) n' y (by have:=uz hx; omega))).trans ?_
   by_cases he:ks.map er=ls.map er
   ·rw[if_pos he,tS.2 (VC.2 ⟨e1,e2,e3,e4,e5,he⟩)]
   ·rw[if_neg he,no (fun h=>he (VC.1 h).2.2.2.2.2)]
  ·rw[show (((ks.map toL).length:Int) != ((ls.map toL).length:Int))=true from by rw[bne_iff_ne]; simp; omega,cond_true,no (fun h=>hl (by
    have:=congrArg List.length (VC.1 h).2.2.2.2.2;simpa using this))]
 rw[hsh,zp]
theorem zaF {dims:Nat} {x y:Tree} (hw:WF dims x) (hs:x.size<=4096):zZ.sh FU (toL x) (toL y)=some ((vq x y,()),()) :=
 same_it FU vZ x hw hs FU y (by have:(4096:Nat)<FU:=vZ; omega)
end Go.VS
