import Derived.Test.YtiliboioeieeoaaGreatDoorQO8
set_option linter.unusedVariables false
set_option linter.unusedSimpArgs false
set_option linter.unusedSectionVars false
set_option linter.unusedVariables false
set_option linter.unusedSimpArgs false
set_option maxRecDepth 100000
namespace Go.VS
open Go
theorem Rq {R:Type} (me:za.M) (F:Nat) (k0 k1:LTr zb.T->Option R) (L:List (Nat×zd.T)) (N:Int) (f:zd.T) (x:LTr zb.T):∀(rs:List (Nat×Option Tree)) (i:Int),
  (∀r∈rs,za.d63 me F r.1 (f,x,())=some ((qD r.2,()),()))->
  za.l9.rg me F k0 (fun x _ _ _ _ _=>k1 x) L N (rs.map fun r=>(r.1,f)) i x f=match W0 (rs.map (·.2)) with
   | some y=>oB (me f (toL y)) fun c=>k0 c.1.1
   | none=>k1 x
 | [],i,h=>rfl
 | (fn,r)::rs,i,h=>by
  have h1:=h (fn,r) (by simp);have ih:=Rq me F k0 k1 L N f x rs (i+1) fun r hr=>h r (by simp[hr])
  simp only[List.map_cons];unfold za.l9.rg;simp only at h1;rw[h1,zq];cases r with
  | none =>
   show (bif LTr.isNd (LTr.nil:LTr zb.T) then _ else _)=_;exact ih
  | some y =>
   show (bif LTr.isNd (toL y) then _ else _)=_;rw[wA]; rfl
theorem S8 (me:za.M) (F:Nat) (f:zd.T) (x:LTr zb.T):za.d63 me F xX (f,x,())=zB.sh F f x:=rfl
theorem d63_neg (me:za.M) (F:Nat) (f:zd.T) (x:LTr zb.T):za.d63 me F wG (f,x,())=yJ.sh F f x:=rfl
theorem d63_off (me:za.M) (F:Nat) (f:zd.T) (x:LTr zb.T):za.d63 me F wF (f,x,())=yI.sh F f x:=rfl
theorem S9 (me:za.M) (F:Nat) (f:zd.T) (x:LTr zb.T):za.d63 me F xY (f,x,())=yg.sh F f x:=rfl
theorem Qc (me:za.M) (F:Nat) (f:zd.T) (x:LTr zb.T):za.d63 me F x9 (f,x,())=zf.sh F f x:=rfl
theorem Qd (me:za.M) (F:Nat) (f:zd.T) (x:LTr zb.T):za.d63 me F wa (f,x,())=ym.sh F f x:=rfl
theorem zde (me:za.M) (F:Nat) (f:zd.T) (x:LTr zb.T):za.d63 me F wy (f,x,())=yz.sh F f x:=rfl
theorem QX (me:za.M) (F:Nat) (hF:4096<F) (f:zd.T) (m:zb.T) (ks:List Tree) (g:Tree->Tree) (hk:∀k∈ks,me f (toL k)=some ((toL (g k),()),())) (hl:ks.length<=4096) (r1 r2 r3 r4 r5 r6 r7:Option Tree)
  (h1:zB.sh F f (toL (.nd m (ks.map g)))=some ((qD r1,()),()))
  (h2:yJ.sh F f (toL (.nd m (ks.map g)))=some ((qD r2,()),()))
  (h3:yI.sh F f (toL (.nd m (ks.map g)))=some ((qD r3,()),()))
  (h4:yg.sh F f (toL (.nd m (ks.map g)))=some ((qD r4,()),()))
  (h5:zf.sh F f (toL (.nd m (ks.map g)))=some ((qD r5,()),()))
  (h6:ym.sh F f (toL (.nd m (ks.map g)))=some ((qD r6,()),()))
  (h7:yz.sh F f (toL (.nd m (ks.map g)))=some ((qD r7,()),())) :
  za.sh0 me F f (toL (.nd m ks))=match W0 [r1,r2,r3,r4,r5,r6,r7] with
   | some y=>oB (me f (toL y)) fun c=>some ((c.1.1,()),())
   | none=>some ((toL (.nd m (ks.map g)),()),()):=by
 have hmx:(4096:Nat)<=xx:=by decide
 have hlen:(ks.map toL).length=ks.length:=List.length_map ..;unfold za.sh0;rw[wA,cond_true,vU];rw[show (Tree.nd m ks).kids=ks from rfl];rw[decide_eq_true (show (0:Int)<=((ks.map toL).length:Int) by omega),decide_eq_true (Int.le_refl ((ks.map toL).length:Int)),decide_eq_true (show ((ks.map toL).length:Int)<=(xx:Int) by rw[hlen]; omega)];simp only[Bool.and_self,cond_true];refine Eq.trans (za.l3.rg_eq me F _ (ks.map toL) _ rfl (by rw[hlen]; omega) (ks.map toL) 0 F _ _ _ (by simp) (by rw[hlen]; omega)) ?_;refine (TW me F (fun x2 kids2 f2=>za.j7 me F (fun r47=>(some ((r47,()),()):Option za.sg.R)) (fun r48=>some ((r48,()),())) x2 kids2 f2) (ks.map toL) ((ks.map toL).length:Int) f (toL (.nd m ks)) g ks 0 [] _ rfl (by
  rw[List.length_replicate,hlen]; omega) hk).trans ?_
 unfold za.j7;rw[wA,cond_true,wH,List.nil_append];have hX:LTr.nd (Tree.nd m ks).root (ks.map fun k=>toL (g k))=toL (.nd m (ks.map g)):=by rw[ZG,List.map_map]; rfl
 rw[hX];have hrs:∀r∈[(xX,r1),(wG,r2),(wF,r3),(xY,r4),(x9,r5),(wa,r6),(wy,r7)],za.d63 me F r.1 (f,toL (.nd m (ks.map g)),())=some ((qD r.2,()),()):=by
  intro r hr;simp only[List.mem_cons,List.not_mem_nil,or_false] at hr;rcases hr with rfl | rfl | rfl | rfl | rfl | rfl | rfl
  ·exact (S8 me F f _).trans h1
  ·exact (d63_neg me F f _).trans h2
  ·exact (d63_off me F f _).trans h3
  ·exact (S9 me F f _).trans h4
  ·exact (Qc me F f _).trans h5
  ·exact (Qd me F f _).trans h6
  ·exact (zde me F f _).trans h7
 refine Eq.trans (za.l9.rg_eq me F _ _ [(xX,f),(wG,f),(wF,f),(xY,f),(x9,f),(wa,f),(wy,f)] _ rfl (by show 7<9223372036854775807; decide) _ 0 F _ _ rfl (by show 7<F; omega)) ?_;exact Rq me F (fun r45=>(some ((r45,()),()):Option za.sg.R)) (fun r45=>some ((r45,()),())) _ _ f (toL (.nd m (ks.map g))) _ 0 hrs
theorem WX (F:Nat) (hF:F=FU) {u:Int} {D:List yr.T} (c:Cxt u D):∀(n:Nat) (t:Tree),t.size<n->OKT u D t->za.it F n (mk u) (toL t)=some ((toL (wQ u D n t),()),())
 | 0,t,h,_=>by omega
 | n+1,t,hn,h=>by
  obtain ⟨m,ks⟩:=t;have hFb:4096<F:=by rw[hF]; exact uc
  have hsz:=h.size;rw[wM] at hsz;have hlen:=wN ks;have ihk:∀k∈ks,za.it F n (mk u) (toL k)=some ((toL (wQ u D n k),()),()):=fun k hk=>WX F hF c n k (by have:=tS (n:=m) hk; omega) (h.kid hk)
  have hx:=FK.kids c h fun k hk=>(Zh c n k (by have:=tS (n:=m) hk; omega) (h.kid hk)).1
  have hxs:=hx.size;have e:wQ u D (n+1) (.nd m ks)=match tU u D (.nd m (ks.map (wQ u D n))) with
   | some y=>wQ u D n y
   | none=>.nd m (ks.map (wQ u D n)):=rfl
  rw[e];have hs4:(Tree.nd m (ks.map (wQ u D n))).size<=4096:=by have:=hx.okt.size; omega
  have hwf:=hx.okt.wf;refine (QX (za.it F n) F hFb (mk u) m ks (wQ u D n) ihk (by omega) _ _ _ _ _ _ _ (by rw[hF]; exact za7 c (q0_ok D) hx.okt) (zcy F (mk u) hwf) (zct F (mk u) hwf) (by rw[hF]; exact Td (mk u) hwf hs4) (by rw[hF]; exact Sq (mk u) hwf hs4) (SF F (mk u) hwf) (zbl F (mk u) hwf)).trans ?_;show (match tU u D (.nd m (ks.map (wQ u D n))) with
    | some y=>oB (za.it F n (mk u) (toL y)) fun c=>some ((c.1.1,()),())
    | none=>some ((toL (.nd m (ks.map (wQ u D n))),()),()))=_
  cases hr:tU u D (.nd m (ks.map (wQ u D n))) with
  | none=>rfl
  | some y =>
   obtain ⟨r1,r2⟩:=To c hx.okt hr;show oB (za.it F n (mk u) (toL y)) _=_;rw[WX F hF c n y (by omega) r1.okt]; rfl
end Go.VS
