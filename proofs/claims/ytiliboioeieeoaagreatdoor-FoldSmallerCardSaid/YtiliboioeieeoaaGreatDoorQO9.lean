import Derived.Test.YtiliboioeieeoaaGreatDoorQO8
set_option linter.unusedVariables false
set_option linter.unusedSimpArgs false
set_option linter.unusedSectionVars false
set_option linter.unusedVariables false
set_option linter.unusedSimpArgs false
set_option maxRecDepth 100000
namespace Go.VS
open Go
theorem Rj {R:Type} (me:za.M) (F:Nat) (k0 k1:LTr zb.T->Option R) (L:List (Nat×zd.T)) (N:Int) (f:zd.T) (x:LTr zb.T):∀(rs:List (Nat×Option Tree)) (i:Int),
  (∀r∈rs,za.d63 me F r.1 (f,x,())=some ((qu r.2,()),()))->
  za.l9.rg me F k0 (fun x _ _ _ _ _=>k1 x) L N (rs.map fun r=>(r.1,f)) i x f=match WP (rs.map (·.2)) with
   | some y=>oB (me f (toL y)) fun c=>k0 c.1.1
   | none=>k1 x
 | [],i,h=>rfl
 | (fn,r)::rs,i,h=>by
  have h1:=h (fn,r) (by simp);have ih:=Rj me F k0 k1 L N f x rs (i+1) fun r hr=>h r (by simp[hr])
  simp only[List.map_cons];unfold za.l9.rg;simp only at h1;rw[h1,zr];cases r with
  | none =>
   show (bif LTr.isNd (LTr.nil:LTr zb.T) then _ else _)=_;exact ih
  | some y =>
   show (bif LTr.isNd (toL y) then _ else _)=_;rw[wz]; rfl
theorem SZ (me:za.M) (F:Nat) (f:zd.T) (x:LTr zb.T):za.d63 me F xU (f,x,())=zz.sh F f x:=rfl
theorem d63_neg (me:za.M) (F:Nat) (f:zd.T) (x:LTr zb.T):za.d63 me F wF (f,x,())=yG.sh F f x:=rfl
theorem d63_off (me:za.M) (F:Nat) (f:zd.T) (x:LTr zb.T):za.d63 me F wE (f,x,())=yF.sh F f x:=rfl
theorem S0 (me:za.M) (F:Nat) (f:zd.T) (x:LTr zb.T):za.d63 me F xV (f,x,())=ye.sh F f x:=rfl
theorem R4 (me:za.M) (F:Nat) (f:zd.T) (x:LTr zb.T):za.d63 me F xZ (f,x,())=zf.sh F f x:=rfl
theorem R5 (me:za.M) (F:Nat) (f:zd.T) (x:LTr zb.T):za.d63 me F x5 (f,x,())=yj.sh F f x:=rfl
theorem zcS (me:za.M) (F:Nat) (f:zd.T) (x:LTr zb.T):za.d63 me F ww (f,x,())=yx.sh F f x:=rfl
theorem QJ (me:za.M) (F:Nat) (hF:4096<F) (f:zd.T) (m:zb.T) (ks:List Tree) (g:Tree->Tree) (hk:∀k∈ks,me f (toL k)=some ((toL (g k),()),())) (hl:ks.length<=4096) (r1 r2 r3 r4 r5 r6 r7:Option Tree)
  (h1:zz.sh F f (toL (.nd m (ks.map g)))=some ((qu r1,()),()))
  (h2:yG.sh F f (toL (.nd m (ks.map g)))=some ((qu r2,()),()))
  (h3:yF.sh F f (toL (.nd m (ks.map g)))=some ((qu r3,()),()))
  (h4:ye.sh F f (toL (.nd m (ks.map g)))=some ((qu r4,()),()))
  (h5:zf.sh F f (toL (.nd m (ks.map g)))=some ((qu r5,()),()))
  (h6:yj.sh F f (toL (.nd m (ks.map g)))=some ((qu r6,()),()))
  (h7:yx.sh F f (toL (.nd m (ks.map g)))=some ((qu r7,()),())) :
  za.sh0 me F f (toL (.nd m ks))=match WP [r1,r2,r3,r4,r5,r6,r7] with
   | some y=>oB (me f (toL y)) fun c=>some ((c.1.1,()),())
   | none=>some ((toL (.nd m (ks.map g)),()),()):=by
 have hmx:(4096:Nat)<=xv:=by decide
 have hlen:(ks.map toL).length=ks.length:=List.length_map ..;unfold za.sh0;rw[wz,cond_true,vP];rw[show (Tree.nd m ks).kids=ks from rfl];rw[decide_eq_true (show (0:Int)<=((ks.map toL).length:Int) by omega),decide_eq_true (Int.le_refl ((ks.map toL).length:Int)),decide_eq_true (show ((ks.map toL).length:Int)<=(xv:Int) by rw[hlen]; omega)];simp only[Bool.and_self,cond_true];refine Eq.trans (za.l3.rg_eq me F _ (ks.map toL) _ rfl (by rw[hlen]; omega) (ks.map toL) 0 F _ _ _ (by simp) (by rw[hlen]; omega)) ?_;refine (TJ me F (fun x2 kids2 f2=>za.j7 me F (fun r47=>(some ((r47,()),()):Option za.sg.R)) (fun r48=>some ((r48,()),())) x2 kids2 f2) (ks.map toL) ((ks.map toL).length:Int) f (toL (.nd m ks)) g ks 0 [] _ rfl (by
  rw[List.length_replicate,hlen]; omega) hk).trans ?_
 unfold za.j7;rw[wz,cond_true,wG,List.nil_append];have hX:LTr.nd (Tree.nd m ks).root (ks.map fun k=>toL (g k))=toL (.nd m (ks.map g)):=by rw[Zu,List.map_map]; rfl
 rw[hX];have hrs:∀r∈[(xU,r1),(wF,r2),(wE,r3),(xV,r4),(xZ,r5),(x5,r6),(ww,r7)],za.d63 me F r.1 (f,toL (.nd m (ks.map g)),())=some ((qu r.2,()),()):=by
  intro r hr;simp only[List.mem_cons,List.not_mem_nil,or_false] at hr;rcases hr with rfl | rfl | rfl | rfl | rfl | rfl | rfl
  ·exact (SZ me F f _).trans h1
  ·exact (d63_neg me F f _).trans h2
  ·exact (d63_off me F f _).trans h3
  ·exact (S0 me F f _).trans h4
  ·exact (R4 me F f _).trans h5
  ·exact (R5 me F f _).trans h6
  ·exact (zcS me F f _).trans h7
 refine Eq.trans (za.l9.rg_eq me F _ _ [(xU,f),(wF,f),(wE,f),(xV,f),(xZ,f),(x5,f),(ww,f)] _ rfl (by show 7<9223372036854775807; decide) _ 0 F _ _ rfl (by show 7<F; omega)) ?_;exact Rj me F (fun r45=>(some ((r45,()),()):Option za.sg.R)) (fun r45=>some ((r45,()),())) _ _ f (toL (.nd m (ks.map g))) _ 0 hrs
theorem WM (F:Nat) (hF:F=FU) {u:Int} {D:List yv.T} (c:Cxt u D):∀(n:Nat) (t:Tree),t.size<n->OKT u D t->za.it F n (mk u) (toL t)=some ((toL (vC u D n t),()),())
 | 0,t,h,_=>by omega
 | n+1,t,hn,h=>by
  obtain ⟨m,ks⟩:=t;have hFb:4096<F:=by rw[hF]; exact vN
  have hsz:=h.size;rw[wL] at hsz;have hlen:=wM ks;have ihk:∀k∈ks,za.it F n (mk u) (toL k)=some ((toL (vC u D n k),()),()):=fun k hk=>WM F hF c n k (by have:=tJ (n:=m) hk; omega) (h.kid hk)
  have hx:=FK.kids c h fun k hk=>(qX c n k (by have:=tJ (n:=m) hk; omega) (h.kid hk)).1
  have hxs:=hx.size;have e:vC u D (n+1) (.nd m ks)=match Yn u D (.nd m (ks.map (vC u D n))) with
   | some y=>vC u D n y
   | none=>.nd m (ks.map (vC u D n)):=rfl
  rw[e];have hs4:(Tree.nd m (ks.map (vC u D n))).size<=4096:=by have:=hx.okt.size; omega
  have hwf:=hx.okt.wf;refine (QJ (za.it F n) F hFb (mk u) m ks (vC u D n) ihk (by omega) _ _ _ _ _ _ _ (by rw[hF]; exact Q2 c (q0_ok D) hx.okt) (zcb F (mk u) hwf) (zc6 F (mk u) hwf) (by rw[hF]; exact U1 (mk u) hwf hs4) (by rw[hF]; exact Sh (mk u) hwf hs4) (Sw F (mk u) hwf) (zb5 F (mk u) hwf)).trans ?_;show (match Yn u D (.nd m (ks.map (vC u D n))) with
    | some y=>oB (za.it F n (mk u) (toL y)) fun c=>some ((c.1.1,()),())
    | none=>some ((toL (.nd m (ks.map (vC u D n))),()),()))=_
  cases hr:Yn u D (.nd m (ks.map (vC u D n))) with
  | none=>rfl
  | some y =>
   obtain ⟨r1,r2⟩:=Tc c hx.okt hr;show oB (za.it F n (mk u) (toL y)) _=_;rw[WM F hF c n y (by omega) r1.okt]; rfl
end Go.VS
