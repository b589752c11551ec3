import Derived.Test.YtiliboioeieeoaaGreatDoorQO8
set_option linter.unusedVariables false
set_option linter.unusedSimpArgs false
set_option linter.unusedSectionVars false
set_option linter.unusedVariables false
set_option linter.unusedSimpArgs false
set_option maxRecDepth 100000
namespace Go.VS
open Go
theorem RL {R:Type} (me:za.M) (F:Nat) (k0 k1:LTr zb.T->Option R) (L:List (Nat×zd.T)) (N:Int) (f:zd.T) (x:LTr zb.T):∀(rs:List (Nat×Option Tree)) (i:Int),
  (∀r∈rs,za.d63 me F r.1 (f,x,())=some ((qL r.2,()),()))->
  za.l9.rg me F k0 (fun x _ _ _ _ _=>k1 x) L N (rs.map fun r=>(r.1,f)) i x f=match Vd (rs.map (·.2)) with
   | some y=>oB (me f (toL y)) fun c=>k0 c.1.1
   | none=>k1 x
 | [],i,h=>rfl
 | (fn,r)::rs,i,h=>by
  have h1:=h (fn,r) (by simp);have ih:=RL me F k0 k1 L N f x rs (i+1) fun r hr=>h r (by simp[hr])
  simp only[List.map_cons];unfold za.l9.rg;simp only at h1;rw[h1,zp];cases r with
  | none =>
   show (bif LTr.isNd (LTr.nil:LTr zb.T) then _ else _)=_;exact ih
  | some y =>
   show (bif LTr.isNd (toL y) then _ else _)=_;rw[wL]; rfl
theorem Rq (me:za.M) (F:Nat) (f:zd.T) (x:LTr zb.T):za.d63 me F we (f,x,())=zC.sh F f x:=rfl
theorem d63_neg (me:za.M) (F:Nat) (f:zd.T) (x:LTr zb.T):za.d63 me F wR (f,x,())=yK.sh F f x:=rfl
theorem d63_off (me:za.M) (F:Nat) (f:zd.T) (x:LTr zb.T):za.d63 me F wQ (f,x,())=yJ.sh F f x:=rfl
theorem Rr (me:za.M) (F:Nat) (f:zd.T) (x:LTr zb.T):za.d63 me F wg (f,x,())=yi.sh F f x:=rfl
theorem Qs (me:za.M) (F:Nat) (f:zd.T) (x:LTr zb.T):za.d63 me F wm (f,x,())=zf.sh F f x:=rfl
theorem Qt (me:za.M) (F:Nat) (f:zd.T) (x:LTr zb.T):za.d63 me F wn (f,x,())=yo.sh F f x:=rfl
theorem zdz (me:za.M) (F:Nat) (f:zd.T) (x:LTr zb.T):za.d63 me F wI (f,x,())=yB.sh F f x:=rfl
theorem za6 (me:za.M) (F:Nat) (hF:4096<F) (f:zd.T) (m:zb.T) (ks:List Tree) (g:Tree->Tree) (hk:∀k∈ks,me f (toL k)=some ((toL (g k),()),())) (hl:ks.length<=4096) (r1 r2 r3 r4 r5 r6 r7:Option Tree)
  (h1:zC.sh F f (toL (.nd m (ks.map g)))=some ((qL r1,()),()))
  (h2:yK.sh F f (toL (.nd m (ks.map g)))=some ((qL r2,()),()))
  (h3:yJ.sh F f (toL (.nd m (ks.map g)))=some ((qL r3,()),()))
  (h4:yi.sh F f (toL (.nd m (ks.map g)))=some ((qL r4,()),()))
  (h5:zf.sh F f (toL (.nd m (ks.map g)))=some ((qL r5,()),()))
  (h6:yo.sh F f (toL (.nd m (ks.map g)))=some ((qL r6,()),()))
  (h7:yB.sh F f (toL (.nd m (ks.map g)))=some ((qL r7,()),())) :
  za.sh0 me F f (toL (.nd m ks))=match Vd [r1,r2,r3,r4,r5,r6,r7] with
   | some y=>oB (me f (toL y)) fun c=>some ((c.1.1,()),())
   | none=>some ((toL (.nd m (ks.map g)),()),()):=by
 have hmx:(4096:Nat)<=xu:=by decide
 have hlen:(ks.map toL).length=ks.length:=List.length_map ..;unfold za.sh0;rw[wL,cond_true,ug];rw[show (Tree.nd m ks).kids=ks from rfl];rw[decide_eq_true (show (0:Int)<=((ks.map toL).length:Int) by omega),decide_eq_true (Int.le_refl ((ks.map toL).length:Int)),decide_eq_true (show ((ks.map toL).length:Int)<=(xu:Int) by rw[hlen]; omega)];simp only[Bool.and_self,cond_true];refine Eq.trans (za.l3.rg_eq me F _ (ks.map toL) _ rfl (by rw[hlen]; omega) (ks.map toL) 0 F _ _ _ (by simp) (by rw[hlen]; omega)) ?_;refine (Se me F (fun x2 kids2 f2=>za.j7 me F (fun r47=>(some ((r47,()),()):Option za.sg.R)) (fun r48=>some ((r48,()),())) x2 kids2 f2) (ks.map toL) ((ks.map toL).length:Int) f (toL (.nd m ks)) g ks 0 [] _ rfl (by
  rw[List.length_replicate,hlen]; omega) hk).trans ?_
 unfold za.j7;rw[wL,cond_true,wS,List.nil_append];have hX:LTr.nd (Tree.nd m ks).root (ks.map fun k=>toL (g k))=toL (.nd m (ks.map g)):=by rw[ZR,List.map_map]; rfl
 rw[hX];have hrs:∀r∈[(we,r1),(wR,r2),(wQ,r3),(wg,r4),(wm,r5),(wn,r6),(wI,r7)],za.d63 me F r.1 (f,toL (.nd m (ks.map g)),())=some ((qL r.2,()),()):=by
  intro r hr;simp only[List.mem_cons,List.not_mem_nil,or_false] at hr;rcases hr with rfl | rfl | rfl | rfl | rfl | rfl | rfl
  ·exact (Rq me F f _).trans h1
  ·exact (d63_neg me F f _).trans h2
  ·exact (d63_off me F f _).trans h3
  ·exact (Rr me F f _).trans h4
  ·exact (Qs me F f _).trans h5
  ·exact (Qt me F f _).trans h6
  ·exact (zdz me F f _).trans h7
 refine Eq.trans (za.l9.rg_eq me F _ _ [(we,f),(wR,f),(wQ,f),(wg,f),(wm,f),(wn,f),(wI,f)] _ rfl (by show 7<9223372036854775807; decide) _ 0 F _ _ rfl (by show 7<F; omega)) ?_;exact RL me F (fun r45=>(some ((r45,()),()):Option za.sg.R)) (fun r45=>some ((r45,()),())) _ _ f (toL (.nd m (ks.map g))) _ 0 hrs
theorem Va (F:Nat) (hF:F=FU) {u:Int} {D:List yy.T} (c:Cxt u D):∀(n:Nat) (t:Tree),t.size<n->OKT u D t->za.it F n (mk u) (toL t)=some ((toL (vR u D n t),()),())
 | 0,t,h,_=>by omega
 | n+1,t,hn,h=>by
  obtain ⟨m,ks⟩:=t;have hFb:4096<F:=by rw[hF]; exact vZ
  have hsz:=h.size;rw[wX] at hsz;have hlen:=wP ks;have ihk:∀k∈ks,za.it F n (mk u) (toL k)=some ((toL (vR u D n k),()),()):=fun k hk=>Va F hF c n k (by have:=t6 (n:=m) hk; omega) (h.kid hk)
  have hx:=FK.kids c h fun k hk=>(Zt c n k (by have:=t6 (n:=m) hk; omega) (h.kid hk)).1
  have hxs:=hx.size;have e:vR u D (n+1) (.nd m ks)=match YN u D (.nd m (ks.map (vR u D n))) with
   | some y=>vR u D n y
   | none=>.nd m (ks.map (vR u D n)):=rfl
  rw[e];have hs4:(Tree.nd m (ks.map (vR u D n))).size<=4096:=by have:=hx.okt.size; omega
  have hwf:=hx.okt.wf;refine (za6 (za.it F n) F hFb (mk u) m ks (vR u D n) ihk (by omega) _ _ _ _ _ _ _ (by rw[hF]; exact zam c (q0_ok D) hx.okt) (zcP F (mk u) hwf) (zcK F (mk u) hwf) (by rw[hF]; exact Tu (mk u) hwf hs4) (by rw[hF]; exact SJ (mk u) hwf hs4) (SY F (mk u) hwf) (zbz F (mk u) hwf)).trans ?_;show (match YN u D (.nd m (ks.map (vR u D n))) with
    | some y=>oB (za.it F n (mk u) (toL y)) fun c=>some ((c.1.1,()),())
    | none=>some ((toL (.nd m (ks.map (vR u D n))),()),()))=_
  cases hr:YN u D (.nd m (ks.map (vR u D n))) with
  | none=>rfl
  | some y =>
   obtain ⟨r1,r2⟩:=TL c hx.okt hr;show oB (za.it F n (mk u) (toL y)) _=_;rw[Va F hF c n y (by omega) r1.okt]; rfl
end Go.VS
