import Derived.Test.YtiliboioeieeoaaGreatDoorQO4
set_option linter.unusedVariables false
set_option linter.unusedSimpArgs false
set_option linter.unusedSectionVars false
set_option linter.unusedVariables false
set_option linter.unusedSimpArgs false
set_option maxRecDepth 100000
namespace Go.VS
open Go
def WO (n:zb.T):Bool:=nK n==1||nK n==2
def kd (t:Tree) (i:Nat):Tree:=t.kids.getD i t
def qD:Option Tree->LTr zb.T
 | none=>.nil
 | some y=>toL y
theorem WF.len {dims:Nat} {t:Tree} (h:WF dims t):t.kids.length=ar t.root:=by
 cases t with
 | nd n ks=>exact (tA.1 h).1.1
theorem WF.node {dims:Nat} {t:Tree} (h:WF dims t):wo dims t.root (ar t.root)=0:=by
 cases t with
 | nd n ks=>exact (tA.1 h).1.2
theorem WF.good {dims:Nat} {t:Tree} (h:WF dims t):qa t.root=true/\uG t.root=true:=⟨(xB h.node).1,(xB h.node).2.2.2.1⟩
theorem WF.arK {dims:Nat} {t:Tree} (h:WF dims t) {k:Int} (hk:nK t.root=k):t.kids.length=bif decide ((get yS vc k.toNat).1>=0) then (get yS vc k.toNat).1.toNat else (nC t.root).toNat:=by rw[h.len,yh hk]
theorem WF.several {dims:Nat} {t:Tree} (h:WF dims t) (hk:nK t.root=9\/nK t.root=10):2<=t.kids.length/\t.kids.length<=16/\(t.kids.length:Int)=nC t.root:=by
 have hg:=h.good;have hl:=h.len;rcases hk with hk | hk
 ·have h2:=hg.2
  rw[uf hk] at h2;have h2:(decide (nC t.root>=2)&&decide (nC t.root<=16))=true:=h2;simp at h2;rw[yh hk] at hl;have hl:t.kids.length=(nC t.root).toNat:=hl;omega
 ·have h2:=hg.2
  rw[uf hk] at h2;have h2:(decide (nC t.root>=2)&&decide (nC t.root<=16))=true:=h2;simp at h2;rw[yh hk] at hl;have hl:t.kids.length=(nC t.root).toNat:=hl;omega
theorem zcN {t:Tree} {i:Nat} (h:i<t.kids.length):kd t i∈t.kids:=by
 unfold kd;rw[List.getD_eq_getElem?_getD,List.getElem?_eq_getElem h];exact List.getElem_mem h
theorem QR {dims:Nat} {t k:Tree} (h:WF dims t) (hk:k∈t.kids):WF dims k:=by
 cases t with
 | nd n ks=>exact (tA.1 h).2 k hk
theorem Us {t k:Tree} (hk:k∈t.kids):k.size<t.size:=by
 cases t with
 | nd n ks =>
  rw[wM];have:k.size<=(yF ks).length:=ur hk;omega
theorem tv {t:Tree} {i:Nat} (h:i<t.kids.length):get (.tr zb) (LTr.kids (toL t)) i=toL (kd t i):=by
 rw[vU];refine zaO ?_;unfold kd;rw[List.getD_eq_getElem?_getD,List.getElem?_eq_getElem h]; rfl
theorem tu {t:Tree} {i:Nat} (h:i<t.kids.length):idx (i:Int) (LTr.kids (toL t)).length=true:=by
 rw[vU,List.length_map]; exact xh h
theorem YW (F:Nat) (t:Tree):yo.sh F (toL t)=some ((WO t.root,()),()):=by
 unfold yo.sh WO;rw[wA,cond_true,cond_true,wH];show (bif nK t.root==1 then _ else some ((nK t.root==2,()),()))=_;cases nK t.root==1<;>rfl
def qm (t:Tree):Bool:=WO t.root&&nN t.root==0
def Wl (t:Tree):Bool:=nK t.root==1&&nN t.root==1
theorem Si (F:Nat) (t:Tree):yE.sh F (toL t)=some ((qm t,()),()):=by
 unfold yE.sh qm;rw[YW,zq,wA,wH];cases WO t.root<;>rfl
theorem zav (F:Nat) (t:Tree):yY.sh F (toL t)=some ((Wl t,()),()):=by
 unfold yY.sh Wl;rw[wA,wH,cond_true,cond_true];show (bif nK t.root==1 then some ((nN t.root==1,()),()) else _)=_;cases nK t.root==1<;>rfl
def qC (t:Tree):Bool:=WO t.root||(nK t.root==5&&(WO (kd t 0).root&&nN (kd t 0).root != 0))
theorem zck (F:Nat) {dims:Nat} {t:Tree} (h:WF dims t):yP.sh F (toL t)=some ((qC t,()),()):=by
 unfold yP.sh qC;rw[YW,zq];cases WO t.root with
 | true=>rfl
 | false =>
  simp only[cond_false,Bool.false_or];rw[wA,cond_true,wH];show (bif nK t.root==5 then _ else _)=_;cases h5:(nK t.root==5) with
  | false=>rfl
  | true =>
   have hk:nK t.root=5:=by simpa using h5
   have hl:0<t.kids.length:=by rw[show t.kids.length=1 from h.arK hk]; decide
   have hi:idx 0 (LTr.kids (toL t)).length=true:=tu (i:=0) hl;rw[cond_true,cond_true,hi,cond_true,tv hl,YW,zq,wA,wH];simp only[Bool.true_and];cases WO (kd t 0).root<;>rfl
def negT (t:Tree):Option Tree:=bif nK t.root==5&&nK (kd t 0).root==5 then some (kd (kd t 0) 0) else none
theorem zcy (F:Nat) (f:zd.T) {dims:Nat} {t:Tree} (h:WF dims t):yJ.sh F f (toL t)=some ((qD (negT t),()),()):=by
 unfold yJ.sh negT;rw[wA,cond_true,wH];show (bif nK t.root==5 then _ else _)=_;cases h5:(nK t.root==5) with
 | false=>rfl
 | true =>
  have hk:nK t.root=5:=by simpa using h5
  have hl:0<t.kids.length:=by rw[show t.kids.length=1 from h.arK hk]; decide
  have hi:idx 0 (LTr.kids (toL t)).length=true:=tu (i:=0) hl;rw[cond_true,hi,tv hl,wA,wH];simp only[cond_true,Bool.true_and];show (bif nK (kd t 0).root==5 then _ else _)=_;cases h6:(nK (kd t 0).root==5) with
  | false=>rfl
  | true =>
   have hk':nK (kd t 0).root=5:=by simpa using h6
   have hw:=QR h (zcN hl);have hl':0<(kd t 0).kids.length:=by rw[show (kd t 0).kids.length=1 from hw.arK hk']; decide
   have hi':idx 0 (LTr.kids (toL (kd t 0))).length=true:=tu (i:=0) hl';rw[hi',tv hl'];rfl
def offT (t:Tree):Option Tree:=bif nK t.root==15&&nN t.root==0 then some (kd t 0) else none
theorem zct (F:Nat) (f:zd.T) {dims:Nat} {t:Tree} (h:WF dims t):yI.sh F f (toL t)=some ((qD (offT t),()),()):=by
 unfold yI.sh offT;rw[wA,cond_true,wH];show (bif nK t.root==15 then bif true then bif nN t.root==0 then _ else _ else _ else _)=_;cases h5:(nK t.root==15) with
 | false=>rfl
 | true =>
  have hk:nK t.root=15:=by simpa using h5
  have hl:0<t.kids.length:=by rw[show t.kids.length=1 from h.arK hk]; decide
  have hi:idx 0 (LTr.kids (toL t)).length=true:=tu (i:=0) hl;rw[hi,tv hl];cases nN t.root==0<;>rfl
noncomputable def Yo (t:Tree):Option Tree:=bif nK t.root==16&&vi (kd t 1) (kd t 2) then some (kd t 1) else none
theorem Td (f:zd.T) {dims:Nat} {t:Tree} (h:WF dims t) (hs:t.size<=4096):yg.sh FU f (toL t)=some ((qD (Yo t),()),()):=by
 unfold yg.sh Yo;rw[wA,cond_true,wH];show (bif nK t.root==16 then _ else _)=_;cases h5:(nK t.root==16) with
 | false=>rfl
 | true =>
  have hk:nK t.root=16:=by simpa using h5
  have hl:t.kids.length=3:=by rw[h.arK hk]; rfl
  have hi1:idx 1 (LTr.kids (toL t)).length=true:=tu (i:=1) (by omega);have hi2:idx 2 (LTr.kids (toL t)).length=true:=tu (i:=2) (by omega);have hm:=zcN (t:=t) (i:=1) (by omega);have hsz:=Us hm;rw[hi1,hi2,tv (i:=1) (by omega),tv (i:=2) (by omega)];simp only[cond_true,Bool.true_and];rw[zar (QR h hm) (by omega),zq];cases vi (kd t 1) (kd t 2)<;>rfl
noncomputable def vk:List Tree->List Tree->List Tree
 | acc,[]=>acc
 | acc,k::r=>vk (bif acc.any (fun o=>vi o k) then acc else acc++[k]) r
theorem RS {R:Type} (k0:Int->Option R) (k1:Option R) (L:List (LTr zb.T)) (N:Int) (k:Tree) {dims:Nat}:∀(xs:List Tree) (i:Int),(∀x∈xs,WF dims x/\x.size<=4096)->
  ∃j:Int,i<=j/\zg.l2.rg FU k0 (fun _ _ _ _ _=>k1) L N (xs.map toL) i (xn,toL k)=bif xs.any (fun o=>vi o k) then k0 j else k1
 | [],i,_=>⟨i,Int.le_refl _,rfl⟩
 | x::xs,i,h=>by
  obtain ⟨j,hj,e⟩:=RS k0 k1 L N k xs (i+1) (fun x hx=>h x (by simp[hx]));obtain ⟨hw,hs⟩:=h x (by simp);simp only[List.map_cons];unfold zg.l2.rg;have hd:zg.d16 FU (xn+1) (toL x,toL k,())=some ((vi x k,()),()):=by
   show ye.sh FU (toL x) (toL k)=_;unfold ye.sh;rw[zar hw hs,zq]
  show ∃j:Int,i<=j/\oB (zg.d16 FU (xn+1) (toL x,toL k,())) _=_;rw[hd];simp only[zq];rw[List.any_cons];cases hb:vi x k with
  | true=>exact ⟨i,Int.le_refl _,rfl⟩
  | false=>exact ⟨j,by omega,by simp only[cond_false,Bool.false_or]; exact e⟩
theorem Qe (k:Tree) {dims:Nat} {xs:List Tree} (h:∀x∈xs,WF dims x/\x.size<=4096) (hl:xs.length<=4096):zP.sh FU (xs.map toL) (xn,toL k)=some ((xs.any (fun o=>vi o k),()),()):=by
 obtain ⟨j,hj,e⟩:=RS (fun r=>(some ((r,()),()):Option zg.sg.R)) (some ((-1,()),())) (xs.map toL) ((xs.map toL).length:Int) k xs 0 h;have hF:(4096:Nat)<FU:=uc;unfold zP.sh zg.sh;rw[show zg.l2 FU (fun r42=>(some ((r42,()),()):Option zg.sg.R)) (fun s3 f3 t73 t83 t93=>some ((-1,()),())) FU (xs.map toL) ((xn,toL k).1,(xn,toL k).2) ((xs.map toL).length:Int) 0
  =bif xs.any (fun o=>vi o k) then some ((j,()),()) else some ((-1,()),()) from
  (zg.l2.rg_eq FU _ _ (xs.map toL) _ rfl (by simp; omega) (xs.map toL) 0 FU _ (by simp) (by simp; omega)).trans e]
 cases xs.any (fun o=>vi o k) with
 | true=>simp only[cond_true,zq]; rw[decide_eq_true (by omega)]
 | false=>rfl
theorem Sa:∀(r acc:List Tree),∀x∈vk acc r,x∈acc\/x∈r
 | [],acc,x,hx=>.inl hx
 | k::r,acc,x,hx=>by
  unfold vk at hx;rcases Sa r _ x hx with h | h
  ·cases hb:acc.any (fun o=>vi o k) with
   | true=>rw[hb] at h; exact .inl h
   | false =>
    rw[hb] at h;rcases List.mem_append.1 h with h | h
    ·exact .inl h
    ·simp at h; subst h; exact .inr (by simp)
  ·exact .inr (by simp[h])
theorem T8:∀(r acc:List Tree),(vk acc r).length<=acc.length+r.length/\acc.length<=(vk acc r).length
 | [],acc=>by unfold vk; simp
 | k::r,acc=>by
  have:=T8 r (bif acc.any (fun o=>vi o k) then acc else acc++[k]);unfold vk;cases hb:acc.any (fun o=>vi o k) with
  | true=>rw[hb] at this; simp only[cond_true,List.length_cons] at this ⊢; omega
  | false=>rw[hb] at this; simp only[cond_false,List.length_append,List.length_cons,List.length_nil] at this ⊢; omega
theorem YH {R:Type} (kk:LTr zb.T->List (LTr zb.T)->Option R) (L:List (LTr zb.T)) (N:Int) (x:LTr zb.T) {dims:Nat}:∀(ks acc:List Tree) (i:Int),(∀k∈ks,WF dims k/\k.size<=4096)->(∀k∈acc,WF dims k/\k.size<=4096)->acc.length+ks.length<=4096->
  zf.l5.rg FU (fun x _ _ _ _ kids=>kk x kids) L N (ks.map toL) i x (acc.map toL)=kk x ((vk acc ks).map toL)
 | [],acc,i,_,_,_=>rfl
 | k::r,acc,i,h,ha,hl=>by
  simp only[List.length_cons] at hl;have hr:∀x∈r,WF dims x/\x.size<=4096:=fun x hx=>h x (by simp[hx])
  simp only[List.map_cons];unfold zf.l5.rg vk;rw[Qe k ha (by omega),zq];cases hb:acc.any (fun o=>vi o k) with
  | true =>
   simp only[Bool.not_true,cond_false,cond_true];exact YH kk L N x r acc (i+1) hr ha (by omega)
  | false =>
   simp only[Bool.not_false,cond_true,cond_false];rw[show Nat.ble ((acc.map toL).length+([toL k]:List (LTr zb.T)).length) xx=true from v6 (by simp; omega),cond_true];have:=YH kk L N x r (acc++[k]) (i+1) hr (fun y hy=>by
    rcases List.mem_append.1 hy with hy | hy
    ·exact ha y hy
    ·simp at hy; subst hy; exact h y (by simp)) (by simp; omega)
   rw[List.map_append] at this;exact this
noncomputable def Xi (t:Tree):Option Tree:=bif nK t.root==9||nK t.root==10 then
  (let ks:=vk [] t.kids; bif (ks.length:Int)==(t.kids.length:Int) then none else bif (ks.length:Int)==1 then some (ks.getD 0 t) else some (.nd (t.root.1,t.root.2.1,t.root.2.2.1,(ks.length:Int),t.root.2.2.2.2) ks)) else none
theorem Qz {dims:Nat} {t:Tree} (h:WF dims t) (hs:t.size<=4096) :
  zf.j3 FU (fun r=>(some ((r,()),()):Option zf.sg.R)) (fun r=>some ((r,()),())) (fun r=>some ((r,()),())) (toL t) =
   some ((qD (let ks:=vk [] t.kids; bif (ks.length:Int)==(t.kids.length:Int) then none else bif (ks.length:Int)==1 then some (ks.getD 0 t) else some (.nd (t.root.1,t.root.2.1,t.root.2.2.1,(ks.length:Int),t.root.2.2.2.2) ks)),()),()):=by
 have hF:(4096:Nat)<FU:=uc;have hlen:t.kids.length<=4096:=by
  cases t with
  | nd n ks=>have:=wN ks; rw[wM] at hs; show ks.length<=4096; omega
 unfold zf.j3;rw[wA,cond_true,vU];refine Eq.trans (zf.l5.rg_eq FU _ (t.kids.map toL) _ rfl (by simp; omega) (t.kids.map toL) 0 FU _ _ (by simp) (by simp; omega)) ?_;refine (YH (fun x kids=>zf.j10 FU (fun r=>(some ((r,()),()):Option zf.sg.R)) (fun r=>some ((r,()),())) (fun r=>some ((r,()),())) x kids) (t.kids.map toL) ((t.kids.map toL).length:Int) (toL t) (dims:=dims) t.kids [] 0
  (fun k hk=>⟨QR h hk,by have:=Us hk; omega⟩) (by simp) (by simpa using hlen)).trans ?_
 unfold zf.j10;rw[wA,cond_true,vU,wH];generalize hd:vk [] t.kids=ks;simp only[List.length_map];cases h1:((ks.length:Int)==(t.kids.length:Int)) with
 | true=>rfl
 | false =>
  simp only[cond_false];cases h2:((ks.length:Int)==1) with
  | true =>
   have h2:ks.length=1:=by
    have:(ks.length:Int)=1:=by simpa using h2
    omega
   obtain ⟨a,rfl⟩:=List.length_eq_one_iff.1 h2;rfl
  | false =>
   simp only[cond_false,cond_true,qD,ZG]
theorem Sq (f:zd.T) {dims:Nat} {t:Tree} (h:WF dims t) (hs:t.size<=4096):zf.sh FU f (toL t)=some ((qD (Xi t),()),()):=by
 unfold zf.sh Xi;rw[wA,cond_true,wH];show (bif nK t.root != 9 then bif true then bif nK t.root != 10 then _ else _ else _ else _)=_;rw[Qz h hs];unfold bne;cases nK t.root==9 with
 | true=>rfl
 | false =>
  cases nK t.root==10<;>rfl
def XR (t:Tree):Option Tree:=bif nK t.root==6&&qm (kd t 0) then some (kd t 1) else bif (nK t.root==6||nK t.root==7)&&qm (kd t 1) then some (kd t 0) else none
theorem SF (F:Nat) (f:zd.T) {dims:Nat} {t:Tree} (h:WF dims t):ym.sh F f (toL t)=some ((qD (XR t),()),()):=by
 unfold ym.sh XR;rw[wA,wH];simp only[cond_true];have two:(nK t.root=6\/nK t.root=7)->t.kids.length=2:=fun hk=>by
  rcases hk with hk | hk
  ·rw[h.arK hk]; rfl
  ·rw[h.arK hk]; rfl
 show (bif nK t.root==6 then _ else bif nK t.root==6 then _ else bif nK t.root==7 then _ else _)=_;cases h6:(nK t.root==6) with
 | true =>
  have hk:nK t.root=6:=by simpa using h6
  have hl:=two (.inl hk);have hi0:idx 0 (LTr.kids (toL t)).length=true:=tu (i:=0) (by omega);have hi1:idx 1 (LTr.kids (toL t)).length=true:=tu (i:=1) (by omega);rw[hi0,hi1,tv (i:=0) (by omega),tv (i:=1) (by omega),Si,Si];simp only[cond_true,zq,Bool.true_and,Bool.true_or];cases qm (kd t 0) with
  | true=>rfl
  | false =>
   simp only[cond_false];cases qm (kd t 1)<;>rfl
 | false =>
  simp only[cond_false,Bool.false_and,Bool.false_or];cases h7:(nK t.root==7) with
  | true =>
   have hk:nK t.root=7:=by simpa using h7
   have hl:=two (.inr hk);have hi0:idx 0 (LTr.kids (toL t)).length=true:=tu (i:=0) (by omega);have hi1:idx 1 (LTr.kids (toL t)).length=true:=tu (i:=1) (by omega);rw[hi0,hi1,tv (i:=0) (by omega),tv (i:=1) (by omega),Si];simp only[cond_true,zq,Bool.true_and];cases qm (kd t 1)<;>rfl
  | false=>rfl
def zaw (t:Tree):Option Tree:=bif nK t.root==8&&Wl (kd t 0) then some (kd t 1) else bif nK t.root==8&&Wl (kd t 1) then some (kd t 0) else none
theorem zbl (F:Nat) (f:zd.T) {dims:Nat} {t:Tree} (h:WF dims t):yz.sh F f (toL t)=some ((qD (zaw t),()),()):=by
 unfold yz.sh zaw;rw[wA,wH];simp only[cond_true];show (bif nK t.root==8 then _ else bif nK t.root==8 then _ else _)=_;cases h6:(nK t.root==8) with
 | true =>
  have hk:nK t.root=8:=by simpa using h6
  have hl:t.kids.length=2:=by rw[h.arK hk]; rfl
  have hi0:idx 0 (LTr.kids (toL t)).length=true:=tu (i:=0) (by omega);have hi1:idx 1 (LTr.kids (toL t)).length=true:=tu (i:=1) (by omega);rw[hi0,hi1,tv (i:=0) (by omega),tv (i:=1) (by omega),zav,zav];simp only[cond_true,zq,Bool.true_and];cases Wl (kd t 0) with
  | true=>rfl
  | false =>
   simp only[cond_false];cases Wl (kd t 1)<;>rfl
 | false=>rfl
def QP (k v:Int) (t:Tree):Option Tree:=bif decide (v < -1000000000000) then none else bif decide (v>1000000000000) then none else
 bif decide (v<0) then some (.nd (5,0,0,0,[],t.root.2.2.2.2.2) [.nd (k,0-v,0,0,[],t.root.2.2.2.2.2) []]) else some (.nd (k,v,0,0,[],t.root.2.2.2.2.2) [])
def Z0 (u:Int) (D:List yr.T) (q:List Int) (t:Tree):Option Tree:=bif !(wq t).1 then none else bif qC t then none else
 bif (wq t).2 then (bif !decide (tr (ev u D q t) u=0) then none else QP 2 (tq (ev u D q t) u) t) else QP 1 (ev u D q t) t
theorem Sb (F:Nat) {v:Int} (hv:inR v=true) (k:Int) (t:Tree):zB.j10 F (fun r=>(some ((r,()),()):Option zB.sg.R)) (fun r=>some ((r,()),())) (fun r=>some ((r,()),())) (toL t) k (mk v)=some ((qD (QP k v t),()),()):=by
 unfold zB.j10 QP;rw[int_eq F hv,zq,wA,wH];by_cases h1:v < -1000000000000
 ·rw[decide_eq_true h1]
  by_cases h2:-9223372036854775808<=v
  ·rw[decide_eq_true h2,decide_eq_true (show v<9223372036854775808 by omega)]
   simp only[Bool.and_self,cond_true,Bool.not_true,cond_false];rw[decide_eq_true h1]; rfl
  ·rw[decide_eq_false h2]; rfl
 ·by_cases h2:v>1000000000000
  ·rw[decide_eq_false h1,decide_eq_true h2]
   by_cases h3:v<9223372036854775808
   ·rw[decide_eq_true h3,decide_eq_true (show -9223372036854775808<=v by omega)]
    simp only[Bool.and_self,cond_true,Bool.not_true,cond_false];rw[decide_eq_false h1,decide_eq_true h2]; rfl
   ·rw[decide_eq_false h3,Bool.and_false]; rfl
  ·rw[decide_eq_false h1,decide_eq_false h2,decide_eq_true (show -9223372036854775808<=v by omega),decide_eq_true (show v<9223372036854775808 by omega)]
   simp only[Bool.and_self,cond_true,Bool.not_true,cond_false];rw[decide_eq_false h1,decide_eq_false h2,yT (n:=0-v) (by omega) (by omega)];simp only[cond_false];by_cases h3:v<0
   ·rw[decide_eq_true h3,if_pos (by omega)]
    simp only[cond_true,qD,ZG,List.map_cons,List.map_nil]
   ·rw[decide_eq_false h3]
    simp only[cond_false,qD,ZG,List.map_nil];by_cases h4:0-v>v
    ·omega
    ·rw[if_neg h4]
theorem za7 {u:Int} {D:List yr.T} (c:Cxt u D) {q:List Int} (hq:okQ D q) {t:Tree} (h:OKT u D t):zB.sh FU (mk u) (toL t)=some ((qD (Z0 u D q t),()),()):=by
 have hs:=h.size;have hI:=Xr c hq t h;have a1:=hI.lo;have a2:=hI.hi;have a3:=hI.bd;have hBND:BND=1329227995784915872903807060280344576:=rfl;have hu:=c.hu;have hu2:=c.hu2;have hV:inR (ev u D q t)=true:=by rw[zR]; omega
 unfold zB.sh Z0;rw[zcV (by omega),zq];cases hf:(wq t).1 with
 | false=>rfl
 | true =>
  simp only[Bool.not_true,cond_false];rw[zck FU h.wf,zq];cases hp:qC t with
  | true=>rfl
  | false =>
   simp only[cond_false];rw[zbY c hq h hf,zq];cases hm:(wq t).2 with
   | false=>exact Sb FU hV 1 t
   | true =>
    simp only[cond_true];have hb:=tq_bd (a:=ev u D q t) (b:=u) (by omega);have iq:inR (tq (ev u D q t) u)=true:=by rw[zR]; omega
    rw[Ts FU (by have:(4096:Nat)<FU:=uc; omega) (xm hV) (xm (by rw[zR]; omega)) (by rw[xc]; omega),zq,xc,xc,iq];simp only[cond_true];rw[SI];cases hz:decide (tr (ev u D q t) u=0) with
    | false=>rfl
    | true=>exact Sb FU iq 2 t
end Go.VS
