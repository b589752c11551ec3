import Derived.Test.YtiliboioeieeoaaGreatDoorQO4
set_option linter.unusedVariables false
set_option linter.unusedSimpArgs false
set_option linter.unusedSectionVars false
set_option linter.unusedVariables false
set_option linter.unusedSimpArgs false
set_option maxRecDepth 100000
namespace Go.VS
open Go
def W1 (n:zb.T):Bool:=nK n==1||nK n==2
def kd (t:Tree) (i:Nat):Tree:=t.kids.getD i t
def qL:Option Tree->LTr zb.T
 | none=>.nil
 | some y=>toL y
theorem WF.len {dims:Nat} {t:Tree} (h:WF dims t):t.kids.length=ar t.root:=by
 cases t with
 | nd n ks=>exact (tY.1 h).1.1
theorem WF.node {dims:Nat} {t:Tree} (h:WF dims t):wD dims t.root (ar t.root)=0:=by
 cases t with
 | nd n ks=>exact (tY.1 h).1.2
theorem WF.good {dims:Nat} {t:Tree} (h:WF dims t):tI t.root=true/\uy t.root=true:=⟨(xF h.node).1,(xF h.node).2.2.2.1⟩
theorem WF.arK {dims:Nat} {t:Tree} (h:WF dims t) {k:Int} (hk:nK t.root=k):t.kids.length=bif decide ((get yW vn k.toNat).1>=0) then (get yW vn k.toNat).1.toNat else (nC t.root).toNat:=by rw[h.len,z8 hk]
theorem WF.several {dims:Nat} {t:Tree} (h:WF dims t) (hk:nK t.root=9\/nK t.root=10):2<=t.kids.length/\t.kids.length<=16/\(t.kids.length:Int)=nC t.root:=by
 have hg:=h.good;have hl:=h.len;rcases hk with hk | hk
 ·have h2:=hg.2
  rw[uc hk] at h2;have h2:(decide (nC t.root>=2)&&decide (nC t.root<=16))=true:=h2;simp at h2;rw[z8 hk] at hl;have hl:t.kids.length=(nC t.root).toNat:=hl;omega
 ·have h2:=hg.2
  rw[uc hk] at h2;have h2:(decide (nC t.root>=2)&&decide (nC t.root<=16))=true:=h2;simp at h2;rw[z8 hk] at hl;have hl:t.kids.length=(nC t.root).toNat:=hl;omega
theorem zd4 {t:Tree} {i:Nat} (h:i<t.kids.length):kd t i∈t.kids:=by
 unfold kd;rw[List.getD_eq_getElem?_getD,List.getElem?_eq_getElem h];exact List.getElem_mem h
theorem za0 {dims:Nat} {t k:Tree} (h:WF dims t) (hk:k∈t.kids):WF dims k:=by
 cases t with
 | nd n ks=>exact (tY.1 h).2 k hk
theorem UI {t k:Tree} (hk:k∈t.kids):k.size<t.size:=by
 cases t with
 | nd n ks =>
  rw[wX];have:k.size<=(yH ks).length:=uz hk;omega
theorem tC {t:Tree} {i:Nat} (h:i<t.kids.length):get (.tr zb) (LTr.kids (toL t)) i=toL (kd t i):=by
 rw[ug];refine zb2 ?_;unfold kd;rw[List.getD_eq_getElem?_getD,List.getElem?_eq_getElem h]; rfl
theorem tB {t:Tree} {i:Nat} (h:i<t.kids.length):idx (i:Int) (LTr.kids (toL t)).length=true:=by
 rw[ug,List.length_map]; exact xm h
theorem Y8 (F:Nat) (t:Tree):yq.sh F (toL t)=some ((W1 t.root,()),()):=by
 unfold yq.sh W1;rw[wL,cond_true,cond_true,wS];show (bif nK t.root==1 then _ else some ((nK t.root==2,()),()))=_;cases nK t.root==1<;>rfl
def qu (t:Tree):Bool:=W1 t.root&&nN t.root==0
def WA (t:Tree):Bool:=nK t.root==1&&nN t.root==1
theorem Sz (F:Nat) (t:Tree):yG.sh F (toL t)=some ((qu t,()),()):=by
 unfold yG.sh qu;rw[Y8,zp,wL,wS];cases W1 t.root<;>rfl
theorem zaJ (F:Nat) (t:Tree):y7.sh F (toL t)=some ((WA t,()),()):=by
 unfold y7.sh WA;rw[wL,wS,cond_true,cond_true];show (bif nK t.root==1 then some ((nN t.root==1,()),()) else _)=_;cases nK t.root==1<;>rfl
def Zl (t:Tree):Bool:=W1 t.root||(nK t.root==5&&(W1 (kd t 0).root&&nN (kd t 0).root != 0))
theorem zcB (F:Nat) {dims:Nat} {t:Tree} (h:WF dims t):yR.sh F (toL t)=some ((Zl t,()),()):=by
 unfold yR.sh Zl;rw[Y8,zp];cases W1 t.root with
 | true=>rfl
 | false =>
  simp only[cond_false,Bool.false_or];rw[wL,cond_true,wS];show (bif nK t.root==5 then _ else _)=_;cases h5:(nK t.root==5) with
  | false=>rfl
  | true =>
   have hk:nK t.root=5:=by simpa using h5
   have hl:0<t.kids.length:=by rw[show t.kids.length=1 from h.arK hk]; decide
   have hi:idx 0 (LTr.kids (toL t)).length=true:=tB (i:=0) hl;rw[cond_true,cond_true,hi,cond_true,tC hl,Y8,zp,wL,wS];simp only[Bool.true_and];cases W1 (kd t 0).root<;>rfl
def negT (t:Tree):Option Tree:=bif nK t.root==5&&nK (kd t 0).root==5 then some (kd (kd t 0) 0) else none
theorem zcP (F:Nat) (f:zd.T) {dims:Nat} {t:Tree} (h:WF dims t):yK.sh F f (toL t)=some ((qL (negT t),()),()):=by
 unfold yK.sh negT;rw[wL,cond_true,wS];show (bif nK t.root==5 then _ else _)=_;cases h5:(nK t.root==5) with
 | false=>rfl
 | true =>
  have hk:nK t.root=5:=by simpa using h5
  have hl:0<t.kids.length:=by rw[show t.kids.length=1 from h.arK hk]; decide
  have hi:idx 0 (LTr.kids (toL t)).length=true:=tB (i:=0) hl;rw[cond_true,hi,tC hl,wL,wS];simp only[cond_true,Bool.true_and];show (bif nK (kd t 0).root==5 then _ else _)=_;cases h6:(nK (kd t 0).root==5) with
  | false=>rfl
  | true =>
   have hk':nK (kd t 0).root=5:=by simpa using h6
   have hw:=za0 h (zd4 hl);have hl':0<(kd t 0).kids.length:=by rw[show (kd t 0).kids.length=1 from hw.arK hk']; decide
   have hi':idx 0 (LTr.kids (toL (kd t 0))).length=true:=tB (i:=0) hl';rw[hi',tC hl'];rfl
def offT (t:Tree):Option Tree:=bif nK t.root==15&&nN t.root==0 then some (kd t 0) else none
theorem zcK (F:Nat) (f:zd.T) {dims:Nat} {t:Tree} (h:WF dims t):yJ.sh F f (toL t)=some ((qL (offT t),()),()):=by
 unfold yJ.sh offT;rw[wL,cond_true,wS];show (bif nK t.root==15 then bif true then bif nN t.root==0 then _ else _ else _ else _)=_;cases h5:(nK t.root==15) with
 | false=>rfl
 | true =>
  have hk:nK t.root=15:=by simpa using h5
  have hl:0<t.kids.length:=by rw[show t.kids.length=1 from h.arK hk]; decide
  have hi:idx 0 (LTr.kids (toL t)).length=true:=tB (i:=0) hl;rw[hi,tC hl];cases nN t.root==0<;>rfl
noncomputable def YA (t:Tree):Option Tree:=bif nK t.root==16&&vq (kd t 1) (kd t 2) then some (kd t 1) else none
theorem Tu (f:zd.T) {dims:Nat} {t:Tree} (h:WF dims t) (hs:t.size<=4096):yi.sh FU f (toL t)=some ((qL (YA t),()),()):=by
 unfold yi.sh YA;rw[wL,cond_true,wS];show (bif nK t.root==16 then _ else _)=_;cases h5:(nK t.root==16) with
 | false=>rfl
 | true =>
  have hk:nK t.root=16:=by simpa using h5
  have hl:t.kids.length=3:=by rw[h.arK hk]; rfl
  have hi1:idx 1 (LTr.kids (toL t)).length=true:=tB (i:=1) (by omega);have hi2:idx 2 (LTr.kids (toL t)).length=true:=tB (i:=2) (by omega);have hm:=zd4 (t:=t) (i:=1) (by omega);have hsz:=UI hm;rw[hi1,hi2,tC (i:=1) (by omega),tC (i:=2) (by omega)];simp only[cond_true,Bool.true_and];rw[zaF (za0 h hm) (by omega),zp];cases vq (kd t 1) (kd t 2)<;>rfl
noncomputable def vt:List Tree->List Tree->List Tree
 | acc,[]=>acc
 | acc,k::r=>vt (bif acc.any (fun o=>vq o k) then acc else acc++[k]) r
theorem Qd {R:Type} (k0:Int->Option R) (k1:Option R) (L:List (LTr zb.T)) (N:Int) (k:Tree) {dims:Nat}:∀(xs:List Tree) (i:Int),(∀x∈xs,WF dims x/\x.size<=4096)->
  ∃j:Int,i<=j/\zg.l2.rg FU k0 (fun _ _ _ _ _=>k1) L N (xs.map toL) i (xx,toL k)=bif xs.any (fun o=>vq o k) then k0 j else k1
 | [],i,_=>⟨i,Int.le_refl _,rfl⟩
 | x::xs,i,h=>by
  obtain ⟨j,hj,e⟩:=Qd k0 k1 L N k xs (i+1) (fun x hx=>h x (by simp[hx]));obtain ⟨hw,hs⟩:=h x (by simp);simp only[List.map_cons];unfold zg.l2.rg;have hd:zg.d16 FU (xx+1) (toL x,toL k,())=some ((vq x k,()),()):=by
   show yg.sh FU (toL x) (toL k)=_;unfold yg.sh;rw[zaF hw hs,zp]
  show ∃j:Int,i<=j/\oB (zg.d16 FU (xx+1) (toL x,toL k,())) _=_;rw[hd];simp only[zp];rw[List.any_cons];cases hb:vq x k with
  | true=>exact ⟨i,Int.le_refl _,rfl⟩
  | false=>exact ⟨j,by omega,by simp only[cond_false,Bool.false_or]; exact e⟩
theorem Qu (k:Tree) {dims:Nat} {xs:List Tree} (h:∀x∈xs,WF dims x/\x.size<=4096) (hl:xs.length<=4096):zT.sh FU (xs.map toL) (xx,toL k)=some ((xs.any (fun o=>vq o k),()),()):=by
 obtain ⟨j,hj,e⟩:=Qd (fun r=>(some ((r,()),()):Option zg.sg.R)) (some ((-1,()),())) (xs.map toL) ((xs.map toL).length:Int) k xs 0 h;have hF:(4096:Nat)<FU:=vZ;unfold zT.sh zg.sh;rw[show zg.l2 FU (fun r42=>(some ((r42,()),()):Option zg.sg.R)) (fun s3 f3 t73 t83 t93=>some ((-1,()),())) FU (xs.map toL) ((xx,toL k).1,(xx,toL k).2) ((xs.map toL).length:Int) 0
  =bif xs.any (fun o=>vq o k) then some ((j,()),()) else some ((-1,()),()) from
  (zg.l2.rg_eq FU _ _ (xs.map toL) _ rfl (by simp; omega) (xs.map toL) 0 FU _ (by simp) (by simp; omega)).trans e]
 cases xs.any (fun o=>vq o k) with
 | true=>simp only[cond_true,zp]; rw[decide_eq_true (by omega)]
 | false=>rfl
theorem Sr:∀(r acc:List Tree),∀x∈vt acc r,x∈acc\/x∈r
 | [],acc,x,hx=>.inl hx
 | k::r,acc,x,hx=>by
  unfold vt at hx;rcases Sr r _ x hx with h | h
  ·cases hb:acc.any (fun o=>vq o k) with
   | true=>rw[hb] at h; exact .inl h
   | false =>
    rw[hb] at h;rcases List.mem_append.1 h with h | h
    ·exact .inl h
    ·simp at h; subst h; exact .inr (by simp)
  ·exact .inr (by simp[h])
theorem Sp:∀(r acc:List Tree),(vt acc r).length<=acc.length+r.length/\acc.length<=(vt acc r).length
 | [],acc=>by unfold vt; simp
 | k::r,acc=>by
  have:=Sp r (bif acc.any (fun o=>vq o k) then acc else acc++[k]);unfold vt;cases hb:acc.any (fun o=>vq o k) with
  | true=>rw[hb] at this; simp only[cond_true,List.length_cons] at this ⊢; omega
  | false=>rw[hb] at this; simp only[cond_false,List.length_append,List.length_cons,List.length_nil] at this ⊢; omega
theorem YT {R:Type} (kk:LTr zb.T->List (LTr zb.T)->Option R) (L:List (LTr zb.T)) (N:Int) (x:LTr zb.T) {dims:Nat}:∀(ks acc:List Tree) (i:Int),(∀k∈ks,WF dims k/\k.size<=4096)->(∀k∈acc,WF dims k/\k.size<=4096)->acc.length+ks.length<=4096->
  zf.l5.rg FU (fun x _ _ _ _ kids=>kk x kids) L N (ks.map toL) i x (acc.map toL)=kk x ((vt acc ks).map toL)
 | [],acc,i,_,_,_=>rfl
 | k::r,acc,i,h,ha,hl=>by
  simp only[List.length_cons] at hl;have hr:∀x∈r,WF dims x/\x.size<=4096:=fun x hx=>h x (by simp[hx])
  simp only[List.map_cons];unfold zf.l5.rg vt;rw[Qu k ha (by omega),zp];cases hb:acc.any (fun o=>vq o k) with
  | true =>
   simp only[Bool.not_true,cond_false,cond_true];exact YT kk L N x r acc (i+1) hr ha (by omega)
  | false =>
   simp only[Bool.not_false,cond_true,cond_false];rw[show Nat.ble ((acc.map toL).length+([toL k]:List (LTr zb.T)).length) xu=true from vW (by simp; omega),cond_true];have:=YT kk L N x r (acc++[k]) (i+1) hr (fun y hy=>by
    rcases List.mem_append.1 hy with hy | hy
    ·exact ha y hy
    ·simp at hy; subst hy; exact h y (by simp)) (by simp; omega)
   rw[List.map_append] at this;exact this
noncomputable def Xu (t:Tree):Option Tree:=bif nK t.root==9||nK t.root==10 then
  (let ks:=vt [] t.kids; bif (ks.length:Int)==(t.kids.length:Int) then none else bif (ks.length:Int)==1 then some (ks.getD 0 t) else some (.nd (t.root.1,t.root.2.1,t.root.2.2.1,(ks.length:Int),t.root.2.2.2.2) ks)) else none
theorem QQ {dims:Nat} {t:Tree} (h:WF dims t) (hs:t.size<=4096) :
  zf.j3 FU (fun r=>(some ((r,()),()):Option zf.sg.R)) (fun r=>some ((r,()),())) (fun r=>some ((r,()),())) (toL t) =
   some ((qL (let ks:=vt [] t.kids; bif (ks.length:Int)==(t.kids.length:Int) then none else bif (ks.length:Int)==1 then some (ks.getD 0 t) else some (.nd (t.root.1,t.root.2.1,t.root.2.2.1,(ks.length:Int),t.root.2.2.2.2) ks)),()),()):=by
 have hF:(4096:Nat)<FU:=vZ;have hlen:t.kids.length<=4096:=by
  cases t with
  | nd n ks=>have:=wP ks; rw[wX] at hs; show ks.length<=4096; omega
 unfold zf.j3;rw[wL,cond_true,ug];refine Eq.trans (zf.l5.rg_eq FU _ (t.kids.map toL) _ rfl (by simp; omega) (t.kids.map toL) 0 FU _ _ (by simp) (by simp; omega)) ?_;refine (YT (fun x kids=>zf.j10 FU (fun r=>(some ((r,()),()):Option zf.sg.R)) (fun r=>some ((r,()),())) (fun r=>some ((r,()),())) x kids) (t.kids.map toL) ((t.kids.map toL).length:Int) (toL t) (dims:=dims) t.kids [] 0
  (fun k hk=>⟨za0 h hk,by have:=UI hk; omega⟩) (by simp) (by simpa using hlen)).trans ?_
 unfold zf.j10;rw[wL,cond_true,ug,wS];generalize hd:vt [] t.kids=ks;simp only[List.length_map];cases h1:((ks.length:Int)==(t.kids.length:Int)) with
 | true=>rfl
 | false =>
  simp only[cond_false];cases h2:((ks.length:Int)==1) with
  | true =>
   have h2:ks.length=1:=by
    have:(ks.length:Int)=1:=by simpa using h2
    omega
   obtain ⟨a,rfl⟩:=List.length_eq_one_iff.1 h2;rfl
  | false =>
   simp only[cond_false,cond_true,qL,ZR]
theorem SJ (f:zd.T) {dims:Nat} {t:Tree} (h:WF dims t) (hs:t.size<=4096):zf.sh FU f (toL t)=some ((qL (Xu t),()),()):=by
 unfold zf.sh Xu;rw[wL,cond_true,wS];show (bif nK t.root != 9 then bif true then bif nK t.root != 10 then _ else _ else _ else _)=_;rw[QQ h hs];unfold bne;cases nK t.root==9 with
 | true=>rfl
 | false =>
  cases nK t.root==10<;>rfl
def X2 (t:Tree):Option Tree:=bif nK t.root==6&&qu (kd t 0) then some (kd t 1) else bif (nK t.root==6||nK t.root==7)&&qu (kd t 1) then some (kd t 0) else none
theorem SY (F:Nat) (f:zd.T) {dims:Nat} {t:Tree} (h:WF dims t):yo.sh F f (toL t)=some ((qL (X2 t),()),()):=by
 unfold yo.sh X2;rw[wL,wS];simp only[cond_true];have two:(nK t.root=6\/nK t.root=7)->t.kids.length=2:=fun hk=>by
  rcases hk with hk | hk
  ·rw[h.arK hk]; rfl
  ·rw[h.arK hk]; rfl
 show (bif nK t.root==6 then _ else bif nK t.root==6 then _ else bif nK t.root==7 then _ else _)=_;cases h6:(nK t.root==6) with
 | true =>
  have hk:nK t.root=6:=by simpa using h6
  have hl:=two (.inl hk);have hi0:idx 0 (LTr.kids (toL t)).length=true:=tB (i:=0) (by omega);have hi1:idx 1 (LTr.kids (toL t)).length=true:=tB (i:=1) (by omega);rw[hi0,hi1,tC (i:=0) (by omega),tC (i:=1) (by omega),Sz,Sz];simp only[cond_true,zp,Bool.true_and,Bool.true_or];cases qu (kd t 0) with
  | true=>rfl
  | false =>
   simp only[cond_false];cases qu (kd t 1)<;>rfl
 | false =>
  simp only[cond_false,Bool.false_and,Bool.false_or];cases h7:(nK t.root==7) with
  | true =>
   have hk:nK t.root=7:=by simpa using h7
   have hl:=two (.inr hk);have hi0:idx 0 (LTr.kids (toL t)).length=true:=tB (i:=0) (by omega);have hi1:idx 1 (LTr.kids (toL t)).length=true:=tB (i:=1) (by omega);rw[hi0,hi1,tC (i:=0) (by omega),tC (i:=1) (by omega),Sz];simp only[cond_true,zp,Bool.true_and];cases qu (kd t 1)<;>rfl
  | false=>rfl
def zaK (t:Tree):Option Tree:=bif nK t.root==8&&WA (kd t 0) then some (kd t 1) else bif nK t.root==8&&WA (kd t 1) then some (kd t 0) else none
theorem zbz (F:Nat) (f:zd.T) {dims:Nat} {t:Tree} (h:WF dims t):yB.sh F f (toL t)=some ((qL (zaK t),()),()):=by
 unfold yB.sh zaK;rw[wL,wS];simp only[cond_true];show (bif nK t.root==8 then _ else bif nK t.root==8 then _ else _)=_;cases h6:(nK t.root==8) with
 | true =>
  have hk:nK t.root=8:=by simpa using h6
  have hl:t.kids.length=2:=by rw[h.arK hk]; rfl
  have hi0:idx 0 (LTr.kids (toL t)).length=true:=tB (i:=0) (by omega);have hi1:idx 1 (LTr.kids (toL t)).length=true:=tB (i:=1) (by omega);rw[hi0,hi1,tC (i:=0) (by omega),tC (i:=1) (by omega),zaJ,zaJ];simp only[cond_true,zp,Bool.true_and];cases WA (kd t 0) with
  | true=>rfl
  | false =>
   simp only[cond_false];cases WA (kd t 1)<;>rfl
 | false=>rfl
def litT (k v:Int) (t:Tree):Option Tree:=bif decide (v < -1000000000000) then none else bif decide (v>1000000000000) then none else
 bif decide (v<0) then some (.nd (5,0,0,0,[],t.root.2.2.2.2.2) [.nd (k,0-v,0,0,[],t.root.2.2.2.2.2) []]) else some (.nd (k,v,0,0,[],t.root.2.2.2.2.2) [])
def U9 (u:Int) (D:List yy.T) (q:List Int) (t:Tree):Option Tree:=bif !(wJ t).1 then none else bif Zl t then none else
 bif (wJ t).2 then (bif !decide (tr (ev u D q t) u=0) then none else litT 2 (tq (ev u D q t) u) t) else litT 1 (ev u D q t) t
theorem Ss (F:Nat) {v:Int} (hv:inR v=true) (k:Int) (t:Tree):zC.j10 F (fun r=>(some ((r,()),()):Option zC.sg.R)) (fun r=>some ((r,()),())) (fun r=>some ((r,()),())) (toL t) k (mk v)=some ((qL (litT k v t),()),()):=by
 unfold zC.j10 litT;rw[zd6 F hv,zp,wL,wS];by_cases h1:v < -1000000000000
 ·rw[decide_eq_true h1]
  by_cases h2:-9223372036854775808<=v
  ·rw[decide_eq_true h2,decide_eq_true (show v<9223372036854775808 by omega)]
   simp only[Bool.and_self,cond_true,Bool.not_true,cond_false];rw[decide_eq_true h1]; rfl
  ·rw[decide_eq_false h2]; rfl
 ·by_cases h2:v>1000000000000
  ·rw[decide_eq_false h1,decide_eq_true h2]
   by_cases h3:v<9223372036854775808
   ·rw[decide_eq_true h3,decide_eq_true (show -9223372036854775808<=v by omega)]
    simp only[Bool.and_self,cond_true,Bool.not_true,cond_false];rw[decide_eq_false h1,decide_eq_true h2]; rfl
   ·rw[decide_eq_false h3,Bool.and_false]; rfl
  ·rw[decide_eq_false h1,decide_eq_false h2,decide_eq_true (show -9223372036854775808<=v by omega),decide_eq_true (show v<9223372036854775808 by omega)]
   simp only[Bool.and_self,cond_true,Bool.not_true,cond_false];rw[decide_eq_false h1,decide_eq_false h2,yV (n:=0-v) (by omega) (by omega)];simp only[cond_false];by_cases h3:v<0
   ·rw[decide_eq_true h3,if_pos (by omega)]
    simp only[cond_true,qL,ZR,List.map_cons,List.map_nil]
   ·rw[decide_eq_false h3]
    simp only[cond_false,qL,ZR,List.map_nil];by_cases h4:0-v>v
    ·omega
    ·rw[if_neg h4]
theorem zam {u:Int} {D:List yy.T} (c:Cxt u D) {q:List Int} (hq:okQ D q) {t:Tree} (h:OKT u D t):zC.sh FU (mk u) (toL t)=some ((qL (U9 u D q t),()),()):=by
 have hs:=h.size;have hI:=Zm c hq t h;have a1:=hI.lo;have a2:=hI.hi;have a3:=hI.bd;have hBND:BND=1329227995784915872903807060280344576:=rfl;have hu:=c.hu;have hu2:=c.hu2;have hV:inR (ev u D q t)=true:=by rw[zP]; omega
 unfold zC.sh U9;rw[zde (by omega),zp];cases hf:(wJ t).1 with
 | false=>rfl
 | true =>
  simp only[Bool.not_true,cond_false];rw[zcB FU h.wf,zp];cases hp:Zl t with
  | true=>rfl
  | false =>
   simp only[cond_false];rw[zcd c hq h hf,zp];cases hm:(wJ t).2 with
   | false=>exact Ss FU hV 1 t
   | true =>
    simp only[cond_true];have hb:=zco (a:=ev u D q t) (b:=u) (by omega);have iq:inR (tq (ev u D q t) u)=true:=by rw[zP]; omega
    rw[TQ FU (by have:(4096:Nat)<FU:=vZ; omega) (xq hV) (xq (by rw[zP]; omega)) (by rw[xh]; omega),zp,xh,xh,iq];simp only[cond_true];rw[S0];cases hz:decide (tr (ev u D q t) u=0) with
    | false=>rfl
    | true=>exact Ss FU iq 2 t
end Go.VS
