import Derived.Test.YtiliboioeieeoaaGreatDoorQO4
set_option linter.unusedVariables false
set_option linter.unusedSimpArgs false
set_option linter.unusedSectionVars false
set_option linter.unusedVariables false
set_option linter.unusedSimpArgs false
set_option maxRecDepth 100000
namespace Go.VS
open Go
def WC (n:zb.T):Bool:=nK n==1||nK n==2
def kd (t:Tree) (i:Nat):Tree:=t.kids.getD i t
def qu:Option Tree->LTr zb.T
 | none=>.nil
 | some y=>toL y
theorem WF.len {dims:Nat} {t:Tree} (h:WF dims t):t.kids.length=ar t.root:=by
 cases t with
 | nd n ks=>exact (tI.1 h).1.1
theorem WF.node {dims:Nat} {t:Tree} (h:WF dims t):wq dims t.root (ar t.root)=0:=by
 cases t with
 | nd n ks=>exact (tI.1 h).1.2
theorem WF.good {dims:Nat} {t:Tree} (h:WF dims t):tS t.root=true/\uw t.root=true:=⟨(xB h.node).1,(xB h.node).2.2.2.1⟩
theorem WF.arK {dims:Nat} {t:Tree} (h:WF dims t) {k:Int} (hk:nK t.root=k):t.kids.length=bif decide ((get yQ w9 k.toNat).1>=0) then (get yQ w9 k.toNat).1.toNat else (nC t.root).toNat:=by rw[h.len,yp hk]
theorem WF.several {dims:Nat} {t:Tree} (h:WF dims t) (hk:nK t.root=9\/nK t.root=10):2<=t.kids.length/\t.kids.length<=16/\(t.kids.length:Int)=nC t.root:=by
 have hg:=h.good;have hl:=h.len;rcases hk with hk | hk
 ·have h2:=hg.2
  rw[uG hk] at h2;have h2:(decide (nC t.root>=2)&&decide (nC t.root<=16))=true:=h2;simp at h2;rw[yp hk] at hl;have hl:t.kids.length=(nC t.root).toNat:=hl;omega
 ·have h2:=hg.2
  rw[uG hk] at h2;have h2:(decide (nC t.root>=2)&&decide (nC t.root<=16))=true:=h2;simp at h2;rw[yp hk] at hl;have hl:t.kids.length=(nC t.root).toNat:=hl;omega
theorem zcq {t:Tree} {i:Nat} (h:i<t.kids.length):kd t i∈t.kids:=by
 unfold kd;rw[List.getD_eq_getElem?_getD,List.getElem?_eq_getElem h];exact List.getElem_mem h
theorem QD {dims:Nat} {t k:Tree} (h:WF dims t) (hk:k∈t.kids):WF dims k:=by
 cases t with
 | nd n ks=>exact (tI.1 h).2 k hk
theorem Ug {t k:Tree} (hk:k∈t.kids):k.size<t.size:=by
 cases t with
 | nd n ks =>
  rw[wL];have:k.size<=(yE ks).length:=ug hk;omega
theorem tf {t:Tree} {i:Nat} (h:i<t.kids.length):get (.tr zb) (LTr.kids (toL t)) i=toL (kd t i):=by
 rw[vP];refine zay ?_;unfold kd;rw[List.getD_eq_getElem?_getD,List.getElem?_eq_getElem h]; rfl
theorem td {t:Tree} {i:Nat} (h:i<t.kids.length):idx (i:Int) (LTr.kids (toL t)).length=true:=by
 rw[vP,List.length_map]; exact xi h
theorem YI (F:Nat) (t:Tree):yl.sh F (toL t)=some ((WC t.root,()),()):=by
 unfold yl.sh WC;rw[wz,cond_true,cond_true,wG];show (bif nK t.root==1 then _ else some ((nK t.root==2,()),()))=_;cases nK t.root==1<;>rfl
def qc (t:Tree):Bool:=WC t.root&&nN t.root==0
def Wb (t:Tree):Bool:=nK t.root==1&&nN t.root==1
theorem T7 (F:Nat) (t:Tree):yC.sh F (toL t)=some ((qc t,()),()):=by
 unfold yC.sh qc;rw[YI,zr,wz,wG];cases WC t.root<;>rfl
theorem zaf (F:Nat) (t:Tree):yW.sh F (toL t)=some ((Wb t,()),()):=by
 unfold yW.sh Wb;rw[wz,wG,cond_true,cond_true];show (bif nK t.root==1 then some ((nN t.root==1,()),()) else _)=_;cases nK t.root==1<;>rfl
def qR (t:Tree):Bool:=WC t.root||(nK t.root==5&&(WC (kd t 0).root&&nN (kd t 0).root != 0))
theorem zbX (F:Nat) {dims:Nat} {t:Tree} (h:WF dims t):yN.sh F (toL t)=some ((qR t,()),()):=by
 unfold yN.sh qR;rw[YI,zr];cases WC t.root with
 | true=>rfl
 | false =>
  simp only[cond_false,Bool.false_or];rw[wz,cond_true,wG];show (bif nK t.root==5 then _ else _)=_;cases h5:(nK t.root==5) with
  | false=>rfl
  | true =>
   have hk:nK t.root=5:=by simpa using h5
   have hl:0<t.kids.length:=by rw[show t.kids.length=1 from h.arK hk]; decide
   have hi:idx 0 (LTr.kids (toL t)).length=true:=td (i:=0) hl;rw[cond_true,cond_true,hi,cond_true,tf hl,YI,zr,wz,wG];simp only[Bool.true_and];cases WC (kd t 0).root<;>rfl
def negT (t:Tree):Option Tree:=bif nK t.root==5&&nK (kd t 0).root==5 then some (kd (kd t 0) 0) else none
theorem zcb (F:Nat) (f:zd.T) {dims:Nat} {t:Tree} (h:WF dims t):yG.sh F f (toL t)=some ((qu (negT t),()),()):=by
 unfold yG.sh negT;rw[wz,cond_true,wG];show (bif nK t.root==5 then _ else _)=_;cases h5:(nK t.root==5) with
 | false=>rfl
 | true =>
  have hk:nK t.root=5:=by simpa using h5
  have hl:0<t.kids.length:=by rw[show t.kids.length=1 from h.arK hk]; decide
  have hi:idx 0 (LTr.kids (toL t)).length=true:=td (i:=0) hl;rw[cond_true,hi,tf hl,wz,wG];simp only[cond_true,Bool.true_and];show (bif nK (kd t 0).root==5 then _ else _)=_;cases h6:(nK (kd t 0).root==5) with
  | false=>rfl
  | true =>
   have hk':nK (kd t 0).root=5:=by simpa using h6
   have hw:=QD h (zcq hl);have hl':0<(kd t 0).kids.length:=by rw[show (kd t 0).kids.length=1 from hw.arK hk']; decide
   have hi':idx 0 (LTr.kids (toL (kd t 0))).length=true:=td (i:=0) hl';rw[hi',tf hl'];rfl
def offT (t:Tree):Option Tree:=bif nK t.root==15&&nN t.root==0 then some (kd t 0) else none
theorem zc6 (F:Nat) (f:zd.T) {dims:Nat} {t:Tree} (h:WF dims t):yF.sh F f (toL t)=some ((qu (offT t),()),()):=by
 unfold yF.sh offT;rw[wz,cond_true,wG];show (bif nK t.root==15 then bif true then bif nN t.root==0 then _ else _ else _ else _)=_;cases h5:(nK t.root==15) with
 | false=>rfl
 | true =>
  have hk:nK t.root=15:=by simpa using h5
  have hl:0<t.kids.length:=by rw[show t.kids.length=1 from h.arK hk]; decide
  have hi:idx 0 (LTr.kids (toL t)).length=true:=td (i:=0) hl;rw[hi,tf hl];cases nN t.root==0<;>rfl
noncomputable def Z8 (t:Tree):Option Tree:=bif nK t.root==16&&vd (kd t 1) (kd t 2) then some (kd t 1) else none
theorem U1 (f:zd.T) {dims:Nat} {t:Tree} (h:WF dims t) (hs:t.size<=4096):ye.sh FU f (toL t)=some ((qu (Z8 t),()),()):=by
 unfold ye.sh Z8;rw[wz,cond_true,wG];show (bif nK t.root==16 then _ else _)=_;cases h5:(nK t.root==16) with
 | false=>rfl
 | true =>
  have hk:nK t.root=16:=by simpa using h5
  have hl:t.kids.length=3:=by rw[h.arK hk]; rfl
  have hi1:idx 1 (LTr.kids (toL t)).length=true:=td (i:=1) (by omega);have hi2:idx 2 (LTr.kids (toL t)).length=true:=td (i:=2) (by omega);have hm:=zcq (t:=t) (i:=1) (by omega);have hsz:=Ug hm;rw[hi1,hi2,tf (i:=1) (by omega),tf (i:=2) (by omega)];simp only[cond_true,Bool.true_and];rw[zab (QD h hm) (by omega),zr];cases vd (kd t 1) (kd t 2)<;>rfl
noncomputable def vf:List Tree->List Tree->List Tree
 | acc,[]=>acc
 | acc,k::r=>vf (bif acc.any (fun o=>vd o k) then acc else acc++[k]) r
theorem RK {R:Type} (k0:Int->Option R) (k1:Option R) (L:List (LTr zb.T)) (N:Int) (k:Tree) {dims:Nat}:∀(xs:List Tree) (i:Int),(∀x∈xs,WF dims x/\x.size<=4096)->
  ∃j:Int,i<=j/\zg.l2.rg FU k0 (fun _ _ _ _ _=>k1) L N (xs.map toL) i (xl,toL k)=bif xs.any (fun o=>vd o k) then k0 j else k1
 | [],i,_=>⟨i,Int.le_refl _,rfl⟩
 | x::xs,i,h=>by
  obtain ⟨j,hj,e⟩:=RK k0 k1 L N k xs (i+1) (fun x hx=>h x (by simp[hx]));obtain ⟨hw,hs⟩:=h x (by simp);simp only[List.map_cons];unfold zg.l2.rg;have hd:zg.d16 FU (xl+1) (toL x,toL k,())=some ((vd x k,()),()):=by
   show yb.sh FU (toL x) (toL k)=_;unfold yb.sh;rw[zab hw hs,zr]
  show ∃j:Int,i<=j/\oB (zg.d16 FU (xl+1) (toL x,toL k,())) _=_;rw[hd];simp only[zr];rw[List.any_cons];cases hb:vd x k with
  | true=>exact ⟨i,Int.le_refl _,rfl⟩
  | false=>exact ⟨j,by omega,by simp only[cond_false,Bool.false_or]; exact e⟩
theorem R6 (k:Tree) {dims:Nat} {xs:List Tree} (h:∀x∈xs,WF dims x/\x.size<=4096) (hl:xs.length<=4096):zN.sh FU (xs.map toL) (xl,toL k)=some ((xs.any (fun o=>vd o k),()),()):=by
 obtain ⟨j,hj,e⟩:=RK (fun r=>(some ((r,()),()):Option zg.sg.R)) (some ((-1,()),())) (xs.map toL) ((xs.map toL).length:Int) k xs 0 h;have hF:(4096:Nat)<FU:=vN;unfold zN.sh zg.sh;rw[show zg.l2 FU (fun r42=>(some ((r42,()),()):Option zg.sg.R)) (fun s3 f3 t73 t83 t93=>some ((-1,()),())) FU (xs.map toL) ((xl,toL k).1,(xl,toL k).2) ((xs.map toL).length:Int) 0
  =bif xs.any (fun o=>vd o k) then some ((j,()),()) else some ((-1,()),()) from
  (zg.l2.rg_eq FU _ _ (xs.map toL) _ rfl (by simp; omega) (xs.map toL) 0 FU _ (by simp) (by simp; omega)).trans e]
 cases xs.any (fun o=>vd o k) with
 | true=>simp only[cond_true,zr]; rw[decide_eq_true (by omega)]
 | false=>rfl
theorem TZ:∀(r acc:List Tree),∀x∈vf acc r,x∈acc\/x∈r
 | [],acc,x,hx=>.inl hx
 | k::r,acc,x,hx=>by
  unfold vf at hx;rcases TZ r _ x hx with h | h
  ·cases hb:acc.any (fun o=>vd o k) with
   | true=>rw[hb] at h; exact .inl h
   | false =>
    rw[hb] at h;rcases List.mem_append.1 h with h | h
    ·exact .inl h
    ·simp at h; subst h; exact .inr (by simp)
  ·exact .inr (by simp[h])
theorem TX:∀(r acc:List Tree),(vf acc r).length<=acc.length+r.length/\acc.length<=(vf acc r).length
 | [],acc=>by unfold vf; simp
 | k::r,acc=>by
  have:=TX r (bif acc.any (fun o=>vd o k) then acc else acc++[k]);unfold vf;cases hb:acc.any (fun o=>vd o k) with
  | true=>rw[hb] at this; simp only[cond_true,List.length_cons] at this ⊢; omega
  | false=>rw[hb] at this; simp only[cond_false,List.length_append,List.length_cons,List.length_nil] at this ⊢; omega
theorem Yt {R:Type} (kk:LTr zb.T->List (LTr zb.T)->Option R) (L:List (LTr zb.T)) (N:Int) (x:LTr zb.T) {dims:Nat}:∀(ks acc:List Tree) (i:Int),(∀k∈ks,WF dims k/\k.size<=4096)->(∀k∈acc,WF dims k/\k.size<=4096)->acc.length+ks.length<=4096->
  zf.l5.rg FU (fun x _ _ _ _ kids=>kk x kids) L N (ks.map toL) i x (acc.map toL)=kk x ((vf acc ks).map toL)
 | [],acc,i,_,_,_=>rfl
 | k::r,acc,i,h,ha,hl=>by
  simp only[List.length_cons] at hl;have hr:∀x∈r,WF dims x/\x.size<=4096:=fun x hx=>h x (by simp[hx])
  simp only[List.map_cons];unfold zf.l5.rg vf;rw[R6 k ha (by omega),zr];cases hb:acc.any (fun o=>vd o k) with
  | true =>
   simp only[Bool.not_true,cond_false,cond_true];exact Yt kk L N x r acc (i+1) hr ha (by omega)
  | false =>
   simp only[Bool.not_false,cond_true,cond_false];rw[show Nat.ble ((acc.map toL).length+([toL k]:List (LTr zb.T)).length) xv=true from vU (by simp; omega),cond_true];have:=Yt kk L N x r (acc++[k]) (i+1) hr (fun y hy=>by
    rcases List.mem_append.1 hy with hy | hy
    ·exact ha y hy
    ·simp at hy; subst hy; exact h y (by simp)) (by simp; omega)
   rw[List.map_append] at this;exact this
noncomputable def Y3 (t:Tree):Option Tree:=bif nK t.root==9||nK t.root==10 then
  (let ks:=vf [] t.kids; bif (ks.length:Int)==(t.kids.length:Int) then none else bif (ks.length:Int)==1 then some (ks.getD 0 t) else some (.nd (t.root.1,t.root.2.1,t.root.2.2.1,(ks.length:Int),t.root.2.2.2.2) ks)) else none
theorem Qp {dims:Nat} {t:Tree} (h:WF dims t) (hs:t.size<=4096) :
  zf.j3 FU (fun r=>(some ((r,()),()):Option zf.sg.R)) (fun r=>some ((r,()),())) (fun r=>some ((r,()),())) (toL t) =
   some ((qu (let ks:=vf [] t.kids; bif (ks.length:Int)==(t.kids.length:Int) then none else bif (ks.length:Int)==1 then some (ks.getD 0 t) else some (.nd (t.root.1,t.root.2.1,t.root.2.2.1,(ks.length:Int),t.root.2.2.2.2) ks)),()),()):=by
 have hF:(4096:Nat)<FU:=vN;have hlen:t.kids.length<=4096:=by
  cases t with
  | nd n ks=>have:=wM ks; rw[wL] at hs; show ks.length<=4096; omega
 unfold zf.j3;rw[wz,cond_true,vP];refine Eq.trans (zf.l5.rg_eq FU _ (t.kids.map toL) _ rfl (by simp; omega) (t.kids.map toL) 0 FU _ _ (by simp) (by simp; omega)) ?_;refine (Yt (fun x kids=>zf.j10 FU (fun r=>(some ((r,()),()):Option zf.sg.R)) (fun r=>some ((r,()),())) (fun r=>some ((r,()),())) x kids) (t.kids.map toL) ((t.kids.map toL).length:Int) (toL t) (dims:=dims) t.kids [] 0
  (fun k hk=>⟨QD h hk,by have:=Ug hk; omega⟩) (by simp) (by simpa using hlen)).trans ?_
 unfold zf.j10;rw[wz,cond_true,vP,wG];generalize hd:vf [] t.kids=ks;simp only[List.length_map];cases h1:((ks.length:Int)==(t.kids.length:Int)) with
 | true=>rfl
 | false =>
  simp only[cond_false];cases h2:((ks.length:Int)==1) with
  | true =>
   have h2:ks.length=1:=by
    have:(ks.length:Int)=1:=by simpa using h2
    omega
   obtain ⟨a,rfl⟩:=List.length_eq_one_iff.1 h2;rfl
  | false =>
   simp only[cond_false,cond_true,qu,Zu]
theorem Sh (f:zd.T) {dims:Nat} {t:Tree} (h:WF dims t) (hs:t.size<=4096):zf.sh FU f (toL t)=some ((qu (Y3 t),()),()):=by
 unfold zf.sh Y3;rw[wz,cond_true,wG];show (bif nK t.root != 9 then bif true then bif nK t.root != 10 then _ else _ else _ else _)=_;rw[Qp h hs];unfold bne;cases nK t.root==9 with
 | true=>rfl
 | false =>
  cases nK t.root==10<;>rfl
def XD (t:Tree):Option Tree:=bif nK t.root==6&&qc (kd t 0) then some (kd t 1) else bif (nK t.root==6||nK t.root==7)&&qc (kd t 1) then some (kd t 0) else none
theorem Sw (F:Nat) (f:zd.T) {dims:Nat} {t:Tree} (h:WF dims t):yj.sh F f (toL t)=some ((qu (XD t),()),()):=by
 unfold yj.sh XD;rw[wz,wG];simp only[cond_true];have two:(nK t.root=6\/nK t.root=7)->t.kids.length=2:=fun hk=>by
  rcases hk with hk | hk
  ·rw[h.arK hk]; rfl
  ·rw[h.arK hk]; rfl
 show (bif nK t.root==6 then _ else bif nK t.root==6 then _ else bif nK t.root==7 then _ else _)=_;cases h6:(nK t.root==6) with
 | true =>
  have hk:nK t.root=6:=by simpa using h6
  have hl:=two (.inl hk);have hi0:idx 0 (LTr.kids (toL t)).length=true:=td (i:=0) (by omega);have hi1:idx 1 (LTr.kids (toL t)).length=true:=td (i:=1) (by omega);rw[hi0,hi1,tf (i:=0) (by omega),tf (i:=1) (by omega),T7,T7];simp only[cond_true,zr,Bool.true_and,Bool.true_or];cases qc (kd t 0) with
  | true=>rfl
  | false =>
   simp only[cond_false];cases qc (kd t 1)<;>rfl
 | false =>
  simp only[cond_false,Bool.false_and,Bool.false_or];cases h7:(nK t.root==7) with
  | true =>
   have hk:nK t.root=7:=by simpa using h7
   have hl:=two (.inr hk);have hi0:idx 0 (LTr.kids (toL t)).length=true:=td (i:=0) (by omega);have hi1:idx 1 (LTr.kids (toL t)).length=true:=td (i:=1) (by omega);rw[hi0,hi1,tf (i:=0) (by omega),tf (i:=1) (by omega),T7];simp only[cond_true,zr,Bool.true_and];cases qc (kd t 1)<;>rfl
  | false=>rfl
def zag (t:Tree):Option Tree:=bif nK t.root==8&&Wb (kd t 0) then some (kd t 1) else bif nK t.root==8&&Wb (kd t 1) then some (kd t 0) else none
theorem zb5 (F:Nat) (f:zd.T) {dims:Nat} {t:Tree} (h:WF dims t):yx.sh F f (toL t)=some ((qu (zag t),()),()):=by
 unfold yx.sh zag;rw[wz,wG];simp only[cond_true];show (bif nK t.root==8 then _ else bif nK t.root==8 then _ else _)=_;cases h6:(nK t.root==8) with
 | true =>
  have hk:nK t.root=8:=by simpa using h6
  have hl:t.kids.length=2:=by rw[h.arK hk]; rfl
  have hi0:idx 0 (LTr.kids (toL t)).length=true:=td (i:=0) (by omega);have hi1:idx 1 (LTr.kids (toL t)).length=true:=td (i:=1) (by omega);rw[hi0,hi1,tf (i:=0) (by omega),tf (i:=1) (by omega),zaf,zaf];simp only[cond_true,zr,Bool.true_and];cases Wb (kd t 0) with
  | true=>rfl
  | false =>
   simp only[cond_false];cases Wb (kd t 1)<;>rfl
 | false=>rfl
def litT (k v:Int) (t:Tree):Option Tree:=bif decide (v < -1000000000000) then none else bif decide (v>1000000000000) then none else
 bif decide (v<0) then some (.nd (5,0,0,0,[],t.root.2.2.2.2.2) [.nd (k,0-v,0,0,[],t.root.2.2.2.2.2) []]) else some (.nd (k,v,0,0,[],t.root.2.2.2.2.2) [])
def UG (u:Int) (D:List yv.T) (q:List Int) (t:Tree):Option Tree:=bif !(wx t).1 then none else bif qR t then none else
 bif (wx t).2 then (bif !decide (tr (ev u D q t) u=0) then none else litT 2 (tq (ev u D q t) u) t) else litT 1 (ev u D q t) t
theorem T0 (F:Nat) {v:Int} (hv:inR v=true) (k:Int) (t:Tree):zz.j10 F (fun r=>(some ((r,()),()):Option zz.sg.R)) (fun r=>some ((r,()),())) (fun r=>some ((r,()),())) (toL t) k (mk v)=some ((qu (litT k v t),()),()):=by
 unfold zz.j10 litT;rw[int_eq F hv,zr,wz,wG];by_cases h1:v < -1000000000000
 ·rw[decide_eq_true h1]
  by_cases h2:-9223372036854775808<=v
  ·rw[decide_eq_true h2,decide_eq_true (show v<9223372036854775808 by omega)]
   simp only[Bool.and_self,cond_true,Bool.not_true,cond_false];rw[decide_eq_true h1]; rfl
  ·rw[decide_eq_false h2]; rfl
 ·by_cases h2:v>1000000000000
  ·rw[decide_eq_false h1,decide_eq_true h2]
   by_cases h3:v<9223372036854775808
   ·rw[decide_eq_true h3,decide_eq_true (show -9223372036854775808<=v by omega)]
    simp only[Bool.and_self,cond_true,Bool.not_true,cond_false];rw[decide_eq_false h1,decide_eq_true h2]; rfl
   ·rw[decide_eq_false h3,Bool.and_false]; rfl
  ·rw[decide_eq_false h1,decide_eq_false h2,decide_eq_true (show -9223372036854775808<=v by omega),decide_eq_true (show v<9223372036854775808 by omega)]
   simp only[Bool.and_self,cond_true,Bool.not_true,cond_false];rw[decide_eq_false h1,decide_eq_false h2,yV (n:=0-v) (by omega) (by omega)];simp only[cond_false];by_cases h3:v<0
   ·rw[decide_eq_true h3,if_pos (by omega)]
    simp only[cond_true,qu,Zu,List.map_cons,List.map_nil]
   ·rw[decide_eq_false h3]
    simp only[cond_false,qu,Zu,List.map_nil];by_cases h4:0-v>v
    ·omega
    ·rw[if_neg h4]
theorem Q2 {u:Int} {D:List yv.T} (c:Cxt u D) {q:List Int} (hq:okQ D q) {t:Tree} (h:OKT u D t):zz.sh FU (mk u) (toL t)=some ((qu (UG u D q t),()),()):=by
 have hs:=h.size;have hI:=Xd c hq t h;have a1:=hI.lo;have a2:=hI.hi;have a3:=hI.bd;have hBND:BND=1329227995784915872903807060280344576:=rfl;have hu:=c.hu;have hu2:=c.hu2;have hV:inR (ev u D q t)=true:=by rw[zP]; omega
 unfold zz.sh UG;rw[zcy (by omega),zr];cases hf:(wx t).1 with
 | false=>rfl
 | true =>
  simp only[Bool.not_true,cond_false];rw[zbX FU h.wf,zr];cases hp:qR t with
  | true=>rfl
  | false =>
   simp only[cond_false];rw[zbF c hq h hf,zr];cases hm:(wx t).2 with
   | false=>exact T0 FU hV 1 t
   | true =>
    simp only[cond_true];have hb:=tq_bd (a:=ev u D q t) (b:=u) (by omega);have iq:inR (tq (ev u D q t) u)=true:=by rw[zP]; omega
    rw[Tg FU (by have:(4096:Nat)<FU:=vN; omega) (xk hV) (xk (by rw[zP]; omega)) (by rw[y9]; omega),zr,y9,y9,iq];simp only[cond_true];rw[Sy];cases hz:decide (tr (ev u D q t) u=0) with
    | false=>rfl
    | true=>exact T0 FU iq 2 t
end Go.VS
