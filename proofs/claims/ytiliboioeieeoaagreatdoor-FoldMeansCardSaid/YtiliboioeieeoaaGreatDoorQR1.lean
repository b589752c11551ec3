import Derived.Test.YtiliboioeieeoaaGreatDoorQP2
set_option linter.unusedVariables false
set_option linter.unusedSimpArgs false
set_option linter.unusedSectionVars false
set_option linter.unusedVariables false
set_option maxRecDepth 100000
namespace Go.VS
open Go IntKind
def zk.l2.rg {R:Type} (F:Nat) (k0:Int->Option R) (k1:zk.l2.K1 R) (s:List yy.T) (t7:Int):List yy.T->Int->(Nat×yy.T)->Option R
 | [],t8,f=>k1 s (f.1,f.2) t7 t8 (decide (t8<t7))
 | x_::xs,t8,f =>
  oB (zk.d16 F (f.1+1) (x_,f.2,())) fun c_1 =>
   bif c_1.1.1 then k0 t8
   else zk.l2.rg F k0 k1 s t7 xs (t8+1) (f.1,f.2)
theorem zk.l2.rg_eq {R:Type} (F:Nat) (k0:Int->Option R) (k1:zk.l2.K1 R) (s:List yy.T) (t7:Int) (hN:t7=(s.length:Int)) (hL:s.length<9223372036854775807):∀(xs:List yy.T) (i fu:Nat) (f:Nat×yy.T),s.drop i=xs->xs.length<fu->
  zk.l2 F k0 k1 fu s f t7 (i:Int)=zk.l2.rg F k0 k1 s t7 xs (i:Int) f:=by
 intro xs;induction xs with
 | nil =>
  intro i fu f hZ hfZ;obtain ⟨fu,rfl⟩:∃k,fu=k+1:=⟨fu-1,by simp at hfZ; omega⟩;have e1:=vN hN (wV hZ);simp only[zk.l2,zk.l2.body,zk.l2.rg,e1,cond_false]
 | cons x_ xs ih =>
  intro i fu f hZ hfZ;obtain ⟨fu,rfl⟩:∃k,fu=k+1:=⟨fu-1,by simp at hfZ; omega⟩;have e0:=wq hZ;have e1:=vM hN e0;have e2:=xm e0;have e3:=wC (t:=yy) hZ;have e4:=wv e0 hL;have e5:∀(f:Nat×yy.T),zk.l2 F k0 k1 fu s f t7 ((i:Int)+1)=zk.l2.rg F k0 k1 s t7 xs ((i:Int)+1) f:=fun f=>by
   have:=ih (i+1) fu f (xL hZ) (by simp at hfZ; omega);rwa [xI] at this
  simp only[zk.l2,zk.l2.body,zk.l2.rg,e1,e2,e3,e4,e5,cond_true]
def z7.l6.rg {R:Type} (F:Nat) (k0:Int->Option R) (k1:Int->Option R) (k2:z7.l6.K2 R) (t21:List yy.T) (t22:Int):List yy.T->Int->zL.T->Option R
 | [],t23,p=>k2 t21 t22 t23 (decide (t23<t22)) p
 | x_::xs,t23,p =>
  oB (xV.sh F x_.1) fun c_2 =>
   bif !c_2.1.1 then k0 61
   else bif (zA p.2.1.length none (some t23)).1 then oB (zY.sh F ((p.2.1.take (zA p.2.1.length none (some t23)).2.2).drop (zA p.2.1.length none (some t23)).2.1) (wZ,x_)) fun c_3 =>
    bif c_3.1.1 then k0 61
    else bif decide (x_.2<1) then k1 50
    else bif decide (x_.2>1000000000000) then k1 50
    else z7.l6.rg F k0 k1 k2 t21 t22 xs (t23+1) p
   else none
theorem z7.l6.rg_eq {R:Type} (F:Nat) (k0:Int->Option R) (k1:Int->Option R) (k2:z7.l6.K2 R) (t21:List yy.T) (t22:Int) (hN:t22=(t21.length:Int)) (hL:t21.length<9223372036854775807):∀(xs:List yy.T) (i fu:Nat) (p:zL.T),t21.drop i=xs->xs.length<fu->
  z7.l6 F k0 k1 k2 fu t21 t22 (i:Int) p=z7.l6.rg F k0 k1 k2 t21 t22 xs (i:Int) p:=by
 intro xs;induction xs with
 | nil =>
  intro i fu p hZ hfZ;obtain ⟨fu,rfl⟩:∃k,fu=k+1:=⟨fu-1,by simp at hfZ; omega⟩;have e1:=vN hN (wV hZ);simp only[z7.l6,z7.l6.body,z7.l6.rg,e1,cond_false]
 | cons x_ xs ih =>
  intro i fu p hZ hfZ;obtain ⟨fu,rfl⟩:∃k,fu=k+1:=⟨fu-1,by simp at hfZ; omega⟩;have e0:=wq hZ;have e1:=vM hN e0;have e2:=xm e0;have e3:=wC (t:=yy) hZ;have e4:=wv e0 hL;have e5:∀(p:zL.T),z7.l6 F k0 k1 k2 fu t21 t22 ((i:Int)+1) p=z7.l6.rg F k0 k1 k2 t21 t22 xs ((i:Int)+1) p:=fun p=>by
   have:=ih (i+1) fu p (xL hZ) (by simp at hfZ; omega);rwa [xI] at this
  simp only[z7.l6,z7.l6.body,z7.l6.rg,e1,e2,e3,e4,e5,cond_true]
def zJ.l4.rg {R:Type} (F:Nat) (k0:Bool->Option R) (k1:zJ.l4.K1 R) (t20:List zN.T) (t21:Int):List zN.T->Int->(List zN.T)->Option R
 | [],t22,tiers=>k1 tiers t20 t21 t22 (decide (t22<t21))
 | x_::xs,t22,tiers =>
  bif decide (t22>0) then bif idx (i64.wrap (t22-1)) tiers.length then bif decide (x_.1<=(get zN tiers ((i64.wrap (t22-1)).toNat)).1) then k0 false
     else bif decide (x_.1>1000000000000) then k0 false
     else bif decide (x_.2<(-1000000000000)) then k0 false
     else bif decide (x_.2>1000000000000) then k0 false
     else zJ.l4.rg F k0 k1 t20 t21 xs (t22+1) tiers
    else none
   else bif decide (x_.1>1000000000000) then k0 false
   else bif decide (x_.2<(-1000000000000)) then k0 false
   else bif decide (x_.2>1000000000000) then k0 false
   else zJ.l4.rg F k0 k1 t20 t21 xs (t22+1) tiers
theorem zJ.l4.rg_eq {R:Type} (F:Nat) (k0:Bool->Option R) (k1:zJ.l4.K1 R) (t20:List zN.T) (t21:Int) (hN:t21=(t20.length:Int)) (hL:t20.length<9223372036854775807):∀(xs:List zN.T) (i fu:Nat) (tiers:List zN.T),t20.drop i=xs->xs.length<fu->
  zJ.l4 F k0 k1 fu tiers t20 t21 (i:Int)=zJ.l4.rg F k0 k1 t20 t21 xs (i:Int) tiers:=by
 intro xs;induction xs with
 | nil =>
  intro i fu tiers hZ hfZ;obtain ⟨fu,rfl⟩:∃k,fu=k+1:=⟨fu-1,by simp at hfZ; omega⟩;have e1:=vN hN (wV hZ);simp only[zJ.l4,zJ.l4.body,zJ.l4.rg,e1,cond_false]
 | cons x_ xs ih =>
  intro i fu tiers hZ hfZ;obtain ⟨fu,rfl⟩:∃k,fu=k+1:=⟨fu-1,by simp at hfZ; omega⟩;have e0:=wq hZ;have e1:=vM hN e0;have e2:=xm e0;have e3:=wC (t:=zN) hZ;have e4:=wv e0 hL;have e5:∀(tiers:List zN.T),zJ.l4 F k0 k1 fu tiers t20 t21 ((i:Int)+1)=zJ.l4.rg F k0 k1 t20 t21 xs ((i:Int)+1) tiers:=fun tiers=>by
   have:=ih (i+1) fu tiers (xL hZ) (by simp at hfZ; omega);rwa [xI] at this
  simp only[zJ.l4,zJ.l4.body,zJ.l4.rg,e1,e2,e3,e4,e5,cond_true]
def zM.l8.rg {R:Type} (F:Nat) (k0:Int->Int->Option R) (k1:zM.l8.K1 R) (t19:List zb.T) (t20:Int):List zb.T->Int->Int->zL.T->Option R
 | [],t21,pile,p=>k1 pile t19 t20 t21 (decide (t21<t20)) p
 | x_::xs,t21,pile,p =>
  oB (zX.sh F x_ (p.2.1.length:Int) pile) fun c_2 =>
   bif (c_2.1.1 != 0) then k0 t21 c_2.1.1
   else oB (yL.sh F x_) fun c_3 =>
   zM.l8.rg F k0 k1 t19 t20 xs (t21+1) (i64.wrap (pile+(i64.wrap (1-c_3.1.1)))) p
theorem zM.l8.rg_eq {R:Type} (F:Nat) (k0:Int->Int->Option R) (k1:zM.l8.K1 R) (t19:List zb.T) (t20:Int) (hN:t20=(t19.length:Int)) (hL:t19.length<9223372036854775807):∀(xs:List zb.T) (i fu:Nat) (pile:Int) (p:zL.T),t19.drop i=xs->xs.length<fu->
  zM.l8 F k0 k1 fu pile t19 t20 (i:Int) p=zM.l8.rg F k0 k1 t19 t20 xs (i:Int) pile p:=by
 intro xs;induction xs with
 | nil =>
  intro i fu pile p hZ hfZ;obtain ⟨fu,rfl⟩:∃k,fu=k+1:=⟨fu-1,by simp at hfZ; omega⟩;have e1:=vN hN (wV hZ);simp only[zM.l8,zM.l8.body,zM.l8.rg,e1,cond_false]
 | cons x_ xs ih =>
  intro i fu pile p hZ hfZ;obtain ⟨fu,rfl⟩:∃k,fu=k+1:=⟨fu-1,by simp at hfZ; omega⟩;have e0:=wq hZ;have e1:=vM hN e0;have e2:=xm e0;have e3:=wC (t:=zb) hZ;have e4:=wv e0 hL;have e5:∀(pile:Int) (p:zL.T),zM.l8 F k0 k1 fu pile t19 t20 ((i:Int)+1) p=zM.l8.rg F k0 k1 t19 t20 xs ((i:Int)+1) pile p:=fun pile p=>by
   have:=ih (i+1) fu pile p (xL hZ) (by simp at hfZ; omega);rwa [xI] at this
  simp only[zM.l8,zM.l8.body,zM.l8.rg,e1,e2,e3,e4,e5,cond_true]
def zB.l3.rg {R:Type} (F:Nat) (k0:zB.l3.K0 R) (t10:List zb.T) (t11:Int):List zb.T->Int->(List Int)->(List Int)->Option R
 | [],t12,list,pile=>k0 t10 t11 t12 (decide (t12<t11)) list pile
 | x_::xs,t12,list,pile =>
  oB (yL.sh F x_) fun c_1 =>
   bif decide (c_1.1.1>0) then bif idx (i64.wrap ((pile.length:Int)-c_1.1.1)) pile.length then bif (zA pile.length none (some (i64.wrap ((pile.length:Int)-c_1.1.1)))).1 then bif Nat.ble ((pile.take (zA pile.length none (some (i64.wrap ((pile.length:Int)-c_1.1.1)))).2.2).length+([get (.int .i64) pile ((i64.wrap ((pile.length:Int)-c_1.1.1)).toNat)]:List Int).length) xu then bif Nat.ble (list.length+([get (.int .i64) pile ((i64.wrap ((pile.length:Int)-c_1.1.1)).toNat)]:List Int).length) xu then zB.l3.rg F k0 t10 t11 xs (t12+1) (list++([get (.int .i64) pile ((i64.wrap ((pile.length:Int)-c_1.1.1)).toNat)]:List Int)) ((pile.take (zA pile.length none (some (i64.wrap ((pile.length:Int)-c_1.1.1)))).2.2)++([get (.int .i64) pile ((i64.wrap ((pile.length:Int)-c_1.1.1)).toNat)]:List Int))
       else none
      else none
     else none
    else none
   else bif Nat.ble (pile.length+([t12]:List Int).length) xu then bif Nat.ble (list.length+([t12]:List Int).length) xu then zB.l3.rg F k0 t10 t11 xs (t12+1) (list++([t12]:List Int)) (pile++([t12]:List Int))
    else none
   else none
theorem zB.l3.rg_eq {R:Type} (F:Nat) (k0:zB.l3.K0 R) (t10:List zb.T) (t11:Int) (hN:t11=(t10.length:Int)) (hL:t10.length<9223372036854775807):∀(xs:List zb.T) (i fu:Nat) (list:List Int) (pile:List Int),t10.drop i=xs->xs.length<fu->
  zB.l3 F k0 fu t10 t11 (i:Int) list pile=zB.l3.rg F k0 t10 t11 xs (i:Int) list pile:=by
 intro xs;induction xs with
 | nil =>
  intro i fu list pile hZ hfZ;obtain ⟨fu,rfl⟩:∃k,fu=k+1:=⟨fu-1,by simp at hfZ; omega⟩;have e1:=vN hN (wV hZ);simp only[zB.l3,zB.l3.body,zB.l3.rg,e1,cond_false]
 | cons x_ xs ih =>
  intro i fu list pile hZ hfZ;obtain ⟨fu,rfl⟩:∃k,fu=k+1:=⟨fu-1,by simp at hfZ; omega⟩;have e0:=wq hZ;have e1:=vM hN e0;have e2:=xm e0;have e3:=wC (t:=zb) hZ;have e4:=wv e0 hL;have e5:∀(list:List Int) (pile:List Int),zB.l3 F k0 fu t10 t11 ((i:Int)+1) list pile=zB.l3.rg F k0 t10 t11 xs ((i:Int)+1) list pile:=fun list pile=>by
   have:=ih (i+1) fu list pile (xL hZ) (by simp at hfZ; omega);rwa [xI] at this
  simp only[zB.l3,zB.l3.body,zB.l3.rg,e1,e2,e3,e4,e5,cond_true]
def zv.l7.rg {R:Type} (F:Nat) (k0:zv.l7.K0 R) (t22:List zb.T) (t23:Int):List zb.T->Int->(List Int)->Int->(List Bool)->Option R
 | [],t24,list,last,out=>k0 list last t22 t23 t24 (decide (t24<t23)) out
 | x_::xs,t24,list,last,out =>
  bif (x_.1==3) then bif idx t24 list.length then bif idx t24 out.length then zv.l7.rg F k0 t22 t23 xs (t24+1) list t24 (out.set t24.toNat (decide (t24<(get (.int .i64) list t24.toNat))))
     else none
    else none
   else bif (x_.1==4) then bif idx t24 list.length then bif idx t24 out.length then zv.l7.rg F k0 t22 t23 xs (t24+1) list t24 (out.set t24.toNat (decide (t24<(get (.int .i64) list t24.toNat))))
     else none
    else none
   else bif idx t24 list.length then bif idx t24 out.length then zv.l7.rg F k0 t22 t23 xs (t24+1) list last (out.set t24.toNat (decide (last<(get (.int .i64) list t24.toNat))))
    else none
   else none
theorem zv.l7.rg_eq {R:Type} (F:Nat) (k0:zv.l7.K0 R) (t22:List zb.T) (t23:Int) (hN:t23=(t22.length:Int)) (hL:t22.length<9223372036854775807):∀(xs:List zb.T) (i fu:Nat) (list:List Int) (last:Int) (out:List Bool),t22.drop i=xs->xs.length<fu->
  zv.l7 F k0 fu list last t22 t23 (i:Int) out=zv.l7.rg F k0 t22 t23 xs (i:Int) list last out:=by
 intro xs;induction xs with
 | nil =>
  intro i fu list last out hZ hfZ;obtain ⟨fu,rfl⟩:∃k,fu=k+1:=⟨fu-1,by simp at hfZ; omega⟩;have e1:=vN hN (wV hZ);simp only[zv.l7,zv.l7.body,zv.l7.rg,e1,cond_false]
 | cons x_ xs ih =>
  intro i fu list last out hZ hfZ;obtain ⟨fu,rfl⟩:∃k,fu=k+1:=⟨fu-1,by simp at hfZ; omega⟩;have e0:=wq hZ;have e1:=vM hN e0;have e2:=xm e0;have e3:=wC (t:=zb) hZ;have e4:=wv e0 hL;have e5:∀(list:List Int) (last:Int) (out:List Bool),zv.l7 F k0 fu list last t22 t23 ((i:Int)+1) out=zv.l7.rg F k0 t22 t23 xs ((i:Int)+1) list last out:=fun list last out=>by
   have:=ih (i+1) fu list last out (xL hZ) (by simp at hfZ; omega);rwa [xI] at this
  simp only[zv.l7,zv.l7.body,zv.l7.rg,e1,e2,e3,e4,e5,cond_true]
def zz.l2.rg {R:Type} (F:Nat) (k0:Int->Option R) (k1:zz.l2.K1 R) (t10:List Int) (t11:Int):List Int->Int->Int->yt.T->Option R
 | [],t12,from_,n=>k1 from_ t10 t11 t12 (decide (t12<t11)) n
 | x_::xs,t12,from_,n =>
  bif idx from_ n.2.1.length then bif (x_ != (get (.int .i64) n.2.1 from_.toNat)) then k0 (-1)
    else zz.l2.rg F k0 k1 t10 t11 xs (t12+1) from_ n
   else none
theorem zz.l2.rg_eq {R:Type} (F:Nat) (k0:Int->Option R) (k1:zz.l2.K1 R) (t10:List Int) (t11:Int) (hN:t11=(t10.length:Int)) (hL:t10.length<9223372036854775807):∀(xs:List Int) (i fu:Nat) (from_:Int) (n:yt.T),t10.drop i=xs->xs.length<fu->
  zz.l2 F k0 k1 fu from_ t10 t11 (i:Int) n=zz.l2.rg F k0 k1 t10 t11 xs (i:Int) from_ n:=by
 intro xs;induction xs with
 | nil =>
  intro i fu from_ n hZ hfZ;obtain ⟨fu,rfl⟩:∃k,fu=k+1:=⟨fu-1,by simp at hfZ; omega⟩;have e1:=vN hN (wV hZ);simp only[zz.l2,zz.l2.body,zz.l2.rg,e1,cond_false]
 | cons x_ xs ih =>
  intro i fu from_ n hZ hfZ;obtain ⟨fu,rfl⟩:∃k,fu=k+1:=⟨fu-1,by simp at hfZ; omega⟩;have e0:=wq hZ;have e1:=vM hN e0;have e2:=xm e0;have e3:=wC (t:=(.int .i64)) hZ;have e4:=wv e0 hL;have e5:∀(from_:Int) (n:yt.T),zz.l2 F k0 k1 fu from_ t10 t11 ((i:Int)+1) n=zz.l2.rg F k0 k1 t10 t11 xs ((i:Int)+1) from_ n:=fun from_ n=>by
   have:=ih (i+1) fu from_ n (xL hZ) (by simp at hfZ; omega);rwa [xI] at this
  simp only[zz.l2,zz.l2.body,zz.l2.rg,e1,e2,e3,e4,e5,cond_true]
def zo.l8.rg {R:Type} (F:Nat) (k0:zo.l8.K0 R) (k1:zo.l8.K1 R) (k2:zo.l8.K2 R) (t33:List zb.T) (t34:Int):List zb.T->Int->(List Bool)->(List Int)->(List Int)->(List Bool)->Option R
 | [],t35,fixed,types,pile,fix=>k2 fixed t33 t34 t35 (decide (t35<t34)) types pile fix
 | x_::xs,t35,fixed,types,pile,fix =>
  oB (xE.sh F x_.1) fun c_3 =>
   bif decide (c_3.1.2.1<0) then bif (zA pile.length (some (i64.wrap ((pile.length:Int)-x_.2.2.2.1))) none).1 then bif (zA fix.length (some (i64.wrap ((pile.length:Int)-x_.2.2.2.1))) none).1 then oB (zo.d63 F c_3.1.1 ((x_,(pile.take (zA pile.length (some (i64.wrap ((pile.length:Int)-x_.2.2.2.1))) none).2.2).drop (zA pile.length (some (i64.wrap ((pile.length:Int)-x_.2.2.2.1))) none).2.1,(fix.take (zA fix.length (some (i64.wrap ((pile.length:Int)-x_.2.2.2.1))) none).2.2).drop (zA fix.length (some (i64.wrap ((pile.length:Int)-x_.2.2.2.1))) none).2.1),())) fun c_4 =>
      bif (c_4.1.1==(-1)) then k0 ([]) t35 80
      else bif (x_.1==8) then bif idx (i64.wrap ((pile.length:Int)-x_.2.2.2.1)) fix.length then bif !(get .bool fix ((i64.wrap ((pile.length:Int)-x_.2.2.2.1)).toNat)) then bif idx (i64.wrap ((i64.wrap ((pile.length:Int)-x_.2.2.2.1))+1)) fix.length then bif !(get .bool fix ((i64.wrap ((i64.wrap ((pile.length:Int)-x_.2.2.2.1))+1)).toNat)) then k1 ([]) t35 81
          else bif Nat.ble (types.length+([c_4.1.1]:List Int).length) xu then bif (zA pile.length none (some (i64.wrap ((pile.length:Int)-x_.2.2.2.1)))).1 then bif Nat.ble ((zA pile.length none (some (i64.wrap ((pile.length:Int)-x_.2.2.2.1)))).2.2+([c_4.1.1]:List Int).length) xu then bif (zA fix.length none (some (i64.wrap ((pile.length:Int)-x_.2.2.2.1)))).1 then bif idx t35 fixed.length then bif Nat.ble ((zA fix.length none (some (i64.wrap ((pile.length:Int)-x_.2.2.2.1)))).2.2+([get .bool fixed t35.toNat]:List Bool).length) xu then zo.l8.rg F k0 k1 k2 t33 t34 xs (t35+1) fixed (types++([c_4.1.1]:List Int)) (pile.take (zA pile.length none (some (i64.wrap ((pile.length:Int)-x_.2.2.2.1)))).2.2++([c_4.1.1]:List Int)) (fix.take (zA fix.length none (some (i64.wrap ((pile.length:Int)-x_.2.2.2.1)))).2.2++([get .bool fixed t35.toNat]:List Bool))
               else none
              else none
             else none
            else none
           else none
          else none
         else none
        else bif Nat.ble (types.length+([c_4.1.1]:List Int).length) xu then bif (zA pile.length none (some (i64.wrap ((pile.length:Int)-x_.2.2.2.1)))).1 then bif Nat.ble ((zA pile.length none (some (i64.wrap ((pile.length:Int)-x_.2.2.2.1)))).2.2+([c_4.1.1]:List Int).length) xu then bif (zA fix.length none (some (i64.wrap ((pile.length:Int)-x_.2.2.2.1)))).1 then bif idx t35 fixed.length then bif Nat.ble ((zA fix.length none (some (i64.wrap ((pile.length:Int)-x_.2.2.2.1)))).2.2+([get .bool fixed t35.toNat]:List Bool).length) xu then zo.l8.rg F k0 k1 k2 t33 t34 xs (t35+1) fixed (types++([c_4.1.1]:List Int)) (pile.take (zA pile.length none (some (i64.wrap ((pile.length:Int)-x_.2.2.2.1)))).2.2++([c_4.1.1]:List Int)) (fix.take (zA fix.length none (some (i64.wrap ((pile.length:Int)-x_.2.2.2.1)))).2.2++([get .bool fixed t35.toNat]:List Bool))
             else none
            else none
           else none
          else none
         else none
        else none
       else none
      else bif Nat.ble (types.length+([c_4.1.1]:List Int).length) xu then bif (zA pile.length none (some (i64.wrap ((pile.length:Int)-x_.2.2.2.1)))).1 then bif Nat.ble ((zA pile.length none (some (i64.wrap ((pile.length:Int)-x_.2.2.2.1)))).2.2+([c_4.1.1]:List Int).length) xu then bif (zA fix.length none (some (i64.wrap ((pile.length:Int)-x_.2.2.2.1)))).1 then bif idx t35 fixed.length then bif Nat.ble ((zA fix.length none (some (i64.wrap ((pile.length:Int)-x_.2.2.2.1)))).2.2+([get .bool fixed t35.toNat]:List Bool).length) xu then zo.l8.rg F k0 k1 k2 t33 t34 xs (t35+1) fixed (types++([c_4.1.1]:List Int)) (pile.take (zA pile.length none (some (i64.wrap ((pile.length:Int)-x_.2.2.2.1)))).2.2++([c_4.1.1]:List Int)) (fix.take (zA fix.length none (some (i64.wrap ((pile.length:Int)-x_.2.2.2.1)))).2.2++([get .bool fixed t35.toNat]:List Bool))
           else none
          else none
         else none
        else none
       else none
      else none
     else none
    else none
   else bif (zA pile.length (some (i64.wrap ((pile.length:Int)-c_3.1.2.1))) none).1 then bif (zA fix.length (some (i64.wrap ((pile.length:Int)-c_3.1.2.1))) none).1 then oB (zo.d63 F c_3.1.1 ((x_,(pile.take (zA pile.length (some (i64.wrap ((pile.length:Int)-c_3.1.2.1))) none).2.2).drop (zA pile.length (some (i64.wrap ((pile.length:Int)-c_3.1.2.1))) none).2.1,(fix.take (zA fix.length (some (i64.wrap ((pile.length:Int)-c_3.1.2.1))) none).2.2).drop (zA fix.length (some (i64.wrap ((pile.length:Int)-c_3.1.2.1))) none).2.1),())) fun c_5 =>
     bif (c_5.1.1==(-1)) then k0 ([]) t35 80
     else bif (x_.1==8) then bif idx (i64.wrap ((pile.length:Int)-c_3.1.2.1)) fix.length then bif !(get .bool fix ((i64.wrap ((pile.length:Int)-c_3.1.2.1)).toNat)) then bif idx (i64.wrap ((i64.wrap ((pile.length:Int)-c_3.1.2.1))+1)) fix.length then bif !(get .bool fix ((i64.wrap ((i64.wrap ((pile.length:Int)-c_3.1.2.1))+1)).toNat)) then k1 ([]) t35 81
         else bif Nat.ble (types.length+([c_5.1.1]:List Int).length) xu then bif (zA pile.length none (some (i64.wrap ((pile.length:Int)-c_3.1.2.1)))).1 then bif Nat.ble ((zA pile.length none (some (i64.wrap ((pile.length:Int)-c_3.1.2.1)))).2.2+([c_5.1.1]:List Int).length) xu then bif (zA fix.length none (some (i64.wrap ((pile.length:Int)-c_3.1.2.1)))).1 then bif idx t35 fixed.length then bif Nat.ble ((zA fix.length none (some (i64.wrap ((pile.length:Int)-c_3.1.2.1)))).2.2+([get .bool fixed t35.toNat]:List Bool).length) xu then zo.l8.rg F k0 k1 k2 t33 t34 xs (t35+1) fixed (types++([c_5.1.1]:List Int)) (pile.take (zA pile.length none (some (i64.wrap ((pile.length:Int)-c_3.1.2.1)))).2.2++([c_5.1.1]:List Int)) (fix.take (zA fix.length none (some (i64.wrap ((pile.length:Int)-c_3.1.2.1)))).2.2++([get .bool fixed t35.toNat]:List Bool))
              else none
             else none
            else none
           else none
          else none
         else none
        else none
       else bif Nat.ble (types.length+([c_5.1.1]:List Int).length) xu then bif (zA pile.length none (some (i64.wrap ((pile.length:Int)-c_3.1.2.1)))).1 then bif Nat.ble ((zA pile.length none (some (i64.wrap ((pile.length:Int)-c_3.1.2.1)))).2.2+([c_5.1.1]:List Int).length) xu then bif (zA fix.length none (some (i64.wrap ((pile.length:Int)-c_3.1.2.1)))).1 then bif idx t35 fixed.length then bif Nat.ble ((zA fix.length none (some (i64.wrap ((pile.length:Int)-c_3.1.2.1)))).2.2+([get .bool fixed t35.toNat]:List Bool).length) xu then zo.l8.rg F k0 k1 k2 t33 t34 xs (t35+1) fixed (types++([c_5.1.1]:List Int)) (pile.take (zA pile.length none (some (i64.wrap ((pile.length:Int)-c_3.1.2.1)))).2.2++([c_5.1.1]:List Int)) (fix.take (zA fix.length none (some (i64.wrap ((pile.length:Int)-c_3.1.2.1)))).2.2++([get .bool fixed t35.toNat]:List Bool))
            else none
           else none
          else none
         else none
        else none
       else none
      else none
     else bif Nat.ble (types.length+([c_5.1.1]:List Int).length) xu then bif (zA pile.length none (some (i64.wrap ((pile.length:Int)-c_3.1.2.1)))).1 then bif Nat.ble ((zA pile.length none (some (i64.wrap ((pile.length:Int)-c_3.1.2.1)))).2.2+([c_5.1.1]:List Int).length) xu then bif (zA fix.length none (some (i64.wrap ((pile.length:Int)-c_3.1.2.1)))).1 then bif idx t35 fixed.length then bif Nat.ble ((zA fix.length none (some (i64.wrap ((pile.length:Int)-c_3.1.2.1)))).2.2+([get .bool fixed t35.toNat]:List Bool).length) xu then zo.l8.rg F k0 k1 k2 t33 t34 xs (t35+1) fixed (types++([c_5.1.1]:List Int)) (pile.take (zA pile.length none (some (i64.wrap ((pile.length:Int)-c_3.1.2.1)))).2.2++([c_5.1.1]:List Int)) (fix.take (zA fix.length none (some (i64.wrap ((pile.length:Int)-c_3.1.2.1)))).2.2++([get .bool fixed t35.toNat]:List Bool))
          else none
         else none
        else none
       else none
      else none
     else none
    else none
   else none
theorem zo.l8.rg_eq {R:Type} (F:Nat) (k0:zo.l8.K0 R) (k1:zo.l8.K1 R) (k2:zo.l8.K2 R) (t33:List zb.T) (t34:Int) (hN:t34=(t33.length:Int)) (hL:t33.length<9223372036854775807):∀(xs:List zb.T) (i fu:Nat) (fixed:List Bool) (types:List Int) (pile:List Int) (fix:List Bool),t33.drop i=xs->xs.length<fu->
  zo.l8 F k0 k1 k2 fu fixed t33 t34 (i:Int) types pile fix=zo.l8.rg F k0 k1 k2 t33 t34 xs (i:Int) fixed types pile fix:=by
 intro xs;induction xs with
 | nil =>
  intro i fu fixed types pile fix hZ hfZ;obtain ⟨fu,rfl⟩:∃k,fu=k+1:=⟨fu-1,by simp at hfZ; omega⟩;have e1:=vN hN (wV hZ);simp only[zo.l8,zo.l8.body,zo.l8.rg,e1,cond_false]
 | cons x_ xs ih =>
  intro i fu fixed types pile fix hZ hfZ;obtain ⟨fu,rfl⟩:∃k,fu=k+1:=⟨fu-1,by simp at hfZ; omega⟩;have e0:=wq hZ;have e1:=vM hN e0;have e2:=xm e0;have e3:=wC (t:=zb) hZ;have e4:=wv e0 hL;have e5:∀(fixed:List Bool) (types:List Int) (pile:List Int) (fix:List Bool),zo.l8 F k0 k1 k2 fu fixed t33 t34 ((i:Int)+1) types pile fix=zo.l8.rg F k0 k1 k2 t33 t34 xs ((i:Int)+1) fixed types pile fix:=fun fixed types pile fix=>by
   have:=ih (i+1) fu fixed types pile fix (xL hZ) (by simp at hfZ; omega);rwa [xI] at this
  simp only[zo.l8,zo.l8.body,zo.l8.rg,e1,e2,e3,e4,e5,cond_true]
def zE.l5.rg {R:Type} (F:Nat) (k0:zE.l5.K0 R) (x:List Int):List Int->Int->Int->Option R
 | [],i,m=>k0 x m i (decide (i<(x.length:Int)))
 | x_::xs,i,m =>
  zE.l5.rg F k0 x xs (i+1) (if x_>m then x_ else m)
theorem zE.l5.rg_eq {R:Type} (F:Nat) (k0:zE.l5.K0 R) (x:List Int) (hL:x.length<9223372036854775807):∀(xs:List Int) (i fu:Nat) (m:Int),x.drop i=xs->xs.length<fu->
  zE.l5 F k0 fu x m (i:Int)=zE.l5.rg F k0 x xs (i:Int) m:=by
 intro xs;induction xs with
 | nil =>
  intro i fu m hZ hfZ;obtain ⟨fu,rfl⟩:∃k,fu=k+1:=⟨fu-1,by simp at hfZ; omega⟩;have e1:=vN rfl (wV hZ);simp only[zE.l5,zE.l5.body,zE.l5.rg,e1,cond_false]
 | cons x_ xs ih =>
  intro i fu m hZ hfZ;obtain ⟨fu,rfl⟩:∃k,fu=k+1:=⟨fu-1,by simp at hfZ; omega⟩;have e0:=wq hZ;have e1:=vM rfl e0;have e2:=xm e0;have e3:=wC (t:=(.int .i64)) hZ;have e4:=wv e0 hL;have e5:∀(m:Int),zE.l5 F k0 fu x m ((i:Int)+1)=zE.l5.rg F k0 x xs ((i:Int)+1) m:=fun m=>by
   have:=ih (i+1) fu m (xL hZ) (by simp at hfZ; omega);rwa [xI] at this
  simp only[zE.l5,zE.l5.body,zE.l5.rg,e1,e2,e3,e4,e5,cond_true]
def zF.l6.rg {R:Type} (F:Nat) (k0:zF.l6.K0 R) (t20:List zb.T) (t21:Int):List zb.T->Int->(List Int)->Option R
 | [],t22,pile=>k0 t20 t21 t22 (decide (t22<t21)) pile
 | x_::xs,t22,pile =>
  oB (yL.sh F x_) fun c_2 =>
   bif decide (c_2.1.1>0) then bif (zA pile.length (some (i64.wrap ((pile.length:Int)-c_2.1.1))) none).1 then oB (zE.sh F ((List.take (zA pile.length (some (i64.wrap ((pile.length:Int)-c_2.1.1))) none).2.2 pile).drop (zA pile.length (some (i64.wrap ((pile.length:Int)-c_2.1.1))) none).2.1)) fun c_3 =>
     bif (zA pile.length none (some (i64.wrap ((pile.length:Int)-c_2.1.1)))).1 then bif (x_.1==15) then bif Nat.ble ((pile.take (zA pile.length none (some (i64.wrap ((pile.length:Int)-c_2.1.1)))).2.2).length+([i64.wrap (c_3.1.1+1)]:List Int).length) xu then zF.l6.rg F k0 t20 t21 xs (t22+1) ((pile.take (zA pile.length none (some (i64.wrap ((pile.length:Int)-c_2.1.1)))).2.2)++([i64.wrap (c_3.1.1+1)]:List Int))
       else none
      else bif Nat.ble ((pile.take (zA pile.length none (some (i64.wrap ((pile.length:Int)-c_2.1.1)))).2.2).length+([c_3.1.1]:List Int).length) xu then zF.l6.rg F k0 t20 t21 xs (t22+1) ((pile.take (zA pile.length none (some (i64.wrap ((pile.length:Int)-c_2.1.1)))).2.2)++([c_3.1.1]:List Int))
      else none
     else none
    else none
   else bif (x_.1==15) then bif Nat.ble (pile.length+([i64.wrap (0+1)]:List Int).length) xu then zF.l6.rg F k0 t20 t21 xs (t22+1) (pile++([i64.wrap (0+1)]:List Int))
    else none
   else bif Nat.ble (pile.length+([0]:List Int).length) xu then zF.l6.rg F k0 t20 t21 xs (t22+1) (pile++([0]:List Int))
   else none
theorem zF.l6.rg_eq {R:Type} (F:Nat) (k0:zF.l6.K0 R) (t20:List zb.T) (t21:Int) (hN:t21=(t20.length:Int)) (hL:t20.length<9223372036854775807):∀(xs:List zb.T) (i fu:Nat) (pile:List Int),t20.drop i=xs->xs.length<fu->
  zF.l6 F k0 fu t20 t21 (i:Int) pile=zF.l6.rg F k0 t20 t21 xs (i:Int) pile:=by
 intro xs;induction xs with
 | nil =>
  intro i fu pile hZ hfZ;obtain ⟨fu,rfl⟩:∃k,fu=k+1:=⟨fu-1,by simp at hfZ; omega⟩;have e1:=vN hN (wV hZ);simp only[zF.l6,zF.l6.body,zF.l6.rg,e1,cond_false]
 | cons x_ xs ih =>
  intro i fu pile hZ hfZ;obtain ⟨fu,rfl⟩:∃k,fu=k+1:=⟨fu-1,by simp at hfZ; omega⟩;have e0:=wq hZ;have e1:=vM hN e0;have e2:=xm e0;have e3:=wC (t:=zb) hZ;have e4:=wv e0 hL;have e5:∀(pile:List Int),zF.l6 F k0 fu t20 t21 ((i:Int)+1) pile=zF.l6.rg F k0 t20 t21 xs ((i:Int)+1) pile:=fun pile=>by
   have:=ih (i+1) fu pile (xL hZ) (by simp at hfZ; omega);rwa [xI] at this
  simp only[zF.l6,zF.l6.body,zF.l6.rg,e1,e2,e3,e4,e5,cond_true]
def zu.l3.rg {R:Type} (F:Nat) (k0:zu.l3.K0 R) (t13:List zN.T) (t14:Int):List zN.T->Int->(List zN.T)->Int->zU.T->zd.T->zd.T->zd.T->Option R
 | [],t15,tiers,rate,m,x,r6,ways=>k0 tiers rate t13 t14 t15 (decide (t15<t14)) m x r6 ways
 | x_::xs,t15,tiers,rate,m,x,r6,ways =>
  oB (xR.sh F x_.2) fun c_1 =>
   bif decide ((i64.wrap (t15+1))<(tiers.length:Int)) then oB (xR.sh F x_.2) fun c_2 =>
    oB (zR.sh F c_2.1.1) fun c_3 =>
    bif idx (i64.wrap (t15+1)) tiers.length then oB (zR.sh F (i64.wrap ((get zN tiers ((i64.wrap (t15+1)).toNat)).1-x_.1))) fun c_4 =>
     oB (ya.sh F m c_3.1.1 c_4.1.1) fun c_5 =>
     bif (((m.1.1==c_5.2.1.1.1)&&((m.1.2==c_5.2.1.1.2)&&true))&&true) then oB (ye.sh F c_5.2.1 ways c_5.1.1) fun c_6 =>
      bif (((c_5.2.1.1.1==c_6.2.1.1.1)&&((c_5.2.1.1.2==c_6.2.1.1.2)&&true))&&true) then zu.l3.rg F k0 t13 t14 xs (t15+1) tiers (if c_1.1.1>rate then c_1.1.1 else rate) c_6.2.1 x r6 c_6.1.1
      else none
     else none
    else none
   else zu.l3.rg F k0 t13 t14 xs (t15+1) tiers (if c_1.1.1>rate then c_1.1.1 else rate) m x r6 ways
theorem zu.l3.rg_eq {R:Type} (F:Nat) (k0:zu.l3.K0 R) (t13:List zN.T) (t14:Int) (hN:t14=(t13.length:Int)) (hL:t13.length<9223372036854775807):∀(xs:List zN.T) (i fu:Nat) (tiers:List zN.T) (rate:Int) (m:zU.T) (x:zd.T) (r6:zd.T) (ways:zd.T),t13.drop i=xs->xs.length<fu->
  zu.l3 F k0 fu tiers rate t13 t14 (i:Int) m x r6 ways=zu.l3.rg F k0 t13 t14 xs (i:Int) tiers rate m x r6 ways:=by
 intro xs;induction xs with
 | nil =>
  intro i fu tiers rate m x r6 ways hZ hfZ;obtain ⟨fu,rfl⟩:∃k,fu=k+1:=⟨fu-1,by simp at hfZ; omega⟩;have e1:=vN hN (wV hZ);simp only[zu.l3,zu.l3.body,zu.l3.rg,e1,cond_false]
 | cons x_ xs ih =>
  intro i fu tiers rate m x r6 ways hZ hfZ;obtain ⟨fu,rfl⟩:∃k,fu=k+1:=⟨fu-1,by simp at hfZ; omega⟩;have e0:=wq hZ;have e1:=vM hN e0;have e2:=xm e0;have e3:=wC (t:=zN) hZ;have e4:=wv e0 hL;have e5:∀(tiers:List zN.T) (rate:Int) (m:zU.T) (x:zd.T) (r6:zd.T) (ways:zd.T),zu.l3 F k0 fu tiers rate t13 t14 ((i:Int)+1) m x r6 ways=zu.l3.rg F k0 t13 t14 xs ((i:Int)+1) tiers rate m x r6 ways:=fun tiers rate m x r6 ways=>by
   have:=ih (i+1) fu tiers rate m x r6 ways (xL hZ) (by simp at hfZ; omega);rwa [xI] at this
  simp only[zu.l3,zu.l3.body,zu.l3.rg,e1,e2,e3,e4,e5,cond_true]
def yp.l4.rg {R:Type} (F:Nat) (k0:yp.l4.K0 R) (t11:List zd.T) (t12:Int):List zd.T->Int->Int->Int->Int->zd.T->Option R
 | [],t13,lo,hi,top,r2=>k0 lo hi top t11 t12 t13 (decide (t13<t12)) r2
 | x_::xs,t13,lo,hi,top,r2 =>
  oB (yh.sh F lo x_.2 0) fun c_1 =>
   oB (yh.sh F hi (u64.wrap x_.1) c_1.1.2.1) fun c_2 =>
   yp.l4.rg F k0 t11 t12 xs (t13+1) c_1.1.1 c_2.1.1 (i64.wrap (top+(i64.wrap ((x_.1.fdiv (2^(min (63:Int).toNat IntKind.i64.bits)))+(i64.wrap c_2.1.2.1))))) r2
theorem yp.l4.rg_eq {R:Type} (F:Nat) (k0:yp.l4.K0 R) (t11:List zd.T) (t12:Int) (hN:t12=(t11.length:Int)) (hL:t11.length<9223372036854775807):∀(xs:List zd.T) (i fu:Nat) (lo:Int) (hi:Int) (top:Int) (r2:zd.T),t11.drop i=xs->xs.length<fu->
  yp.l4 F k0 fu lo hi top t11 t12 (i:Int) r2=yp.l4.rg F k0 t11 t12 xs (i:Int) lo hi top r2:=by
 intro xs;induction xs with
 | nil =>
  intro i fu lo hi top r2 hZ hfZ;obtain ⟨fu,rfl⟩:∃k,fu=k+1:=⟨fu-1,by simp at hfZ; omega⟩;have e1:=vN hN (wV hZ);simp only[yp.l4,yp.l4.body,yp.l4.rg,e1,cond_false]
 | cons x_ xs ih =>
  intro i fu lo hi top r2 hZ hfZ;obtain ⟨fu,rfl⟩:∃k,fu=k+1:=⟨fu-1,by simp at hfZ; omega⟩;have e0:=wq hZ;have e1:=vM hN e0;have e2:=xm e0;have e3:=wC (t:=zd) hZ;have e4:=wv e0 hL;have e5:∀(lo:Int) (hi:Int) (top:Int) (r2:zd.T),yp.l4 F k0 fu lo hi top t11 t12 ((i:Int)+1) r2=yp.l4.rg F k0 t11 t12 xs ((i:Int)+1) lo hi top r2:=fun lo hi top r2=>by
   have:=ih (i+1) fu lo hi top r2 (xL hZ) (by simp at hfZ; omega);rwa [xI] at this
  simp only[yp.l4,yp.l4.body,yp.l4.rg,e1,e2,e3,e4,e5,cond_true]
def zt.l4.rg {R:Type} (F:Nat) (k0:zt.l4.K0 R) (k1:zt.l4.K1 R) (t17:List zb.T) (t18:Int):List zb.T->Int->zL.T->zU.T->(List zd.T)->(List zd.T)->Option R
 | [],t19,p,m,mags,pile=>k1 t17 t18 t19 (decide (t19<t18)) p m mags pile
 | x_::xs,t19,p,m,mags,pile =>
  oB (zV.sh F x_) fun c_1 =>
   bif (zA pile.length (some (i64.wrap ((pile.length:Int)-c_1.1.1))) none).1 then oB (zy.sh F m p x_ ((List.take (zA pile.length (some (i64.wrap ((pile.length:Int)-c_1.1.1))) none).2.2 pile).drop (zA pile.length (some (i64.wrap ((pile.length:Int)-c_1.1.1))) none).2.1)) fun c_2 =>
    bif c_2.2.1.2 then k0 ([]) t19
    else oB (xn.sh F x_ c_2.1.1) fun c_3 =>
    bif c_3.1.1 then k0 ([]) t19
    else bif Nat.ble (mags.length+([c_2.1.1]:List zd.T).length) xu then bif (zA pile.length none (some (i64.wrap ((pile.length:Int)-c_1.1.1)))).1 then bif Nat.ble ((zA pile.length none (some (i64.wrap ((pile.length:Int)-c_1.1.1)))).2.2+([c_2.1.1]:List zd.T).length) xu then zt.l4.rg F k0 k1 t17 t18 xs (t19+1) p c_2.2.1 (mags++([c_2.1.1]:List zd.T)) (pile.take (zA pile.length none (some (i64.wrap ((pile.length:Int)-c_1.1.1)))).2.2++([c_2.1.1]:List zd.T))
      else none
     else none
    else none
   else none
theorem zt.l4.rg_eq {R:Type} (F:Nat) (k0:zt.l4.K0 R) (k1:zt.l4.K1 R) (t17:List zb.T) (t18:Int) (hN:t18=(t17.length:Int)) (hL:t17.length<9223372036854775807):∀(xs:List zb.T) (i fu:Nat) (p:zL.T) (m:zU.T) (mags:List zd.T) (pile:List zd.T),t17.drop i=xs->xs.length<fu->
  zt.l4 F k0 k1 fu t17 t18 (i:Int) p m mags pile=zt.l4.rg F k0 k1 t17 t18 xs (i:Int) p m mags pile:=by
 intro xs;induction xs with
 | nil =>
  intro i fu p m mags pile hZ hfZ;obtain ⟨fu,rfl⟩:∃k,fu=k+1:=⟨fu-1,by simp at hfZ; omega⟩;have e1:=vN hN (wV hZ);simp only[zt.l4,zt.l4.body,zt.l4.rg,e1,cond_false]
 | cons x_ xs ih =>
  intro i fu p m mags pile hZ hfZ;obtain ⟨fu,rfl⟩:∃k,fu=k+1:=⟨fu-1,by simp at hfZ; omega⟩;have e0:=wq hZ;have e1:=vM hN e0;have e2:=xm e0;have e3:=wC (t:=zb) hZ;have e4:=wv e0 hL;have e5:∀(p:zL.T) (m:zU.T) (mags:List zd.T) (pile:List zd.T),zt.l4 F k0 k1 fu t17 t18 ((i:Int)+1) p m mags pile=zt.l4.rg F k0 k1 t17 t18 xs ((i:Int)+1) p m mags pile:=fun p m mags pile=>by
   have:=ih (i+1) fu p m mags pile (xL hZ) (by simp at hfZ; omega);rwa [xI] at this
  simp only[zt.l4,zt.l4.body,zt.l4.rg,e1,e2,e3,e4,e5,cond_true]
def zH.l3.rg {R:Type} (F:Nat) (k0:zH.l3.K0 R) (t7:List zb.T) (t8:Int):List zb.T->Int->(List (LTr zb.T))->Option R
 | [],t9,pile=>k0 t7 t8 t9 (decide (t9<t8)) pile
 | x_::xs,t9,pile =>
  oB (yb.sh F x_) fun c_1 =>
   bif (zA pile.length none (some (i64.wrap ((pile.length:Int)-c_1.1.1)))).1 then bif (zA pile.length (some (i64.wrap ((pile.length:Int)-c_1.1.1))) none).1 then oB (yT.sh F ((List.take (zA pile.length (some (i64.wrap ((pile.length:Int)-c_1.1.1))) none).2.2 pile).drop (zA pile.length (some (i64.wrap ((pile.length:Int)-c_1.1.1))) none).2.1)) fun c_2 =>
     bif Nat.ble ((zA pile.length none (some (i64.wrap ((pile.length:Int)-c_1.1.1)))).2.2+([(LTr.nd x_ c_2.1.1)]:List (LTr zb.T)).length) xu then zH.l3.rg F k0 t7 t8 xs (t9+1) (pile.take (zA pile.length none (some (i64.wrap ((pile.length:Int)-c_1.1.1)))).2.2++([(LTr.nd x_ c_2.1.1)]:List (LTr zb.T)))
     else none
    else none
   else none
theorem zH.l3.rg_eq {R:Type} (F:Nat) (k0:zH.l3.K0 R) (t7:List zb.T) (t8:Int) (hN:t8=(t7.length:Int)) (hL:t7.length<9223372036854775807):∀(xs:List zb.T) (i fu:Nat) (pile:List (LTr zb.T)),t7.drop i=xs->xs.length<fu->
  zH.l3 F k0 fu t7 t8 (i:Int) pile=zH.l3.rg F k0 t7 t8 xs (i:Int) pile:=by
 intro xs;induction xs with
 | nil =>
  intro i fu pile hZ hfZ;obtain ⟨fu,rfl⟩:∃k,fu=k+1:=⟨fu-1,by simp at hfZ; omega⟩;have e1:=vN hN (wV hZ);simp only[zH.l3,zH.l3.body,zH.l3.rg,e1,cond_false]
 | cons x_ xs ih =>
  intro i fu pile hZ hfZ;obtain ⟨fu,rfl⟩:∃k,fu=k+1:=⟨fu-1,by simp at hfZ; omega⟩;have e0:=wq hZ;have e1:=vM hN e0;have e2:=xm e0;have e3:=wC (t:=zb) hZ;have e4:=wv e0 hL;have e5:∀(pile:List (LTr zb.T)),zH.l3 F k0 fu t7 t8 ((i:Int)+1) pile=zH.l3.rg F k0 t7 t8 xs ((i:Int)+1) pile:=fun pile=>by
   have:=ih (i+1) fu pile (xL hZ) (by simp at hfZ; omega);rwa [xI] at this
  simp only[zH.l3,zH.l3.body,zH.l3.rg,e1,e2,e3,e4,e5,cond_true]
def zh.l4.rg {R:Type} (me:zZ.M) (F:Nat) (k0:Bool->Option R) (k1:zh.l4.K1 R) (t15:List (LTr zb.T)) (t16:Int):List (LTr zb.T)->Int->(List (LTr zb.T))->Nat->Option R
 | [],t17,s2,eq=>k1 s2 eq t15 t16 t17 (decide (t17<t16))
 | x_::xs,t17,s2,eq =>
  bif idx t17 s2.length then oB (zh.d29 me F eq (x_,get (.tr zb) s2 t17.toNat,())) fun c_1 =>
    bif !c_1.1.1 then k0 false
    else zh.l4.rg me F k0 k1 t15 t16 xs (t17+1) s2 eq
   else none
theorem zh.l4.rg_eq {R:Type} (me:zZ.M) (F:Nat) (k0:Bool->Option R) (k1:zh.l4.K1 R) (t15:List (LTr zb.T)) (t16:Int) (hN:t16=(t15.length:Int)) (hL:t15.length<9223372036854775807):∀(xs:List (LTr zb.T)) (i fu:Nat) (s2:List (LTr zb.T)) (eq:Nat),t15.drop i=xs->xs.length<fu->
  zh.l4 me F k0 k1 fu s2 eq t15 t16 (i:Int)=zh.l4.rg me F k0 k1 t15 t16 xs (i:Int) s2 eq:=by
 intro xs;induction xs with
 | nil =>
  intro i fu s2 eq hZ hfZ;obtain ⟨fu,rfl⟩:∃k,fu=k+1:=⟨fu-1,by simp at hfZ; omega⟩;have e1:=vN hN (wV hZ);simp only[zh.l4,zh.l4.body,zh.l4.rg,e1,cond_false]
 | cons x_ xs ih =>
  intro i fu s2 eq hZ hfZ;obtain ⟨fu,rfl⟩:∃k,fu=k+1:=⟨fu-1,by simp at hfZ; omega⟩;have e0:=wq hZ;have e1:=vM hN e0;have e2:=xm e0;have e3:=wC (t:=(.tr zb)) hZ;have e4:=wv e0 hL;have e5:∀(s2:List (LTr zb.T)) (eq:Nat),zh.l4 me F k0 k1 fu s2 eq t15 t16 ((i:Int)+1)=zh.l4.rg me F k0 k1 t15 t16 xs ((i:Int)+1) s2 eq:=fun s2 eq=>by
   have:=ih (i+1) fu s2 eq (xL hZ) (by simp at hfZ; omega);rwa [xI] at this
  simp only[zh.l4,zh.l4.body,zh.l4.rg,e1,e2,e3,e4,e5,cond_true]
def zm.l5.rg {R:Type} (me:zm.M) (F:Nat) (k0:zm.l5.K0 R) (t31:List (LTr zb.T)) (t32:Int):List (LTr zb.T)->Int->Bool->Bool->Option R
 | [],t33,is,money=>k0 is money t31 t32 t33 (decide (t33<t32))
 | x_::xs,t33,is,money =>
  oB (me x_) fun c_1 =>
   bif is then bif money then zm.l5.rg me F k0 t31 t32 xs (t33+1) c_1.1.1 true
    else zm.l5.rg me F k0 t31 t32 xs (t33+1) c_1.1.1 c_1.1.2.1
   else bif money then zm.l5.rg me F k0 t31 t32 xs (t33+1) false true
   else zm.l5.rg me F k0 t31 t32 xs (t33+1) false c_1.1.2.1
theorem zm.l5.rg_eq {R:Type} (me:zm.M) (F:Nat) (k0:zm.l5.K0 R) (t31:List (LTr zb.T)) (t32:Int) (hN:t32=(t31.length:Int)) (hL:t31.length<9223372036854775807):∀(xs:List (LTr zb.T)) (i fu:Nat) (is:Bool) (money:Bool),t31.drop i=xs->xs.length<fu->
  zm.l5 me F k0 fu is money t31 t32 (i:Int)=zm.l5.rg me F k0 t31 t32 xs (i:Int) is money:=by
 intro xs;induction xs with
 | nil =>
  intro i fu is money hZ hfZ;obtain ⟨fu,rfl⟩:∃k,fu=k+1:=⟨fu-1,by simp at hfZ; omega⟩;have e1:=vN hN (wV hZ);simp only[zm.l5,zm.l5.body,zm.l5.rg,e1,cond_false]
 | cons x_ xs ih =>
  intro i fu is money hZ hfZ;obtain ⟨fu,rfl⟩:∃k,fu=k+1:=⟨fu-1,by simp at hfZ; omega⟩;have e0:=wq hZ;have e1:=vM hN e0;have e2:=xm e0;have e3:=wC (t:=(.tr zb)) hZ;have e4:=wv e0 hL;have e5:∀(is:Bool) (money:Bool),zm.l5 me F k0 fu is money t31 t32 ((i:Int)+1)=zm.l5.rg me F k0 t31 t32 xs ((i:Int)+1) is money:=fun is money=>by
   have:=ih (i+1) fu is money (xL hZ) (by simp at hfZ; omega);rwa [xI] at this
  simp only[zm.l5,zm.l5.body,zm.l5.rg,e1,e2,e3,e4,e5,cond_true]
def zi.l5.rg {R:Type} (F:Nat) (k0:zi.l5.K0 R) (x:List zd.T):List zd.T->Int->Nat->zd.T->zd.T->Option R
 | [],i,cmp,r4,m=>k0 x cmp i (decide (i<(x.length:Int))) r4 m
 | x_::xs,i,cmp,r4,m =>
  oB (zi.d26 F cmp (x_,m,())) fun c_1 =>
   bif decide (c_1.1.1<0) then bif true then zi.l5.rg F k0 x xs (i+1) cmp r4 x_
    else none
   else zi.l5.rg F k0 x xs (i+1) cmp r4 m
theorem zi.l5.rg_eq {R:Type} (F:Nat) (k0:zi.l5.K0 R) (x:List zd.T) (hL:x.length<9223372036854775807):∀(xs:List zd.T) (i fu:Nat) (cmp:Nat) (r4:zd.T) (m:zd.T),x.drop i=xs->xs.length<fu->
  zi.l5 F k0 fu x cmp (i:Int) r4 m=zi.l5.rg F k0 x xs (i:Int) cmp r4 m:=by
 intro xs;induction xs with
 | nil =>
  intro i fu cmp r4 m hZ hfZ;obtain ⟨fu,rfl⟩:∃k,fu=k+1:=⟨fu-1,by simp at hfZ; omega⟩;have e1:=vN rfl (wV hZ);simp only[zi.l5,zi.l5.body,zi.l5.rg,e1,cond_false]
 | cons x_ xs ih =>
  intro i fu cmp r4 m hZ hfZ;obtain ⟨fu,rfl⟩:∃k,fu=k+1:=⟨fu-1,by simp at hfZ; omega⟩;have e0:=wq hZ;have e1:=vM rfl e0;have e2:=xm e0;have e3:=wC (t:=zd) hZ;have e4:=wv e0 hL;have e5:∀(cmp:Nat) (r4:zd.T) (m:zd.T),zi.l5 F k0 fu x cmp ((i:Int)+1) r4 m=zi.l5.rg F k0 x xs ((i:Int)+1) cmp r4 m:=fun cmp r4 m=>by
   have:=ih (i+1) fu cmp r4 m (xL hZ) (by simp at hfZ; omega);rwa [xI] at this
  simp only[zi.l5,zi.l5.body,zi.l5.rg,e1,e2,e3,e4,e5,cond_true]
def zj.l5.rg {R:Type} (F:Nat) (k0:zj.l5.K0 R) (x:List zd.T):List zd.T->Int->Nat->zd.T->zd.T->Option R
 | [],i,cmp,r4,m=>k0 x cmp i (decide (i<(x.length:Int))) r4 m
 | x_::xs,i,cmp,r4,m =>
  oB (zj.d26 F cmp (x_,m,())) fun c_1 =>
   bif decide (c_1.1.1>0) then bif true then zj.l5.rg F k0 x xs (i+1) cmp r4 x_
    else none
   else zj.l5.rg F k0 x xs (i+1) cmp r4 m
theorem zj.l5.rg_eq {R:Type} (F:Nat) (k0:zj.l5.K0 R) (x:List zd.T) (hL:x.length<9223372036854775807):∀(xs:List zd.T) (i fu:Nat) (cmp:Nat) (r4:zd.T) (m:zd.T),x.drop i=xs->xs.length<fu->
  zj.l5 F k0 fu x cmp (i:Int) r4 m=zj.l5.rg F k0 x xs (i:Int) cmp r4 m:=by
 intro xs;induction xs with
 | nil =>
  intro i fu cmp r4 m hZ hfZ;obtain ⟨fu,rfl⟩:∃k,fu=k+1:=⟨fu-1,by simp at hfZ; omega⟩;have e1:=vN rfl (wV hZ);simp only[zj.l5,zj.l5.body,zj.l5.rg,e1,cond_false]
 | cons x_ xs ih =>
  intro i fu cmp r4 m hZ hfZ;obtain ⟨fu,rfl⟩:∃k,fu=k+1:=⟨fu-1,by simp at hfZ; omega⟩;have e0:=wq hZ;have e1:=vM rfl e0;have e2:=xm e0;have e3:=wC (t:=zd) hZ;have e4:=wv e0 hL;have e5:∀(cmp:Nat) (r4:zd.T) (m:zd.T),zj.l5 F k0 fu x cmp ((i:Int)+1) r4 m=zj.l5.rg F k0 x xs ((i:Int)+1) cmp r4 m:=fun cmp r4 m=>by
   have:=ih (i+1) fu cmp r4 m (xL hZ) (by simp at hfZ; omega);rwa [xI] at this
  simp only[zj.l5,zj.l5.body,zj.l5.rg,e1,e2,e3,e4,e5,cond_true]
def ze.l3.rg {R:Type} (me:ze.M) (F:Nat) (k0:ze.l3.K0 R) (t12:List (LTr zb.T)) (t13:Int):List (LTr zb.T)->Int->(LTr zb.T)->zd.T->zd.T->(List zd.T)->Option R
 | [],t14,x,f,r4,k=>k0 x t12 t13 t14 (decide (t14<t13)) f r4 k
 | x_::xs,t14,x,f,r4,k =>
  oB (me f x_) fun c_1 =>
   bif Nat.ble (k.length+([c_1.1.1]:List zd.T).length) xu then ze.l3.rg me F k0 t12 t13 xs (t14+1) x f r4 (k++([c_1.1.1]:List zd.T))
   else none
theorem ze.l3.rg_eq {R:Type} (me:ze.M) (F:Nat) (k0:ze.l3.K0 R) (t12:List (LTr zb.T)) (t13:Int) (hN:t13=(t12.length:Int)) (hL:t12.length<9223372036854775807):∀(xs:List (LTr zb.T)) (i fu:Nat) (x:LTr zb.T) (f:zd.T) (r4:zd.T) (k:List zd.T),t12.drop i=xs->xs.length<fu->
  ze.l3 me F k0 fu x t12 t13 (i:Int) f r4 k=ze.l3.rg me F k0 t12 t13 xs (i:Int) x f r4 k:=by
 intro xs;induction xs with
 | nil =>
  intro i fu x f r4 k hZ hfZ;obtain ⟨fu,rfl⟩:∃k,fu=k+1:=⟨fu-1,by simp at hfZ; omega⟩;have e1:=vN hN (wV hZ);simp only[ze.l3,ze.l3.body,ze.l3.rg,e1,cond_false]
 | cons x_ xs ih =>
  intro i fu x f r4 k hZ hfZ;obtain ⟨fu,rfl⟩:∃k,fu=k+1:=⟨fu-1,by simp at hfZ; omega⟩;have e0:=wq hZ;have e1:=vM hN e0;have e2:=xm e0;have e3:=wC (t:=(.tr zb)) hZ;have e4:=wv e0 hL;have e5:∀(x:LTr zb.T) (f:zd.T) (r4:zd.T) (k:List zd.T),ze.l3 me F k0 fu x t12 t13 ((i:Int)+1) f r4 k=ze.l3.rg me F k0 t12 t13 xs ((i:Int)+1) x f r4 k:=fun x f r4 k=>by
   have:=ih (i+1) fu x f r4 k (xL hZ) (by simp at hfZ; omega);rwa [xI] at this
  simp only[ze.l3,ze.l3.body,ze.l3.rg,e1,e2,e3,e4,e5,cond_true]
def zg.l2.rg {R:Type} (F:Nat) (k0:Int->Option R) (k1:zg.l2.K1 R) (s:List (LTr zb.T)) (t7:Int):List (LTr zb.T)->Int->(Nat×(LTr zb.T))->Option R
 | [],t8,f=>k1 s (f.1,f.2) t7 t8 (decide (t8<t7))
 | x_::xs,t8,f =>
  oB (zg.d16 F (f.1+1) (x_,f.2,())) fun c_1 =>
   bif c_1.1.1 then k0 t8
   else zg.l2.rg F k0 k1 s t7 xs (t8+1) (f.1,f.2)
theorem zg.l2.rg_eq {R:Type} (F:Nat) (k0:Int->Option R) (k1:zg.l2.K1 R) (s:List (LTr zb.T)) (t7:Int) (hN:t7=(s.length:Int)) (hL:s.length<9223372036854775807):∀(xs:List (LTr zb.T)) (i fu:Nat) (f:Nat×(LTr zb.T)),s.drop i=xs->xs.length<fu->
  zg.l2 F k0 k1 fu s f t7 (i:Int)=zg.l2.rg F k0 k1 s t7 xs (i:Int) f:=by
 intro xs;induction xs with
 | nil =>
  intro i fu f hZ hfZ;obtain ⟨fu,rfl⟩:∃k,fu=k+1:=⟨fu-1,by simp at hfZ; omega⟩;have e1:=vN hN (wV hZ);simp only[zg.l2,zg.l2.body,zg.l2.rg,e1,cond_false]
 | cons x_ xs ih =>
  intro i fu f hZ hfZ;obtain ⟨fu,rfl⟩:∃k,fu=k+1:=⟨fu-1,by simp at hfZ; omega⟩;have e0:=wq hZ;have e1:=vM hN e0;have e2:=xm e0;have e3:=wC (t:=(.tr zb)) hZ;have e4:=wv e0 hL;have e5:∀(f:Nat×(LTr zb.T)),zg.l2 F k0 k1 fu s f t7 ((i:Int)+1)=zg.l2.rg F k0 k1 s t7 xs ((i:Int)+1) f:=fun f=>by
   have:=ih (i+1) fu f (xL hZ) (by simp at hfZ; omega);rwa [xI] at this
  simp only[zg.l2,zg.l2.body,zg.l2.rg,e1,e2,e3,e4,e5,cond_true]
def zf.l5.rg {R:Type} (F:Nat) (k0:zf.l5.K0 R) (t26:List (LTr zb.T)) (t27:Int):List (LTr zb.T)->Int->(LTr zb.T)->(List (LTr zb.T))->Option R
 | [],t28,x,kids=>k0 x t26 t27 t28 (decide (t28<t27)) kids
 | x_::xs,t28,x,kids =>
  oB (zT.sh F kids (xx,x_)) fun c_1 =>
   bif !c_1.1.1 then bif Nat.ble (kids.length+([x_]:List (LTr zb.T)).length) xu then zf.l5.rg F k0 t26 t27 xs (t28+1) x (kids++([x_]:List (LTr zb.T)))
    else none
   else zf.l5.rg F k0 t26 t27 xs (t28+1) x kids
theorem zf.l5.rg_eq {R:Type} (F:Nat) (k0:zf.l5.K0 R) (t26:List (LTr zb.T)) (t27:Int) (hN:t27=(t26.length:Int)) (hL:t26.length<9223372036854775807):∀(xs:List (LTr zb.T)) (i fu:Nat) (x:LTr zb.T) (kids:List (LTr zb.T)),t26.drop i=xs->xs.length<fu->
  zf.l5 F k0 fu x t26 t27 (i:Int) kids=zf.l5.rg F k0 t26 t27 xs (i:Int) x kids:=by
 intro xs;induction xs with
 | nil =>
  intro i fu x kids hZ hfZ;obtain ⟨fu,rfl⟩:∃k,fu=k+1:=⟨fu-1,by simp at hfZ; omega⟩;have e1:=vN hN (wV hZ);simp only[zf.l5,zf.l5.body,zf.l5.rg,e1,cond_false]
 | cons x_ xs ih =>
  intro i fu x kids hZ hfZ;obtain ⟨fu,rfl⟩:∃k,fu=k+1:=⟨fu-1,by simp at hfZ; omega⟩;have e0:=wq hZ;have e1:=vM hN e0;have e2:=xm e0;have e3:=wC (t:=(.tr zb)) hZ;have e4:=wv e0 hL;have e5:∀(x:LTr zb.T) (kids:List (LTr zb.T)),zf.l5 F k0 fu x t26 t27 ((i:Int)+1) kids=zf.l5.rg F k0 t26 t27 xs ((i:Int)+1) x kids:=fun x kids=>by
   have:=ih (i+1) fu x kids (xL hZ) (by simp at hfZ; omega);rwa [xI] at this
  simp only[zf.l5,zf.l5.body,zf.l5.rg,e1,e2,e3,e4,e5,cond_true]
def za.l3.rg {R:Type} (me:za.M) (F:Nat) (k0:za.l3.K0 R) (t20:List (LTr zb.T)) (t21:Int):List (LTr zb.T)->Int->(LTr zb.T)->zd.T->(List (LTr zb.T))->Option R
 | [],t22,x,f,kids=>k0 x t20 t21 t22 (decide (t22<t21)) f kids
 | x_::xs,t22,x,f,kids =>
  oB (me f x_) fun c_1 =>
   bif idx t22 kids.length then za.l3.rg me F k0 t20 t21 xs (t22+1) x f (kids.set t22.toNat c_1.1.1)
   else none
theorem za.l3.rg_eq {R:Type} (me:za.M) (F:Nat) (k0:za.l3.K0 R) (t20:List (LTr zb.T)) (t21:Int) (hN:t21=(t20.length:Int)) (hL:t20.length<9223372036854775807):∀(xs:List (LTr zb.T)) (i fu:Nat) (x:LTr zb.T) (f:zd.T) (kids:List (LTr zb.T)),t20.drop i=xs->xs.length<fu->
  za.l3 me F k0 fu x t20 t21 (i:Int) f kids=za.l3.rg me F k0 t20 t21 xs (i:Int) x f kids:=by
 intro xs;induction xs with
 | nil =>
  intro i fu x f kids hZ hfZ;obtain ⟨fu,rfl⟩:∃k,fu=k+1:=⟨fu-1,by simp at hfZ; omega⟩;have e1:=vN hN (wV hZ);simp only[za.l3,za.l3.body,za.l3.rg,e1,cond_false]
 | cons x_ xs ih =>
  intro i fu x f kids hZ hfZ;obtain ⟨fu,rfl⟩:∃k,fu=k+1:=⟨fu-1,by simp at hfZ; omega⟩;have e0:=wq hZ;have e1:=vM hN e0;have e2:=xm e0;have e3:=wC (t:=(.tr zb)) hZ;have e4:=wv e0 hL;have e5:∀(x:LTr zb.T) (f:zd.T) (kids:List (LTr zb.T)),za.l3 me F k0 fu x t20 t21 ((i:Int)+1) f kids=za.l3.rg me F k0 t20 t21 xs ((i:Int)+1) x f kids:=fun x f kids=>by
   have:=ih (i+1) fu x f kids (xL hZ) (by simp at hfZ; omega);rwa [xI] at this
  simp only[za.l3,za.l3.body,za.l3.rg,e1,e2,e3,e4,e5,cond_true]
def za.l9.rg {R:Type} (me:za.M) (F:Nat) (k0:(LTr zb.T)->Option R) (k1:za.l9.K1 R) (t55:List (Nat×zd.T)) (t56:Int):List (Nat×zd.T)->Int->(LTr zb.T)->zd.T->Option R
 | [],t57,x,f=>k1 x t55 t56 t57 (decide (t57<t56)) f
 | x_::xs,t57,x,f =>
  oB (za.d63 me F x_.1 (x_.2,x,())) fun c_3 =>
   bif LTr.isNd c_3.1.1 then oB (me f c_3.1.1) fun c_4 =>
    k0 c_4.1.1
   else za.l9.rg me F k0 k1 t55 t56 xs (t57+1) x f
theorem za.l9.rg_eq {R:Type} (me:za.M) (F:Nat) (k0:(LTr zb.T)->Option R) (k1:za.l9.K1 R) (t55:List (Nat×zd.T)) (t56:Int) (hN:t56=(t55.length:Int)) (hL:t55.length<9223372036854775807):∀(xs:List (Nat×zd.T)) (i fu:Nat) (x:LTr zb.T) (f:zd.T),t55.drop i=xs->xs.length<fu->
  za.l9 me F k0 k1 fu x t55 t56 (i:Int) f=za.l9.rg me F k0 k1 t55 t56 xs (i:Int) x f:=by
 intro xs;induction xs with
 | nil =>
  intro i fu x f hZ hfZ;obtain ⟨fu,rfl⟩:∃k,fu=k+1:=⟨fu-1,by simp at hfZ; omega⟩;have e1:=vN hN (wV hZ);simp only[za.l9,za.l9.body,za.l9.rg,e1,cond_false]
 | cons x_ xs ih =>
  intro i fu x f hZ hfZ;obtain ⟨fu,rfl⟩:∃k,fu=k+1:=⟨fu-1,by simp at hfZ; omega⟩;have e0:=wq hZ;have e1:=vM hN e0;have e2:=xm e0;have e3:=wC (t:=(.bnd zd)) hZ;have e4:=wv e0 hL;have e5:∀(x:LTr zb.T) (f:zd.T),za.l9 me F k0 k1 fu x t55 t56 ((i:Int)+1) f=za.l9.rg me F k0 k1 t55 t56 xs ((i:Int)+1) x f:=fun x f=>by
   have:=ih (i+1) fu x f (xL hZ) (by simp at hfZ; omega);rwa [xI] at this
  simp only[za.l9,za.l9.body,za.l9.rg,e1,e2,e3,e4,e5,cond_true]
def zn.l2.rg {R:Type} (me:zn.M) (F:Nat) (k0:zn.l2.K0 R) (t11:List (LTr zb.T)) (t12:Int):List (LTr zb.T)->Int->(LTr zb.T)->(List zb.T)->Option R
 | [],t13,x,l=>k0 x t11 t12 t13 (decide (t13<t12)) l
 | x_::xs,t13,x,l =>
  oB (me x_ l) fun c_1 =>
   zn.l2.rg me F k0 t11 t12 xs (t13+1) x c_1.1.1
theorem zn.l2.rg_eq {R:Type} (me:zn.M) (F:Nat) (k0:zn.l2.K0 R) (t11:List (LTr zb.T)) (t12:Int) (hN:t12=(t11.length:Int)) (hL:t11.length<9223372036854775807):∀(xs:List (LTr zb.T)) (i fu:Nat) (x:LTr zb.T) (l:List zb.T),t11.drop i=xs->xs.length<fu->
  zn.l2 me F k0 fu x t11 t12 (i:Int) l=zn.l2.rg me F k0 t11 t12 xs (i:Int) x l:=by
 intro xs;induction xs with
 | nil =>
  intro i fu x l hZ hfZ;obtain ⟨fu,rfl⟩:∃k,fu=k+1:=⟨fu-1,by simp at hfZ; omega⟩;have e1:=vN hN (wV hZ);simp only[zn.l2,zn.l2.body,zn.l2.rg,e1,cond_false]
 | cons x_ xs ih =>
  intro i fu x l hZ hfZ;obtain ⟨fu,rfl⟩:∃k,fu=k+1:=⟨fu-1,by simp at hfZ; omega⟩;have e0:=wq hZ;have e1:=vM hN e0;have e2:=xm e0;have e3:=wC (t:=(.tr zb)) hZ;have e4:=wv e0 hL;have e5:∀(x:LTr zb.T) (l:List zb.T),zn.l2 me F k0 fu x t11 t12 ((i:Int)+1) l=zn.l2.rg me F k0 t11 t12 xs ((i:Int)+1) x l:=fun x l=>by
   have:=ih (i+1) fu x l (xL hZ) (by simp at hfZ; omega);rwa [xI] at this
  simp only[zn.l2,zn.l2.body,zn.l2.rg,e1,e2,e3,e4,e5,cond_true]
def zq.l7.rg {R:Type} (F:Nat) (k0:zq.l7.K0 R) (k1:zq.l7.K1 R) (t32:List Int) (t33:Int):List Int->Int->(List Int)->zL.T->zd.T->Option R
 | [],t34,q,p,unit=>k1 q t32 t33 t34 (decide (t34<t33)) p unit
 | x_::xs,t34,q,p,unit =>
  bif decide (x_<0) then k0 ([]) 101
   else bif decide (x_>1099511627776) then k0 ([]) 101
   else zq.l7.rg F k0 k1 t32 t33 xs (t34+1) q p unit
theorem zq.l7.rg_eq {R:Type} (F:Nat) (k0:zq.l7.K0 R) (k1:zq.l7.K1 R) (t32:List Int) (t33:Int) (hN:t33=(t32.length:Int)) (hL:t32.length<9223372036854775807):∀(xs:List Int) (i fu:Nat) (q:List Int) (p:zL.T) (unit:zd.T),t32.drop i=xs->xs.length<fu->
  zq.l7 F k0 k1 fu q t32 t33 (i:Int) p unit=zq.l7.rg F k0 k1 t32 t33 xs (i:Int) q p unit:=by
 intro xs;induction xs with
 | nil =>
  intro i fu q p unit hZ hfZ;obtain ⟨fu,rfl⟩:∃k,fu=k+1:=⟨fu-1,by simp at hfZ; omega⟩;have e1:=vN hN (wV hZ);simp only[zq.l7,zq.l7.body,zq.l7.rg,e1,cond_false]
 | cons x_ xs ih =>
  intro i fu q p unit hZ hfZ;obtain ⟨fu,rfl⟩:∃k,fu=k+1:=⟨fu-1,by simp at hfZ; omega⟩;have e0:=wq hZ;have e1:=vM hN e0;have e2:=xm e0;have e3:=wC (t:=(.int .i64)) hZ;have e4:=wv e0 hL;have e5:∀(q:List Int) (p:zL.T) (unit:zd.T),zq.l7 F k0 k1 fu q t32 t33 ((i:Int)+1) p unit=zq.l7.rg F k0 k1 t32 t33 xs ((i:Int)+1) q p unit:=fun q p unit=>by
   have:=ih (i+1) fu q p unit (xL hZ) (by simp at hfZ; omega);rwa [xI] at this
  simp only[zq.l7,zq.l7.body,zq.l7.rg,e1,e2,e3,e4,e5,cond_true]
def zq.l14.rg {R:Type} (F:Nat) (k0:zq.l14.K0 R) (t46:List zb.T) (t47:Int):List zb.T->Int->(List Int)->zL.T->zd.T->(List zd.T)->(List zd.T)->Option R
 | [],t48,q,p,unit,values,pile=>k0 q t46 t47 t48 (decide (t48<t47)) p unit values pile
 | x_::xs,t48,q,p,unit,values,pile =>
  oB (ym.sh F x_) fun c_4 =>
   bif decide ((i64.wrap ((pile.length:Int)-c_4.1.1))<(pile.length:Int)) then bif (zA pile.length (some (i64.wrap ((pile.length:Int)-c_4.1.1))) none).1 then oB (yM.sh F x_ unit ((List.take (zA pile.length (some (i64.wrap ((pile.length:Int)-c_4.1.1))) none).2.2 pile).drop (zA pile.length (some (i64.wrap ((pile.length:Int)-c_4.1.1))) none).2.1)) fun c_5 =>
     bif Nat.ble (values.length+([c_5.1.1]:List zd.T).length) xu then bif (zA pile.length none (some (i64.wrap ((pile.length:Int)-c_4.1.1)))).1 then bif Nat.ble ((zA pile.length none (some (i64.wrap ((pile.length:Int)-c_4.1.1)))).2.2+([c_5.1.1]:List zd.T).length) xu then zq.l14.rg F k0 t46 t47 xs (t48+1) q p unit (values++([c_5.1.1]:List zd.T)) (pile.take (zA pile.length none (some (i64.wrap ((pile.length:Int)-c_4.1.1)))).2.2++([c_5.1.1]:List zd.T))
       else none
      else none
     else none
    else none
   else oB (xB.sh F p x_ unit q) fun c_6 =>
   bif Nat.ble (values.length+([c_6.1.1]:List zd.T).length) xu then bif (zA pile.length none (some (i64.wrap ((pile.length:Int)-c_4.1.1)))).1 then bif Nat.ble ((zA pile.length none (some (i64.wrap ((pile.length:Int)-c_4.1.1)))).2.2+([c_6.1.1]:List zd.T).length) xu then zq.l14.rg F k0 t46 t47 xs (t48+1) q p unit (values++([c_6.1.1]:List zd.T)) (pile.take (zA pile.length none (some (i64.wrap ((pile.length:Int)-c_4.1.1)))).2.2++([c_6.1.1]:List zd.T))
     else none
    else none
   else none
theorem zq.l14.rg_eq {R:Type} (F:Nat) (k0:zq.l14.K0 R) (t46:List zb.T) (t47:Int) (hN:t47=(t46.length:Int)) (hL:t46.length<9223372036854775807):∀(xs:List zb.T) (i fu:Nat) (q:List Int) (p:zL.T) (unit:zd.T) (values:List zd.T) (pile:List zd.T),t46.drop i=xs->xs.length<fu->
  zq.l14 F k0 fu q t46 t47 (i:Int) p unit values pile=zq.l14.rg F k0 t46 t47 xs (i:Int) q p unit values pile:=by
 intro xs;induction xs with
 | nil =>
  intro i fu q p unit values pile hZ hfZ;obtain ⟨fu,rfl⟩:∃k,fu=k+1:=⟨fu-1,by simp at hfZ; omega⟩;have e1:=vN hN (wV hZ);simp only[zq.l14,zq.l14.body,zq.l14.rg,e1,cond_false]
 | cons x_ xs ih =>
  intro i fu q p unit values pile hZ hfZ;obtain ⟨fu,rfl⟩:∃k,fu=k+1:=⟨fu-1,by simp at hfZ; omega⟩;have e0:=wq hZ;have e1:=vM hN e0;have e2:=xm e0;have e3:=wC (t:=zb) hZ;have e4:=wv e0 hL;have e5:∀(q:List Int) (p:zL.T) (unit:zd.T) (values:List zd.T) (pile:List zd.T),zq.l14 F k0 fu q t46 t47 ((i:Int)+1) p unit values pile=zq.l14.rg F k0 t46 t47 xs ((i:Int)+1) q p unit values pile:=fun q p unit values pile=>by
   have:=ih (i+1) fu q p unit values pile (xL hZ) (by simp at hfZ; omega);rwa [xI] at this
  simp only[zq.l14,zq.l14.body,zq.l14.rg,e1,e2,e3,e4,e5,cond_true]
end Go.VS
