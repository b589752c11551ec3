import Derived.Test.YtklphgkipdkaeaaDoorQP1
set_option linter.unusedVariables false
set_option linter.unusedSimpArgs false
set_option linter.unusedSectionVars false
set_option linter.unusedVariables false
set_option maxRecDepth 100000
namespace Go.VS
open Go IntKind
def zb.l2.rg {R:Type} (F:Nat) (k0:Int->Option R) (k1:zb.l2.K1 R) (s:List yK.T) (t7:Int):List yK.T->Int->(Nat×yK.T)->Option R
 | [],t8,f=>k1 s (f.1,f.2) t7 t8 (decide (t8<t7))
 | x_::xs,t8,f =>
  oB (zb.d16 F (f.1+1) (x_,f.2,())) fun c_1 =>
   bif c_1.1.1 then k0 t8
   else zb.l2.rg F k0 k1 s t7 xs (t8+1) (f.1,f.2)
theorem zb.l2.rg_eq {R:Type} (F:Nat) (k0:Int->Option R) (k1:zb.l2.K1 R) (s:List yK.T) (t7:Int) (hN:t7=(s.length:Int)) (hL:s.length<9223372036854775807):∀(xs:List yK.T) (i fu:Nat) (f:Nat×yK.T),s.drop i=xs->xs.length<fu->
  zb.l2 F k0 k1 fu s f t7 (i:Int)=zb.l2.rg F k0 k1 s t7 xs (i:Int) f:=by
 intro xs;induction xs with
 | nil =>
  intro i fu f hZ hfZ;obtain ⟨fu,rfl⟩:∃k,fu=k+1:=⟨fu-1,by simp at hfZ; omega⟩;have e1:=vV hN (wV hZ);simp only[zb.l2,zb.l2.body,zb.l2.rg,e1,cond_false]
 | cons x_ xs ih =>
  intro i fu f hZ hfZ;obtain ⟨fu,rfl⟩:∃k,fu=k+1:=⟨fu-1,by simp at hfZ; omega⟩;have e0:=x5 hZ;have e1:=vU hN e0;have e2:=xj e0;have e3:=ww (t:=yK) hZ;have e4:=wu e0 hL;have e5:∀(f:Nat×yK.T),zb.l2 F k0 k1 fu s f t7 ((i:Int)+1)=zb.l2.rg F k0 k1 s t7 xs ((i:Int)+1) f:=fun f=>by
   have:=ih (i+1) fu f (xz hZ) (by simp at hfZ; omega);rwa [xv] at this
  simp only[zb.l2,zb.l2.body,zb.l2.rg,e1,e2,e3,e4,e5,cond_true]
def zL.l6.rg {R:Type} (F:Nat) (k0:Int->Option R) (k1:Int->Option R) (k2:zL.l6.K2 R) (t21:List yK.T) (t22:Int):List yK.T->Int->ya.T->Option R
 | [],t23,p=>k2 t21 t22 t23 (decide (t23<t22)) p
 | x_::xs,t23,p =>
  oB (xi.sh F x_.1) fun c_2 =>
   bif !c_2.1.1 then k0 61
   else bif (zr p.2.1.length none (some t23)).1 then oB (zI.sh F ((p.2.1.take (zr p.2.1.length none (some t23)).2.2).drop (zr p.2.1.length none (some t23)).2.1) (xV,x_)) fun c_3 =>
    bif c_3.1.1 then k0 61
    else bif decide (x_.2<1) then k1 50
    else bif decide (x_.2>1000000000000) then k1 50
    else zL.l6.rg F k0 k1 k2 t21 t22 xs (t23+1) p
   else none
theorem zL.l6.rg_eq {R:Type} (F:Nat) (k0:Int->Option R) (k1:Int->Option R) (k2:zL.l6.K2 R) (t21:List yK.T) (t22:Int) (hN:t22=(t21.length:Int)) (hL:t21.length<9223372036854775807):∀(xs:List yK.T) (i fu:Nat) (p:ya.T),t21.drop i=xs->xs.length<fu->
  zL.l6 F k0 k1 k2 fu t21 t22 (i:Int) p=zL.l6.rg F k0 k1 k2 t21 t22 xs (i:Int) p:=by
 intro xs;induction xs with
 | nil =>
  intro i fu p hZ hfZ;obtain ⟨fu,rfl⟩:∃k,fu=k+1:=⟨fu-1,by simp at hfZ; omega⟩;have e1:=vV hN (wV hZ);simp only[zL.l6,zL.l6.body,zL.l6.rg,e1,cond_false]
 | cons x_ xs ih =>
  intro i fu p hZ hfZ;obtain ⟨fu,rfl⟩:∃k,fu=k+1:=⟨fu-1,by simp at hfZ; omega⟩;have e0:=x5 hZ;have e1:=vU hN e0;have e2:=xj e0;have e3:=ww (t:=yK) hZ;have e4:=wu e0 hL;have e5:∀(p:ya.T),zL.l6 F k0 k1 k2 fu t21 t22 ((i:Int)+1) p=zL.l6.rg F k0 k1 k2 t21 t22 xs ((i:Int)+1) p:=fun p=>by
   have:=ih (i+1) fu p (xz hZ) (by simp at hfZ; omega);rwa [xv] at this
  simp only[zL.l6,zL.l6.body,zL.l6.rg,e1,e2,e3,e4,e5,cond_true]
def zy.l4.rg {R:Type} (F:Nat) (k0:Bool->Option R) (k1:zy.l4.K1 R) (t20:List zO.T) (t21:Int):List zO.T->Int->(List zO.T)->Option R
 | [],t22,tiers=>k1 tiers t20 t21 t22 (decide (t22<t21))
 | x_::xs,t22,tiers =>
  bif decide (t22>0) then bif idx (i64.wrap (t22-1)) tiers.length then bif decide (x_.1<=(get zO tiers ((i64.wrap (t22-1)).toNat)).1) then k0 false
     else bif decide (x_.1>1000000000000) then k0 false
     else bif decide (x_.2<(-1000000000000)) then k0 false
     else bif decide (x_.2>1000000000000) then k0 false
     else zy.l4.rg F k0 k1 t20 t21 xs (t22+1) tiers
    else none
   else bif decide (x_.1>1000000000000) then k0 false
   else bif decide (x_.2<(-1000000000000)) then k0 false
   else bif decide (x_.2>1000000000000) then k0 false
   else zy.l4.rg F k0 k1 t20 t21 xs (t22+1) tiers
theorem zy.l4.rg_eq {R:Type} (F:Nat) (k0:Bool->Option R) (k1:zy.l4.K1 R) (t20:List zO.T) (t21:Int) (hN:t21=(t20.length:Int)) (hL:t20.length<9223372036854775807):∀(xs:List zO.T) (i fu:Nat) (tiers:List zO.T),t20.drop i=xs->xs.length<fu->
  zy.l4 F k0 k1 fu tiers t20 t21 (i:Int)=zy.l4.rg F k0 k1 t20 t21 xs (i:Int) tiers:=by
 intro xs;induction xs with
 | nil =>
  intro i fu tiers hZ hfZ;obtain ⟨fu,rfl⟩:∃k,fu=k+1:=⟨fu-1,by simp at hfZ; omega⟩;have e1:=vV hN (wV hZ);simp only[zy.l4,zy.l4.body,zy.l4.rg,e1,cond_false]
 | cons x_ xs ih =>
  intro i fu tiers hZ hfZ;obtain ⟨fu,rfl⟩:∃k,fu=k+1:=⟨fu-1,by simp at hfZ; omega⟩;have e0:=x5 hZ;have e1:=vU hN e0;have e2:=xj e0;have e3:=ww (t:=zO) hZ;have e4:=wu e0 hL;have e5:∀(tiers:List zO.T),zy.l4 F k0 k1 fu tiers t20 t21 ((i:Int)+1)=zy.l4.rg F k0 k1 t20 t21 xs ((i:Int)+1) tiers:=fun tiers=>by
   have:=ih (i+1) fu tiers (xz hZ) (by simp at hfZ; omega);rwa [xv] at this
  simp only[zy.l4,zy.l4.body,zy.l4.rg,e1,e2,e3,e4,e5,cond_true]
def zA.l8.rg {R:Type} (F:Nat) (k0:Int->Int->Option R) (k1:zA.l8.K1 R) (t19:List zm.T) (t20:Int):List zm.T->Int->Int->ya.T->Option R
 | [],t21,pile,p=>k1 pile t19 t20 t21 (decide (t21<t20)) p
 | x_::xs,t21,pile,p =>
  oB (zH.sh F x_ (p.2.1.length:Int) pile) fun c_2 =>
   bif (c_2.1.1 != 0) then k0 t21 c_2.1.1
   else oB (yk.sh F x_) fun c_3 =>
   zA.l8.rg F k0 k1 t19 t20 xs (t21+1) (i64.wrap (pile+(i64.wrap (1-c_3.1.1)))) p
theorem zA.l8.rg_eq {R:Type} (F:Nat) (k0:Int->Int->Option R) (k1:zA.l8.K1 R) (t19:List zm.T) (t20:Int) (hN:t20=(t19.length:Int)) (hL:t19.length<9223372036854775807):∀(xs:List zm.T) (i fu:Nat) (pile:Int) (p:ya.T),t19.drop i=xs->xs.length<fu->
  zA.l8 F k0 k1 fu pile t19 t20 (i:Int) p=zA.l8.rg F k0 k1 t19 t20 xs (i:Int) pile p:=by
 intro xs;induction xs with
 | nil =>
  intro i fu pile p hZ hfZ;obtain ⟨fu,rfl⟩:∃k,fu=k+1:=⟨fu-1,by simp at hfZ; omega⟩;have e1:=vV hN (wV hZ);simp only[zA.l8,zA.l8.body,zA.l8.rg,e1,cond_false]
 | cons x_ xs ih =>
  intro i fu pile p hZ hfZ;obtain ⟨fu,rfl⟩:∃k,fu=k+1:=⟨fu-1,by simp at hfZ; omega⟩;have e0:=x5 hZ;have e1:=vU hN e0;have e2:=xj e0;have e3:=ww (t:=zm) hZ;have e4:=wu e0 hL;have e5:∀(pile:Int) (p:ya.T),zA.l8 F k0 k1 fu pile t19 t20 ((i:Int)+1) p=zA.l8.rg F k0 k1 t19 t20 xs ((i:Int)+1) pile p:=fun pile p=>by
   have:=ih (i+1) fu pile p (xz hZ) (by simp at hfZ; omega);rwa [xv] at this
  simp only[zA.l8,zA.l8.body,zA.l8.rg,e1,e2,e3,e4,e5,cond_true]
def zq.l3.rg {R:Type} (F:Nat) (k0:zq.l3.K0 R) (t10:List zm.T) (t11:Int):List zm.T->Int->(List Int)->(List Int)->Option R
 | [],t12,list,pile=>k0 t10 t11 t12 (decide (t12<t11)) list pile
 | x_::xs,t12,list,pile =>
  oB (yk.sh F x_) fun c_1 =>
   bif decide (c_1.1.1>0) then bif idx (i64.wrap ((pile.length:Int)-c_1.1.1)) pile.length then bif (zr pile.length none (some (i64.wrap ((pile.length:Int)-c_1.1.1)))).1 then bif Nat.ble ((pile.take (zr pile.length none (some (i64.wrap ((pile.length:Int)-c_1.1.1)))).2.2).length+([get (.int .i64) pile ((i64.wrap ((pile.length:Int)-c_1.1.1)).toNat)]:List Int).length) y4 then bif Nat.ble (list.length+([get (.int .i64) pile ((i64.wrap ((pile.length:Int)-c_1.1.1)).toNat)]:List Int).length) y4 then zq.l3.rg F k0 t10 t11 xs (t12+1) (list++([get (.int .i64) pile ((i64.wrap ((pile.length:Int)-c_1.1.1)).toNat)]:List Int)) ((pile.take (zr pile.length none (some (i64.wrap ((pile.length:Int)-c_1.1.1)))).2.2)++([get (.int .i64) pile ((i64.wrap ((pile.length:Int)-c_1.1.1)).toNat)]:List Int))
       else none
      else none
     else none
    else none
   else bif Nat.ble (pile.length+([t12]:List Int).length) y4 then bif Nat.ble (list.length+([t12]:List Int).length) y4 then zq.l3.rg F k0 t10 t11 xs (t12+1) (list++([t12]:List Int)) (pile++([t12]:List Int))
    else none
   else none
theorem zq.l3.rg_eq {R:Type} (F:Nat) (k0:zq.l3.K0 R) (t10:List zm.T) (t11:Int) (hN:t11=(t10.length:Int)) (hL:t10.length<9223372036854775807):∀(xs:List zm.T) (i fu:Nat) (list:List Int) (pile:List Int),t10.drop i=xs->xs.length<fu->
  zq.l3 F k0 fu t10 t11 (i:Int) list pile=zq.l3.rg F k0 t10 t11 xs (i:Int) list pile:=by
 intro xs;induction xs with
 | nil =>
  intro i fu list pile hZ hfZ;obtain ⟨fu,rfl⟩:∃k,fu=k+1:=⟨fu-1,by simp at hfZ; omega⟩;have e1:=vV hN (wV hZ);simp only[zq.l3,zq.l3.body,zq.l3.rg,e1,cond_false]
 | cons x_ xs ih =>
  intro i fu list pile hZ hfZ;obtain ⟨fu,rfl⟩:∃k,fu=k+1:=⟨fu-1,by simp at hfZ; omega⟩;have e0:=x5 hZ;have e1:=vU hN e0;have e2:=xj e0;have e3:=ww (t:=zm) hZ;have e4:=wu e0 hL;have e5:∀(list:List Int) (pile:List Int),zq.l3 F k0 fu t10 t11 ((i:Int)+1) list pile=zq.l3.rg F k0 t10 t11 xs ((i:Int)+1) list pile:=fun list pile=>by
   have:=ih (i+1) fu list pile (xz hZ) (by simp at hfZ; omega);rwa [xv] at this
  simp only[zq.l3,zq.l3.body,zq.l3.rg,e1,e2,e3,e4,e5,cond_true]
def zk.l7.rg {R:Type} (F:Nat) (k0:zk.l7.K0 R) (t22:List zm.T) (t23:Int):List zm.T->Int->(List Int)->Int->(List Bool)->Option R
 | [],t24,list,last,out=>k0 list last t22 t23 t24 (decide (t24<t23)) out
 | x_::xs,t24,list,last,out =>
  bif (x_.1==3) then bif idx t24 list.length then bif idx t24 out.length then zk.l7.rg F k0 t22 t23 xs (t24+1) list t24 (out.set t24.toNat (decide (t24<(get (.int .i64) list t24.toNat))))
     else none
    else none
   else bif (x_.1==4) then bif idx t24 list.length then bif idx t24 out.length then zk.l7.rg F k0 t22 t23 xs (t24+1) list t24 (out.set t24.toNat (decide (t24<(get (.int .i64) list t24.toNat))))
     else none
    else none
   else bif idx t24 list.length then bif idx t24 out.length then zk.l7.rg F k0 t22 t23 xs (t24+1) list last (out.set t24.toNat (decide (last<(get (.int .i64) list t24.toNat))))
    else none
   else none
theorem zk.l7.rg_eq {R:Type} (F:Nat) (k0:zk.l7.K0 R) (t22:List zm.T) (t23:Int) (hN:t23=(t22.length:Int)) (hL:t22.length<9223372036854775807):∀(xs:List zm.T) (i fu:Nat) (list:List Int) (last:Int) (out:List Bool),t22.drop i=xs->xs.length<fu->
  zk.l7 F k0 fu list last t22 t23 (i:Int) out=zk.l7.rg F k0 t22 t23 xs (i:Int) list last out:=by
 intro xs;induction xs with
 | nil =>
  intro i fu list last out hZ hfZ;obtain ⟨fu,rfl⟩:∃k,fu=k+1:=⟨fu-1,by simp at hfZ; omega⟩;have e1:=vV hN (wV hZ);simp only[zk.l7,zk.l7.body,zk.l7.rg,e1,cond_false]
 | cons x_ xs ih =>
  intro i fu list last out hZ hfZ;obtain ⟨fu,rfl⟩:∃k,fu=k+1:=⟨fu-1,by simp at hfZ; omega⟩;have e0:=x5 hZ;have e1:=vU hN e0;have e2:=xj e0;have e3:=ww (t:=zm) hZ;have e4:=wu e0 hL;have e5:∀(list:List Int) (last:Int) (out:List Bool),zk.l7 F k0 fu list last t22 t23 ((i:Int)+1) out=zk.l7.rg F k0 t22 t23 xs ((i:Int)+1) list last out:=fun list last out=>by
   have:=ih (i+1) fu list last out (xz hZ) (by simp at hfZ; omega);rwa [xv] at this
  simp only[zk.l7,zk.l7.body,zk.l7.rg,e1,e2,e3,e4,e5,cond_true]
def zp.l2.rg {R:Type} (F:Nat) (k0:Int->Option R) (k1:zp.l2.K1 R) (t10:List Int) (t11:Int):List Int->Int->Int->zZ.T->Option R
 | [],t12,from_,n=>k1 from_ t10 t11 t12 (decide (t12<t11)) n
 | x_::xs,t12,from_,n =>
  bif idx from_ n.2.1.length then bif (x_ != (get (.int .i64) n.2.1 from_.toNat)) then k0 (-1)
    else zp.l2.rg F k0 k1 t10 t11 xs (t12+1) from_ n
   else none
theorem zp.l2.rg_eq {R:Type} (F:Nat) (k0:Int->Option R) (k1:zp.l2.K1 R) (t10:List Int) (t11:Int) (hN:t11=(t10.length:Int)) (hL:t10.length<9223372036854775807):∀(xs:List Int) (i fu:Nat) (from_:Int) (n:zZ.T),t10.drop i=xs->xs.length<fu->
  zp.l2 F k0 k1 fu from_ t10 t11 (i:Int) n=zp.l2.rg F k0 k1 t10 t11 xs (i:Int) from_ n:=by
 intro xs;induction xs with
 | nil =>
  intro i fu from_ n hZ hfZ;obtain ⟨fu,rfl⟩:∃k,fu=k+1:=⟨fu-1,by simp at hfZ; omega⟩;have e1:=vV hN (wV hZ);simp only[zp.l2,zp.l2.body,zp.l2.rg,e1,cond_false]
 | cons x_ xs ih =>
  intro i fu from_ n hZ hfZ;obtain ⟨fu,rfl⟩:∃k,fu=k+1:=⟨fu-1,by simp at hfZ; omega⟩;have e0:=x5 hZ;have e1:=vU hN e0;have e2:=xj e0;have e3:=ww (t:=(.int .i64)) hZ;have e4:=wu e0 hL;have e5:∀(from_:Int) (n:zZ.T),zp.l2 F k0 k1 fu from_ t10 t11 ((i:Int)+1) n=zp.l2.rg F k0 k1 t10 t11 xs ((i:Int)+1) from_ n:=fun from_ n=>by
   have:=ih (i+1) fu from_ n (xz hZ) (by simp at hfZ; omega);rwa [xv] at this
  simp only[zp.l2,zp.l2.body,zp.l2.rg,e1,e2,e3,e4,e5,cond_true]
def zh.l8.rg {R:Type} (F:Nat) (k0:zh.l8.K0 R) (k1:zh.l8.K1 R) (k2:zh.l8.K2 R) (t33:List zm.T) (t34:Int):List zm.T->Int->(List Bool)->(List Int)->(List Int)->(List Bool)->Option R
 | [],t35,fixed,types,pile,fix=>k2 fixed t33 t34 t35 (decide (t35<t34)) types pile fix
 | x_::xs,t35,fixed,types,pile,fix =>
  oB (yU.sh F x_.1) fun c_3 =>
   bif decide (c_3.1.2.1<0) then bif (zr pile.length (some (i64.wrap ((pile.length:Int)-x_.2.2.2.1))) none).1 then bif (zr fix.length (some (i64.wrap ((pile.length:Int)-x_.2.2.2.1))) none).1 then oB (zh.d63 F c_3.1.1 ((x_,(pile.take (zr pile.length (some (i64.wrap ((pile.length:Int)-x_.2.2.2.1))) none).2.2).drop (zr pile.length (some (i64.wrap ((pile.length:Int)-x_.2.2.2.1))) none).2.1,(fix.take (zr fix.length (some (i64.wrap ((pile.length:Int)-x_.2.2.2.1))) none).2.2).drop (zr fix.length (some (i64.wrap ((pile.length:Int)-x_.2.2.2.1))) none).2.1),())) fun c_4 =>
      bif (c_4.1.1==(-1)) then k0 ([]) t35 80
      else bif (x_.1==8) then bif idx (i64.wrap ((pile.length:Int)-x_.2.2.2.1)) fix.length then bif !(get .bool fix ((i64.wrap ((pile.length:Int)-x_.2.2.2.1)).toNat)) then bif idx (i64.wrap ((i64.wrap ((pile.length:Int)-x_.2.2.2.1))+1)) fix.length then bif !(get .bool fix ((i64.wrap ((i64.wrap ((pile.length:Int)-x_.2.2.2.1))+1)).toNat)) then k1 ([]) t35 81
          else bif Nat.ble (types.length+([c_4.1.1]:List Int).length) y4 then bif (zr pile.length none (some (i64.wrap ((pile.length:Int)-x_.2.2.2.1)))).1 then bif Nat.ble ((zr pile.length none (some (i64.wrap ((pile.length:Int)-x_.2.2.2.1)))).2.2+([c_4.1.1]:List Int).length) y4 then bif (zr fix.length none (some (i64.wrap ((pile.length:Int)-x_.2.2.2.1)))).1 then bif idx t35 fixed.length then bif Nat.ble ((zr fix.length none (some (i64.wrap ((pile.length:Int)-x_.2.2.2.1)))).2.2+([get .bool fixed t35.toNat]:List Bool).length) y4 then zh.l8.rg F k0 k1 k2 t33 t34 xs (t35+1) fixed (types++([c_4.1.1]:List Int)) (pile.take (zr pile.length none (some (i64.wrap ((pile.length:Int)-x_.2.2.2.1)))).2.2++([c_4.1.1]:List Int)) (fix.take (zr fix.length none (some (i64.wrap ((pile.length:Int)-x_.2.2.2.1)))).2.2++([get .bool fixed t35.toNat]:List Bool))
               else none
              else none
             else none
            else none
           else none
          else none
         else none
        else bif Nat.ble (types.length+([c_4.1.1]:List Int).length) y4 then bif (zr pile.length none (some (i64.wrap ((pile.length:Int)-x_.2.2.2.1)))).1 then bif Nat.ble ((zr pile.length none (some (i64.wrap ((pile.length:Int)-x_.2.2.2.1)))).2.2+([c_4.1.1]:List Int).length) y4 then bif (zr fix.length none (some (i64.wrap ((pile.length:Int)-x_.2.2.2.1)))).1 then bif idx t35 fixed.length then bif Nat.ble ((zr fix.length none (some (i64.wrap ((pile.length:Int)-x_.2.2.2.1)))).2.2+([get .bool fixed t35.toNat]:List Bool).length) y4 then zh.l8.rg F k0 k1 k2 t33 t34 xs (t35+1) fixed (types++([c_4.1.1]:List Int)) (pile.take (zr pile.length none (some (i64.wrap ((pile.length:Int)-x_.2.2.2.1)))).2.2++([c_4.1.1]:List Int)) (fix.take (zr fix.length none (some (i64.wrap ((pile.length:Int)-x_.2.2.2.1)))).2.2++([get .bool fixed t35.toNat]:List Bool))
             else none
            else none
           else none
          else none
         else none
        else none
       else none
      else bif Nat.ble (types.length+([c_4.1.1]:List Int).length) y4 then bif (zr pile.length none (some (i64.wrap ((pile.length:Int)-x_.2.2.2.1)))).1 then bif Nat.ble ((zr pile.length none (some (i64.wrap ((pile.length:Int)-x_.2.2.2.1)))).2.2+([c_4.1.1]:List Int).length) y4 then bif (zr fix.length none (some (i64.wrap ((pile.length:Int)-x_.2.2.2.1)))).1 then bif idx t35 fixed.length then bif Nat.ble ((zr fix.length none (some (i64.wrap ((pile.length:Int)-x_.2.2.2.1)))).2.2+([get .bool fixed t35.toNat]:List Bool).length) y4 then zh.l8.rg F k0 k1 k2 t33 t34 xs (t35+1) fixed (types++([c_4.1.1]:List Int)) (pile.take (zr pile.length none (some (i64.wrap ((pile.length:Int)-x_.2.2.2.1)))).2.2++([c_4.1.1]:List Int)) (fix.take (zr fix.length none (some (i64.wrap ((pile.length:Int)-x_.2.2.2.1)))).2.2++([get .bool fixed t35.toNat]:List Bool))
           else none
          else none
         else none
        else none
       else none
      else none
     else none
    else none
   else bif (zr pile.length (some (i64.wrap ((pile.length:Int)-c_3.1.2.1))) none).1 then bif (zr fix.length (some (i64.wrap ((pile.length:Int)-c_3.1.2.1))) none).1 then oB (zh.d63 F c_3.1.1 ((x_,(pile.take (zr pile.length (some (i64.wrap ((pile.length:Int)-c_3.1.2.1))) none).2.2).drop (zr pile.length (some (i64.wrap ((pile.length:Int)-c_3.1.2.1))) none).2.1,(fix.take (zr fix.length (some (i64.wrap ((pile.length:Int)-c_3.1.2.1))) none).2.2).drop (zr fix.length (some (i64.wrap ((pile.length:Int)-c_3.1.2.1))) none).2.1),())) fun c_5 =>
     bif (c_5.1.1==(-1)) then k0 ([]) t35 80
     else bif (x_.1==8) then bif idx (i64.wrap ((pile.length:Int)-c_3.1.2.1)) fix.length then bif !(get .bool fix ((i64.wrap ((pile.length:Int)-c_3.1.2.1)).toNat)) then bif idx (i64.wrap ((i64.wrap ((pile.length:Int)-c_3.1.2.1))+1)) fix.length then bif !(get .bool fix ((i64.wrap ((i64.wrap ((pile.length:Int)-c_3.1.2.1))+1)).toNat)) then k1 ([]) t35 81
         else bif Nat.ble (types.length+([c_5.1.1]:List Int).length) y4 then bif (zr pile.length none (some (i64.wrap ((pile.length:Int)-c_3.1.2.1)))).1 then bif Nat.ble ((zr pile.length none (some (i64.wrap ((pile.length:Int)-c_3.1.2.1)))).2.2+([c_5.1.1]:List Int).length) y4 then bif (zr fix.length none (some (i64.wrap ((pile.length:Int)-c_3.1.2.1)))).1 then bif idx t35 fixed.length then bif Nat.ble ((zr fix.length none (some (i64.wrap ((pile.length:Int)-c_3.1.2.1)))).2.2+([get .bool fixed t35.toNat]:List Bool).length) y4 then zh.l8.rg F k0 k1 k2 t33 t34 xs (t35+1) fixed (types++([c_5.1.1]:List Int)) (pile.take (zr pile.length none (some (i64.wrap ((pile.length:Int)-c_3.1.2.1)))).2.2++([c_5.1.1]:List Int)) (fix.take (zr fix.length none (some (i64.wrap ((pile.length:Int)-c_3.1.2.1)))).2.2++([get .bool fixed t35.toNat]:List Bool))
              else none
             else none
            else none
           else none
          else none
         else none
        else none
       else bif Nat.ble (types.length+([c_5.1.1]:List Int).length) y4 then bif (zr pile.length none (some (i64.wrap ((pile.length:Int)-c_3.1.2.1)))).1 then bif Nat.ble ((zr pile.length none (some (i64.wrap ((pile.length:Int)-c_3.1.2.1)))).2.2+([c_5.1.1]:List Int).length) y4 then bif (zr fix.length none (some (i64.wrap ((pile.length:Int)-c_3.1.2.1)))).1 then bif idx t35 fixed.length then bif Nat.ble ((zr fix.length none (some (i64.wrap ((pile.length:Int)-c_3.1.2.1)))).2.2+([get .bool fixed t35.toNat]:List Bool).length) y4 then zh.l8.rg F k0 k1 k2 t33 t34 xs (t35+1) fixed (types++([c_5.1.1]:List Int)) (pile.take (zr pile.length none (some (i64.wrap ((pile.length:Int)-c_3.1.2.1)))).2.2++([c_5.1.1]:List Int)) (fix.take (zr fix.length none (some (i64.wrap ((pile.length:Int)-c_3.1.2.1)))).2.2++([get .bool fixed t35.toNat]:List Bool))
            else none
           else none
          else none
         else none
        else none
       else none
      else none
     else bif Nat.ble (types.length+([c_5.1.1]:List Int).length) y4 then bif (zr pile.length none (some (i64.wrap ((pile.length:Int)-c_3.1.2.1)))).1 then bif Nat.ble ((zr pile.length none (some (i64.wrap ((pile.length:Int)-c_3.1.2.1)))).2.2+([c_5.1.1]:List Int).length) y4 then bif (zr fix.length none (some (i64.wrap ((pile.length:Int)-c_3.1.2.1)))).1 then bif idx t35 fixed.length then bif Nat.ble ((zr fix.length none (some (i64.wrap ((pile.length:Int)-c_3.1.2.1)))).2.2+([get .bool fixed t35.toNat]:List Bool).length) y4 then zh.l8.rg F k0 k1 k2 t33 t34 xs (t35+1) fixed (types++([c_5.1.1]:List Int)) (pile.take (zr pile.length none (some (i64.wrap ((pile.length:Int)-c_3.1.2.1)))).2.2++([c_5.1.1]:List Int)) (fix.take (zr fix.length none (some (i64.wrap ((pile.length:Int)-c_3.1.2.1)))).2.2++([get .bool fixed t35.toNat]:List Bool))
          else none
         else none
        else none
       else none
      else none
     else none
    else none
   else none
theorem zh.l8.rg_eq {R:Type} (F:Nat) (k0:zh.l8.K0 R) (k1:zh.l8.K1 R) (k2:zh.l8.K2 R) (t33:List zm.T) (t34:Int) (hN:t34=(t33.length:Int)) (hL:t33.length<9223372036854775807):∀(xs:List zm.T) (i fu:Nat) (fixed:List Bool) (types:List Int) (pile:List Int) (fix:List Bool),t33.drop i=xs->xs.length<fu->
  zh.l8 F k0 k1 k2 fu fixed t33 t34 (i:Int) types pile fix=zh.l8.rg F k0 k1 k2 t33 t34 xs (i:Int) fixed types pile fix:=by
 intro xs;induction xs with
 | nil =>
  intro i fu fixed types pile fix hZ hfZ;obtain ⟨fu,rfl⟩:∃k,fu=k+1:=⟨fu-1,by simp at hfZ; omega⟩;have e1:=vV hN (wV hZ);simp only[zh.l8,zh.l8.body,zh.l8.rg,e1,cond_false]
 | cons x_ xs ih =>
  intro i fu fixed types pile fix hZ hfZ;obtain ⟨fu,rfl⟩:∃k,fu=k+1:=⟨fu-1,by simp at hfZ; omega⟩;have e0:=x5 hZ;have e1:=vU hN e0;have e2:=xj e0;have e3:=ww (t:=zm) hZ;have e4:=wu e0 hL;have e5:∀(fixed:List Bool) (types:List Int) (pile:List Int) (fix:List Bool),zh.l8 F k0 k1 k2 fu fixed t33 t34 ((i:Int)+1) types pile fix=zh.l8.rg F k0 k1 k2 t33 t34 xs ((i:Int)+1) fixed types pile fix:=fun fixed types pile fix=>by
   have:=ih (i+1) fu fixed types pile fix (xz hZ) (by simp at hfZ; omega);rwa [xv] at this
  simp only[zh.l8,zh.l8.body,zh.l8.rg,e1,e2,e3,e4,e5,cond_true]
def zt.l5.rg {R:Type} (F:Nat) (k0:zt.l5.K0 R) (x:List Int):List Int->Int->Int->Option R
 | [],i,m=>k0 x m i (decide (i<(x.length:Int)))
 | x_::xs,i,m =>
  zt.l5.rg F k0 x xs (i+1) (if x_>m then x_ else m)
theorem zt.l5.rg_eq {R:Type} (F:Nat) (k0:zt.l5.K0 R) (x:List Int) (hL:x.length<9223372036854775807):∀(xs:List Int) (i fu:Nat) (m:Int),x.drop i=xs->xs.length<fu->
  zt.l5 F k0 fu x m (i:Int)=zt.l5.rg F k0 x xs (i:Int) m:=by
 intro xs;induction xs with
 | nil =>
  intro i fu m hZ hfZ;obtain ⟨fu,rfl⟩:∃k,fu=k+1:=⟨fu-1,by simp at hfZ; omega⟩;have e1:=vV rfl (wV hZ);simp only[zt.l5,zt.l5.body,zt.l5.rg,e1,cond_false]
 | cons x_ xs ih =>
  intro i fu m hZ hfZ;obtain ⟨fu,rfl⟩:∃k,fu=k+1:=⟨fu-1,by simp at hfZ; omega⟩;have e0:=x5 hZ;have e1:=vU rfl e0;have e2:=xj e0;have e3:=ww (t:=(.int .i64)) hZ;have e4:=wu e0 hL;have e5:∀(m:Int),zt.l5 F k0 fu x m ((i:Int)+1)=zt.l5.rg F k0 x xs ((i:Int)+1) m:=fun m=>by
   have:=ih (i+1) fu m (xz hZ) (by simp at hfZ; omega);rwa [xv] at this
  simp only[zt.l5,zt.l5.body,zt.l5.rg,e1,e2,e3,e4,e5,cond_true]
def zu.l6.rg {R:Type} (F:Nat) (k0:zu.l6.K0 R) (t20:List zm.T) (t21:Int):List zm.T->Int->(List Int)->Option R
 | [],t22,pile=>k0 t20 t21 t22 (decide (t22<t21)) pile
 | x_::xs,t22,pile =>
  oB (yk.sh F x_) fun c_2 =>
   bif decide (c_2.1.1>0) then bif (zr pile.length (some (i64.wrap ((pile.length:Int)-c_2.1.1))) none).1 then oB (zt.sh F ((List.take (zr pile.length (some (i64.wrap ((pile.length:Int)-c_2.1.1))) none).2.2 pile).drop (zr pile.length (some (i64.wrap ((pile.length:Int)-c_2.1.1))) none).2.1)) fun c_3 =>
     bif (zr pile.length none (some (i64.wrap ((pile.length:Int)-c_2.1.1)))).1 then bif (x_.1==15) then bif Nat.ble ((pile.take (zr pile.length none (some (i64.wrap ((pile.length:Int)-c_2.1.1)))).2.2).length+([i64.wrap (c_3.1.1+1)]:List Int).length) y4 then zu.l6.rg F k0 t20 t21 xs (t22+1) ((pile.take (zr pile.length none (some (i64.wrap ((pile.length:Int)-c_2.1.1)))).2.2)++([i64.wrap (c_3.1.1+1)]:List Int))
       else none
      else bif Nat.ble ((pile.take (zr pile.length none (some (i64.wrap ((pile.length:Int)-c_2.1.1)))).2.2).length+([c_3.1.1]:List Int).length) y4 then zu.l6.rg F k0 t20 t21 xs (t22+1) ((pile.take (zr pile.length none (some (i64.wrap ((pile.length:Int)-c_2.1.1)))).2.2)++([c_3.1.1]:List Int))
      else none
     else none
    else none
   else bif (x_.1==15) then bif Nat.ble (pile.length+([i64.wrap (0+1)]:List Int).length) y4 then zu.l6.rg F k0 t20 t21 xs (t22+1) (pile++([i64.wrap (0+1)]:List Int))
    else none
   else bif Nat.ble (pile.length+([0]:List Int).length) y4 then zu.l6.rg F k0 t20 t21 xs (t22+1) (pile++([0]:List Int))
   else none
theorem zu.l6.rg_eq {R:Type} (F:Nat) (k0:zu.l6.K0 R) (t20:List zm.T) (t21:Int) (hN:t21=(t20.length:Int)) (hL:t20.length<9223372036854775807):∀(xs:List zm.T) (i fu:Nat) (pile:List Int),t20.drop i=xs->xs.length<fu->
  zu.l6 F k0 fu t20 t21 (i:Int) pile=zu.l6.rg F k0 t20 t21 xs (i:Int) pile:=by
 intro xs;induction xs with
 | nil =>
  intro i fu pile hZ hfZ;obtain ⟨fu,rfl⟩:∃k,fu=k+1:=⟨fu-1,by simp at hfZ; omega⟩;have e1:=vV hN (wV hZ);simp only[zu.l6,zu.l6.body,zu.l6.rg,e1,cond_false]
 | cons x_ xs ih =>
  intro i fu pile hZ hfZ;obtain ⟨fu,rfl⟩:∃k,fu=k+1:=⟨fu-1,by simp at hfZ; omega⟩;have e0:=x5 hZ;have e1:=vU hN e0;have e2:=xj e0;have e3:=ww (t:=zm) hZ;have e4:=wu e0 hL;have e5:∀(pile:List Int),zu.l6 F k0 fu t20 t21 ((i:Int)+1) pile=zu.l6.rg F k0 t20 t21 xs ((i:Int)+1) pile:=fun pile=>by
   have:=ih (i+1) fu pile (xz hZ) (by simp at hfZ; omega);rwa [xv] at this
  simp only[zu.l6,zu.l6.body,zu.l6.rg,e1,e2,e3,e4,e5,cond_true]
def zj.l3.rg {R:Type} (F:Nat) (k0:zj.l3.K0 R) (t13:List zO.T) (t14:Int):List zO.T->Int->(List zO.T)->Int->yd.T->za.T->za.T->za.T->Option R
 | [],t15,tiers,rate,m,x,r6,ways=>k0 tiers rate t13 t14 t15 (decide (t15<t14)) m x r6 ways
 | x_::xs,t15,tiers,rate,m,x,r6,ways =>
  oB (xg.sh F x_.2) fun c_1 =>
   bif decide ((i64.wrap (t15+1))<(tiers.length:Int)) then oB (xg.sh F x_.2) fun c_2 =>
    oB (zC.sh F c_2.1.1) fun c_3 =>
    bif idx (i64.wrap (t15+1)) tiers.length then oB (zC.sh F (i64.wrap ((get zO tiers ((i64.wrap (t15+1)).toNat)).1-x_.1))) fun c_4 =>
     oB (zM.sh F m c_3.1.1 c_4.1.1) fun c_5 =>
     bif (((m.1.1==c_5.2.1.1.1)&&((m.1.2==c_5.2.1.1.2)&&true))&&true) then oB (zP.sh F c_5.2.1 ways c_5.1.1) fun c_6 =>
      bif (((c_5.2.1.1.1==c_6.2.1.1.1)&&((c_5.2.1.1.2==c_6.2.1.1.2)&&true))&&true) then zj.l3.rg F k0 t13 t14 xs (t15+1) tiers (if c_1.1.1>rate then c_1.1.1 else rate) c_6.2.1 x r6 c_6.1.1
      else none
     else none
    else none
   else zj.l3.rg F k0 t13 t14 xs (t15+1) tiers (if c_1.1.1>rate then c_1.1.1 else rate) m x r6 ways
theorem zj.l3.rg_eq {R:Type} (F:Nat) (k0:zj.l3.K0 R) (t13:List zO.T) (t14:Int) (hN:t14=(t13.length:Int)) (hL:t13.length<9223372036854775807):∀(xs:List zO.T) (i fu:Nat) (tiers:List zO.T) (rate:Int) (m:yd.T) (x:za.T) (r6:za.T) (ways:za.T),t13.drop i=xs->xs.length<fu->
  zj.l3 F k0 fu tiers rate t13 t14 (i:Int) m x r6 ways=zj.l3.rg F k0 t13 t14 xs (i:Int) tiers rate m x r6 ways:=by
 intro xs;induction xs with
 | nil =>
  intro i fu tiers rate m x r6 ways hZ hfZ;obtain ⟨fu,rfl⟩:∃k,fu=k+1:=⟨fu-1,by simp at hfZ; omega⟩;have e1:=vV hN (wV hZ);simp only[zj.l3,zj.l3.body,zj.l3.rg,e1,cond_false]
 | cons x_ xs ih =>
  intro i fu tiers rate m x r6 ways hZ hfZ;obtain ⟨fu,rfl⟩:∃k,fu=k+1:=⟨fu-1,by simp at hfZ; omega⟩;have e0:=x5 hZ;have e1:=vU hN e0;have e2:=xj e0;have e3:=ww (t:=zO) hZ;have e4:=wu e0 hL;have e5:∀(tiers:List zO.T) (rate:Int) (m:yd.T) (x:za.T) (r6:za.T) (ways:za.T),zj.l3 F k0 fu tiers rate t13 t14 ((i:Int)+1) m x r6 ways=zj.l3.rg F k0 t13 t14 xs ((i:Int)+1) tiers rate m x r6 ways:=fun tiers rate m x r6 ways=>by
   have:=ih (i+1) fu tiers rate m x r6 ways (xz hZ) (by simp at hfZ; omega);rwa [xv] at this
  simp only[zj.l3,zj.l3.body,zj.l3.rg,e1,e2,e3,e4,e5,cond_true]
def zX.l4.rg {R:Type} (F:Nat) (k0:zX.l4.K0 R) (t11:List za.T) (t12:Int):List za.T->Int->Int->Int->Int->za.T->Option R
 | [],t13,lo,hi,top,r2=>k0 lo hi top t11 t12 t13 (decide (t13<t12)) r2
 | x_::xs,t13,lo,hi,top,r2 =>
  oB (zQ.sh F lo x_.2 0) fun c_1 =>
   oB (zQ.sh F hi (u64.wrap x_.1) c_1.1.2.1) fun c_2 =>
   zX.l4.rg F k0 t11 t12 xs (t13+1) c_1.1.1 c_2.1.1 (i64.wrap (top+(i64.wrap ((x_.1.fdiv (2^(min (63:Int).toNat IntKind.i64.bits)))+(i64.wrap c_2.1.2.1))))) r2
theorem zX.l4.rg_eq {R:Type} (F:Nat) (k0:zX.l4.K0 R) (t11:List za.T) (t12:Int) (hN:t12=(t11.length:Int)) (hL:t11.length<9223372036854775807):∀(xs:List za.T) (i fu:Nat) (lo:Int) (hi:Int) (top:Int) (r2:za.T),t11.drop i=xs->xs.length<fu->
  zX.l4 F k0 fu lo hi top t11 t12 (i:Int) r2=zX.l4.rg F k0 t11 t12 xs (i:Int) lo hi top r2:=by
 intro xs;induction xs with
 | nil =>
  intro i fu lo hi top r2 hZ hfZ;obtain ⟨fu,rfl⟩:∃k,fu=k+1:=⟨fu-1,by simp at hfZ; omega⟩;have e1:=vV hN (wV hZ);simp only[zX.l4,zX.l4.body,zX.l4.rg,e1,cond_false]
 | cons x_ xs ih =>
  intro i fu lo hi top r2 hZ hfZ;obtain ⟨fu,rfl⟩:∃k,fu=k+1:=⟨fu-1,by simp at hfZ; omega⟩;have e0:=x5 hZ;have e1:=vU hN e0;have e2:=xj e0;have e3:=ww (t:=za) hZ;have e4:=wu e0 hL;have e5:∀(lo:Int) (hi:Int) (top:Int) (r2:za.T),zX.l4 F k0 fu lo hi top t11 t12 ((i:Int)+1) r2=zX.l4.rg F k0 t11 t12 xs ((i:Int)+1) lo hi top r2:=fun lo hi top r2=>by
   have:=ih (i+1) fu lo hi top r2 (xz hZ) (by simp at hfZ; omega);rwa [xv] at this
  simp only[zX.l4,zX.l4.body,zX.l4.rg,e1,e2,e3,e4,e5,cond_true]
def zi.l4.rg {R:Type} (F:Nat) (k0:zi.l4.K0 R) (k1:zi.l4.K1 R) (t17:List zm.T) (t18:Int):List zm.T->Int->ya.T->yd.T->(List za.T)->(List za.T)->Option R
 | [],t19,p,m,mags,pile=>k1 t17 t18 t19 (decide (t19<t18)) p m mags pile
 | x_::xs,t19,p,m,mags,pile =>
  oB (zF.sh F x_) fun c_1 =>
   bif (zr pile.length (some (i64.wrap ((pile.length:Int)-c_1.1.1))) none).1 then oB (zo.sh F m p x_ ((List.take (zr pile.length (some (i64.wrap ((pile.length:Int)-c_1.1.1))) none).2.2 pile).drop (zr pile.length (some (i64.wrap ((pile.length:Int)-c_1.1.1))) none).2.1)) fun c_2 =>
    bif c_2.2.1.2 then k0 ([]) t19
    else oB (yJ.sh F x_ c_2.1.1) fun c_3 =>
    bif c_3.1.1 then k0 ([]) t19
    else bif Nat.ble (mags.length+([c_2.1.1]:List za.T).length) y4 then bif (zr pile.length none (some (i64.wrap ((pile.length:Int)-c_1.1.1)))).1 then bif Nat.ble ((zr pile.length none (some (i64.wrap ((pile.length:Int)-c_1.1.1)))).2.2+([c_2.1.1]:List za.T).length) y4 then zi.l4.rg F k0 k1 t17 t18 xs (t19+1) p c_2.2.1 (mags++([c_2.1.1]:List za.T)) (pile.take (zr pile.length none (some (i64.wrap ((pile.length:Int)-c_1.1.1)))).2.2++([c_2.1.1]:List za.T))
      else none
     else none
    else none
   else none
theorem zi.l4.rg_eq {R:Type} (F:Nat) (k0:zi.l4.K0 R) (k1:zi.l4.K1 R) (t17:List zm.T) (t18:Int) (hN:t18=(t17.length:Int)) (hL:t17.length<9223372036854775807):∀(xs:List zm.T) (i fu:Nat) (p:ya.T) (m:yd.T) (mags:List za.T) (pile:List za.T),t17.drop i=xs->xs.length<fu->
  zi.l4 F k0 k1 fu t17 t18 (i:Int) p m mags pile=zi.l4.rg F k0 k1 t17 t18 xs (i:Int) p m mags pile:=by
 intro xs;induction xs with
 | nil =>
  intro i fu p m mags pile hZ hfZ;obtain ⟨fu,rfl⟩:∃k,fu=k+1:=⟨fu-1,by simp at hfZ; omega⟩;have e1:=vV hN (wV hZ);simp only[zi.l4,zi.l4.body,zi.l4.rg,e1,cond_false]
 | cons x_ xs ih =>
  intro i fu p m mags pile hZ hfZ;obtain ⟨fu,rfl⟩:∃k,fu=k+1:=⟨fu-1,by simp at hfZ; omega⟩;have e0:=x5 hZ;have e1:=vU hN e0;have e2:=xj e0;have e3:=ww (t:=zm) hZ;have e4:=wu e0 hL;have e5:∀(p:ya.T) (m:yd.T) (mags:List za.T) (pile:List za.T),zi.l4 F k0 k1 fu t17 t18 ((i:Int)+1) p m mags pile=zi.l4.rg F k0 k1 t17 t18 xs ((i:Int)+1) p m mags pile:=fun p m mags pile=>by
   have:=ih (i+1) fu p m mags pile (xz hZ) (by simp at hfZ; omega);rwa [xv] at this
  simp only[zi.l4,zi.l4.body,zi.l4.rg,e1,e2,e3,e4,e5,cond_true]
def ze.l5.rg {R:Type} (F:Nat) (k0:ze.l5.K0 R) (x:List za.T):List za.T->Int->Nat->za.T->za.T->Option R
 | [],i,cmp,r4,m=>k0 x cmp i (decide (i<(x.length:Int))) r4 m
 | x_::xs,i,cmp,r4,m =>
  oB (ze.d26 F cmp (x_,m,())) fun c_1 =>
   bif decide (c_1.1.1<0) then bif true then ze.l5.rg F k0 x xs (i+1) cmp r4 x_
    else none
   else ze.l5.rg F k0 x xs (i+1) cmp r4 m
theorem ze.l5.rg_eq {R:Type} (F:Nat) (k0:ze.l5.K0 R) (x:List za.T) (hL:x.length<9223372036854775807):∀(xs:List za.T) (i fu:Nat) (cmp:Nat) (r4:za.T) (m:za.T),x.drop i=xs->xs.length<fu->
  ze.l5 F k0 fu x cmp (i:Int) r4 m=ze.l5.rg F k0 x xs (i:Int) cmp r4 m:=by
 intro xs;induction xs with
 | nil =>
  intro i fu cmp r4 m hZ hfZ;obtain ⟨fu,rfl⟩:∃k,fu=k+1:=⟨fu-1,by simp at hfZ; omega⟩;have e1:=vV rfl (wV hZ);simp only[ze.l5,ze.l5.body,ze.l5.rg,e1,cond_false]
 | cons x_ xs ih =>
  intro i fu cmp r4 m hZ hfZ;obtain ⟨fu,rfl⟩:∃k,fu=k+1:=⟨fu-1,by simp at hfZ; omega⟩;have e0:=x5 hZ;have e1:=vU rfl e0;have e2:=xj e0;have e3:=ww (t:=za) hZ;have e4:=wu e0 hL;have e5:∀(cmp:Nat) (r4:za.T) (m:za.T),ze.l5 F k0 fu x cmp ((i:Int)+1) r4 m=ze.l5.rg F k0 x xs ((i:Int)+1) cmp r4 m:=fun cmp r4 m=>by
   have:=ih (i+1) fu cmp r4 m (xz hZ) (by simp at hfZ; omega);rwa [xv] at this
  simp only[ze.l5,ze.l5.body,ze.l5.rg,e1,e2,e3,e4,e5,cond_true]
def zf.l5.rg {R:Type} (F:Nat) (k0:zf.l5.K0 R) (x:List za.T):List za.T->Int->Nat->za.T->za.T->Option R
 | [],i,cmp,r4,m=>k0 x cmp i (decide (i<(x.length:Int))) r4 m
 | x_::xs,i,cmp,r4,m =>
  oB (zf.d26 F cmp (x_,m,())) fun c_1 =>
   bif decide (c_1.1.1>0) then bif true then zf.l5.rg F k0 x xs (i+1) cmp r4 x_
    else none
   else zf.l5.rg F k0 x xs (i+1) cmp r4 m
theorem zf.l5.rg_eq {R:Type} (F:Nat) (k0:zf.l5.K0 R) (x:List za.T) (hL:x.length<9223372036854775807):∀(xs:List za.T) (i fu:Nat) (cmp:Nat) (r4:za.T) (m:za.T),x.drop i=xs->xs.length<fu->
  zf.l5 F k0 fu x cmp (i:Int) r4 m=zf.l5.rg F k0 x xs (i:Int) cmp r4 m:=by
 intro xs;induction xs with
 | nil =>
  intro i fu cmp r4 m hZ hfZ;obtain ⟨fu,rfl⟩:∃k,fu=k+1:=⟨fu-1,by simp at hfZ; omega⟩;have e1:=vV rfl (wV hZ);simp only[zf.l5,zf.l5.body,zf.l5.rg,e1,cond_false]
 | cons x_ xs ih =>
  intro i fu cmp r4 m hZ hfZ;obtain ⟨fu,rfl⟩:∃k,fu=k+1:=⟨fu-1,by simp at hfZ; omega⟩;have e0:=x5 hZ;have e1:=vU rfl e0;have e2:=xj e0;have e3:=ww (t:=za) hZ;have e4:=wu e0 hL;have e5:∀(cmp:Nat) (r4:za.T) (m:za.T),zf.l5 F k0 fu x cmp ((i:Int)+1) r4 m=zf.l5.rg F k0 x xs ((i:Int)+1) cmp r4 m:=fun cmp r4 m=>by
   have:=ih (i+1) fu cmp r4 m (xz hZ) (by simp at hfZ; omega);rwa [xv] at this
  simp only[zf.l5,zf.l5.body,zf.l5.rg,e1,e2,e3,e4,e5,cond_true]
def zg.l7.rg {R:Type} (F:Nat) (k0:zg.l7.K0 R) (k1:zg.l7.K1 R) (t32:List Int) (t33:Int):List Int->Int->(List Int)->ya.T->za.T->Option R
 | [],t34,q,p,unit=>k1 q t32 t33 t34 (decide (t34<t33)) p unit
 | x_::xs,t34,q,p,unit =>
  bif decide (x_<0) then k0 ([]) 101
   else bif decide (x_>1099511627776) then k0 ([]) 101
   else zg.l7.rg F k0 k1 t32 t33 xs (t34+1) q p unit
theorem zg.l7.rg_eq {R:Type} (F:Nat) (k0:zg.l7.K0 R) (k1:zg.l7.K1 R) (t32:List Int) (t33:Int) (hN:t33=(t32.length:Int)) (hL:t32.length<9223372036854775807):∀(xs:List Int) (i fu:Nat) (q:List Int) (p:ya.T) (unit:za.T),t32.drop i=xs->xs.length<fu->
  zg.l7 F k0 k1 fu q t32 t33 (i:Int) p unit=zg.l7.rg F k0 k1 t32 t33 xs (i:Int) q p unit:=by
 intro xs;induction xs with
 | nil =>
  intro i fu q p unit hZ hfZ;obtain ⟨fu,rfl⟩:∃k,fu=k+1:=⟨fu-1,by simp at hfZ; omega⟩;have e1:=vV hN (wV hZ);simp only[zg.l7,zg.l7.body,zg.l7.rg,e1,cond_false]
 | cons x_ xs ih =>
  intro i fu q p unit hZ hfZ;obtain ⟨fu,rfl⟩:∃k,fu=k+1:=⟨fu-1,by simp at hfZ; omega⟩;have e0:=x5 hZ;have e1:=vU hN e0;have e2:=xj e0;have e3:=ww (t:=(.int .i64)) hZ;have e4:=wu e0 hL;have e5:∀(q:List Int) (p:ya.T) (unit:za.T),zg.l7 F k0 k1 fu q t32 t33 ((i:Int)+1) p unit=zg.l7.rg F k0 k1 t32 t33 xs ((i:Int)+1) q p unit:=fun q p unit=>by
   have:=ih (i+1) fu q p unit (xz hZ) (by simp at hfZ; omega);rwa [xv] at this
  simp only[zg.l7,zg.l7.body,zg.l7.rg,e1,e2,e3,e4,e5,cond_true]
def zg.l14.rg {R:Type} (F:Nat) (k0:zg.l14.K0 R) (t46:List zm.T) (t47:Int):List zm.T->Int->(List Int)->ya.T->za.T->(List za.T)->(List za.T)->Option R
 | [],t48,q,p,unit,values,pile=>k0 q t46 t47 t48 (decide (t48<t47)) p unit values pile
 | x_::xs,t48,q,p,unit,values,pile =>
  oB (zV.sh F x_) fun c_4 =>
   bif decide ((i64.wrap ((pile.length:Int)-c_4.1.1))<(pile.length:Int)) then bif (zr pile.length (some (i64.wrap ((pile.length:Int)-c_4.1.1))) none).1 then oB (yl.sh F x_ unit ((List.take (zr pile.length (some (i64.wrap ((pile.length:Int)-c_4.1.1))) none).2.2 pile).drop (zr pile.length (some (i64.wrap ((pile.length:Int)-c_4.1.1))) none).2.1)) fun c_5 =>
     bif Nat.ble (values.length+([c_5.1.1]:List za.T).length) y4 then bif (zr pile.length none (some (i64.wrap ((pile.length:Int)-c_4.1.1)))).1 then bif Nat.ble ((zr pile.length none (some (i64.wrap ((pile.length:Int)-c_4.1.1)))).2.2+([c_5.1.1]:List za.T).length) y4 then zg.l14.rg F k0 t46 t47 xs (t48+1) q p unit (values++([c_5.1.1]:List za.T)) (pile.take (zr pile.length none (some (i64.wrap ((pile.length:Int)-c_4.1.1)))).2.2++([c_5.1.1]:List za.T))
       else none
      else none
     else none
    else none
   else oB (yP.sh F p x_ unit q) fun c_6 =>
   bif Nat.ble (values.length+([c_6.1.1]:List za.T).length) y4 then bif (zr pile.length none (some (i64.wrap ((pile.length:Int)-c_4.1.1)))).1 then bif Nat.ble ((zr pile.length none (some (i64.wrap ((pile.length:Int)-c_4.1.1)))).2.2+([c_6.1.1]:List za.T).length) y4 then zg.l14.rg F k0 t46 t47 xs (t48+1) q p unit (values++([c_6.1.1]:List za.T)) (pile.take (zr pile.length none (some (i64.wrap ((pile.length:Int)-c_4.1.1)))).2.2++([c_6.1.1]:List za.T))
     else none
    else none
   else none
theorem zg.l14.rg_eq {R:Type} (F:Nat) (k0:zg.l14.K0 R) (t46:List zm.T) (t47:Int) (hN:t47=(t46.length:Int)) (hL:t46.length<9223372036854775807):∀(xs:List zm.T) (i fu:Nat) (q:List Int) (p:ya.T) (unit:za.T) (values:List za.T) (pile:List za.T),t46.drop i=xs->xs.length<fu->
  zg.l14 F k0 fu q t46 t47 (i:Int) p unit values pile=zg.l14.rg F k0 t46 t47 xs (i:Int) q p unit values pile:=by
 intro xs;induction xs with
 | nil =>
  intro i fu q p unit values pile hZ hfZ;obtain ⟨fu,rfl⟩:∃k,fu=k+1:=⟨fu-1,by simp at hfZ; omega⟩;have e1:=vV hN (wV hZ);simp only[zg.l14,zg.l14.body,zg.l14.rg,e1,cond_false]
 | cons x_ xs ih =>
  intro i fu q p unit values pile hZ hfZ;obtain ⟨fu,rfl⟩:∃k,fu=k+1:=⟨fu-1,by simp at hfZ; omega⟩;have e0:=x5 hZ;have e1:=vU hN e0;have e2:=xj e0;have e3:=ww (t:=zm) hZ;have e4:=wu e0 hL;have e5:∀(q:List Int) (p:ya.T) (unit:za.T) (values:List za.T) (pile:List za.T),zg.l14 F k0 fu q t46 t47 ((i:Int)+1) p unit values pile=zg.l14.rg F k0 t46 t47 xs ((i:Int)+1) q p unit values pile:=fun q p unit values pile=>by
   have:=ih (i+1) fu q p unit values pile (xz hZ) (by simp at hfZ; omega);rwa [xv] at this
  simp only[zg.l14,zg.l14.body,zg.l14.rg,e1,e2,e3,e4,e5,cond_true]
end Go.VS
