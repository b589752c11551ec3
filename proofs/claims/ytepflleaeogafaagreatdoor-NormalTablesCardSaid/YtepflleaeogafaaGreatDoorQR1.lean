import Derived.Test.YtepflleaeogafaaGreatDoorQP2
set_option linter.unusedVariables false
set_option linter.unusedSimpArgs false
set_option linter.unusedSectionVars false
set_option linter.unusedVariables false
set_option maxRecDepth 100000
namespace Go.VS
open Go IntKind
def zt.l2.rg {R:Type} (F:Nat) (k0:Int->Option R) (k1:zt.l2.K1 R) (s:List wV.T) (t7:Int):List wV.T->Int->(Nat×wV.T)->Option R
 | [],t8,f=>k1 s (f.1,f.2) t7 t8 (decide (t8<t7))
 | x_::xs,t8,f =>
  oB (zt.d16 F (f.1+1) (x_,f.2,())) fun c_1 =>
   bif c_1.1.1 then k0 t8
   else zt.l2.rg F k0 k1 s t7 xs (t8+1) (f.1,f.2)
theorem zt.l2.rg_eq {R:Type} (F:Nat) (k0:Int->Option R) (k1:zt.l2.K1 R) (s:List wV.T) (t7:Int) (hN:t7=(s.length:Int)) (hL:s.length<9223372036854775807):∀(xs:List wV.T) (i fu:Nat) (f:Nat×wV.T),s.drop i=xs->xs.length<fu->
  zt.l2 F k0 k1 fu s f t7 (i:Int)=zt.l2.rg F k0 k1 s t7 xs (i:Int) f:=by
 intro xs;induction xs with
 | nil =>
  intro i fu f hZ hfZ;obtain ⟨fu,rfl⟩:∃k,fu=k+1:=⟨fu-1,by simp at hfZ; omega⟩;have e1:=Zz hN (tO hZ);simp only[zt.l2,zt.l2.body,zt.l2.rg,e1,cond_false]
 | cons x_ xs ih =>
  intro i fu f hZ hfZ;obtain ⟨fu,rfl⟩:∃k,fu=k+1:=⟨fu-1,by simp at hfZ; omega⟩;have e0:=ug hZ;have e1:=Zy hN e0;have e2:=xX e0;have e3:=uI (t:=wV) hZ;have e4:=tz e0 hL;have e5:∀(f:Nat×wV.T),zt.l2 F k0 k1 fu s f t7 ((i:Int)+1)=zt.l2.rg F k0 k1 s t7 xs ((i:Int)+1) f:=fun f=>by
   have:=ih (i+1) fu f (wX hZ) (by simp at hfZ; omega);rwa [vj] at this
  simp only[zt.l2,zt.l2.body,zt.l2.rg,e1,e2,e3,e4,e5,cond_true]
def xg.l6.rg {R:Type} (F:Nat) (k0:Int->Option R) (k1:Int->Option R) (k2:xg.l6.K2 R) (t21:List wV.T) (t22:Int):List wV.T->Int->yr.T->Option R
 | [],t23,p=>k2 t21 t22 t23 (decide (t23<t22)) p
 | x_::xs,t23,p =>
  oB (uf.sh F x_.1) fun c_2 =>
   bif !c_2.1.1 then k0 61
   else bif (zI p.2.1.length none (some t23)).1 then oB (y4.sh F ((p.2.1.take (zI p.2.1.length none (some t23)).2.2).drop (zI p.2.1.length none (some t23)).2.1) (tD,x_)) fun c_3 =>
    bif c_3.1.1 then k0 61
    else bif decide (x_.2<1) then k1 50
    else bif decide (x_.2>1000000000000) then k1 50
    else xg.l6.rg F k0 k1 k2 t21 t22 xs (t23+1) p
   else none
theorem xg.l6.rg_eq {R:Type} (F:Nat) (k0:Int->Option R) (k1:Int->Option R) (k2:xg.l6.K2 R) (t21:List wV.T) (t22:Int) (hN:t22=(t21.length:Int)) (hL:t21.length<9223372036854775807):∀(xs:List wV.T) (i fu:Nat) (p:yr.T),t21.drop i=xs->xs.length<fu->
  xg.l6 F k0 k1 k2 fu t21 t22 (i:Int) p=xg.l6.rg F k0 k1 k2 t21 t22 xs (i:Int) p:=by
 intro xs;induction xs with
 | nil =>
  intro i fu p hZ hfZ;obtain ⟨fu,rfl⟩:∃k,fu=k+1:=⟨fu-1,by simp at hfZ; omega⟩;have e1:=Zz hN (tO hZ);simp only[xg.l6,xg.l6.body,xg.l6.rg,e1,cond_false]
 | cons x_ xs ih =>
  intro i fu p hZ hfZ;obtain ⟨fu,rfl⟩:∃k,fu=k+1:=⟨fu-1,by simp at hfZ; omega⟩;have e0:=ug hZ;have e1:=Zy hN e0;have e2:=xX e0;have e3:=uI (t:=wV) hZ;have e4:=tz e0 hL;have e5:∀(p:yr.T),xg.l6 F k0 k1 k2 fu t21 t22 ((i:Int)+1) p=xg.l6.rg F k0 k1 k2 t21 t22 xs ((i:Int)+1) p:=fun p=>by
   have:=ih (i+1) fu p (wX hZ) (by simp at hfZ; omega);rwa [vj] at this
  simp only[xg.l6,xg.l6.body,xg.l6.rg,e1,e2,e3,e4,e5,cond_true]
def yA.l4.rg {R:Type} (F:Nat) (k0:Bool->Option R) (k1:yA.l4.K1 R) (t20:List yp.T) (t21:Int):List yp.T->Int->(List yp.T)->Option R
 | [],t22,tiers=>k1 tiers t20 t21 t22 (decide (t22<t21))
 | x_::xs,t22,tiers =>
  bif decide (t22>0) then bif idx (i64.wrap (t22-1)) tiers.length then bif decide (x_.1<=(get yp tiers ((i64.wrap (t22-1)).toNat)).1) then k0 false
     else bif decide (x_.1>1000000000000) then k0 false
     else bif decide (x_.2<(-1000000000000)) then k0 false
     else bif decide (x_.2>1000000000000) then k0 false
     else yA.l4.rg F k0 k1 t20 t21 xs (t22+1) tiers
    else none
   else bif decide (x_.1>1000000000000) then k0 false
   else bif decide (x_.2<(-1000000000000)) then k0 false
   else bif decide (x_.2>1000000000000) then k0 false
   else yA.l4.rg F k0 k1 t20 t21 xs (t22+1) tiers
theorem yA.l4.rg_eq {R:Type} (F:Nat) (k0:Bool->Option R) (k1:yA.l4.K1 R) (t20:List yp.T) (t21:Int) (hN:t21=(t20.length:Int)) (hL:t20.length<9223372036854775807):∀(xs:List yp.T) (i fu:Nat) (tiers:List yp.T),t20.drop i=xs->xs.length<fu->
  yA.l4 F k0 k1 fu tiers t20 t21 (i:Int)=yA.l4.rg F k0 k1 t20 t21 xs (i:Int) tiers:=by
 intro xs;induction xs with
 | nil =>
  intro i fu tiers hZ hfZ;obtain ⟨fu,rfl⟩:∃k,fu=k+1:=⟨fu-1,by simp at hfZ; omega⟩;have e1:=Zz hN (tO hZ);simp only[yA.l4,yA.l4.body,yA.l4.rg,e1,cond_false]
 | cons x_ xs ih =>
  intro i fu tiers hZ hfZ;obtain ⟨fu,rfl⟩:∃k,fu=k+1:=⟨fu-1,by simp at hfZ; omega⟩;have e0:=ug hZ;have e1:=Zy hN e0;have e2:=xX e0;have e3:=uI (t:=yp) hZ;have e4:=tz e0 hL;have e5:∀(tiers:List yp.T),yA.l4 F k0 k1 fu tiers t20 t21 ((i:Int)+1)=yA.l4.rg F k0 k1 t20 t21 xs ((i:Int)+1) tiers:=fun tiers=>by
   have:=ih (i+1) fu tiers (wX hZ) (by simp at hfZ; omega);rwa [vj] at this
  simp only[yA.l4,yA.l4.body,yA.l4.rg,e1,e2,e3,e4,e5,cond_true]
def yF.l8.rg {R:Type} (F:Nat) (k0:Int->Int->Option R) (k1:yF.l8.K1 R) (t19:List zx.T) (t20:Int):List zx.T->Int->Int->yr.T->Option R
 | [],t21,pile,p=>k1 pile t19 t20 t21 (decide (t21<t20)) p
 | x_::xs,t21,pile,p =>
  oB (yZ.sh F x_ (p.2.1.length:Int) pile) fun c_2 =>
   bif (c_2.1.1 != 0) then k0 t21 c_2.1.1
   else oB (wK.sh F x_) fun c_3 =>
   yF.l8.rg F k0 k1 t19 t20 xs (t21+1) (i64.wrap (pile+(i64.wrap (1-c_3.1.1)))) p
theorem yF.l8.rg_eq {R:Type} (F:Nat) (k0:Int->Int->Option R) (k1:yF.l8.K1 R) (t19:List zx.T) (t20:Int) (hN:t20=(t19.length:Int)) (hL:t19.length<9223372036854775807):∀(xs:List zx.T) (i fu:Nat) (pile:Int) (p:yr.T),t19.drop i=xs->xs.length<fu->
  yF.l8 F k0 k1 fu pile t19 t20 (i:Int) p=yF.l8.rg F k0 k1 t19 t20 xs (i:Int) pile p:=by
 intro xs;induction xs with
 | nil =>
  intro i fu pile p hZ hfZ;obtain ⟨fu,rfl⟩:∃k,fu=k+1:=⟨fu-1,by simp at hfZ; omega⟩;have e1:=Zz hN (tO hZ);simp only[yF.l8,yF.l8.body,yF.l8.rg,e1,cond_false]
 | cons x_ xs ih =>
  intro i fu pile p hZ hfZ;obtain ⟨fu,rfl⟩:∃k,fu=k+1:=⟨fu-1,by simp at hfZ; omega⟩;have e0:=ug hZ;have e1:=Zy hN e0;have e2:=xX e0;have e3:=uI (t:=zx) hZ;have e4:=tz e0 hL;have e5:∀(pile:Int) (p:yr.T),yF.l8 F k0 k1 fu pile t19 t20 ((i:Int)+1) p=yF.l8.rg F k0 k1 t19 t20 xs ((i:Int)+1) pile p:=fun pile p=>by
   have:=ih (i+1) fu pile p (wX hZ) (by simp at hfZ; omega);rwa [vj] at this
  simp only[yF.l8,yF.l8.body,yF.l8.rg,e1,e2,e3,e4,e5,cond_true]
def yf.l3.rg {R:Type} (F:Nat) (k0:yf.l3.K0 R) (t10:List zx.T) (t11:Int):List zx.T->Int->(List Int)->(List Int)->Option R
 | [],t12,list,pile=>k0 t10 t11 t12 (decide (t12<t11)) list pile
 | x_::xs,t12,list,pile =>
  oB (wK.sh F x_) fun c_1 =>
   bif decide (c_1.1.1>0) then bif idx (i64.wrap ((pile.length:Int)-c_1.1.1)) pile.length then bif (zI pile.length none (some (i64.wrap ((pile.length:Int)-c_1.1.1)))).1 then bif Nat.ble ((pile.take (zI pile.length none (some (i64.wrap ((pile.length:Int)-c_1.1.1)))).2.2).length+([get (.int .i64) pile ((i64.wrap ((pile.length:Int)-c_1.1.1)).toNat)]:List Int).length) vc then bif Nat.ble (list.length+([get (.int .i64) pile ((i64.wrap ((pile.length:Int)-c_1.1.1)).toNat)]:List Int).length) vc then yf.l3.rg F k0 t10 t11 xs (t12+1) (list++([get (.int .i64) pile ((i64.wrap ((pile.length:Int)-c_1.1.1)).toNat)]:List Int)) ((pile.take (zI pile.length none (some (i64.wrap ((pile.length:Int)-c_1.1.1)))).2.2)++([get (.int .i64) pile ((i64.wrap ((pile.length:Int)-c_1.1.1)).toNat)]:List Int))
       else none
      else none
     else none
    else none
   else bif Nat.ble (pile.length+([t12]:List Int).length) vc then bif Nat.ble (list.length+([t12]:List Int).length) vc then yf.l3.rg F k0 t10 t11 xs (t12+1) (list++([t12]:List Int)) (pile++([t12]:List Int))
    else none
   else none
theorem yf.l3.rg_eq {R:Type} (F:Nat) (k0:yf.l3.K0 R) (t10:List zx.T) (t11:Int) (hN:t11=(t10.length:Int)) (hL:t10.length<9223372036854775807):∀(xs:List zx.T) (i fu:Nat) (list:List Int) (pile:List Int),t10.drop i=xs->xs.length<fu->
  yf.l3 F k0 fu t10 t11 (i:Int) list pile=yf.l3.rg F k0 t10 t11 xs (i:Int) list pile:=by
 intro xs;induction xs with
 | nil =>
  intro i fu list pile hZ hfZ;obtain ⟨fu,rfl⟩:∃k,fu=k+1:=⟨fu-1,by simp at hfZ; omega⟩;have e1:=Zz hN (tO hZ);simp only[yf.l3,yf.l3.body,yf.l3.rg,e1,cond_false]
 | cons x_ xs ih =>
  intro i fu list pile hZ hfZ;obtain ⟨fu,rfl⟩:∃k,fu=k+1:=⟨fu-1,by simp at hfZ; omega⟩;have e0:=ug hZ;have e1:=Zy hN e0;have e2:=xX e0;have e3:=uI (t:=zx) hZ;have e4:=tz e0 hL;have e5:∀(list:List Int) (pile:List Int),yf.l3 F k0 fu t10 t11 ((i:Int)+1) list pile=yf.l3.rg F k0 t10 t11 xs ((i:Int)+1) list pile:=fun list pile=>by
   have:=ih (i+1) fu list pile (wX hZ) (by simp at hfZ; omega);rwa [vj] at this
  simp only[yf.l3,yf.l3.body,yf.l3.rg,e1,e2,e3,e4,e5,cond_true]
def zV.l7.rg {R:Type} (F:Nat) (k0:zV.l7.K0 R) (t22:List zx.T) (t23:Int):List zx.T->Int->(List Int)->Int->(List Bool)->Option R
 | [],t24,list,last,out=>k0 list last t22 t23 t24 (decide (t24<t23)) out
 | x_::xs,t24,list,last,out =>
  bif (x_.1==3) then bif idx t24 list.length then bif idx t24 out.length then zV.l7.rg F k0 t22 t23 xs (t24+1) list t24 (out.set t24.toNat (decide (t24<(get (.int .i64) list t24.toNat))))
     else none
    else none
   else bif (x_.1==4) then bif idx t24 list.length then bif idx t24 out.length then zV.l7.rg F k0 t22 t23 xs (t24+1) list t24 (out.set t24.toNat (decide (t24<(get (.int .i64) list t24.toNat))))
     else none
    else none
   else bif idx t24 list.length then bif idx t24 out.length then zV.l7.rg F k0 t22 t23 xs (t24+1) list last (out.set t24.toNat (decide (last<(get (.int .i64) list t24.toNat))))
    else none
   else none
theorem zV.l7.rg_eq {R:Type} (F:Nat) (k0:zV.l7.K0 R) (t22:List zx.T) (t23:Int) (hN:t23=(t22.length:Int)) (hL:t22.length<9223372036854775807):∀(xs:List zx.T) (i fu:Nat) (list:List Int) (last:Int) (out:List Bool),t22.drop i=xs->xs.length<fu->
  zV.l7 F k0 fu list last t22 t23 (i:Int) out=zV.l7.rg F k0 t22 t23 xs (i:Int) list last out:=by
 intro xs;induction xs with
 | nil =>
  intro i fu list last out hZ hfZ;obtain ⟨fu,rfl⟩:∃k,fu=k+1:=⟨fu-1,by simp at hfZ; omega⟩;have e1:=Zz hN (tO hZ);simp only[zV.l7,zV.l7.body,zV.l7.rg,e1,cond_false]
 | cons x_ xs ih =>
  intro i fu list last out hZ hfZ;obtain ⟨fu,rfl⟩:∃k,fu=k+1:=⟨fu-1,by simp at hfZ; omega⟩;have e0:=ug hZ;have e1:=Zy hN e0;have e2:=xX e0;have e3:=uI (t:=zx) hZ;have e4:=tz e0 hL;have e5:∀(list:List Int) (last:Int) (out:List Bool),zV.l7 F k0 fu list last t22 t23 ((i:Int)+1) out=zV.l7.rg F k0 t22 t23 xs ((i:Int)+1) list last out:=fun list last out=>by
   have:=ih (i+1) fu list last out (wX hZ) (by simp at hfZ; omega);rwa [vj] at this
  simp only[zV.l7,zV.l7.body,zV.l7.rg,e1,e2,e3,e4,e5,cond_true]
def ya.l2.rg {R:Type} (F:Nat) (k0:Int->Option R) (k1:ya.l2.K1 R) (t10:List Int) (t11:Int):List Int->Int->Int->xM.T->Option R
 | [],t12,from_,n=>k1 from_ t10 t11 t12 (decide (t12<t11)) n
 | x_::xs,t12,from_,n =>
  bif idx from_ n.2.1.length then bif (x_ != (get (.int .i64) n.2.1 from_.toNat)) then k0 (-1)
    else ya.l2.rg F k0 k1 t10 t11 xs (t12+1) from_ n
   else none
theorem ya.l2.rg_eq {R:Type} (F:Nat) (k0:Int->Option R) (k1:ya.l2.K1 R) (t10:List Int) (t11:Int) (hN:t11=(t10.length:Int)) (hL:t10.length<9223372036854775807):∀(xs:List Int) (i fu:Nat) (from_:Int) (n:xM.T),t10.drop i=xs->xs.length<fu->
  ya.l2 F k0 k1 fu from_ t10 t11 (i:Int) n=ya.l2.rg F k0 k1 t10 t11 xs (i:Int) from_ n:=by
 intro xs;induction xs with
 | nil =>
  intro i fu from_ n hZ hfZ;obtain ⟨fu,rfl⟩:∃k,fu=k+1:=⟨fu-1,by simp at hfZ; omega⟩;have e1:=Zz hN (tO hZ);simp only[ya.l2,ya.l2.body,ya.l2.rg,e1,cond_false]
 | cons x_ xs ih =>
  intro i fu from_ n hZ hfZ;obtain ⟨fu,rfl⟩:∃k,fu=k+1:=⟨fu-1,by simp at hfZ; omega⟩;have e0:=ug hZ;have e1:=Zy hN e0;have e2:=xX e0;have e3:=uI (t:=(.int .i64)) hZ;have e4:=tz e0 hL;have e5:∀(from_:Int) (n:xM.T),ya.l2 F k0 k1 fu from_ t10 t11 ((i:Int)+1) n=ya.l2.rg F k0 k1 t10 t11 xs ((i:Int)+1) from_ n:=fun from_ n=>by
   have:=ih (i+1) fu from_ n (wX hZ) (by simp at hfZ; omega);rwa [vj] at this
  simp only[ya.l2,ya.l2.body,ya.l2.rg,e1,e2,e3,e4,e5,cond_true]
def zE.l8.rg {R:Type} (F:Nat) (k0:zE.l8.K0 R) (k1:zE.l8.K1 R) (k2:zE.l8.K2 R) (t33:List zx.T) (t34:Int):List zx.T->Int->(List Bool)->(List Int)->(List Int)->(List Bool)->Option R
 | [],t35,fixed,types,pile,fix=>k2 fixed t33 t34 t35 (decide (t35<t34)) types pile fix
 | x_::xs,t35,fixed,types,pile,fix =>
  oB (vH.sh F x_.1) fun c_3 =>
   bif decide (c_3.1.2.1<0) then bif (zI pile.length (some (i64.wrap ((pile.length:Int)-x_.2.2.2.1))) none).1 then bif (zI fix.length (some (i64.wrap ((pile.length:Int)-x_.2.2.2.1))) none).1 then oB (zE.d63 F c_3.1.1 ((x_,(pile.take (zI pile.length (some (i64.wrap ((pile.length:Int)-x_.2.2.2.1))) none).2.2).drop (zI pile.length (some (i64.wrap ((pile.length:Int)-x_.2.2.2.1))) none).2.1,(fix.take (zI fix.length (some (i64.wrap ((pile.length:Int)-x_.2.2.2.1))) none).2.2).drop (zI fix.length (some (i64.wrap ((pile.length:Int)-x_.2.2.2.1))) none).2.1),())) fun c_4 =>
      bif (c_4.1.1==(-1)) then k0 ([]) t35 80
      else bif (x_.1==8) then bif idx (i64.wrap ((pile.length:Int)-x_.2.2.2.1)) fix.length then bif !(get .bool fix ((i64.wrap ((pile.length:Int)-x_.2.2.2.1)).toNat)) then bif idx (i64.wrap ((i64.wrap ((pile.length:Int)-x_.2.2.2.1))+1)) fix.length then bif !(get .bool fix ((i64.wrap ((i64.wrap ((pile.length:Int)-x_.2.2.2.1))+1)).toNat)) then k1 ([]) t35 81
          else bif Nat.ble (types.length+([c_4.1.1]:List Int).length) vc then bif (zI pile.length none (some (i64.wrap ((pile.length:Int)-x_.2.2.2.1)))).1 then bif Nat.ble ((zI pile.length none (some (i64.wrap ((pile.length:Int)-x_.2.2.2.1)))).2.2+([c_4.1.1]:List Int).length) vc then bif (zI fix.length none (some (i64.wrap ((pile.length:Int)-x_.2.2.2.1)))).1 then bif idx t35 fixed.length then bif Nat.ble ((zI fix.length none (some (i64.wrap ((pile.length:Int)-x_.2.2.2.1)))).2.2+([get .bool fixed t35.toNat]:List Bool).length) vc then zE.l8.rg F k0 k1 k2 t33 t34 xs (t35+1) fixed (types++([c_4.1.1]:List Int)) (pile.take (zI pile.length none (some (i64.wrap ((pile.length:Int)-x_.2.2.2.1)))).2.2++([c_4.1.1]:List Int)) (fix.take (zI fix.length none (some (i64.wrap ((pile.length:Int)-x_.2.2.2.1)))).2.2++([get .bool fixed t35.toNat]:List Bool))
               else none
              else none
             else none
            else none
           else none
          else none
         else none
        else bif Nat.ble (types.length+([c_4.1.1]:List Int).length) vc then bif (zI pile.length none (some (i64.wrap ((pile.length:Int)-x_.2.2.2.1)))).1 then bif Nat.ble ((zI pile.length none (some (i64.wrap ((pile.length:Int)-x_.2.2.2.1)))).2.2+([c_4.1.1]:List Int).length) vc then bif (zI fix.length none (some (i64.wrap ((pile.length:Int)-x_.2.2.2.1)))).1 then bif idx t35 fixed.length then bif Nat.ble ((zI fix.length none (some (i64.wrap ((pile.length:Int)-x_.2.2.2.1)))).2.2+([get .bool fixed t35.toNat]:List Bool).length) vc then zE.l8.rg F k0 k1 k2 t33 t34 xs (t35+1) fixed (types++([c_4.1.1]:List Int)) (pile.take (zI pile.length none (some (i64.wrap ((pile.length:Int)-x_.2.2.2.1)))).2.2++([c_4.1.1]:List Int)) (fix.take (zI fix.length none (some (i64.wrap ((pile.length:Int)-x_.2.2.2.1)))).2.2++([get .bool fixed t35.toNat]:List Bool))
             else none
            else none
           else none
          else none
         else none
        else none
       else none
      else bif Nat.ble (types.length+([c_4.1.1]:List Int).length) vc then bif (zI pile.length none (some (i64.wrap ((pile.length:Int)-x_.2.2.2.1)))).1 then bif Nat.ble ((zI pile.length none (some (i64.wrap ((pile.length:Int)-x_.2.2.2.1)))).2.2+([c_4.1.1]:List Int).length) vc then bif (zI fix.length none (some (i64.wrap ((pile.length:Int)-x_.2.2.2.1)))).1 then bif idx t35 fixed.length then bif Nat.ble ((zI fix.length none (some (i64.wrap ((pile.length:Int)-x_.2.2.2.1)))).2.2+([get .bool fixed t35.toNat]:List Bool).length) vc then zE.l8.rg F k0 k1 k2 t33 t34 xs (t35+1) fixed (types++([c_4.1.1]:List Int)) (pile.take (zI pile.length none (some (i64.wrap ((pile.length:Int)-x_.2.2.2.1)))).2.2++([c_4.1.1]:List Int)) (fix.take (zI fix.length none (some (i64.wrap ((pile.length:Int)-x_.2.2.2.1)))).2.2++([get .bool fixed t35.toNat]:List Bool))
           else none
          else none
         else none
        else none
       else none
      else none
     else none
    else none
   else bif (zI pile.length (some (i64.wrap ((pile.length:Int)-c_3.1.2.1))) none).1 then bif (zI fix.length (some (i64.wrap ((pile.length:Int)-c_3.1.2.1))) none).1 then oB (zE.d63 F c_3.1.1 ((x_,(pile.take (zI pile.length (some (i64.wrap ((pile.length:Int)-c_3.1.2.1))) none).2.2).drop (zI pile.length (some (i64.wrap ((pile.length:Int)-c_3.1.2.1))) none).2.1,(fix.take (zI fix.length (some (i64.wrap ((pile.length:Int)-c_3.1.2.1))) none).2.2).drop (zI fix.length (some (i64.wrap ((pile.length:Int)-c_3.1.2.1))) none).2.1),())) fun c_5 =>
     bif (c_5.1.1==(-1)) then k0 ([]) t35 80
     else bif (x_.1==8) then bif idx (i64.wrap ((pile.length:Int)-c_3.1.2.1)) fix.length then bif !(get .bool fix ((i64.wrap ((pile.length:Int)-c_3.1.2.1)).toNat)) then bif idx (i64.wrap ((i64.wrap ((pile.length:Int)-c_3.1.2.1))+1)) fix.length then bif !(get .bool fix ((i64.wrap ((i64.wrap ((pile.length:Int)-c_3.1.2.1))+1)).toNat)) then k1 ([]) t35 81
         else bif Nat.ble (types.length+([c_5.1.1]:List Int).length) vc then bif (zI pile.length none (some (i64.wrap ((pile.length:Int)-c_3.1.2.1)))).1 then bif Nat.ble ((zI pile.length none (some (i64.wrap ((pile.length:Int)-c_3.1.2.1)))).2.2+([c_5.1.1]:List Int).length) vc then bif (zI fix.length none (some (i64.wrap ((pile.length:Int)-c_3.1.2.1)))).1 then bif idx t35 fixed.length then bif Nat.ble ((zI fix.length none (some (i64.wrap ((pile.length:Int)-c_3.1.2.1)))).2.2+([get .bool fixed t35.toNat]:List Bool).length) vc then zE.l8.rg F k0 k1 k2 t33 t34 xs (t35+1) fixed (types++([c_5.1.1]:List Int)) (pile.take (zI pile.length none (some (i64.wrap ((pile.length:Int)-c_3.1.2.1)))).2.2++([c_5.1.1]:List Int)) (fix.take (zI fix.length none (some (i64.wrap ((pile.length:Int)-c_3.1.2.1)))).2.2++([get .bool fixed t35.toNat]:List Bool))
              else none
             else none
            else none
           else none
          else none
         else none
        else none
       else bif Nat.ble (types.length+([c_5.1.1]:List Int).length) vc then bif (zI pile.length none (some (i64.wrap ((pile.length:Int)-c_3.1.2.1)))).1 then bif Nat.ble ((zI pile.length none (some (i64.wrap ((pile.length:Int)-c_3.1.2.1)))).2.2+([c_5.1.1]:List Int).length) vc then bif (zI fix.length none (some (i64.wrap ((pile.length:Int)-c_3.1.2.1)))).1 then bif idx t35 fixed.length then bif Nat.ble ((zI fix.length none (some (i64.wrap ((pile.length:Int)-c_3.1.2.1)))).2.2+([get .bool fixed t35.toNat]:List Bool).length) vc then zE.l8.rg F k0 k1 k2 t33 t34 xs (t35+1) fixed (types++([c_5.1.1]:List Int)) (pile.take (zI pile.length none (some (i64.wrap ((pile.length:Int)-c_3.1.2.1)))).2.2++([c_5.1.1]:List Int)) (fix.take (zI fix.length none (some (i64.wrap ((pile.length:Int)-c_3.1.2.1)))).2.2++([get .bool fixed t35.toNat]:List Bool))
            else none
           else none
          else none
         else none
        else none
       else none
      else none
     else bif Nat.ble (types.length+([c_5.1.1]:List Int).length) vc then bif (zI pile.length none (some (i64.wrap ((pile.length:Int)-c_3.1.2.1)))).1 then bif Nat.ble ((zI pile.length none (some (i64.wrap ((pile.length:Int)-c_3.1.2.1)))).2.2+([c_5.1.1]:List Int).length) vc then bif (zI fix.length none (some (i64.wrap ((pile.length:Int)-c_3.1.2.1)))).1 then bif idx t35 fixed.length then bif Nat.ble ((zI fix.length none (some (i64.wrap ((pile.length:Int)-c_3.1.2.1)))).2.2+([get .bool fixed t35.toNat]:List Bool).length) vc then zE.l8.rg F k0 k1 k2 t33 t34 xs (t35+1) fixed (types++([c_5.1.1]:List Int)) (pile.take (zI pile.length none (some (i64.wrap ((pile.length:Int)-c_3.1.2.1)))).2.2++([c_5.1.1]:List Int)) (fix.take (zI fix.length none (some (i64.wrap ((pile.length:Int)-c_3.1.2.1)))).2.2++([get .bool fixed t35.toNat]:List Bool))
          else none
         else none
        else none
       else none
      else none
     else none
    else none
   else none
theorem zE.l8.rg_eq {R:Type} (F:Nat) (k0:zE.l8.K0 R) (k1:zE.l8.K1 R) (k2:zE.l8.K2 R) (t33:List zx.T) (t34:Int) (hN:t34=(t33.length:Int)) (hL:t33.length<9223372036854775807):∀(xs:List zx.T) (i fu:Nat) (fixed:List Bool) (types:List Int) (pile:List Int) (fix:List Bool),t33.drop i=xs->xs.length<fu->
  zE.l8 F k0 k1 k2 fu fixed t33 t34 (i:Int) types pile fix=zE.l8.rg F k0 k1 k2 t33 t34 xs (i:Int) fixed types pile fix:=by
 intro xs;induction xs with
 | nil =>
  intro i fu fixed types pile fix hZ hfZ;obtain ⟨fu,rfl⟩:∃k,fu=k+1:=⟨fu-1,by simp at hfZ; omega⟩;have e1:=Zz hN (tO hZ);simp only[zE.l8,zE.l8.body,zE.l8.rg,e1,cond_false]
 | cons x_ xs ih =>
  intro i fu fixed types pile fix hZ hfZ;obtain ⟨fu,rfl⟩:∃k,fu=k+1:=⟨fu-1,by simp at hfZ; omega⟩;have e0:=ug hZ;have e1:=Zy hN e0;have e2:=xX e0;have e3:=uI (t:=zx) hZ;have e4:=tz e0 hL;have e5:∀(fixed:List Bool) (types:List Int) (pile:List Int) (fix:List Bool),zE.l8 F k0 k1 k2 fu fixed t33 t34 ((i:Int)+1) types pile fix=zE.l8.rg F k0 k1 k2 t33 t34 xs ((i:Int)+1) fixed types pile fix:=fun fixed types pile fix=>by
   have:=ih (i+1) fu fixed types pile fix (wX hZ) (by simp at hfZ; omega);rwa [vj] at this
  simp only[zE.l8,zE.l8.body,zE.l8.rg,e1,e2,e3,e4,e5,cond_true]
def yi.l5.rg {R:Type} (F:Nat) (k0:yi.l5.K0 R) (x:List Int):List Int->Int->Int->Option R
 | [],i,m=>k0 x m i (decide (i<(x.length:Int)))
 | x_::xs,i,m =>
  yi.l5.rg F k0 x xs (i+1) (if x_>m then x_ else m)
theorem yi.l5.rg_eq {R:Type} (F:Nat) (k0:yi.l5.K0 R) (x:List Int) (hL:x.length<9223372036854775807):∀(xs:List Int) (i fu:Nat) (m:Int),x.drop i=xs->xs.length<fu->
  yi.l5 F k0 fu x m (i:Int)=yi.l5.rg F k0 x xs (i:Int) m:=by
 intro xs;induction xs with
 | nil =>
  intro i fu m hZ hfZ;obtain ⟨fu,rfl⟩:∃k,fu=k+1:=⟨fu-1,by simp at hfZ; omega⟩;have e1:=Zz rfl (tO hZ);simp only[yi.l5,yi.l5.body,yi.l5.rg,e1,cond_false]
 | cons x_ xs ih =>
  intro i fu m hZ hfZ;obtain ⟨fu,rfl⟩:∃k,fu=k+1:=⟨fu-1,by simp at hfZ; omega⟩;have e0:=ug hZ;have e1:=Zy rfl e0;have e2:=xX e0;have e3:=uI (t:=(.int .i64)) hZ;have e4:=tz e0 hL;have e5:∀(m:Int),yi.l5 F k0 fu x m ((i:Int)+1)=yi.l5.rg F k0 x xs ((i:Int)+1) m:=fun m=>by
   have:=ih (i+1) fu m (wX hZ) (by simp at hfZ; omega);rwa [vj] at this
  simp only[yi.l5,yi.l5.body,yi.l5.rg,e1,e2,e3,e4,e5,cond_true]
def yq.l6.rg {R:Type} (F:Nat) (k0:yq.l6.K0 R) (t20:List zx.T) (t21:Int):List zx.T->Int->(List Int)->Option R
 | [],t22,pile=>k0 t20 t21 t22 (decide (t22<t21)) pile
 | x_::xs,t22,pile =>
  oB (wK.sh F x_) fun c_2 =>
   bif decide (c_2.1.1>0) then bif (zI pile.length (some (i64.wrap ((pile.length:Int)-c_2.1.1))) none).1 then oB (yi.sh F ((List.take (zI pile.length (some (i64.wrap ((pile.length:Int)-c_2.1.1))) none).2.2 pile).drop (zI pile.length (some (i64.wrap ((pile.length:Int)-c_2.1.1))) none).2.1)) fun c_3 =>
     bif (zI pile.length none (some (i64.wrap ((pile.length:Int)-c_2.1.1)))).1 then bif (x_.1==15) then bif Nat.ble ((pile.take (zI pile.length none (some (i64.wrap ((pile.length:Int)-c_2.1.1)))).2.2).length+([i64.wrap (c_3.1.1+1)]:List Int).length) vc then yq.l6.rg F k0 t20 t21 xs (t22+1) ((pile.take (zI pile.length none (some (i64.wrap ((pile.length:Int)-c_2.1.1)))).2.2)++([i64.wrap (c_3.1.1+1)]:List Int))
       else none
      else bif Nat.ble ((pile.take (zI pile.length none (some (i64.wrap ((pile.length:Int)-c_2.1.1)))).2.2).length+([c_3.1.1]:List Int).length) vc then yq.l6.rg F k0 t20 t21 xs (t22+1) ((pile.take (zI pile.length none (some (i64.wrap ((pile.length:Int)-c_2.1.1)))).2.2)++([c_3.1.1]:List Int))
      else none
     else none
    else none
   else bif (x_.1==15) then bif Nat.ble (pile.length+([i64.wrap (0+1)]:List Int).length) vc then yq.l6.rg F k0 t20 t21 xs (t22+1) (pile++([i64.wrap (0+1)]:List Int))
    else none
   else bif Nat.ble (pile.length+([0]:List Int).length) vc then yq.l6.rg F k0 t20 t21 xs (t22+1) (pile++([0]:List Int))
   else none
theorem yq.l6.rg_eq {R:Type} (F:Nat) (k0:yq.l6.K0 R) (t20:List zx.T) (t21:Int) (hN:t21=(t20.length:Int)) (hL:t20.length<9223372036854775807):∀(xs:List zx.T) (i fu:Nat) (pile:List Int),t20.drop i=xs->xs.length<fu->
  yq.l6 F k0 fu t20 t21 (i:Int) pile=yq.l6.rg F k0 t20 t21 xs (i:Int) pile:=by
 intro xs;induction xs with
 | nil =>
  intro i fu pile hZ hfZ;obtain ⟨fu,rfl⟩:∃k,fu=k+1:=⟨fu-1,by simp at hfZ; omega⟩;have e1:=Zz hN (tO hZ);simp only[yq.l6,yq.l6.body,yq.l6.rg,e1,cond_false]
 | cons x_ xs ih =>
  intro i fu pile hZ hfZ;obtain ⟨fu,rfl⟩:∃k,fu=k+1:=⟨fu-1,by simp at hfZ; omega⟩;have e0:=ug hZ;have e1:=Zy hN e0;have e2:=xX e0;have e3:=uI (t:=zx) hZ;have e4:=tz e0 hL;have e5:∀(pile:List Int),yq.l6 F k0 fu t20 t21 ((i:Int)+1) pile=yq.l6.rg F k0 t20 t21 xs ((i:Int)+1) pile:=fun pile=>by
   have:=ih (i+1) fu pile (wX hZ) (by simp at hfZ; omega);rwa [vj] at this
  simp only[yq.l6,yq.l6.body,yq.l6.rg,e1,e2,e3,e4,e5,cond_true]
def zN.l3.rg {R:Type} (F:Nat) (k0:zN.l3.K0 R) (t13:List yp.T) (t14:Int):List yp.T->Int->(List yp.T)->Int->zj.T->zh.T->zh.T->zh.T->Option R
 | [],t15,tiers,rate,m,x,r6,ways=>k0 tiers rate t13 t14 t15 (decide (t15<t14)) m x r6 ways
 | x_::xs,t15,tiers,rate,m,x,r6,ways =>
  oB (v7.sh F x_.2) fun c_1 =>
   bif decide ((i64.wrap (t15+1))<(tiers.length:Int)) then oB (v7.sh F x_.2) fun c_2 =>
    oB (yQ.sh F c_2.1.1) fun c_3 =>
    bif idx (i64.wrap (t15+1)) tiers.length then oB (yQ.sh F (i64.wrap ((get yp tiers ((i64.wrap (t15+1)).toNat)).1-x_.1))) fun c_4 =>
     oB (xk.sh F m c_3.1.1 c_4.1.1) fun c_5 =>
     bif (((m.1.1==c_5.2.1.1.1)&&((m.1.2==c_5.2.1.1.2)&&true))&&true) then oB (xp.sh F c_5.2.1 ways c_5.1.1) fun c_6 =>
      bif (((c_5.2.1.1.1==c_6.2.1.1.1)&&((c_5.2.1.1.2==c_6.2.1.1.2)&&true))&&true) then zN.l3.rg F k0 t13 t14 xs (t15+1) tiers (if c_1.1.1>rate then c_1.1.1 else rate) c_6.2.1 x r6 c_6.1.1
      else none
     else none
    else none
   else zN.l3.rg F k0 t13 t14 xs (t15+1) tiers (if c_1.1.1>rate then c_1.1.1 else rate) m x r6 ways
theorem zN.l3.rg_eq {R:Type} (F:Nat) (k0:zN.l3.K0 R) (t13:List yp.T) (t14:Int) (hN:t14=(t13.length:Int)) (hL:t13.length<9223372036854775807):∀(xs:List yp.T) (i fu:Nat) (tiers:List yp.T) (rate:Int) (m:zj.T) (x:zh.T) (r6:zh.T) (ways:zh.T),t13.drop i=xs->xs.length<fu->
  zN.l3 F k0 fu tiers rate t13 t14 (i:Int) m x r6 ways=zN.l3.rg F k0 t13 t14 xs (i:Int) tiers rate m x r6 ways:=by
 intro xs;induction xs with
 | nil =>
  intro i fu tiers rate m x r6 ways hZ hfZ;obtain ⟨fu,rfl⟩:∃k,fu=k+1:=⟨fu-1,by simp at hfZ; omega⟩;have e1:=Zz hN (tO hZ);simp only[zN.l3,zN.l3.body,zN.l3.rg,e1,cond_false]
 | cons x_ xs ih =>
  intro i fu tiers rate m x r6 ways hZ hfZ;obtain ⟨fu,rfl⟩:∃k,fu=k+1:=⟨fu-1,by simp at hfZ; omega⟩;have e0:=ug hZ;have e1:=Zy hN e0;have e2:=xX e0;have e3:=uI (t:=yp) hZ;have e4:=tz e0 hL;have e5:∀(tiers:List yp.T) (rate:Int) (m:zj.T) (x:zh.T) (r6:zh.T) (ways:zh.T),zN.l3 F k0 fu tiers rate t13 t14 ((i:Int)+1) m x r6 ways=zN.l3.rg F k0 t13 t14 xs ((i:Int)+1) tiers rate m x r6 ways:=fun tiers rate m x r6 ways=>by
   have:=ih (i+1) fu tiers rate m x r6 ways (wX hZ) (by simp at hfZ; omega);rwa [vj] at this
  simp only[zN.l3,zN.l3.body,zN.l3.rg,e1,e2,e3,e4,e5,cond_true]
def xJ.l4.rg {R:Type} (F:Nat) (k0:xJ.l4.K0 R) (t11:List zh.T) (t12:Int):List zh.T->Int->Int->Int->Int->zh.T->Option R
 | [],t13,lo,hi,top,r2=>k0 lo hi top t11 t12 t13 (decide (t13<t12)) r2
 | x_::xs,t13,lo,hi,top,r2 =>
  oB (xy.sh F lo x_.2 0) fun c_1 =>
   oB (xy.sh F hi (u64.wrap x_.1) c_1.1.2.1) fun c_2 =>
   xJ.l4.rg F k0 t11 t12 xs (t13+1) c_1.1.1 c_2.1.1 (i64.wrap (top+(i64.wrap ((x_.1.fdiv (2^(min (63:Int).toNat IntKind.i64.bits)))+(i64.wrap c_2.1.2.1))))) r2
theorem xJ.l4.rg_eq {R:Type} (F:Nat) (k0:xJ.l4.K0 R) (t11:List zh.T) (t12:Int) (hN:t12=(t11.length:Int)) (hL:t11.length<9223372036854775807):∀(xs:List zh.T) (i fu:Nat) (lo:Int) (hi:Int) (top:Int) (r2:zh.T),t11.drop i=xs->xs.length<fu->
  xJ.l4 F k0 fu lo hi top t11 t12 (i:Int) r2=xJ.l4.rg F k0 t11 t12 xs (i:Int) lo hi top r2:=by
 intro xs;induction xs with
 | nil =>
  intro i fu lo hi top r2 hZ hfZ;obtain ⟨fu,rfl⟩:∃k,fu=k+1:=⟨fu-1,by simp at hfZ; omega⟩;have e1:=Zz hN (tO hZ);simp only[xJ.l4,xJ.l4.body,xJ.l4.rg,e1,cond_false]
 | cons x_ xs ih =>
  intro i fu lo hi top r2 hZ hfZ;obtain ⟨fu,rfl⟩:∃k,fu=k+1:=⟨fu-1,by simp at hfZ; omega⟩;have e0:=ug hZ;have e1:=Zy hN e0;have e2:=xX e0;have e3:=uI (t:=zh) hZ;have e4:=tz e0 hL;have e5:∀(lo:Int) (hi:Int) (top:Int) (r2:zh.T),xJ.l4 F k0 fu lo hi top t11 t12 ((i:Int)+1) r2=xJ.l4.rg F k0 t11 t12 xs ((i:Int)+1) lo hi top r2:=fun lo hi top r2=>by
   have:=ih (i+1) fu lo hi top r2 (wX hZ) (by simp at hfZ; omega);rwa [vj] at this
  simp only[xJ.l4,xJ.l4.body,xJ.l4.rg,e1,e2,e3,e4,e5,cond_true]
def zJ.l4.rg {R:Type} (F:Nat) (k0:zJ.l4.K0 R) (k1:zJ.l4.K1 R) (t17:List zx.T) (t18:Int):List zx.T->Int->yr.T->zj.T->(List zh.T)->(List zh.T)->Option R
 | [],t19,p,m,mags,pile=>k1 t17 t18 t19 (decide (t19<t18)) p m mags pile
 | x_::xs,t19,p,m,mags,pile =>
  oB (yX.sh F x_) fun c_1 =>
   bif (zI pile.length (some (i64.wrap ((pile.length:Int)-c_1.1.1))) none).1 then oB (z8.sh F m p x_ ((List.take (zI pile.length (some (i64.wrap ((pile.length:Int)-c_1.1.1))) none).2.2 pile).drop (zI pile.length (some (i64.wrap ((pile.length:Int)-c_1.1.1))) none).2.1)) fun c_2 =>
    bif c_2.2.1.2 then k0 ([]) t19
    else oB (vu.sh F x_ c_2.1.1) fun c_3 =>
    bif c_3.1.1 then k0 ([]) t19
    else bif Nat.ble (mags.length+([c_2.1.1]:List zh.T).length) vc then bif (zI pile.length none (some (i64.wrap ((pile.length:Int)-c_1.1.1)))).1 then bif Nat.ble ((zI pile.length none (some (i64.wrap ((pile.length:Int)-c_1.1.1)))).2.2+([c_2.1.1]:List zh.T).length) vc then zJ.l4.rg F k0 k1 t17 t18 xs (t19+1) p c_2.2.1 (mags++([c_2.1.1]:List zh.T)) (pile.take (zI pile.length none (some (i64.wrap ((pile.length:Int)-c_1.1.1)))).2.2++([c_2.1.1]:List zh.T))
      else none
     else none
    else none
   else none
theorem zJ.l4.rg_eq {R:Type} (F:Nat) (k0:zJ.l4.K0 R) (k1:zJ.l4.K1 R) (t17:List zx.T) (t18:Int) (hN:t18=(t17.length:Int)) (hL:t17.length<9223372036854775807):∀(xs:List zx.T) (i fu:Nat) (p:yr.T) (m:zj.T) (mags:List zh.T) (pile:List zh.T),t17.drop i=xs->xs.length<fu->
  zJ.l4 F k0 k1 fu t17 t18 (i:Int) p m mags pile=zJ.l4.rg F k0 k1 t17 t18 xs (i:Int) p m mags pile:=by
 intro xs;induction xs with
 | nil =>
  intro i fu p m mags pile hZ hfZ;obtain ⟨fu,rfl⟩:∃k,fu=k+1:=⟨fu-1,by simp at hfZ; omega⟩;have e1:=Zz hN (tO hZ);simp only[zJ.l4,zJ.l4.body,zJ.l4.rg,e1,cond_false]
 | cons x_ xs ih =>
  intro i fu p m mags pile hZ hfZ;obtain ⟨fu,rfl⟩:∃k,fu=k+1:=⟨fu-1,by simp at hfZ; omega⟩;have e0:=ug hZ;have e1:=Zy hN e0;have e2:=xX e0;have e3:=uI (t:=zx) hZ;have e4:=tz e0 hL;have e5:∀(p:yr.T) (m:zj.T) (mags:List zh.T) (pile:List zh.T),zJ.l4 F k0 k1 fu t17 t18 ((i:Int)+1) p m mags pile=zJ.l4.rg F k0 k1 t17 t18 xs ((i:Int)+1) p m mags pile:=fun p m mags pile=>by
   have:=ih (i+1) fu p m mags pile (wX hZ) (by simp at hfZ; omega);rwa [vj] at this
  simp only[zJ.l4,zJ.l4.body,zJ.l4.rg,e1,e2,e3,e4,e5,cond_true]
def zb.l19.rg {R:Type} (F:Nat) (k0:zb.l19.K0 R) (t102:List zf.T) (t103:Int):List zf.T->Int->(Nat×za.T)->(List (List zo.T))->Int->Int->Int->za.T->zf.T->(List zo.T)->(List Int)->(List zf.T)->Option R
 | [],t104,of,kids,runs,q,next,m,l,out,at_,lines=>k0 of kids runs q next t102 t103 t104 (decide (t104<t103)) m l out at_ lines
 | x_::xs,t104,of,kids,runs,q,next,m,l,out,at_,lines =>
  oB (wJ.sh F x_ m.2.2 q) fun c_4 =>
   zb.l19.rg F k0 t102 t103 xs (t104+1) of kids runs q (if c_4.1.1<next then c_4.1.1 else next) m l out at_ lines
theorem zb.l19.rg_eq {R:Type} (F:Nat) (k0:zb.l19.K0 R) (t102:List zf.T) (t103:Int) (hN:t103=(t102.length:Int)) (hL:t102.length<9223372036854775807):∀(xs:List zf.T) (i fu:Nat) (of:Nat×za.T) (kids:List (List zo.T)) (runs:Int) (q:Int) (next:Int) (m:za.T) (l:zf.T) (out:List zo.T) (at_:List Int) (lines:List zf.T),t102.drop i=xs->xs.length<fu->
  zb.l19 F k0 fu of kids runs q next t102 t103 (i:Int) m l out at_ lines=zb.l19.rg F k0 t102 t103 xs (i:Int) of kids runs q next m l out at_ lines:=by
 intro xs;induction xs with
 | nil =>
  intro i fu of kids runs q next m l out at_ lines hZ hfZ
  obtain ⟨fu,rfl⟩:∃k,fu=k+1:=⟨fu-1,by simp at hfZ; omega⟩;have e1:=Zz hN (tO hZ);simp only[zb.l19,zb.l19.body,zb.l19.rg,e1,cond_false]
 | cons x_ xs ih =>
  intro i fu of kids runs q next m l out at_ lines hZ hfZ
  obtain ⟨fu,rfl⟩:∃k,fu=k+1:=⟨fu-1,by simp at hfZ; omega⟩;have e0:=ug hZ;have e1:=Zy hN e0;have e2:=xX e0;have e3:=uI (t:=zf) hZ;have e4:=tz e0 hL;have e5:∀(of:Nat×za.T) (kids:List (List zo.T)) (runs:Int) (q:Int) (next:Int) (m:za.T) (l:zf.T) (out:List zo.T) (at_:List Int) (lines:List zf.T),zb.l19 F k0 fu of kids runs q next t102 t103 ((i:Int)+1) m l out at_ lines=zb.l19.rg F k0 t102 t103 xs ((i:Int)+1) of kids runs q next m l out at_ lines:=fun of kids runs q next m l out at_ lines=>by
   have:=ih (i+1) fu of kids runs q next m l out at_ lines (wX hZ) (by simp at hfZ; omega)
   rwa [vj] at this
  simp only[zb.l19,zb.l19.body,zb.l19.rg,e1,e2,e3,e4,e5,cond_true]
def zw.l5.rg {R:Type} (F:Nat) (k0:zw.l5.K0 R) (k1:zw.l5.K1 R) (t32:List (List zo.T)) (t33:Int):List (List zo.T)->Int->(Nat×za.T)->(List zo.T)->za.T->Option R
 | [],t34,of,made,m=>k1 of made t32 t33 t34 (decide (t34<t33)) m
 | x_::xs,t34,of,made,m =>
  oB (zb.sh F m of ([made,x_]:List (List zo.T))) fun c_2 =>
   bif !c_2.1.2.1 then k0 ([]) false
   else zw.l5.rg F k0 k1 t32 t33 xs (t34+1) of c_2.1.1 m
theorem zw.l5.rg_eq {R:Type} (F:Nat) (k0:zw.l5.K0 R) (k1:zw.l5.K1 R) (t32:List (List zo.T)) (t33:Int) (hN:t33=(t32.length:Int)) (hL:t32.length<9223372036854775807):∀(xs:List (List zo.T)) (i fu:Nat) (of:Nat×za.T) (made:List zo.T) (m:za.T),t32.drop i=xs->xs.length<fu->
  zw.l5 F k0 k1 fu of made t32 t33 (i:Int) m=zw.l5.rg F k0 k1 t32 t33 xs (i:Int) of made m:=by
 intro xs;induction xs with
 | nil =>
  intro i fu of made m hZ hfZ;obtain ⟨fu,rfl⟩:∃k,fu=k+1:=⟨fu-1,by simp at hfZ; omega⟩;have e1:=Zz hN (tO hZ);simp only[zw.l5,zw.l5.body,zw.l5.rg,e1,cond_false]
 | cons x_ xs ih =>
  intro i fu of made m hZ hfZ;obtain ⟨fu,rfl⟩:∃k,fu=k+1:=⟨fu-1,by simp at hfZ; omega⟩;have e0:=ug hZ;have e1:=Zy hN e0;have e2:=xX e0;have e3:=uI (t:=(.sl zo)) hZ;have e4:=tz e0 hL;have e5:∀(of:Nat×za.T) (made:List zo.T) (m:za.T),zw.l5 F k0 k1 fu of made t32 t33 ((i:Int)+1) m=zw.l5.rg F k0 k1 t32 t33 xs ((i:Int)+1) of made m:=fun of made m=>by
   have:=ih (i+1) fu of made m (wX hZ) (by simp at hfZ; omega);rwa [vj] at this
  simp only[zw.l5,zw.l5.body,zw.l5.rg,e1,e2,e3,e4,e5,cond_true]
def zQ.l9.rg {R:Type} (F:Nat) (k0:zQ.l9.K0 R) (k1:zQ.l9.K1 R) (t41:List zx.T) (t42:Int):List zx.T->Int->Int->yr.T->wY.T->zh.T->(List (List zo.T))->Option R
 | [],t43,scale,p,r2,unit,pile=>k1 scale t41 t42 t43 (decide (t43<t42)) p r2 unit pile
 | x_::xs,t43,scale,p,r2,unit,pile =>
  bif idx 0 p.2.1.length then bif decide (x_.1<=4) then oB (xq.sh F (x_,unit,(get wV p.2.1 0).2)) fun c_3 =>
     bif Nat.ble (pile.length+([c_3.1.1]:List (List zo.T)).length) vc then zQ.l9.rg F k0 k1 t41 t42 xs (t43+1) scale p r2 unit (pile++([c_3.1.1]:List (List zo.T)))
     else none
    else oB (xd.sh F (x_,unit,(get wV p.2.1 0).2)) fun c_4 =>
    bif (zI pile.length (some (i64.wrap ((pile.length:Int)-c_4.1.2.1))) none).1 then oB (zw.sh F (x_,unit,(get wV p.2.1 0).2) c_4.1.1 ((List.take (zI pile.length (some (i64.wrap ((pile.length:Int)-c_4.1.2.1))) none).2.2 pile).drop (zI pile.length (some (i64.wrap ((pile.length:Int)-c_4.1.2.1))) none).2.1)) fun c_5 =>
     bif !c_5.1.2.1 then k0 t43 120 (0,0,[])
     else bif (zI pile.length none (some (i64.wrap ((pile.length:Int)-c_4.1.2.1)))).1 then bif Nat.ble ((zI pile.length none (some (i64.wrap ((pile.length:Int)-c_4.1.2.1)))).2.2+([c_5.1.1]:List (List zo.T)).length) vc then zQ.l9.rg F k0 k1 t41 t42 xs (t43+1) scale p r2 unit (pile.take (zI pile.length none (some (i64.wrap ((pile.length:Int)-c_4.1.2.1)))).2.2++([c_5.1.1]:List (List zo.T)))
      else none
     else none
    else none
   else none
theorem zQ.l9.rg_eq {R:Type} (F:Nat) (k0:zQ.l9.K0 R) (k1:zQ.l9.K1 R) (t41:List zx.T) (t42:Int) (hN:t42=(t41.length:Int)) (hL:t41.length<9223372036854775807):∀(xs:List zx.T) (i fu:Nat) (scale:Int) (p:yr.T) (r2:wY.T) (unit:zh.T) (pile:List (List zo.T)),t41.drop i=xs->xs.length<fu->
  zQ.l9 F k0 k1 fu scale t41 t42 (i:Int) p r2 unit pile=zQ.l9.rg F k0 k1 t41 t42 xs (i:Int) scale p r2 unit pile:=by
 intro xs;induction xs with
 | nil =>
  intro i fu scale p r2 unit pile hZ hfZ;obtain ⟨fu,rfl⟩:∃k,fu=k+1:=⟨fu-1,by simp at hfZ; omega⟩;have e1:=Zz hN (tO hZ);simp only[zQ.l9,zQ.l9.body,zQ.l9.rg,e1,cond_false]
 | cons x_ xs ih =>
  intro i fu scale p r2 unit pile hZ hfZ;obtain ⟨fu,rfl⟩:∃k,fu=k+1:=⟨fu-1,by simp at hfZ; omega⟩;have e0:=ug hZ;have e1:=Zy hN e0;have e2:=xX e0;have e3:=uI (t:=zx) hZ;have e4:=tz e0 hL;have e5:∀(scale:Int) (p:yr.T) (r2:wY.T) (unit:zh.T) (pile:List (List zo.T)),zQ.l9 F k0 k1 fu scale t41 t42 ((i:Int)+1) p r2 unit pile=zQ.l9.rg F k0 k1 t41 t42 xs ((i:Int)+1) scale p r2 unit pile:=fun scale p r2 unit pile=>by
   have:=ih (i+1) fu scale p r2 unit pile (wX hZ) (by simp at hfZ; omega);rwa [vj] at this
  simp only[zQ.l9,zQ.l9.body,zQ.l9.rg,e1,e2,e3,e4,e5,cond_true]
def zZ.l3.rg {R:Type} (F:Nat) (k0:Bool->Option R) (k1:zZ.l3.K1 R) (l:List ByteArray):List ByteArray->Int->ByteArray->Option R
 | [],i,s=>k1 s l i (decide (i<(l.length:Int)))
 | x_::xs,i,s =>
  bif (x_.toList==s.toList) then k0 true
   else zZ.l3.rg F k0 k1 l xs (i+1) s
theorem zZ.l3.rg_eq {R:Type} (F:Nat) (k0:Bool->Option R) (k1:zZ.l3.K1 R) (l:List ByteArray) (hL:l.length<9223372036854775807):∀(xs:List ByteArray) (i fu:Nat) (s:ByteArray),l.drop i=xs->xs.length<fu->
  zZ.l3 F k0 k1 fu s l (i:Int)=zZ.l3.rg F k0 k1 l xs (i:Int) s:=by
 intro xs;induction xs with
 | nil =>
  intro i fu s hZ hfZ;obtain ⟨fu,rfl⟩:∃k,fu=k+1:=⟨fu-1,by simp at hfZ; omega⟩;have e1:=Zz rfl (tO hZ);simp only[zZ.l3,zZ.l3.body,zZ.l3.rg,e1,cond_false]
 | cons x_ xs ih =>
  intro i fu s hZ hfZ;obtain ⟨fu,rfl⟩:∃k,fu=k+1:=⟨fu-1,by simp at hfZ; omega⟩;have e0:=ug hZ;have e1:=Zy rfl e0;have e2:=xX e0;have e3:=uI (t:=.str) hZ;have e4:=tz e0 hL;have e5:∀(s:ByteArray),zZ.l3 F k0 k1 fu s l ((i:Int)+1)=zZ.l3.rg F k0 k1 l xs ((i:Int)+1) s:=fun s=>by
   have:=ih (i+1) fu s (wX hZ) (by simp at hfZ; omega);rwa [vj] at this
  simp only[zZ.l3,zZ.l3.body,zZ.l3.rg,e1,e2,e3,e4,e5,cond_true]
def zz.l2.rg {R:Type} (F:Nat) (k0:Int->Option R) (k1:zz.l2.K1 R) (l:List Int):List Int->Int->Option R
 | [],i=>k1 l i (decide (i<(l.length:Int)))
 | x_::xs,i =>
  bif idx 0 l.length then bif (x_ != (get (.int .i64) l 0)) then k0 (-1)
    else zz.l2.rg F k0 k1 l xs (i+1)
   else none
theorem zz.l2.rg_eq {R:Type} (F:Nat) (k0:Int->Option R) (k1:zz.l2.K1 R) (l:List Int) (hL:l.length<9223372036854775807):∀(xs:List Int) (i fu:Nat),l.drop i=xs->xs.length<fu->
  zz.l2 F k0 k1 fu l (i:Int)=zz.l2.rg F k0 k1 l xs (i:Int):=by
 intro xs;induction xs with
 | nil =>
  intro i fu hZ hfZ;obtain ⟨fu,rfl⟩:∃k,fu=k+1:=⟨fu-1,by simp at hfZ; omega⟩;have e1:=Zz rfl (tO hZ);simp only[zz.l2,zz.l2.body,zz.l2.rg,e1,cond_false]
 | cons x_ xs ih =>
  intro i fu hZ hfZ;obtain ⟨fu,rfl⟩:∃k,fu=k+1:=⟨fu-1,by simp at hfZ; omega⟩;have e0:=ug hZ;have e1:=Zy rfl e0;have e2:=xX e0;have e3:=uI (t:=(.int .i64)) hZ;have e4:=tz e0 hL;have e5:zz.l2 F k0 k1 fu l ((i:Int)+1)=zz.l2.rg F k0 k1 l xs ((i:Int)+1):=by
   have:=ih (i+1) fu (wX hZ) (by simp at hfZ; omega);rwa [vj] at this
  simp only[zz.l2,zz.l2.body,zz.l2.rg,e1,e2,e3,e4,e5,cond_true]
def zD.l4.rg {R:Type} (F:Nat) (k0:zD.l4.K0 R) (l:List yp.T):List yp.T->Int->Int->zj.T->zj.T->zj.T->zj.T->Option R
 | [],i,r,unit,x,r6,w=>k0 l r i (decide (i<(l.length:Int))) unit x r6 w
 | x_::xs,i,r,unit,x,r6,w =>
  oB (xK.sh F x_.2) fun c_2 =>
   bif decide (c_2.1.1>r) then bif true then oB (xK.sh F x_.2) fun c_3 =>
     bif decide (i<(i64.wrap ((l.length:Int)-1))) then bif true then oB (xK.sh F x_.2) fun c_4 =>
       oB (yu.sh F c_4.1.1) fun c_5 =>
       bif idx (i64.wrap (i+1)) l.length then bif true then oB (yu.sh F (i64.wrap ((get yp l ((i64.wrap (i+1)).toNat)).1-x_.1))) fun c_6 =>
         oB (yU.sh F c_5.1.1 c_6.1.1) fun c_7 =>
         oB (yE.sh F w c_7.1.1) fun c_8 =>
         zD.l4.rg F k0 l xs (i+1) c_3.1.1 unit x r6 c_8.1.1
        else none
       else none
      else none
     else zD.l4.rg F k0 l xs (i+1) c_3.1.1 unit x r6 w
    else none
   else bif decide (i<(i64.wrap ((l.length:Int)-1))) then bif true then oB (xK.sh F x_.2) fun c_9 =>
     oB (yu.sh F c_9.1.1) fun c_10 =>
     bif idx (i64.wrap (i+1)) l.length then bif true then oB (yu.sh F (i64.wrap ((get yp l ((i64.wrap (i+1)).toNat)).1-x_.1))) fun c_11 =>
       oB (yU.sh F c_10.1.1 c_11.1.1) fun c_12 =>
       oB (yE.sh F w c_12.1.1) fun c_13 =>
       zD.l4.rg F k0 l xs (i+1) r unit x r6 c_13.1.1
      else none
     else none
    else none
   else zD.l4.rg F k0 l xs (i+1) r unit x r6 w
theorem zD.l4.rg_eq {R:Type} (F:Nat) (k0:zD.l4.K0 R) (l:List yp.T) (hL:l.length<9223372036854775807):∀(xs:List yp.T) (i fu:Nat) (r:Int) (unit:zj.T) (x:zj.T) (r6:zj.T) (w:zj.T),l.drop i=xs->xs.length<fu->
  zD.l4 F k0 fu l r (i:Int) unit x r6 w=zD.l4.rg F k0 l xs (i:Int) r unit x r6 w:=by
 intro xs;induction xs with
 | nil =>
  intro i fu r unit x r6 w hZ hfZ;obtain ⟨fu,rfl⟩:∃k,fu=k+1:=⟨fu-1,by simp at hfZ; omega⟩;have e1:=Zz rfl (tO hZ);simp only[zD.l4,zD.l4.body,zD.l4.rg,e1,cond_false]
 | cons x_ xs ih =>
  intro i fu r unit x r6 w hZ hfZ;obtain ⟨fu,rfl⟩:∃k,fu=k+1:=⟨fu-1,by simp at hfZ; omega⟩;have e0:=ug hZ;have e1:=Zy rfl e0;have e2:=xX e0;have e3:=uI (t:=yp) hZ;have e4:=tz e0 hL;have e5:∀(r:Int) (unit:zj.T) (x:zj.T) (r6:zj.T) (w:zj.T),zD.l4 F k0 fu l r ((i:Int)+1) unit x r6 w=zD.l4.rg F k0 l xs ((i:Int)+1) r unit x r6 w:=fun r unit x r6 w=>by
   have:=ih (i+1) fu r unit x r6 w (wX hZ) (by simp at hfZ; omega);rwa [vj] at this
  simp only[zD.l4,zD.l4.body,zD.l4.rg,e1,e2,e3,e4,e5,cond_true]
def zA.l20.rg {R:Type} (F:Nat) (k0:zA.l20.K0 R) (l:List zj.T):List zj.T->Int->zx.T->zj.T->zj.T->Option R
 | [],i,n,r8,s=>k0 l i (decide (i<(l.length:Int))) n r8 s
 | x_::xs,i,n,r8,s =>
  oB (yE.sh F s x_) fun c_10 =>
   zA.l20.rg F k0 l xs (i+1) n r8 c_10.1.1
theorem zA.l20.rg_eq {R:Type} (F:Nat) (k0:zA.l20.K0 R) (l:List zj.T) (hL:l.length<9223372036854775807):∀(xs:List zj.T) (i fu:Nat) (n:zx.T) (r8:zj.T) (s:zj.T),l.drop i=xs->xs.length<fu->
  zA.l20 F k0 fu l (i:Int) n r8 s=zA.l20.rg F k0 l xs (i:Int) n r8 s:=by
 intro xs;induction xs with
 | nil =>
  intro i fu n r8 s hZ hfZ;obtain ⟨fu,rfl⟩:∃k,fu=k+1:=⟨fu-1,by simp at hfZ; omega⟩;have e1:=Zz rfl (tO hZ);simp only[zA.l20,zA.l20.body,zA.l20.rg,e1,cond_false]
 | cons x_ xs ih =>
  intro i fu n r8 s hZ hfZ;obtain ⟨fu,rfl⟩:∃k,fu=k+1:=⟨fu-1,by simp at hfZ; omega⟩;have e0:=ug hZ;have e1:=Zy rfl e0;have e2:=xX e0;have e3:=uI (t:=zj) hZ;have e4:=tz e0 hL;have e5:∀(n:zx.T) (r8:zj.T) (s:zj.T),zA.l20 F k0 fu l ((i:Int)+1) n r8 s=zA.l20.rg F k0 l xs ((i:Int)+1) n r8 s:=fun n r8 s=>by
   have:=ih (i+1) fu n r8 s (wX hZ) (by simp at hfZ; omega);rwa [vj] at this
  simp only[zA.l20,zA.l20.body,zA.l20.rg,e1,e2,e3,e4,e5,cond_true]
end Go.VS
