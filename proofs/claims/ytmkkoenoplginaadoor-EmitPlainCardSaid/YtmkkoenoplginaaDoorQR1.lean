import Derived.Test.YtmkkoenoplginaaDoorQP1
set_option linter.unusedVariables false
set_option linter.unusedSimpArgs false
set_option linter.unusedSectionVars false
set_option linter.unusedVariables false
set_option maxRecDepth 100000
namespace Go.VS
open Go IntKind
def zf.l2.rg {R:Type} (F:Nat) (k0:Int->Option R) (k1:zf.l2.K1 R) (s:List yZ.T) (t7:Int):List yZ.T->Int->(Nat×yZ.T)->Option R
 | [],t8,f=>k1 s (f.1,f.2) t7 t8 (decide (t8<t7))
 | x_::xs,t8,f =>
  oB (zf.d16 F (f.1+1) (x_,f.2,())) fun c_1 =>
   bif c_1.1.1 then k0 t8
   else zf.l2.rg F k0 k1 s t7 xs (t8+1) (f.1,f.2)
theorem zf.l2.rg_eq {R:Type} (F:Nat) (k0:Int->Option R) (k1:zf.l2.K1 R) (s:List yZ.T) (t7:Int) (hN:t7=(s.length:Int)) (hL:s.length<9223372036854775807):∀(xs:List yZ.T) (i fu:Nat) (f:Nat×yZ.T),s.drop i=xs->xs.length<fu->
  zf.l2 F k0 k1 fu s f t7 (i:Int)=zf.l2.rg F k0 k1 s t7 xs (i:Int) f:=by
 intro xs;induction xs with
 | nil =>
  intro i fu f hZ hfZ;obtain ⟨fu,rfl⟩:∃k,fu=k+1:=⟨fu-1,by simp at hfZ; omega⟩;have e1:=vK hN (wV hZ);simp only[zf.l2,zf.l2.body,zf.l2.rg,e1,cond_false]
 | cons x_ xs ih =>
  intro i fu f hZ hfZ;obtain ⟨fu,rfl⟩:∃k,fu=k+1:=⟨fu-1,by simp at hfZ; omega⟩;have e0:=wj hZ;have e1:=vJ hN e0;have e2:=xf e0;have e3:=wG (t:=yZ) hZ;have e4:=wi e0 hL;have e5:∀(f:Nat×yZ.T),zf.l2 F k0 k1 fu s f t7 ((i:Int)+1)=zf.l2.rg F k0 k1 s t7 xs ((i:Int)+1) f:=fun f=>by
   have:=ih (i+1) fu f (xK hZ) (by simp at hfZ; omega);rwa [xh] at this
  simp only[zf.l2,zf.l2.body,zf.l2.rg,e1,e2,e3,e4,e5,cond_true]
def zS.l6.rg {R:Type} (F:Nat) (k0:Int->Option R) (k1:Int->Option R) (k2:zS.l6.K2 R) (t21:List yZ.T) (t22:Int):List yZ.T->Int->zI.T->Option R
 | [],t23,p=>k2 t21 t22 t23 (decide (t23<t22)) p
 | x_::xs,t23,p =>
  oB (xv.sh F x_.1) fun c_2 =>
   bif !c_2.1.1 then k0 61
   else bif (zB p.2.1.length none (some t23)).1 then oB (zQ.sh F ((p.2.1.take (zB p.2.1.length none (some t23)).2.2).drop (zB p.2.1.length none (some t23)).2.1) (wd,x_)) fun c_3 =>
    bif c_3.1.1 then k0 61
    else bif decide (x_.2<1) then k1 50
    else bif decide (x_.2>1000000000000) then k1 50
    else zS.l6.rg F k0 k1 k2 t21 t22 xs (t23+1) p
   else none
theorem zS.l6.rg_eq {R:Type} (F:Nat) (k0:Int->Option R) (k1:Int->Option R) (k2:zS.l6.K2 R) (t21:List yZ.T) (t22:Int) (hN:t22=(t21.length:Int)) (hL:t21.length<9223372036854775807):∀(xs:List yZ.T) (i fu:Nat) (p:zI.T),t21.drop i=xs->xs.length<fu->
  zS.l6 F k0 k1 k2 fu t21 t22 (i:Int) p=zS.l6.rg F k0 k1 k2 t21 t22 xs (i:Int) p:=by
 intro xs;induction xs with
 | nil =>
  intro i fu p hZ hfZ;obtain ⟨fu,rfl⟩:∃k,fu=k+1:=⟨fu-1,by simp at hfZ; omega⟩;have e1:=vK hN (wV hZ);simp only[zS.l6,zS.l6.body,zS.l6.rg,e1,cond_false]
 | cons x_ xs ih =>
  intro i fu p hZ hfZ;obtain ⟨fu,rfl⟩:∃k,fu=k+1:=⟨fu-1,by simp at hfZ; omega⟩;have e0:=wj hZ;have e1:=vJ hN e0;have e2:=xf e0;have e3:=wG (t:=yZ) hZ;have e4:=wi e0 hL;have e5:∀(p:zI.T),zS.l6 F k0 k1 k2 fu t21 t22 ((i:Int)+1) p=zS.l6.rg F k0 k1 k2 t21 t22 xs ((i:Int)+1) p:=fun p=>by
   have:=ih (i+1) fu p (xK hZ) (by simp at hfZ; omega);rwa [xh] at this
  simp only[zS.l6,zS.l6.body,zS.l6.rg,e1,e2,e3,e4,e5,cond_true]
def zF.l4.rg {R:Type} (F:Nat) (k0:Bool->Option R) (k1:zF.l4.K1 R) (t20:List zy.T) (t21:Int):List zy.T->Int->(List zy.T)->Option R
 | [],t22,tiers=>k1 tiers t20 t21 t22 (decide (t22<t21))
 | x_::xs,t22,tiers =>
  bif decide (t22>0) then bif idx (i64.wrap (t22-1)) tiers.length then bif decide (x_.1<=(get zy tiers ((i64.wrap (t22-1)).toNat)).1) then k0 false
     else bif decide (x_.1>1000000000000) then k0 false
     else bif decide (x_.2<(-1000000000000)) then k0 false
     else bif decide (x_.2>1000000000000) then k0 false
     else zF.l4.rg F k0 k1 t20 t21 xs (t22+1) tiers
    else none
   else bif decide (x_.1>1000000000000) then k0 false
   else bif decide (x_.2<(-1000000000000)) then k0 false
   else bif decide (x_.2>1000000000000) then k0 false
   else zF.l4.rg F k0 k1 t20 t21 xs (t22+1) tiers
theorem zF.l4.rg_eq {R:Type} (F:Nat) (k0:Bool->Option R) (k1:zF.l4.K1 R) (t20:List zy.T) (t21:Int) (hN:t21=(t20.length:Int)) (hL:t20.length<9223372036854775807):∀(xs:List zy.T) (i fu:Nat) (tiers:List zy.T),t20.drop i=xs->xs.length<fu->
  zF.l4 F k0 k1 fu tiers t20 t21 (i:Int)=zF.l4.rg F k0 k1 t20 t21 xs (i:Int) tiers:=by
 intro xs;induction xs with
 | nil =>
  intro i fu tiers hZ hfZ;obtain ⟨fu,rfl⟩:∃k,fu=k+1:=⟨fu-1,by simp at hfZ; omega⟩;have e1:=vK hN (wV hZ);simp only[zF.l4,zF.l4.body,zF.l4.rg,e1,cond_false]
 | cons x_ xs ih =>
  intro i fu tiers hZ hfZ;obtain ⟨fu,rfl⟩:∃k,fu=k+1:=⟨fu-1,by simp at hfZ; omega⟩;have e0:=wj hZ;have e1:=vJ hN e0;have e2:=xf e0;have e3:=wG (t:=zy) hZ;have e4:=wi e0 hL;have e5:∀(tiers:List zy.T),zF.l4 F k0 k1 fu tiers t20 t21 ((i:Int)+1)=zF.l4.rg F k0 k1 t20 t21 xs ((i:Int)+1) tiers:=fun tiers=>by
   have:=ih (i+1) fu tiers (xK hZ) (by simp at hfZ; omega);rwa [xh] at this
  simp only[zF.l4,zF.l4.body,zF.l4.rg,e1,e2,e3,e4,e5,cond_true]
def zG.l8.rg {R:Type} (F:Nat) (k0:Int->Int->Option R) (k1:zG.l8.K1 R) (t19:List zo.T) (t20:Int):List zo.T->Int->Int->zI.T->Option R
 | [],t21,pile,p=>k1 pile t19 t20 t21 (decide (t21<t20)) p
 | x_::xs,t21,pile,p =>
  oB (zP.sh F x_ (p.2.1.length:Int) pile) fun c_2 =>
   bif (c_2.1.1 != 0) then k0 t21 c_2.1.1
   else oB (yD.sh F x_) fun c_3 =>
   zG.l8.rg F k0 k1 t19 t20 xs (t21+1) (i64.wrap (pile+(i64.wrap (1-c_3.1.1)))) p
theorem zG.l8.rg_eq {R:Type} (F:Nat) (k0:Int->Int->Option R) (k1:zG.l8.K1 R) (t19:List zo.T) (t20:Int) (hN:t20=(t19.length:Int)) (hL:t19.length<9223372036854775807):∀(xs:List zo.T) (i fu:Nat) (pile:Int) (p:zI.T),t19.drop i=xs->xs.length<fu->
  zG.l8 F k0 k1 fu pile t19 t20 (i:Int) p=zG.l8.rg F k0 k1 t19 t20 xs (i:Int) pile p:=by
 intro xs;induction xs with
 | nil =>
  intro i fu pile p hZ hfZ;obtain ⟨fu,rfl⟩:∃k,fu=k+1:=⟨fu-1,by simp at hfZ; omega⟩;have e1:=vK hN (wV hZ);simp only[zG.l8,zG.l8.body,zG.l8.rg,e1,cond_false]
 | cons x_ xs ih =>
  intro i fu pile p hZ hfZ;obtain ⟨fu,rfl⟩:∃k,fu=k+1:=⟨fu-1,by simp at hfZ; omega⟩;have e0:=wj hZ;have e1:=vJ hN e0;have e2:=xf e0;have e3:=wG (t:=zo) hZ;have e4:=wi e0 hL;have e5:∀(pile:Int) (p:zI.T),zG.l8 F k0 k1 fu pile t19 t20 ((i:Int)+1) p=zG.l8.rg F k0 k1 t19 t20 xs ((i:Int)+1) pile p:=fun pile p=>by
   have:=ih (i+1) fu pile p (xK hZ) (by simp at hfZ; omega);rwa [xh] at this
  simp only[zG.l8,zG.l8.body,zG.l8.rg,e1,e2,e3,e4,e5,cond_true]
def zw.l3.rg {R:Type} (F:Nat) (k0:zw.l3.K0 R) (t10:List zo.T) (t11:Int):List zo.T->Int->(List Int)->(List Int)->Option R
 | [],t12,list,pile=>k0 t10 t11 t12 (decide (t12<t11)) list pile
 | x_::xs,t12,list,pile =>
  oB (yD.sh F x_) fun c_1 =>
   bif decide (c_1.1.1>0) then bif idx (i64.wrap ((pile.length:Int)-c_1.1.1)) pile.length then bif (zB pile.length none (some (i64.wrap ((pile.length:Int)-c_1.1.1)))).1 then bif Nat.ble ((pile.take (zB pile.length none (some (i64.wrap ((pile.length:Int)-c_1.1.1)))).2.2).length+([get (.int .i64) pile ((i64.wrap ((pile.length:Int)-c_1.1.1)).toNat)]:List Int).length) xj then bif Nat.ble (list.length+([get (.int .i64) pile ((i64.wrap ((pile.length:Int)-c_1.1.1)).toNat)]:List Int).length) xj then zw.l3.rg F k0 t10 t11 xs (t12+1) (list++([get (.int .i64) pile ((i64.wrap ((pile.length:Int)-c_1.1.1)).toNat)]:List Int)) ((pile.take (zB pile.length none (some (i64.wrap ((pile.length:Int)-c_1.1.1)))).2.2)++([get (.int .i64) pile ((i64.wrap ((pile.length:Int)-c_1.1.1)).toNat)]:List Int))
       else none
      else none
     else none
    else none
   else bif Nat.ble (pile.length+([t12]:List Int).length) xj then bif Nat.ble (list.length+([t12]:List Int).length) xj then zw.l3.rg F k0 t10 t11 xs (t12+1) (list++([t12]:List Int)) (pile++([t12]:List Int))
    else none
   else none
theorem zw.l3.rg_eq {R:Type} (F:Nat) (k0:zw.l3.K0 R) (t10:List zo.T) (t11:Int) (hN:t11=(t10.length:Int)) (hL:t10.length<9223372036854775807):∀(xs:List zo.T) (i fu:Nat) (list:List Int) (pile:List Int),t10.drop i=xs->xs.length<fu->
  zw.l3 F k0 fu t10 t11 (i:Int) list pile=zw.l3.rg F k0 t10 t11 xs (i:Int) list pile:=by
 intro xs;induction xs with
 | nil =>
  intro i fu list pile hZ hfZ;obtain ⟨fu,rfl⟩:∃k,fu=k+1:=⟨fu-1,by simp at hfZ; omega⟩;have e1:=vK hN (wV hZ);simp only[zw.l3,zw.l3.body,zw.l3.rg,e1,cond_false]
 | cons x_ xs ih =>
  intro i fu list pile hZ hfZ;obtain ⟨fu,rfl⟩:∃k,fu=k+1:=⟨fu-1,by simp at hfZ; omega⟩;have e0:=wj hZ;have e1:=vJ hN e0;have e2:=xf e0;have e3:=wG (t:=zo) hZ;have e4:=wi e0 hL;have e5:∀(list:List Int) (pile:List Int),zw.l3 F k0 fu t10 t11 ((i:Int)+1) list pile=zw.l3.rg F k0 t10 t11 xs ((i:Int)+1) list pile:=fun list pile=>by
   have:=ih (i+1) fu list pile (xK hZ) (by simp at hfZ; omega);rwa [xh] at this
  simp only[zw.l3,zw.l3.body,zw.l3.rg,e1,e2,e3,e4,e5,cond_true]
def zq.l7.rg {R:Type} (F:Nat) (k0:zq.l7.K0 R) (t22:List zo.T) (t23:Int):List zo.T->Int->(List Int)->Int->(List Bool)->Option R
 | [],t24,list,last,out=>k0 list last t22 t23 t24 (decide (t24<t23)) out
 | x_::xs,t24,list,last,out =>
  bif (x_.1==3) then bif idx t24 list.length then bif idx t24 out.length then zq.l7.rg F k0 t22 t23 xs (t24+1) list t24 (out.set t24.toNat (decide (t24<(get (.int .i64) list t24.toNat))))
     else none
    else none
   else bif (x_.1==4) then bif idx t24 list.length then bif idx t24 out.length then zq.l7.rg F k0 t22 t23 xs (t24+1) list t24 (out.set t24.toNat (decide (t24<(get (.int .i64) list t24.toNat))))
     else none
    else none
   else bif idx t24 list.length then bif idx t24 out.length then zq.l7.rg F k0 t22 t23 xs (t24+1) list last (out.set t24.toNat (decide (last<(get (.int .i64) list t24.toNat))))
    else none
   else none
theorem zq.l7.rg_eq {R:Type} (F:Nat) (k0:zq.l7.K0 R) (t22:List zo.T) (t23:Int) (hN:t23=(t22.length:Int)) (hL:t22.length<9223372036854775807):∀(xs:List zo.T) (i fu:Nat) (list:List Int) (last:Int) (out:List Bool),t22.drop i=xs->xs.length<fu->
  zq.l7 F k0 fu list last t22 t23 (i:Int) out=zq.l7.rg F k0 t22 t23 xs (i:Int) list last out:=by
 intro xs;induction xs with
 | nil =>
  intro i fu list last out hZ hfZ;obtain ⟨fu,rfl⟩:∃k,fu=k+1:=⟨fu-1,by simp at hfZ; omega⟩;have e1:=vK hN (wV hZ);simp only[zq.l7,zq.l7.body,zq.l7.rg,e1,cond_false]
 | cons x_ xs ih =>
  intro i fu list last out hZ hfZ;obtain ⟨fu,rfl⟩:∃k,fu=k+1:=⟨fu-1,by simp at hfZ; omega⟩;have e0:=wj hZ;have e1:=vJ hN e0;have e2:=xf e0;have e3:=wG (t:=zo) hZ;have e4:=wi e0 hL;have e5:∀(list:List Int) (last:Int) (out:List Bool),zq.l7 F k0 fu list last t22 t23 ((i:Int)+1) out=zq.l7.rg F k0 t22 t23 xs ((i:Int)+1) list last out:=fun list last out=>by
   have:=ih (i+1) fu list last out (xK hZ) (by simp at hfZ; omega);rwa [xh] at this
  simp only[zq.l7,zq.l7.body,zq.l7.rg,e1,e2,e3,e4,e5,cond_true]
def zv.l2.rg {R:Type} (F:Nat) (k0:Int->Option R) (k1:zv.l2.K1 R) (t10:List Int) (t11:Int):List Int->Int->Int->ym.T->Option R
 | [],t12,from_,n=>k1 from_ t10 t11 t12 (decide (t12<t11)) n
 | x_::xs,t12,from_,n =>
  bif idx from_ n.2.1.length then bif (x_ != (get (.int .i64) n.2.1 from_.toNat)) then k0 (-1)
    else zv.l2.rg F k0 k1 t10 t11 xs (t12+1) from_ n
   else none
theorem zv.l2.rg_eq {R:Type} (F:Nat) (k0:Int->Option R) (k1:zv.l2.K1 R) (t10:List Int) (t11:Int) (hN:t11=(t10.length:Int)) (hL:t10.length<9223372036854775807):∀(xs:List Int) (i fu:Nat) (from_:Int) (n:ym.T),t10.drop i=xs->xs.length<fu->
  zv.l2 F k0 k1 fu from_ t10 t11 (i:Int) n=zv.l2.rg F k0 k1 t10 t11 xs (i:Int) from_ n:=by
 intro xs;induction xs with
 | nil =>
  intro i fu from_ n hZ hfZ;obtain ⟨fu,rfl⟩:∃k,fu=k+1:=⟨fu-1,by simp at hfZ; omega⟩;have e1:=vK hN (wV hZ);simp only[zv.l2,zv.l2.body,zv.l2.rg,e1,cond_false]
 | cons x_ xs ih =>
  intro i fu from_ n hZ hfZ;obtain ⟨fu,rfl⟩:∃k,fu=k+1:=⟨fu-1,by simp at hfZ; omega⟩;have e0:=wj hZ;have e1:=vJ hN e0;have e2:=xf e0;have e3:=wG (t:=(.int .i64)) hZ;have e4:=wi e0 hL;have e5:∀(from_:Int) (n:ym.T),zv.l2 F k0 k1 fu from_ t10 t11 ((i:Int)+1) n=zv.l2.rg F k0 k1 t10 t11 xs ((i:Int)+1) from_ n:=fun from_ n=>by
   have:=ih (i+1) fu from_ n (xK hZ) (by simp at hfZ; omega);rwa [xh] at this
  simp only[zv.l2,zv.l2.body,zv.l2.rg,e1,e2,e3,e4,e5,cond_true]
def zh.l8.rg {R:Type} (F:Nat) (k0:zh.l8.K0 R) (k1:zh.l8.K1 R) (k2:zh.l8.K2 R) (t33:List zo.T) (t34:Int):List zo.T->Int->(List Bool)->(List Int)->(List Int)->(List Bool)->Option R
 | [],t35,fixed,types,pile,fix=>k2 fixed t33 t34 t35 (decide (t35<t34)) types pile fix
 | x_::xs,t35,fixed,types,pile,fix =>
  oB (y7.sh F x_.1) fun c_3 =>
   bif decide (c_3.1.2.1<0) then bif (zB pile.length (some (i64.wrap ((pile.length:Int)-x_.2.2.2.1))) none).1 then bif (zB fix.length (some (i64.wrap ((pile.length:Int)-x_.2.2.2.1))) none).1 then oB (zh.d63 F c_3.1.1 ((x_,(pile.take (zB pile.length (some (i64.wrap ((pile.length:Int)-x_.2.2.2.1))) none).2.2).drop (zB pile.length (some (i64.wrap ((pile.length:Int)-x_.2.2.2.1))) none).2.1,(fix.take (zB fix.length (some (i64.wrap ((pile.length:Int)-x_.2.2.2.1))) none).2.2).drop (zB fix.length (some (i64.wrap ((pile.length:Int)-x_.2.2.2.1))) none).2.1),())) fun c_4 =>
      bif (c_4.1.1==(-1)) then k0 ([]) t35 80
      else bif (x_.1==8) then bif idx (i64.wrap ((pile.length:Int)-x_.2.2.2.1)) fix.length then bif !(get .bool fix ((i64.wrap ((pile.length:Int)-x_.2.2.2.1)).toNat)) then bif idx (i64.wrap ((i64.wrap ((pile.length:Int)-x_.2.2.2.1))+1)) fix.length then bif !(get .bool fix ((i64.wrap ((i64.wrap ((pile.length:Int)-x_.2.2.2.1))+1)).toNat)) then k1 ([]) t35 81
          else bif Nat.ble (types.length+([c_4.1.1]:List Int).length) xj then bif (zB pile.length none (some (i64.wrap ((pile.length:Int)-x_.2.2.2.1)))).1 then bif Nat.ble ((zB pile.length none (some (i64.wrap ((pile.length:Int)-x_.2.2.2.1)))).2.2+([c_4.1.1]:List Int).length) xj then bif (zB fix.length none (some (i64.wrap ((pile.length:Int)-x_.2.2.2.1)))).1 then bif idx t35 fixed.length then bif Nat.ble ((zB fix.length none (some (i64.wrap ((pile.length:Int)-x_.2.2.2.1)))).2.2+([get .bool fixed t35.toNat]:List Bool).length) xj then zh.l8.rg F k0 k1 k2 t33 t34 xs (t35+1) fixed (types++([c_4.1.1]:List Int)) (pile.take (zB pile.length none (some (i64.wrap ((pile.length:Int)-x_.2.2.2.1)))).2.2++([c_4.1.1]:List Int)) (fix.take (zB fix.length none (some (i64.wrap ((pile.length:Int)-x_.2.2.2.1)))).2.2++([get .bool fixed t35.toNat]:List Bool))
               else none
              else none
             else none
            else none
           else none
          else none
         else none
        else bif Nat.ble (types.length+([c_4.1.1]:List Int).length) xj then bif (zB pile.length none (some (i64.wrap ((pile.length:Int)-x_.2.2.2.1)))).1 then bif Nat.ble ((zB pile.length none (some (i64.wrap ((pile.length:Int)-x_.2.2.2.1)))).2.2+([c_4.1.1]:List Int).length) xj then bif (zB fix.length none (some (i64.wrap ((pile.length:Int)-x_.2.2.2.1)))).1 then bif idx t35 fixed.length then bif Nat.ble ((zB fix.length none (some (i64.wrap ((pile.length:Int)-x_.2.2.2.1)))).2.2+([get .bool fixed t35.toNat]:List Bool).length) xj then zh.l8.rg F k0 k1 k2 t33 t34 xs (t35+1) fixed (types++([c_4.1.1]:List Int)) (pile.take (zB pile.length none (some (i64.wrap ((pile.length:Int)-x_.2.2.2.1)))).2.2++([c_4.1.1]:List Int)) (fix.take (zB fix.length none (some (i64.wrap ((pile.length:Int)-x_.2.2.2.1)))).2.2++([get .bool fixed t35.toNat]:List Bool))
             else none
            else none
           else none
          else none
         else none
        else none
       else none
      else bif Nat.ble (types.length+([c_4.1.1]:List Int).length) xj then bif (zB pile.length none (some (i64.wrap ((pile.length:Int)-x_.2.2.2.1)))).1 then bif Nat.ble ((zB pile.length none (some (i64.wrap ((pile.length:Int)-x_.2.2.2.1)))).2.2+([c_4.1.1]:List Int).length) xj then bif (zB fix.length none (some (i64.wrap ((pile.length:Int)-x_.2.2.2.1)))).1 then bif idx t35 fixed.length then bif Nat.ble ((zB fix.length none (some (i64.wrap ((pile.length:Int)-x_.2.2.2.1)))).2.2+([get .bool fixed t35.toNat]:List Bool).length) xj then zh.l8.rg F k0 k1 k2 t33 t34 xs (t35+1) fixed (types++([c_4.1.1]:List Int)) (pile.take (zB pile.length none (some (i64.wrap ((pile.length:Int)-x_.2.2.2.1)))).2.2++([c_4.1.1]:List Int)) (fix.take (zB fix.length none (some (i64.wrap ((pile.length:Int)-x_.2.2.2.1)))).2.2++([get .bool fixed t35.toNat]:List Bool))
           else none
          else none
         else none
        else none
       else none
      else none
     else none
    else none
   else bif (zB pile.length (some (i64.wrap ((pile.length:Int)-c_3.1.2.1))) none).1 then bif (zB fix.length (some (i64.wrap ((pile.length:Int)-c_3.1.2.1))) none).1 then oB (zh.d63 F c_3.1.1 ((x_,(pile.take (zB pile.length (some (i64.wrap ((pile.length:Int)-c_3.1.2.1))) none).2.2).drop (zB pile.length (some (i64.wrap ((pile.length:Int)-c_3.1.2.1))) none).2.1,(fix.take (zB fix.length (some (i64.wrap ((pile.length:Int)-c_3.1.2.1))) none).2.2).drop (zB fix.length (some (i64.wrap ((pile.length:Int)-c_3.1.2.1))) none).2.1),())) fun c_5 =>
     bif (c_5.1.1==(-1)) then k0 ([]) t35 80
     else bif (x_.1==8) then bif idx (i64.wrap ((pile.length:Int)-c_3.1.2.1)) fix.length then bif !(get .bool fix ((i64.wrap ((pile.length:Int)-c_3.1.2.1)).toNat)) then bif idx (i64.wrap ((i64.wrap ((pile.length:Int)-c_3.1.2.1))+1)) fix.length then bif !(get .bool fix ((i64.wrap ((i64.wrap ((pile.length:Int)-c_3.1.2.1))+1)).toNat)) then k1 ([]) t35 81
         else bif Nat.ble (types.length+([c_5.1.1]:List Int).length) xj then bif (zB pile.length none (some (i64.wrap ((pile.length:Int)-c_3.1.2.1)))).1 then bif Nat.ble ((zB pile.length none (some (i64.wrap ((pile.length:Int)-c_3.1.2.1)))).2.2+([c_5.1.1]:List Int).length) xj then bif (zB fix.length none (some (i64.wrap ((pile.length:Int)-c_3.1.2.1)))).1 then bif idx t35 fixed.length then bif Nat.ble ((zB fix.length none (some (i64.wrap ((pile.length:Int)-c_3.1.2.1)))).2.2+([get .bool fixed t35.toNat]:List Bool).length) xj then zh.l8.rg F k0 k1 k2 t33 t34 xs (t35+1) fixed (types++([c_5.1.1]:List Int)) (pile.take (zB pile.length none (some (i64.wrap ((pile.length:Int)-c_3.1.2.1)))).2.2++([c_5.1.1]:List Int)) (fix.take (zB fix.length none (some (i64.wrap ((pile.length:Int)-c_3.1.2.1)))).2.2++([get .bool fixed t35.toNat]:List Bool))
              else none
             else none
            else none
           else none
          else none
         else none
        else none
       else bif Nat.ble (types.length+([c_5.1.1]:List Int).length) xj then bif (zB pile.length none (some (i64.wrap ((pile.length:Int)-c_3.1.2.1)))).1 then bif Nat.ble ((zB pile.length none (some (i64.wrap ((pile.length:Int)-c_3.1.2.1)))).2.2+([c_5.1.1]:List Int).length) xj then bif (zB fix.length none (some (i64.wrap ((pile.length:Int)-c_3.1.2.1)))).1 then bif idx t35 fixed.length then bif Nat.ble ((zB fix.length none (some (i64.wrap ((pile.length:Int)-c_3.1.2.1)))).2.2+([get .bool fixed t35.toNat]:List Bool).length) xj then zh.l8.rg F k0 k1 k2 t33 t34 xs (t35+1) fixed (types++([c_5.1.1]:List Int)) (pile.take (zB pile.length none (some (i64.wrap ((pile.length:Int)-c_3.1.2.1)))).2.2++([c_5.1.1]:List Int)) (fix.take (zB fix.length none (some (i64.wrap ((pile.length:Int)-c_3.1.2.1)))).2.2++([get .bool fixed t35.toNat]:List Bool))
            else none
           else none
          else none
         else none
        else none
       else none
      else none
     else bif Nat.ble (types.length+([c_5.1.1]:List Int).length) xj then bif (zB pile.length none (some (i64.wrap ((pile.length:Int)-c_3.1.2.1)))).1 then bif Nat.ble ((zB pile.length none (some (i64.wrap ((pile.length:Int)-c_3.1.2.1)))).2.2+([c_5.1.1]:List Int).length) xj then bif (zB fix.length none (some (i64.wrap ((pile.length:Int)-c_3.1.2.1)))).1 then bif idx t35 fixed.length then bif Nat.ble ((zB fix.length none (some (i64.wrap ((pile.length:Int)-c_3.1.2.1)))).2.2+([get .bool fixed t35.toNat]:List Bool).length) xj then zh.l8.rg F k0 k1 k2 t33 t34 xs (t35+1) fixed (types++([c_5.1.1]:List Int)) (pile.take (zB pile.length none (some (i64.wrap ((pile.length:Int)-c_3.1.2.1)))).2.2++([c_5.1.1]:List Int)) (fix.take (zB fix.length none (some (i64.wrap ((pile.length:Int)-c_3.1.2.1)))).2.2++([get .bool fixed t35.toNat]:List Bool))
          else none
         else none
        else none
       else none
      else none
     else none
    else none
   else none
theorem zh.l8.rg_eq {R:Type} (F:Nat) (k0:zh.l8.K0 R) (k1:zh.l8.K1 R) (k2:zh.l8.K2 R) (t33:List zo.T) (t34:Int) (hN:t34=(t33.length:Int)) (hL:t33.length<9223372036854775807):∀(xs:List zo.T) (i fu:Nat) (fixed:List Bool) (types:List Int) (pile:List Int) (fix:List Bool),t33.drop i=xs->xs.length<fu->
  zh.l8 F k0 k1 k2 fu fixed t33 t34 (i:Int) types pile fix=zh.l8.rg F k0 k1 k2 t33 t34 xs (i:Int) fixed types pile fix:=by
 intro xs;induction xs with
 | nil =>
  intro i fu fixed types pile fix hZ hfZ;obtain ⟨fu,rfl⟩:∃k,fu=k+1:=⟨fu-1,by simp at hfZ; omega⟩;have e1:=vK hN (wV hZ);simp only[zh.l8,zh.l8.body,zh.l8.rg,e1,cond_false]
 | cons x_ xs ih =>
  intro i fu fixed types pile fix hZ hfZ;obtain ⟨fu,rfl⟩:∃k,fu=k+1:=⟨fu-1,by simp at hfZ; omega⟩;have e0:=wj hZ;have e1:=vJ hN e0;have e2:=xf e0;have e3:=wG (t:=zo) hZ;have e4:=wi e0 hL;have e5:∀(fixed:List Bool) (types:List Int) (pile:List Int) (fix:List Bool),zh.l8 F k0 k1 k2 fu fixed t33 t34 ((i:Int)+1) types pile fix=zh.l8.rg F k0 k1 k2 t33 t34 xs ((i:Int)+1) fixed types pile fix:=fun fixed types pile fix=>by
   have:=ih (i+1) fu fixed types pile fix (xK hZ) (by simp at hfZ; omega);rwa [xh] at this
  simp only[zh.l8,zh.l8.body,zh.l8.rg,e1,e2,e3,e4,e5,cond_true]
def zx.l5.rg {R:Type} (F:Nat) (k0:zx.l5.K0 R) (x:List Int):List Int->Int->Int->Option R
 | [],i,m=>k0 x m i (decide (i<(x.length:Int)))
 | x_::xs,i,m =>
  zx.l5.rg F k0 x xs (i+1) (if x_>m then x_ else m)
theorem zx.l5.rg_eq {R:Type} (F:Nat) (k0:zx.l5.K0 R) (x:List Int) (hL:x.length<9223372036854775807):∀(xs:List Int) (i fu:Nat) (m:Int),x.drop i=xs->xs.length<fu->
  zx.l5 F k0 fu x m (i:Int)=zx.l5.rg F k0 x xs (i:Int) m:=by
 intro xs;induction xs with
 | nil =>
  intro i fu m hZ hfZ;obtain ⟨fu,rfl⟩:∃k,fu=k+1:=⟨fu-1,by simp at hfZ; omega⟩;have e1:=vK rfl (wV hZ);simp only[zx.l5,zx.l5.body,zx.l5.rg,e1,cond_false]
 | cons x_ xs ih =>
  intro i fu m hZ hfZ;obtain ⟨fu,rfl⟩:∃k,fu=k+1:=⟨fu-1,by simp at hfZ; omega⟩;have e0:=wj hZ;have e1:=vJ rfl e0;have e2:=xf e0;have e3:=wG (t:=(.int .i64)) hZ;have e4:=wi e0 hL;have e5:∀(m:Int),zx.l5 F k0 fu x m ((i:Int)+1)=zx.l5.rg F k0 x xs ((i:Int)+1) m:=fun m=>by
   have:=ih (i+1) fu m (xK hZ) (by simp at hfZ; omega);rwa [xh] at this
  simp only[zx.l5,zx.l5.body,zx.l5.rg,e1,e2,e3,e4,e5,cond_true]
def zz.l6.rg {R:Type} (F:Nat) (k0:zz.l6.K0 R) (t20:List zo.T) (t21:Int):List zo.T->Int->(List Int)->Option R
 | [],t22,pile=>k0 t20 t21 t22 (decide (t22<t21)) pile
 | x_::xs,t22,pile =>
  oB (yD.sh F x_) fun c_2 =>
   bif decide (c_2.1.1>0) then bif (zB pile.length (some (i64.wrap ((pile.length:Int)-c_2.1.1))) none).1 then oB (zx.sh F ((List.take (zB pile.length (some (i64.wrap ((pile.length:Int)-c_2.1.1))) none).2.2 pile).drop (zB pile.length (some (i64.wrap ((pile.length:Int)-c_2.1.1))) none).2.1)) fun c_3 =>
     bif (zB pile.length none (some (i64.wrap ((pile.length:Int)-c_2.1.1)))).1 then bif (x_.1==15) then bif Nat.ble ((pile.take (zB pile.length none (some (i64.wrap ((pile.length:Int)-c_2.1.1)))).2.2).length+([i64.wrap (c_3.1.1+1)]:List Int).length) xj then zz.l6.rg F k0 t20 t21 xs (t22+1) ((pile.take (zB pile.length none (some (i64.wrap ((pile.length:Int)-c_2.1.1)))).2.2)++([i64.wrap (c_3.1.1+1)]:List Int))
       else none
      else bif Nat.ble ((pile.take (zB pile.length none (some (i64.wrap ((pile.length:Int)-c_2.1.1)))).2.2).length+([c_3.1.1]:List Int).length) xj then zz.l6.rg F k0 t20 t21 xs (t22+1) ((pile.take (zB pile.length none (some (i64.wrap ((pile.length:Int)-c_2.1.1)))).2.2)++([c_3.1.1]:List Int))
      else none
     else none
    else none
   else bif (x_.1==15) then bif Nat.ble (pile.length+([i64.wrap (0+1)]:List Int).length) xj then zz.l6.rg F k0 t20 t21 xs (t22+1) (pile++([i64.wrap (0+1)]:List Int))
    else none
   else bif Nat.ble (pile.length+([0]:List Int).length) xj then zz.l6.rg F k0 t20 t21 xs (t22+1) (pile++([0]:List Int))
   else none
theorem zz.l6.rg_eq {R:Type} (F:Nat) (k0:zz.l6.K0 R) (t20:List zo.T) (t21:Int) (hN:t21=(t20.length:Int)) (hL:t20.length<9223372036854775807):∀(xs:List zo.T) (i fu:Nat) (pile:List Int),t20.drop i=xs->xs.length<fu->
  zz.l6 F k0 fu t20 t21 (i:Int) pile=zz.l6.rg F k0 t20 t21 xs (i:Int) pile:=by
 intro xs;induction xs with
 | nil =>
  intro i fu pile hZ hfZ;obtain ⟨fu,rfl⟩:∃k,fu=k+1:=⟨fu-1,by simp at hfZ; omega⟩;have e1:=vK hN (wV hZ);simp only[zz.l6,zz.l6.body,zz.l6.rg,e1,cond_false]
 | cons x_ xs ih =>
  intro i fu pile hZ hfZ;obtain ⟨fu,rfl⟩:∃k,fu=k+1:=⟨fu-1,by simp at hfZ; omega⟩;have e0:=wj hZ;have e1:=vJ hN e0;have e2:=xf e0;have e3:=wG (t:=zo) hZ;have e4:=wi e0 hL;have e5:∀(pile:List Int),zz.l6 F k0 fu t20 t21 ((i:Int)+1) pile=zz.l6.rg F k0 t20 t21 xs ((i:Int)+1) pile:=fun pile=>by
   have:=ih (i+1) fu pile (xK hZ) (by simp at hfZ; omega);rwa [xh] at this
  simp only[zz.l6,zz.l6.body,zz.l6.rg,e1,e2,e3,e4,e5,cond_true]
def zm.l3.rg {R:Type} (F:Nat) (k0:zm.l3.K0 R) (t13:List zy.T) (t14:Int):List zy.T->Int->(List zy.T)->Int->yq.T->zg.T->zg.T->zg.T->Option R
 | [],t15,tiers,rate,m,x,r6,ways=>k0 tiers rate t13 t14 t15 (decide (t15<t14)) m x r6 ways
 | x_::xs,t15,tiers,rate,m,x,r6,ways =>
  oB (xp.sh F x_.2) fun c_1 =>
   bif decide ((i64.wrap (t15+1))<(tiers.length:Int)) then oB (xp.sh F x_.2) fun c_2 =>
    oB (yt.sh F c_2.1.1) fun c_3 =>
    bif idx (i64.wrap (t15+1)) tiers.length then oB (yt.sh F (i64.wrap ((get zy tiers ((i64.wrap (t15+1)).toNat)).1-x_.1))) fun c_4 =>
     oB (zT.sh F m c_3.1.1 c_4.1.1) fun c_5 =>
     bif (((m.1.1==c_5.2.1.1.1)&&((m.1.2==c_5.2.1.1.2)&&true))&&true) then oB (zY.sh F c_5.2.1 ways c_5.1.1) fun c_6 =>
      bif (((c_5.2.1.1.1==c_6.2.1.1.1)&&((c_5.2.1.1.2==c_6.2.1.1.2)&&true))&&true) then zm.l3.rg F k0 t13 t14 xs (t15+1) tiers (if c_1.1.1>rate then c_1.1.1 else rate) c_6.2.1 x r6 c_6.1.1
      else none
     else none
    else none
   else zm.l3.rg F k0 t13 t14 xs (t15+1) tiers (if c_1.1.1>rate then c_1.1.1 else rate) m x r6 ways
theorem zm.l3.rg_eq {R:Type} (F:Nat) (k0:zm.l3.K0 R) (t13:List zy.T) (t14:Int) (hN:t14=(t13.length:Int)) (hL:t13.length<9223372036854775807):∀(xs:List zy.T) (i fu:Nat) (tiers:List zy.T) (rate:Int) (m:yq.T) (x:zg.T) (r6:zg.T) (ways:zg.T),t13.drop i=xs->xs.length<fu->
  zm.l3 F k0 fu tiers rate t13 t14 (i:Int) m x r6 ways=zm.l3.rg F k0 t13 t14 xs (i:Int) tiers rate m x r6 ways:=by
 intro xs;induction xs with
 | nil =>
  intro i fu tiers rate m x r6 ways hZ hfZ;obtain ⟨fu,rfl⟩:∃k,fu=k+1:=⟨fu-1,by simp at hfZ; omega⟩;have e1:=vK hN (wV hZ);simp only[zm.l3,zm.l3.body,zm.l3.rg,e1,cond_false]
 | cons x_ xs ih =>
  intro i fu tiers rate m x r6 ways hZ hfZ;obtain ⟨fu,rfl⟩:∃k,fu=k+1:=⟨fu-1,by simp at hfZ; omega⟩;have e0:=wj hZ;have e1:=vJ hN e0;have e2:=xf e0;have e3:=wG (t:=zy) hZ;have e4:=wi e0 hL;have e5:∀(tiers:List zy.T) (rate:Int) (m:yq.T) (x:zg.T) (r6:zg.T) (ways:zg.T),zm.l3 F k0 fu tiers rate t13 t14 ((i:Int)+1) m x r6 ways=zm.l3.rg F k0 t13 t14 xs ((i:Int)+1) tiers rate m x r6 ways:=fun tiers rate m x r6 ways=>by
   have:=ih (i+1) fu tiers rate m x r6 ways (xK hZ) (by simp at hfZ; omega);rwa [xh] at this
  simp only[zm.l3,zm.l3.body,zm.l3.rg,e1,e2,e3,e4,e5,cond_true]
def yi.l4.rg {R:Type} (F:Nat) (k0:yi.l4.K0 R) (t11:List zg.T) (t12:Int):List zg.T->Int->Int->Int->Int->zg.T->Option R
 | [],t13,lo,hi,top,r2=>k0 lo hi top t11 t12 t13 (decide (t13<t12)) r2
 | x_::xs,t13,lo,hi,top,r2 =>
  oB (z8.sh F lo x_.2 0) fun c_1 =>
   oB (z8.sh F hi (u64.wrap x_.1) c_1.1.2.1) fun c_2 =>
   yi.l4.rg F k0 t11 t12 xs (t13+1) c_1.1.1 c_2.1.1 (i64.wrap (top+(i64.wrap ((x_.1.fdiv (2^(min (63:Int).toNat IntKind.i64.bits)))+(i64.wrap c_2.1.2.1))))) r2
theorem yi.l4.rg_eq {R:Type} (F:Nat) (k0:yi.l4.K0 R) (t11:List zg.T) (t12:Int) (hN:t12=(t11.length:Int)) (hL:t11.length<9223372036854775807):∀(xs:List zg.T) (i fu:Nat) (lo:Int) (hi:Int) (top:Int) (r2:zg.T),t11.drop i=xs->xs.length<fu->
  yi.l4 F k0 fu lo hi top t11 t12 (i:Int) r2=yi.l4.rg F k0 t11 t12 xs (i:Int) lo hi top r2:=by
 intro xs;induction xs with
 | nil =>
  intro i fu lo hi top r2 hZ hfZ;obtain ⟨fu,rfl⟩:∃k,fu=k+1:=⟨fu-1,by simp at hfZ; omega⟩;have e1:=vK hN (wV hZ);simp only[yi.l4,yi.l4.body,yi.l4.rg,e1,cond_false]
 | cons x_ xs ih =>
  intro i fu lo hi top r2 hZ hfZ;obtain ⟨fu,rfl⟩:∃k,fu=k+1:=⟨fu-1,by simp at hfZ; omega⟩;have e0:=wj hZ;have e1:=vJ hN e0;have e2:=xf e0;have e3:=wG (t:=zg) hZ;have e4:=wi e0 hL;have e5:∀(lo:Int) (hi:Int) (top:Int) (r2:zg.T),yi.l4 F k0 fu lo hi top t11 t12 ((i:Int)+1) r2=yi.l4.rg F k0 t11 t12 xs ((i:Int)+1) lo hi top r2:=fun lo hi top r2=>by
   have:=ih (i+1) fu lo hi top r2 (xK hZ) (by simp at hfZ; omega);rwa [xh] at this
  simp only[yi.l4,yi.l4.body,yi.l4.rg,e1,e2,e3,e4,e5,cond_true]
def zl.l4.rg {R:Type} (F:Nat) (k0:zl.l4.K0 R) (k1:zl.l4.K1 R) (t17:List zo.T) (t18:Int):List zo.T->Int->zI.T->yq.T->(List zg.T)->(List zg.T)->Option R
 | [],t19,p,m,mags,pile=>k1 t17 t18 t19 (decide (t19<t18)) p m mags pile
 | x_::xs,t19,p,m,mags,pile =>
  oB (zO.sh F x_) fun c_1 =>
   bif (zB pile.length (some (i64.wrap ((pile.length:Int)-c_1.1.1))) none).1 then oB (zu.sh F m p x_ ((List.take (zB pile.length (some (i64.wrap ((pile.length:Int)-c_1.1.1))) none).2.2 pile).drop (zB pile.length (some (i64.wrap ((pile.length:Int)-c_1.1.1))) none).2.1)) fun c_2 =>
    bif c_2.2.1.2 then k0 ([]) t19
    else oB (yW.sh F x_ c_2.1.1) fun c_3 =>
    bif c_3.1.1 then k0 ([]) t19
    else bif Nat.ble (mags.length+([c_2.1.1]:List zg.T).length) xj then bif (zB pile.length none (some (i64.wrap ((pile.length:Int)-c_1.1.1)))).1 then bif Nat.ble ((zB pile.length none (some (i64.wrap ((pile.length:Int)-c_1.1.1)))).2.2+([c_2.1.1]:List zg.T).length) xj then zl.l4.rg F k0 k1 t17 t18 xs (t19+1) p c_2.2.1 (mags++([c_2.1.1]:List zg.T)) (pile.take (zB pile.length none (some (i64.wrap ((pile.length:Int)-c_1.1.1)))).2.2++([c_2.1.1]:List zg.T))
      else none
     else none
    else none
   else none
theorem zl.l4.rg_eq {R:Type} (F:Nat) (k0:zl.l4.K0 R) (k1:zl.l4.K1 R) (t17:List zo.T) (t18:Int) (hN:t18=(t17.length:Int)) (hL:t17.length<9223372036854775807):∀(xs:List zo.T) (i fu:Nat) (p:zI.T) (m:yq.T) (mags:List zg.T) (pile:List zg.T),t17.drop i=xs->xs.length<fu->
  zl.l4 F k0 k1 fu t17 t18 (i:Int) p m mags pile=zl.l4.rg F k0 k1 t17 t18 xs (i:Int) p m mags pile:=by
 intro xs;induction xs with
 | nil =>
  intro i fu p m mags pile hZ hfZ;obtain ⟨fu,rfl⟩:∃k,fu=k+1:=⟨fu-1,by simp at hfZ; omega⟩;have e1:=vK hN (wV hZ);simp only[zl.l4,zl.l4.body,zl.l4.rg,e1,cond_false]
 | cons x_ xs ih =>
  intro i fu p m mags pile hZ hfZ;obtain ⟨fu,rfl⟩:∃k,fu=k+1:=⟨fu-1,by simp at hfZ; omega⟩;have e0:=wj hZ;have e1:=vJ hN e0;have e2:=xf e0;have e3:=wG (t:=zo) hZ;have e4:=wi e0 hL;have e5:∀(p:zI.T) (m:yq.T) (mags:List zg.T) (pile:List zg.T),zl.l4 F k0 k1 fu t17 t18 ((i:Int)+1) p m mags pile=zl.l4.rg F k0 k1 t17 t18 xs ((i:Int)+1) p m mags pile:=fun p m mags pile=>by
   have:=ih (i+1) fu p m mags pile (xK hZ) (by simp at hfZ; omega);rwa [xh] at this
  simp only[zl.l4,zl.l4.body,zl.l4.rg,e1,e2,e3,e4,e5,cond_true]
def zk.l1.rg {R:Type} (me:za.M) (F:Nat) (k0:zk.l1.K0 R) (t6:List Int) (t7:Int):List Int->Int->(zI.T×(List Int)×zg.T×zD.T×List Nat)->(List Int)->(List zg.T)->(List (List zy.T))->(List zK.T)->Option R
 | [],t8,m,m_9,m_10,m_11,m_12=>k0 t6 t7 t8 (decide (t8<t7)) (m.1,m.2.1,m.2.2.1,(m.2.2.2.1.1,m.2.2.2.1.2.1,[],[],[],[]),m.2.2.2.2) m_9 m_10 m_11 m_12
 | x_::xs,t8,m,m_9,m_10,m_11,m_12 =>
  oB (me (m.1,m.2.1,m.2.2.1,(m.2.2.2.1.1,m.2.2.2.1.2.1,m_9,m_10,m_11,m_12),m.2.2.2.2) x_) fun c_1 =>
   zk.l1.rg me F k0 t6 t7 xs (t8+1) (c_1.2.1.1,c_1.2.1.2.1,c_1.2.1.2.2.1,(c_1.2.1.2.2.2.1.1,c_1.2.1.2.2.2.1.2.1,[],[],[],[]),c_1.2.1.2.2.2.2) c_1.2.1.2.2.2.1.2.2.1 c_1.2.1.2.2.2.1.2.2.2.1 c_1.2.1.2.2.2.1.2.2.2.2.1 c_1.2.1.2.2.2.1.2.2.2.2.2
theorem zk.l1.rg_eq {R:Type} (me:za.M) (F:Nat) (k0:zk.l1.K0 R) (t6:List Int) (t7:Int) (hN:t7=(t6.length:Int)) (hL:t6.length<9223372036854775807):∀(xs:List Int) (i fu:Nat) (m:zI.T×(List Int)×zg.T×zD.T×List Nat) (m_9:List Int) (m_10:List zg.T) (m_11:List (List zy.T)) (m_12:List zK.T),t6.drop i=xs->xs.length<fu->
  zk.l1 me F k0 fu t6 t7 (i:Int) m m_9 m_10 m_11 m_12=zk.l1.rg me F k0 t6 t7 xs (i:Int) m m_9 m_10 m_11 m_12:=by
 intro xs;induction xs with
 | nil =>
  intro i fu m m_9 m_10 m_11 m_12 hZ hfZ;obtain ⟨fu,rfl⟩:∃k,fu=k+1:=⟨fu-1,by simp at hfZ; omega⟩;have e1:=vK hN (wV hZ);simp only[zk.l1,zk.l1.body,zk.l1.rg,e1,cond_false]
 | cons x_ xs ih =>
  intro i fu m m_9 m_10 m_11 m_12 hZ hfZ;obtain ⟨fu,rfl⟩:∃k,fu=k+1:=⟨fu-1,by simp at hfZ; omega⟩;have e0:=wj hZ;have e1:=vJ hN e0;have e2:=xf e0;have e3:=wG (t:=(.int .i64)) hZ;have e4:=wi e0 hL;have e5:∀(m:zI.T×(List Int)×zg.T×zD.T×List Nat) (m_9:List Int) (m_10:List zg.T) (m_11:List (List zy.T)) (m_12:List zK.T),zk.l1 me F k0 fu t6 t7 ((i:Int)+1) m m_9 m_10 m_11 m_12=zk.l1.rg me F k0 t6 t7 xs ((i:Int)+1) m m_9 m_10 m_11 m_12:=fun m m_9 m_10 m_11 m_12=>by
   have:=ih (i+1) fu m m_9 m_10 m_11 m_12 (xK hZ) (by simp at hfZ; omega);rwa [xh] at this
  simp only[zk.l1,zk.l1.body,zk.l1.rg,e1,e2,e3,e4,e5,cond_true]
def zp.l4.rg {R:Type} (F:Nat) (k0:Bool->Option R) (k1:zp.l4.K1 R) (s1:List zy.T) (t12:Int):List zy.T->Int->(List zy.T)->Option R
 | [],t13,s2=>k1 s1 s2 t12 t13 (decide (t13<t12))
 | x_::xs,t13,s2 =>
  bif idx t13 s2.length then bif !((x_.1==(get zy s2 t13.toNat).1)&&((x_.2==(get zy s2 t13.toNat).2)&&true)) then k0 false
    else zp.l4.rg F k0 k1 s1 t12 xs (t13+1) s2
   else none
theorem zp.l4.rg_eq {R:Type} (F:Nat) (k0:Bool->Option R) (k1:zp.l4.K1 R) (s1:List zy.T) (t12:Int) (hN:t12=(s1.length:Int)) (hL:s1.length<9223372036854775807):∀(xs:List zy.T) (i fu:Nat) (s2:List zy.T),s1.drop i=xs->xs.length<fu->
  zp.l4 F k0 k1 fu s1 s2 t12 (i:Int)=zp.l4.rg F k0 k1 s1 t12 xs (i:Int) s2:=by
 intro xs;induction xs with
 | nil =>
  intro i fu s2 hZ hfZ;obtain ⟨fu,rfl⟩:∃k,fu=k+1:=⟨fu-1,by simp at hfZ; omega⟩;have e1:=vK hN (wV hZ);simp only[zp.l4,zp.l4.body,zp.l4.rg,e1,cond_false]
 | cons x_ xs ih =>
  intro i fu s2 hZ hfZ;obtain ⟨fu,rfl⟩:∃k,fu=k+1:=⟨fu-1,by simp at hfZ; omega⟩;have e0:=wj hZ;have e1:=vJ hN e0;have e2:=xf e0;have e3:=wG (t:=zy) hZ;have e4:=wi e0 hL;have e5:∀(s2:List zy.T),zp.l4 F k0 k1 fu s1 s2 t12 ((i:Int)+1)=zp.l4.rg F k0 k1 s1 t12 xs ((i:Int)+1) s2:=fun s2=>by
   have:=ih (i+1) fu s2 (xK hZ) (by simp at hfZ; omega);rwa [xh] at this
  simp only[zp.l4,zp.l4.body,zp.l4.rg,e1,e2,e3,e4,e5,cond_true]
def zd.l2.rg {R:Type} (F:Nat) (k0:Int->Option R) (k1:zd.l2.K1 R) (s:List (List zy.T)) (t7:Int):List (List zy.T)->Int->(Nat×(List zy.T))->Option R
 | [],t8,f=>k1 s (f.1,f.2) t7 t8 (decide (t8<t7))
 | x_::xs,t8,f =>
  oB (zd.d16 F (f.1+1) (x_,f.2,())) fun c_1 =>
   bif c_1.1.1 then k0 t8
   else zd.l2.rg F k0 k1 s t7 xs (t8+1) (f.1,f.2)
theorem zd.l2.rg_eq {R:Type} (F:Nat) (k0:Int->Option R) (k1:zd.l2.K1 R) (s:List (List zy.T)) (t7:Int) (hN:t7=(s.length:Int)) (hL:s.length<9223372036854775807):∀(xs:List (List zy.T)) (i fu:Nat) (f:Nat×(List zy.T)),s.drop i=xs->xs.length<fu->
  zd.l2 F k0 k1 fu s f t7 (i:Int)=zd.l2.rg F k0 k1 s t7 xs (i:Int) f:=by
 intro xs;induction xs with
 | nil =>
  intro i fu f hZ hfZ;obtain ⟨fu,rfl⟩:∃k,fu=k+1:=⟨fu-1,by simp at hfZ; omega⟩;have e1:=vK hN (wV hZ);simp only[zd.l2,zd.l2.body,zd.l2.rg,e1,cond_false]
 | cons x_ xs ih =>
  intro i fu f hZ hfZ;obtain ⟨fu,rfl⟩:∃k,fu=k+1:=⟨fu-1,by simp at hfZ; omega⟩;have e0:=wj hZ;have e1:=vJ hN e0;have e2:=xf e0;have e3:=wG (t:=(.sl zy)) hZ;have e4:=wi e0 hL;have e5:∀(f:Nat×(List zy.T)),zd.l2 F k0 k1 fu s f t7 ((i:Int)+1)=zd.l2.rg F k0 k1 s t7 xs ((i:Int)+1) f:=fun f=>by
   have:=ih (i+1) fu f (xK hZ) (by simp at hfZ; omega);rwa [xh] at this
  simp only[zd.l2,zd.l2.body,zd.l2.rg,e1,e2,e3,e4,e5,cond_true]
def zn.l2.rg {R:Type} (F:Nat) (k0:Int->Option R) (k1:zn.l2.K1 R) (s:List zg.T) (t7:Int):List zg.T->Int->zg.T->Option R
 | [],t8,v=>k1 s t7 t8 (decide (t8<t7)) v
 | x_::xs,t8,v =>
  bif ((v.1==x_.1)&&((v.2==x_.2)&&true)) then k0 t8
   else zn.l2.rg F k0 k1 s t7 xs (t8+1) v
theorem zn.l2.rg_eq {R:Type} (F:Nat) (k0:Int->Option R) (k1:zn.l2.K1 R) (s:List zg.T) (t7:Int) (hN:t7=(s.length:Int)) (hL:s.length<9223372036854775807):∀(xs:List zg.T) (i fu:Nat) (v:zg.T),s.drop i=xs->xs.length<fu->
  zn.l2 F k0 k1 fu s t7 (i:Int) v=zn.l2.rg F k0 k1 s t7 xs (i:Int) v:=by
 intro xs;induction xs with
 | nil =>
  intro i fu v hZ hfZ;obtain ⟨fu,rfl⟩:∃k,fu=k+1:=⟨fu-1,by simp at hfZ; omega⟩;have e1:=vK hN (wV hZ);simp only[zn.l2,zn.l2.body,zn.l2.rg,e1,cond_false]
 | cons x_ xs ih =>
  intro i fu v hZ hfZ;obtain ⟨fu,rfl⟩:∃k,fu=k+1:=⟨fu-1,by simp at hfZ; omega⟩;have e0:=wj hZ;have e1:=vJ hN e0;have e2:=xf e0;have e3:=wG (t:=zg) hZ;have e4:=wi e0 hL;have e5:∀(v:zg.T),zn.l2 F k0 k1 fu s t7 ((i:Int)+1) v=zn.l2.rg F k0 k1 s t7 xs ((i:Int)+1) v:=fun v=>by
   have:=ih (i+1) fu v (xK hZ) (by simp at hfZ; omega);rwa [xh] at this
  simp only[zn.l2,zn.l2.body,zn.l2.rg,e1,e2,e3,e4,e5,cond_true]
def zb.l6.rg {R:Type} (me:za.M) (F:Nat) (k0:zb.l6.K0 R) (t18:List Int) (t19:Int):List Int->Int->Int->(zI.T×(List Int)×zg.T×zD.T×List Nat)->(List Int)->(List zg.T)->(List (List zy.T))->(List zK.T)->Option R
 | [],t20,op,m,m_9,m_10,m_11,m_12=>k0 op t18 t19 t20 (decide (t20<t19)) (m.1,m.2.1,m.2.2.1,(m.2.2.2.1.1,m.2.2.2.1.2.1,[],[],[],[]),m.2.2.2.2) m_9 m_10 m_11 m_12
 | x_::xs,t20,op,m,m_9,m_10,m_11,m_12 =>
  oB (me (m.1,m.2.1,m.2.2.1,(m.2.2.2.1.1,m.2.2.2.1.2.1,m_9,m_10,m_11,m_12),m.2.2.2.2) x_) fun c_2 =>
   oB (zr.sh F c_2.2.1 op 0) fun c_3 =>
   zb.l6.rg me F k0 t18 t19 xs (t20+1) op (c_3.2.1.1,c_3.2.1.2.1,c_3.2.1.2.2.1,(c_3.2.1.2.2.2.1.1,c_3.2.1.2.2.2.1.2.1,[],[],[],[]),c_3.2.1.2.2.2.2) c_3.2.1.2.2.2.1.2.2.1 c_3.2.1.2.2.2.1.2.2.2.1 c_3.2.1.2.2.2.1.2.2.2.2.1 c_3.2.1.2.2.2.1.2.2.2.2.2
theorem zb.l6.rg_eq {R:Type} (me:za.M) (F:Nat) (k0:zb.l6.K0 R) (t18:List Int) (t19:Int) (hN:t19=(t18.length:Int)) (hL:t18.length<9223372036854775807):∀(xs:List Int) (i fu:Nat) (op:Int) (m:zI.T×(List Int)×zg.T×zD.T×List Nat) (m_9:List Int) (m_10:List zg.T) (m_11:List (List zy.T)) (m_12:List zK.T),t18.drop i=xs->xs.length<fu->
  zb.l6 me F k0 fu op t18 t19 (i:Int) m m_9 m_10 m_11 m_12=zb.l6.rg me F k0 t18 t19 xs (i:Int) op m m_9 m_10 m_11 m_12:=by
 intro xs;induction xs with
 | nil =>
  intro i fu op m m_9 m_10 m_11 m_12 hZ hfZ;obtain ⟨fu,rfl⟩:∃k,fu=k+1:=⟨fu-1,by simp at hfZ; omega⟩;have e1:=vK hN (wV hZ);simp only[zb.l6,zb.l6.body,zb.l6.rg,e1,cond_false]
 | cons x_ xs ih =>
  intro i fu op m m_9 m_10 m_11 m_12 hZ hfZ;obtain ⟨fu,rfl⟩:∃k,fu=k+1:=⟨fu-1,by simp at hfZ; omega⟩;have e0:=wj hZ;have e1:=vJ hN e0;have e2:=xf e0;have e3:=wG (t:=(.int .i64)) hZ;have e4:=wi e0 hL;have e5:∀(op:Int) (m:zI.T×(List Int)×zg.T×zD.T×List Nat) (m_9:List Int) (m_10:List zg.T) (m_11:List (List zy.T)) (m_12:List zK.T),zb.l6 me F k0 fu op t18 t19 ((i:Int)+1) m m_9 m_10 m_11 m_12=zb.l6.rg me F k0 t18 t19 xs ((i:Int)+1) op m m_9 m_10 m_11 m_12:=fun op m m_9 m_10 m_11 m_12=>by
   have:=ih (i+1) fu op m m_9 m_10 m_11 m_12 (xK hZ) (by simp at hfZ; omega);rwa [xh] at this
  simp only[zb.l6,zb.l6.body,zb.l6.rg,e1,e2,e3,e4,e5,cond_true]
def zJ.l10.rg {R:Type} (F:Nat) (k0:zJ.l10.K0 R) (t55:List yZ.T) (t56:Int):List yZ.T->Int->zI.T->zD.T->(zI.T×(List Int)×zg.T×zD.T×List Nat)->(List Int)->(List zg.T)->(List (List zy.T))->(List zK.T)->Option R
 | [],t57,p,r2,m,m_9,m_10,m_11,m_12=>k0 t55 t56 t57 (decide (t57<t56)) p r2 (m.1,m.2.1,m.2.2.1,(m.2.2.2.1.1,m.2.2.2.1.2.1,[],[],[],[]),m.2.2.2.2) m_9 m_10 m_11 m_12
 | x_::xs,t57,p,r2,m,m_9,m_10,m_11,m_12 =>
  bif Nat.ble (m_9.length+([x_.2]:List Int).length) xj then zJ.l10.rg F k0 t55 t56 xs (t57+1) p r2 (m.1,m.2.1,m.2.2.1,(m.2.2.2.1.1,m.2.2.2.1.2.1,[],[],[],[]),m.2.2.2.2) (m_9++([x_.2]:List Int)) m_10 m_11 m_12
   else none
theorem zJ.l10.rg_eq {R:Type} (F:Nat) (k0:zJ.l10.K0 R) (t55:List yZ.T) (t56:Int) (hN:t56=(t55.length:Int)) (hL:t55.length<9223372036854775807):∀(xs:List yZ.T) (i fu:Nat) (p:zI.T) (r2:zD.T) (m:zI.T×(List Int)×zg.T×zD.T×List Nat) (m_9:List Int) (m_10:List zg.T) (m_11:List (List zy.T)) (m_12:List zK.T),t55.drop i=xs->xs.length<fu->
  zJ.l10 F k0 fu t55 t56 (i:Int) p r2 m m_9 m_10 m_11 m_12=zJ.l10.rg F k0 t55 t56 xs (i:Int) p r2 m m_9 m_10 m_11 m_12:=by
 intro xs;induction xs with
 | nil =>
  intro i fu p r2 m m_9 m_10 m_11 m_12 hZ hfZ;obtain ⟨fu,rfl⟩:∃k,fu=k+1:=⟨fu-1,by simp at hfZ; omega⟩;have e1:=vK hN (wV hZ);simp only[zJ.l10,zJ.l10.body,zJ.l10.rg,e1,cond_false]
 | cons x_ xs ih =>
  intro i fu p r2 m m_9 m_10 m_11 m_12 hZ hfZ;obtain ⟨fu,rfl⟩:∃k,fu=k+1:=⟨fu-1,by simp at hfZ; omega⟩;have e0:=wj hZ;have e1:=vJ hN e0;have e2:=xf e0;have e3:=wG (t:=yZ) hZ;have e4:=wi e0 hL;have e5:∀(p:zI.T) (r2:zD.T) (m:zI.T×(List Int)×zg.T×zD.T×List Nat) (m_9:List Int) (m_10:List zg.T) (m_11:List (List zy.T)) (m_12:List zK.T),zJ.l10 F k0 fu t55 t56 ((i:Int)+1) p r2 m m_9 m_10 m_11 m_12=zJ.l10.rg F k0 t55 t56 xs ((i:Int)+1) p r2 m m_9 m_10 m_11 m_12:=fun p r2 m m_9 m_10 m_11 m_12=>by
   have:=ih (i+1) fu p r2 m m_9 m_10 m_11 m_12 (xK hZ) (by simp at hfZ; omega);rwa [xh] at this
  simp only[zJ.l10,zJ.l10.body,zJ.l10.rg,e1,e2,e3,e4,e5,cond_true]
end Go.VS
