import Derived.Test.YtmkkoenoplginaaGreatDoorQP1
set_option linter.unusedVariables false
set_option linter.unusedSimpArgs false
set_option linter.unusedSectionVars false
set_option linter.unusedVariables false
set_option maxRecDepth 100000
namespace Go.VS
open Go IntKind
def zh.l2.rg {R:Type} (F:Nat) (k0:Int->Option R) (k1:zh.l2.K1 R) (s:List xd.T) (t7:Int):List xd.T->Int->(Nat×xd.T)->Option R
 | [],t8,f=>k1 s (f.1,f.2) t7 t8 (decide (t8<t7))
 | x_::xs,t8,f =>
  oB (zh.d16 F (f.1+1) (x_,f.2,())) fun c_1 =>
   bif c_1.1.1 then k0 t8
   else zh.l2.rg F k0 k1 s t7 xs (t8+1) (f.1,f.2)
theorem zh.l2.rg_eq {R:Type} (F:Nat) (k0:Int->Option R) (k1:zh.l2.K1 R) (s:List xd.T) (t7:Int) (hN:t7=(s.length:Int)) (hL:s.length<9223372036854775807):∀(xs:List xd.T) (i fu:Nat) (f:Nat×xd.T),s.drop i=xs->xs.length<fu->
  zh.l2 F k0 k1 fu s f t7 (i:Int)=zh.l2.rg F k0 k1 s t7 xs (i:Int) f:=by
 intro xs;induction xs with
 | nil =>
  intro i fu f hZ hfZ;obtain ⟨fu,rfl⟩:∃k,fu=k+1:=⟨fu-1,by simp at hfZ; omega⟩;have e1:=vb hN (wa hZ);simp only[zh.l2,zh.l2.body,zh.l2.rg,e1,cond_false]
 | cons x_ xs ih =>
  intro i fu f hZ hfZ;obtain ⟨fu,rfl⟩:∃k,fu=k+1:=⟨fu-1,by simp at hfZ; omega⟩;have e0:=xT hZ;have e1:=va hN e0;have e2:=yZ e0;have e3:=xY (t:=xd) hZ;have e4:=xS e0 hL;have e5:∀(f:Nat×xd.T),zh.l2 F k0 k1 fu s f t7 ((i:Int)+1)=zh.l2.rg F k0 k1 s t7 xs ((i:Int)+1) f:=fun f=>by
   have:=ih (i+1) fu f (xm hZ) (by simp at hfZ; omega);rwa [y4] at this
  simp only[zh.l2,zh.l2.body,zh.l2.rg,e1,e2,e3,e4,e5,cond_true]
def zV.l6.rg {R:Type} (F:Nat) (k0:Int->Option R) (k1:Int->Option R) (k2:zV.l6.K2 R) (t21:List xd.T) (t22:Int):List xd.T->Int->zI.T->Option R
 | [],t23,p=>k2 t21 t22 t23 (decide (t23<t22)) p
 | x_::xs,t23,p =>
  oB (xB.sh F x_.1) fun c_2 =>
   bif !c_2.1.1 then k0 61
   else bif (zG p.2.1.length none (some t23)).1 then oB (zS.sh F ((p.2.1.take (zG p.2.1.length none (some t23)).2.2).drop (zG p.2.1.length none (some t23)).2.1) (wo,x_)) fun c_3 =>
    bif c_3.1.1 then k0 61
    else bif decide (x_.2<1) then k1 50
    else bif decide (x_.2>1000000000000) then k1 50
    else zV.l6.rg F k0 k1 k2 t21 t22 xs (t23+1) p
   else none
theorem zV.l6.rg_eq {R:Type} (F:Nat) (k0:Int->Option R) (k1:Int->Option R) (k2:zV.l6.K2 R) (t21:List xd.T) (t22:Int) (hN:t22=(t21.length:Int)) (hL:t21.length<9223372036854775807):∀(xs:List xd.T) (i fu:Nat) (p:zI.T),t21.drop i=xs->xs.length<fu->
  zV.l6 F k0 k1 k2 fu t21 t22 (i:Int) p=zV.l6.rg F k0 k1 k2 t21 t22 xs (i:Int) p:=by
 intro xs;induction xs with
 | nil =>
  intro i fu p hZ hfZ;obtain ⟨fu,rfl⟩:∃k,fu=k+1:=⟨fu-1,by simp at hfZ; omega⟩;have e1:=vb hN (wa hZ);simp only[zV.l6,zV.l6.body,zV.l6.rg,e1,cond_false]
 | cons x_ xs ih =>
  intro i fu p hZ hfZ;obtain ⟨fu,rfl⟩:∃k,fu=k+1:=⟨fu-1,by simp at hfZ; omega⟩;have e0:=xT hZ;have e1:=va hN e0;have e2:=yZ e0;have e3:=xY (t:=xd) hZ;have e4:=xS e0 hL;have e5:∀(p:zI.T),zV.l6 F k0 k1 k2 fu t21 t22 ((i:Int)+1) p=zV.l6.rg F k0 k1 k2 t21 t22 xs ((i:Int)+1) p:=fun p=>by
   have:=ih (i+1) fu p (xm hZ) (by simp at hfZ; omega);rwa [y4] at this
  simp only[zV.l6,zV.l6.body,zV.l6.rg,e1,e2,e3,e4,e5,cond_true]
def zH.l4.rg {R:Type} (F:Nat) (k0:Bool->Option R) (k1:zH.l4.K1 R) (t20:List zo.T) (t21:Int):List zo.T->Int->(List zo.T)->Option R
 | [],t22,tiers=>k1 tiers t20 t21 t22 (decide (t22<t21))
 | x_::xs,t22,tiers =>
  bif decide (t22>0) then bif idx (i64.wrap (t22-1)) tiers.length then bif decide (x_.1<=(get zo tiers ((i64.wrap (t22-1)).toNat)).1) then k0 false
     else bif decide (x_.1>1000000000000) then k0 false
     else bif decide (x_.2<(-1000000000000)) then k0 false
     else bif decide (x_.2>1000000000000) then k0 false
     else zH.l4.rg F k0 k1 t20 t21 xs (t22+1) tiers
    else none
   else bif decide (x_.1>1000000000000) then k0 false
   else bif decide (x_.2<(-1000000000000)) then k0 false
   else bif decide (x_.2>1000000000000) then k0 false
   else zH.l4.rg F k0 k1 t20 t21 xs (t22+1) tiers
theorem zH.l4.rg_eq {R:Type} (F:Nat) (k0:Bool->Option R) (k1:zH.l4.K1 R) (t20:List zo.T) (t21:Int) (hN:t21=(t20.length:Int)) (hL:t20.length<9223372036854775807):∀(xs:List zo.T) (i fu:Nat) (tiers:List zo.T),t20.drop i=xs->xs.length<fu->
  zH.l4 F k0 k1 fu tiers t20 t21 (i:Int)=zH.l4.rg F k0 k1 t20 t21 xs (i:Int) tiers:=by
 intro xs;induction xs with
 | nil =>
  intro i fu tiers hZ hfZ;obtain ⟨fu,rfl⟩:∃k,fu=k+1:=⟨fu-1,by simp at hfZ; omega⟩;have e1:=vb hN (wa hZ);simp only[zH.l4,zH.l4.body,zH.l4.rg,e1,cond_false]
 | cons x_ xs ih =>
  intro i fu tiers hZ hfZ;obtain ⟨fu,rfl⟩:∃k,fu=k+1:=⟨fu-1,by simp at hfZ; omega⟩;have e0:=xT hZ;have e1:=va hN e0;have e2:=yZ e0;have e3:=xY (t:=zo) hZ;have e4:=xS e0 hL;have e5:∀(tiers:List zo.T),zH.l4 F k0 k1 fu tiers t20 t21 ((i:Int)+1)=zH.l4.rg F k0 k1 t20 t21 xs ((i:Int)+1) tiers:=fun tiers=>by
   have:=ih (i+1) fu tiers (xm hZ) (by simp at hfZ; omega);rwa [y4] at this
  simp only[zH.l4,zH.l4.body,zH.l4.rg,e1,e2,e3,e4,e5,cond_true]
def zJ.l8.rg {R:Type} (F:Nat) (k0:Int->Int->Option R) (k1:zJ.l8.K1 R) (t19:List zr.T) (t20:Int):List zr.T->Int->Int->zI.T->Option R
 | [],t21,pile,p=>k1 pile t19 t20 t21 (decide (t21<t20)) p
 | x_::xs,t21,pile,p =>
  oB (zR.sh F x_ (p.2.1.length:Int) pile) fun c_2 =>
   bif (c_2.1.1 != 0) then k0 t21 c_2.1.1
   else oB (yJ.sh F x_) fun c_3 =>
   zJ.l8.rg F k0 k1 t19 t20 xs (t21+1) (i64.wrap (pile+(i64.wrap (1-c_3.1.1)))) p
theorem zJ.l8.rg_eq {R:Type} (F:Nat) (k0:Int->Int->Option R) (k1:zJ.l8.K1 R) (t19:List zr.T) (t20:Int) (hN:t20=(t19.length:Int)) (hL:t19.length<9223372036854775807):∀(xs:List zr.T) (i fu:Nat) (pile:Int) (p:zI.T),t19.drop i=xs->xs.length<fu->
  zJ.l8 F k0 k1 fu pile t19 t20 (i:Int) p=zJ.l8.rg F k0 k1 t19 t20 xs (i:Int) pile p:=by
 intro xs;induction xs with
 | nil =>
  intro i fu pile p hZ hfZ;obtain ⟨fu,rfl⟩:∃k,fu=k+1:=⟨fu-1,by simp at hfZ; omega⟩;have e1:=vb hN (wa hZ);simp only[zJ.l8,zJ.l8.body,zJ.l8.rg,e1,cond_false]
 | cons x_ xs ih =>
  intro i fu pile p hZ hfZ;obtain ⟨fu,rfl⟩:∃k,fu=k+1:=⟨fu-1,by simp at hfZ; omega⟩;have e0:=xT hZ;have e1:=va hN e0;have e2:=yZ e0;have e3:=xY (t:=zr) hZ;have e4:=xS e0 hL;have e5:∀(pile:Int) (p:zI.T),zJ.l8 F k0 k1 fu pile t19 t20 ((i:Int)+1) p=zJ.l8.rg F k0 k1 t19 t20 xs ((i:Int)+1) pile p:=fun pile p=>by
   have:=ih (i+1) fu pile p (xm hZ) (by simp at hfZ; omega);rwa [y4] at this
  simp only[zJ.l8,zJ.l8.body,zJ.l8.rg,e1,e2,e3,e4,e5,cond_true]
def zA.l3.rg {R:Type} (F:Nat) (k0:zA.l3.K0 R) (t10:List zr.T) (t11:Int):List zr.T->Int->(List Int)->(List Int)->Option R
 | [],t12,list,pile=>k0 t10 t11 t12 (decide (t12<t11)) list pile
 | x_::xs,t12,list,pile =>
  oB (yJ.sh F x_) fun c_1 =>
   bif decide (c_1.1.1>0) then bif idx (i64.wrap ((pile.length:Int)-c_1.1.1)) pile.length then bif (zG pile.length none (some (i64.wrap ((pile.length:Int)-c_1.1.1)))).1 then bif Nat.ble ((pile.take (zG pile.length none (some (i64.wrap ((pile.length:Int)-c_1.1.1)))).2.2).length+([get (.int .i64) pile ((i64.wrap ((pile.length:Int)-c_1.1.1)).toNat)]:List Int).length) xp then bif Nat.ble (list.length+([get (.int .i64) pile ((i64.wrap ((pile.length:Int)-c_1.1.1)).toNat)]:List Int).length) xp then zA.l3.rg F k0 t10 t11 xs (t12+1) (list++([get (.int .i64) pile ((i64.wrap ((pile.length:Int)-c_1.1.1)).toNat)]:List Int)) ((pile.take (zG pile.length none (some (i64.wrap ((pile.length:Int)-c_1.1.1)))).2.2)++([get (.int .i64) pile ((i64.wrap ((pile.length:Int)-c_1.1.1)).toNat)]:List Int))
       else none
      else none
     else none
    else none
   else bif Nat.ble (pile.length+([t12]:List Int).length) xp then bif Nat.ble (list.length+([t12]:List Int).length) xp then zA.l3.rg F k0 t10 t11 xs (t12+1) (list++([t12]:List Int)) (pile++([t12]:List Int))
    else none
   else none
theorem zA.l3.rg_eq {R:Type} (F:Nat) (k0:zA.l3.K0 R) (t10:List zr.T) (t11:Int) (hN:t11=(t10.length:Int)) (hL:t10.length<9223372036854775807):∀(xs:List zr.T) (i fu:Nat) (list:List Int) (pile:List Int),t10.drop i=xs->xs.length<fu->
  zA.l3 F k0 fu t10 t11 (i:Int) list pile=zA.l3.rg F k0 t10 t11 xs (i:Int) list pile:=by
 intro xs;induction xs with
 | nil =>
  intro i fu list pile hZ hfZ;obtain ⟨fu,rfl⟩:∃k,fu=k+1:=⟨fu-1,by simp at hfZ; omega⟩;have e1:=vb hN (wa hZ);simp only[zA.l3,zA.l3.body,zA.l3.rg,e1,cond_false]
 | cons x_ xs ih =>
  intro i fu list pile hZ hfZ;obtain ⟨fu,rfl⟩:∃k,fu=k+1:=⟨fu-1,by simp at hfZ; omega⟩;have e0:=xT hZ;have e1:=va hN e0;have e2:=yZ e0;have e3:=xY (t:=zr) hZ;have e4:=xS e0 hL;have e5:∀(list:List Int) (pile:List Int),zA.l3 F k0 fu t10 t11 ((i:Int)+1) list pile=zA.l3.rg F k0 t10 t11 xs ((i:Int)+1) list pile:=fun list pile=>by
   have:=ih (i+1) fu list pile (xm hZ) (by simp at hfZ; omega);rwa [y4] at this
  simp only[zA.l3,zA.l3.body,zA.l3.rg,e1,e2,e3,e4,e5,cond_true]
def zv.l7.rg {R:Type} (F:Nat) (k0:zv.l7.K0 R) (t22:List zr.T) (t23:Int):List zr.T->Int->(List Int)->Int->(List Bool)->Option R
 | [],t24,list,last,out=>k0 list last t22 t23 t24 (decide (t24<t23)) out
 | x_::xs,t24,list,last,out =>
  bif (x_.1==3) then bif idx t24 list.length then bif idx t24 out.length then zv.l7.rg F k0 t22 t23 xs (t24+1) list t24 (out.set t24.toNat (decide (t24<(get (.int .i64) list t24.toNat))))
     else none
    else none
   else bif (x_.1==4) then bif idx t24 list.length then bif idx t24 out.length then zv.l7.rg F k0 t22 t23 xs (t24+1) list t24 (out.set t24.toNat (decide (t24<(get (.int .i64) list t24.toNat))))
     else none
    else none
   else bif idx t24 list.length then bif idx t24 out.length then zv.l7.rg F k0 t22 t23 xs (t24+1) list last (out.set t24.toNat (decide (last<(get (.int .i64) list t24.toNat))))
    else none
   else none
theorem zv.l7.rg_eq {R:Type} (F:Nat) (k0:zv.l7.K0 R) (t22:List zr.T) (t23:Int) (hN:t23=(t22.length:Int)) (hL:t22.length<9223372036854775807):∀(xs:List zr.T) (i fu:Nat) (list:List Int) (last:Int) (out:List Bool),t22.drop i=xs->xs.length<fu->
  zv.l7 F k0 fu list last t22 t23 (i:Int) out=zv.l7.rg F k0 t22 t23 xs (i:Int) list last out:=by
 intro xs;induction xs with
 | nil =>
  intro i fu list last out hZ hfZ;obtain ⟨fu,rfl⟩:∃k,fu=k+1:=⟨fu-1,by simp at hfZ; omega⟩;have e1:=vb hN (wa hZ);simp only[zv.l7,zv.l7.body,zv.l7.rg,e1,cond_false]
 | cons x_ xs ih =>
  intro i fu list last out hZ hfZ;obtain ⟨fu,rfl⟩:∃k,fu=k+1:=⟨fu-1,by simp at hfZ; omega⟩;have e0:=xT hZ;have e1:=va hN e0;have e2:=yZ e0;have e3:=xY (t:=zr) hZ;have e4:=xS e0 hL;have e5:∀(list:List Int) (last:Int) (out:List Bool),zv.l7 F k0 fu list last t22 t23 ((i:Int)+1) out=zv.l7.rg F k0 t22 t23 xs ((i:Int)+1) list last out:=fun list last out=>by
   have:=ih (i+1) fu list last out (xm hZ) (by simp at hfZ; omega);rwa [y4] at this
  simp only[zv.l7,zv.l7.body,zv.l7.rg,e1,e2,e3,e4,e5,cond_true]
def zz.l2.rg {R:Type} (F:Nat) (k0:Int->Option R) (k1:zz.l2.K1 R) (t10:List Int) (t11:Int):List Int->Int->Int->yq.T->Option R
 | [],t12,from_,n=>k1 from_ t10 t11 t12 (decide (t12<t11)) n
 | x_::xs,t12,from_,n =>
  bif idx from_ n.2.1.length then bif (x_ != (get (.int .i64) n.2.1 from_.toNat)) then k0 (-1)
    else zz.l2.rg F k0 k1 t10 t11 xs (t12+1) from_ n
   else none
theorem zz.l2.rg_eq {R:Type} (F:Nat) (k0:Int->Option R) (k1:zz.l2.K1 R) (t10:List Int) (t11:Int) (hN:t11=(t10.length:Int)) (hL:t10.length<9223372036854775807):∀(xs:List Int) (i fu:Nat) (from_:Int) (n:yq.T),t10.drop i=xs->xs.length<fu->
  zz.l2 F k0 k1 fu from_ t10 t11 (i:Int) n=zz.l2.rg F k0 k1 t10 t11 xs (i:Int) from_ n:=by
 intro xs;induction xs with
 | nil =>
  intro i fu from_ n hZ hfZ;obtain ⟨fu,rfl⟩:∃k,fu=k+1:=⟨fu-1,by simp at hfZ; omega⟩;have e1:=vb hN (wa hZ);simp only[zz.l2,zz.l2.body,zz.l2.rg,e1,cond_false]
 | cons x_ xs ih =>
  intro i fu from_ n hZ hfZ;obtain ⟨fu,rfl⟩:∃k,fu=k+1:=⟨fu-1,by simp at hfZ; omega⟩;have e0:=xT hZ;have e1:=va hN e0;have e2:=yZ e0;have e3:=xY (t:=(.int .i64)) hZ;have e4:=xS e0 hL;have e5:∀(from_:Int) (n:yq.T),zz.l2 F k0 k1 fu from_ t10 t11 ((i:Int)+1) n=zz.l2.rg F k0 k1 t10 t11 xs ((i:Int)+1) from_ n:=fun from_ n=>by
   have:=ih (i+1) fu from_ n (xm hZ) (by simp at hfZ; omega);rwa [y4] at this
  simp only[zz.l2,zz.l2.body,zz.l2.rg,e1,e2,e3,e4,e5,cond_true]
def zj.l8.rg {R:Type} (F:Nat) (k0:zj.l8.K0 R) (k1:zj.l8.K1 R) (k2:zj.l8.K2 R) (t33:List zr.T) (t34:Int):List zr.T->Int->(List Bool)->(List Int)->(List Int)->(List Bool)->Option R
 | [],t35,fixed,types,pile,fix=>k2 fixed t33 t34 t35 (decide (t35<t34)) types pile fix
 | x_::xs,t35,fixed,types,pile,fix =>
  oB (xh.sh F x_.1) fun c_3 =>
   bif decide (c_3.1.2.1<0) then bif (zG pile.length (some (i64.wrap ((pile.length:Int)-x_.2.2.2.1))) none).1 then bif (zG fix.length (some (i64.wrap ((pile.length:Int)-x_.2.2.2.1))) none).1 then oB (zj.d63 F c_3.1.1 ((x_,(pile.take (zG pile.length (some (i64.wrap ((pile.length:Int)-x_.2.2.2.1))) none).2.2).drop (zG pile.length (some (i64.wrap ((pile.length:Int)-x_.2.2.2.1))) none).2.1,(fix.take (zG fix.length (some (i64.wrap ((pile.length:Int)-x_.2.2.2.1))) none).2.2).drop (zG fix.length (some (i64.wrap ((pile.length:Int)-x_.2.2.2.1))) none).2.1),())) fun c_4 =>
      bif (c_4.1.1==(-1)) then k0 ([]) t35 80
      else bif (x_.1==8) then bif idx (i64.wrap ((pile.length:Int)-x_.2.2.2.1)) fix.length then bif !(get .bool fix ((i64.wrap ((pile.length:Int)-x_.2.2.2.1)).toNat)) then bif idx (i64.wrap ((i64.wrap ((pile.length:Int)-x_.2.2.2.1))+1)) fix.length then bif !(get .bool fix ((i64.wrap ((i64.wrap ((pile.length:Int)-x_.2.2.2.1))+1)).toNat)) then k1 ([]) t35 81
          else bif Nat.ble (types.length+([c_4.1.1]:List Int).length) xp then bif (zG pile.length none (some (i64.wrap ((pile.length:Int)-x_.2.2.2.1)))).1 then bif Nat.ble ((zG pile.length none (some (i64.wrap ((pile.length:Int)-x_.2.2.2.1)))).2.2+([c_4.1.1]:List Int).length) xp then bif (zG fix.length none (some (i64.wrap ((pile.length:Int)-x_.2.2.2.1)))).1 then bif idx t35 fixed.length then bif Nat.ble ((zG fix.length none (some (i64.wrap ((pile.length:Int)-x_.2.2.2.1)))).2.2+([get .bool fixed t35.toNat]:List Bool).length) xp then zj.l8.rg F k0 k1 k2 t33 t34 xs (t35+1) fixed (types++([c_4.1.1]:List Int)) (pile.take (zG pile.length none (some (i64.wrap ((pile.length:Int)-x_.2.2.2.1)))).2.2++([c_4.1.1]:List Int)) (fix.take (zG fix.length none (some (i64.wrap ((pile.length:Int)-x_.2.2.2.1)))).2.2++([get .bool fixed t35.toNat]:List Bool))
               else none
              else none
             else none
            else none
           else none
          else none
         else none
        else bif Nat.ble (types.length+([c_4.1.1]:List Int).length) xp then bif (zG pile.length none (some (i64.wrap ((pile.length:Int)-x_.2.2.2.1)))).1 then bif Nat.ble ((zG pile.length none (some (i64.wrap ((pile.length:Int)-x_.2.2.2.1)))).2.2+([c_4.1.1]:List Int).length) xp then bif (zG fix.length none (some (i64.wrap ((pile.length:Int)-x_.2.2.2.1)))).1 then bif idx t35 fixed.length then bif Nat.ble ((zG fix.length none (some (i64.wrap ((pile.length:Int)-x_.2.2.2.1)))).2.2+([get .bool fixed t35.toNat]:List Bool).length) xp then zj.l8.rg F k0 k1 k2 t33 t34 xs (t35+1) fixed (types++([c_4.1.1]:List Int)) (pile.take (zG pile.length none (some (i64.wrap ((pile.length:Int)-x_.2.2.2.1)))).2.2++([c_4.1.1]:List Int)) (fix.take (zG fix.length none (some (i64.wrap ((pile.length:Int)-x_.2.2.2.1)))).2.2++([get .bool fixed t35.toNat]:List Bool))
             else none
            else none
           else none
          else none
         else none
        else none
       else none
      else bif Nat.ble (types.length+([c_4.1.1]:List Int).length) xp then bif (zG pile.length none (some (i64.wrap ((pile.length:Int)-x_.2.2.2.1)))).1 then bif Nat.ble ((zG pile.length none (some (i64.wrap ((pile.length:Int)-x_.2.2.2.1)))).2.2+([c_4.1.1]:List Int).length) xp then bif (zG fix.length none (some (i64.wrap ((pile.length:Int)-x_.2.2.2.1)))).1 then bif idx t35 fixed.length then bif Nat.ble ((zG fix.length none (some (i64.wrap ((pile.length:Int)-x_.2.2.2.1)))).2.2+([get .bool fixed t35.toNat]:List Bool).length) xp then zj.l8.rg F k0 k1 k2 t33 t34 xs (t35+1) fixed (types++([c_4.1.1]:List Int)) (pile.take (zG pile.length none (some (i64.wrap ((pile.length:Int)-x_.2.2.2.1)))).2.2++([c_4.1.1]:List Int)) (fix.take (zG fix.length none (some (i64.wrap ((pile.length:Int)-x_.2.2.2.1)))).2.2++([get .bool fixed t35.toNat]:List Bool))
           else none
          else none
         else none
        else none
       else none
      else none
     else none
    else none
   else bif (zG pile.length (some (i64.wrap ((pile.length:Int)-c_3.1.2.1))) none).1 then bif (zG fix.length (some (i64.wrap ((pile.length:Int)-c_3.1.2.1))) none).1 then oB (zj.d63 F c_3.1.1 ((x_,(pile.take (zG pile.length (some (i64.wrap ((pile.length:Int)-c_3.1.2.1))) none).2.2).drop (zG pile.length (some (i64.wrap ((pile.length:Int)-c_3.1.2.1))) none).2.1,(fix.take (zG fix.length (some (i64.wrap ((pile.length:Int)-c_3.1.2.1))) none).2.2).drop (zG fix.length (some (i64.wrap ((pile.length:Int)-c_3.1.2.1))) none).2.1),())) fun c_5 =>
     bif (c_5.1.1==(-1)) then k0 ([]) t35 80
     else bif (x_.1==8) then bif idx (i64.wrap ((pile.length:Int)-c_3.1.2.1)) fix.length then bif !(get .bool fix ((i64.wrap ((pile.length:Int)-c_3.1.2.1)).toNat)) then bif idx (i64.wrap ((i64.wrap ((pile.length:Int)-c_3.1.2.1))+1)) fix.length then bif !(get .bool fix ((i64.wrap ((i64.wrap ((pile.length:Int)-c_3.1.2.1))+1)).toNat)) then k1 ([]) t35 81
         else bif Nat.ble (types.length+([c_5.1.1]:List Int).length) xp then bif (zG pile.length none (some (i64.wrap ((pile.length:Int)-c_3.1.2.1)))).1 then bif Nat.ble ((zG pile.length none (some (i64.wrap ((pile.length:Int)-c_3.1.2.1)))).2.2+([c_5.1.1]:List Int).length) xp then bif (zG fix.length none (some (i64.wrap ((pile.length:Int)-c_3.1.2.1)))).1 then bif idx t35 fixed.length then bif Nat.ble ((zG fix.length none (some (i64.wrap ((pile.length:Int)-c_3.1.2.1)))).2.2+([get .bool fixed t35.toNat]:List Bool).length) xp then zj.l8.rg F k0 k1 k2 t33 t34 xs (t35+1) fixed (types++([c_5.1.1]:List Int)) (pile.take (zG pile.length none (some (i64.wrap ((pile.length:Int)-c_3.1.2.1)))).2.2++([c_5.1.1]:List Int)) (fix.take (zG fix.length none (some (i64.wrap ((pile.length:Int)-c_3.1.2.1)))).2.2++([get .bool fixed t35.toNat]:List Bool))
              else none
             else none
            else none
           else none
          else none
         else none
        else none
       else bif Nat.ble (types.length+([c_5.1.1]:List Int).length) xp then bif (zG pile.length none (some (i64.wrap ((pile.length:Int)-c_3.1.2.1)))).1 then bif Nat.ble ((zG pile.length none (some (i64.wrap ((pile.length:Int)-c_3.1.2.1)))).2.2+([c_5.1.1]:List Int).length) xp then bif (zG fix.length none (some (i64.wrap ((pile.length:Int)-c_3.1.2.1)))).1 then bif idx t35 fixed.length then bif Nat.ble ((zG fix.length none (some (i64.wrap ((pile.length:Int)-c_3.1.2.1)))).2.2+([get .bool fixed t35.toNat]:List Bool).length) xp then zj.l8.rg F k0 k1 k2 t33 t34 xs (t35+1) fixed (types++([c_5.1.1]:List Int)) (pile.take (zG pile.length none (some (i64.wrap ((pile.length:Int)-c_3.1.2.1)))).2.2++([c_5.1.1]:List Int)) (fix.take (zG fix.length none (some (i64.wrap ((pile.length:Int)-c_3.1.2.1)))).2.2++([get .bool fixed t35.toNat]:List Bool))
            else none
           else none
          else none
         else none
        else none
       else none
      else none
     else bif Nat.ble (types.length+([c_5.1.1]:List Int).length) xp then bif (zG pile.length none (some (i64.wrap ((pile.length:Int)-c_3.1.2.1)))).1 then bif Nat.ble ((zG pile.length none (some (i64.wrap ((pile.length:Int)-c_3.1.2.1)))).2.2+([c_5.1.1]:List Int).length) xp then bif (zG fix.length none (some (i64.wrap ((pile.length:Int)-c_3.1.2.1)))).1 then bif idx t35 fixed.length then bif Nat.ble ((zG fix.length none (some (i64.wrap ((pile.length:Int)-c_3.1.2.1)))).2.2+([get .bool fixed t35.toNat]:List Bool).length) xp then zj.l8.rg F k0 k1 k2 t33 t34 xs (t35+1) fixed (types++([c_5.1.1]:List Int)) (pile.take (zG pile.length none (some (i64.wrap ((pile.length:Int)-c_3.1.2.1)))).2.2++([c_5.1.1]:List Int)) (fix.take (zG fix.length none (some (i64.wrap ((pile.length:Int)-c_3.1.2.1)))).2.2++([get .bool fixed t35.toNat]:List Bool))
          else none
         else none
        else none
       else none
      else none
     else none
    else none
   else none
theorem zj.l8.rg_eq {R:Type} (F:Nat) (k0:zj.l8.K0 R) (k1:zj.l8.K1 R) (k2:zj.l8.K2 R) (t33:List zr.T) (t34:Int) (hN:t34=(t33.length:Int)) (hL:t33.length<9223372036854775807):∀(xs:List zr.T) (i fu:Nat) (fixed:List Bool) (types:List Int) (pile:List Int) (fix:List Bool),t33.drop i=xs->xs.length<fu->
  zj.l8 F k0 k1 k2 fu fixed t33 t34 (i:Int) types pile fix=zj.l8.rg F k0 k1 k2 t33 t34 xs (i:Int) fixed types pile fix:=by
 intro xs;induction xs with
 | nil =>
  intro i fu fixed types pile fix hZ hfZ;obtain ⟨fu,rfl⟩:∃k,fu=k+1:=⟨fu-1,by simp at hfZ; omega⟩;have e1:=vb hN (wa hZ);simp only[zj.l8,zj.l8.body,zj.l8.rg,e1,cond_false]
 | cons x_ xs ih =>
  intro i fu fixed types pile fix hZ hfZ;obtain ⟨fu,rfl⟩:∃k,fu=k+1:=⟨fu-1,by simp at hfZ; omega⟩;have e0:=xT hZ;have e1:=va hN e0;have e2:=yZ e0;have e3:=xY (t:=zr) hZ;have e4:=xS e0 hL;have e5:∀(fixed:List Bool) (types:List Int) (pile:List Int) (fix:List Bool),zj.l8 F k0 k1 k2 fu fixed t33 t34 ((i:Int)+1) types pile fix=zj.l8.rg F k0 k1 k2 t33 t34 xs ((i:Int)+1) fixed types pile fix:=fun fixed types pile fix=>by
   have:=ih (i+1) fu fixed types pile fix (xm hZ) (by simp at hfZ; omega);rwa [y4] at this
  simp only[zj.l8,zj.l8.body,zj.l8.rg,e1,e2,e3,e4,e5,cond_true]
def zB.l5.rg {R:Type} (F:Nat) (k0:zB.l5.K0 R) (x:List Int):List Int->Int->Int->Option R
 | [],i,m=>k0 x m i (decide (i<(x.length:Int)))
 | x_::xs,i,m =>
  zB.l5.rg F k0 x xs (i+1) (if x_>m then x_ else m)
theorem zB.l5.rg_eq {R:Type} (F:Nat) (k0:zB.l5.K0 R) (x:List Int) (hL:x.length<9223372036854775807):∀(xs:List Int) (i fu:Nat) (m:Int),x.drop i=xs->xs.length<fu->
  zB.l5 F k0 fu x m (i:Int)=zB.l5.rg F k0 x xs (i:Int) m:=by
 intro xs;induction xs with
 | nil =>
  intro i fu m hZ hfZ;obtain ⟨fu,rfl⟩:∃k,fu=k+1:=⟨fu-1,by simp at hfZ; omega⟩;have e1:=vb rfl (wa hZ);simp only[zB.l5,zB.l5.body,zB.l5.rg,e1,cond_false]
 | cons x_ xs ih =>
  intro i fu m hZ hfZ;obtain ⟨fu,rfl⟩:∃k,fu=k+1:=⟨fu-1,by simp at hfZ; omega⟩;have e0:=xT hZ;have e1:=va rfl e0;have e2:=yZ e0;have e3:=xY (t:=(.int .i64)) hZ;have e4:=xS e0 hL;have e5:∀(m:Int),zB.l5 F k0 fu x m ((i:Int)+1)=zB.l5.rg F k0 x xs ((i:Int)+1) m:=fun m=>by
   have:=ih (i+1) fu m (xm hZ) (by simp at hfZ; omega);rwa [y4] at this
  simp only[zB.l5,zB.l5.body,zB.l5.rg,e1,e2,e3,e4,e5,cond_true]
def zE.l6.rg {R:Type} (F:Nat) (k0:zE.l6.K0 R) (t20:List zr.T) (t21:Int):List zr.T->Int->(List Int)->Option R
 | [],t22,pile=>k0 t20 t21 t22 (decide (t22<t21)) pile
 | x_::xs,t22,pile =>
  oB (yJ.sh F x_) fun c_2 =>
   bif decide (c_2.1.1>0) then bif (zG pile.length (some (i64.wrap ((pile.length:Int)-c_2.1.1))) none).1 then oB (zB.sh F ((List.take (zG pile.length (some (i64.wrap ((pile.length:Int)-c_2.1.1))) none).2.2 pile).drop (zG pile.length (some (i64.wrap ((pile.length:Int)-c_2.1.1))) none).2.1)) fun c_3 =>
     bif (zG pile.length none (some (i64.wrap ((pile.length:Int)-c_2.1.1)))).1 then bif (x_.1==15) then bif Nat.ble ((pile.take (zG pile.length none (some (i64.wrap ((pile.length:Int)-c_2.1.1)))).2.2).length+([i64.wrap (c_3.1.1+1)]:List Int).length) xp then zE.l6.rg F k0 t20 t21 xs (t22+1) ((pile.take (zG pile.length none (some (i64.wrap ((pile.length:Int)-c_2.1.1)))).2.2)++([i64.wrap (c_3.1.1+1)]:List Int))
       else none
      else bif Nat.ble ((pile.take (zG pile.length none (some (i64.wrap ((pile.length:Int)-c_2.1.1)))).2.2).length+([c_3.1.1]:List Int).length) xp then zE.l6.rg F k0 t20 t21 xs (t22+1) ((pile.take (zG pile.length none (some (i64.wrap ((pile.length:Int)-c_2.1.1)))).2.2)++([c_3.1.1]:List Int))
      else none
     else none
    else none
   else bif (x_.1==15) then bif Nat.ble (pile.length+([i64.wrap (0+1)]:List Int).length) xp then zE.l6.rg F k0 t20 t21 xs (t22+1) (pile++([i64.wrap (0+1)]:List Int))
    else none
   else bif Nat.ble (pile.length+([0]:List Int).length) xp then zE.l6.rg F k0 t20 t21 xs (t22+1) (pile++([0]:List Int))
   else none
theorem zE.l6.rg_eq {R:Type} (F:Nat) (k0:zE.l6.K0 R) (t20:List zr.T) (t21:Int) (hN:t21=(t20.length:Int)) (hL:t20.length<9223372036854775807):∀(xs:List zr.T) (i fu:Nat) (pile:List Int),t20.drop i=xs->xs.length<fu->
  zE.l6 F k0 fu t20 t21 (i:Int) pile=zE.l6.rg F k0 t20 t21 xs (i:Int) pile:=by
 intro xs;induction xs with
 | nil =>
  intro i fu pile hZ hfZ;obtain ⟨fu,rfl⟩:∃k,fu=k+1:=⟨fu-1,by simp at hfZ; omega⟩;have e1:=vb hN (wa hZ);simp only[zE.l6,zE.l6.body,zE.l6.rg,e1,cond_false]
 | cons x_ xs ih =>
  intro i fu pile hZ hfZ;obtain ⟨fu,rfl⟩:∃k,fu=k+1:=⟨fu-1,by simp at hfZ; omega⟩;have e0:=xT hZ;have e1:=va hN e0;have e2:=yZ e0;have e3:=xY (t:=zr) hZ;have e4:=xS e0 hL;have e5:∀(pile:List Int),zE.l6 F k0 fu t20 t21 ((i:Int)+1) pile=zE.l6.rg F k0 t20 t21 xs ((i:Int)+1) pile:=fun pile=>by
   have:=ih (i+1) fu pile (xm hZ) (by simp at hfZ; omega);rwa [y4] at this
  simp only[zE.l6,zE.l6.body,zE.l6.rg,e1,e2,e3,e4,e5,cond_true]
def zp.l3.rg {R:Type} (F:Nat) (k0:zp.l3.K0 R) (t13:List zo.T) (t14:Int):List zo.T->Int->(List zo.T)->Int->yv.T->zf.T->zf.T->zf.T->Option R
 | [],t15,tiers,rate,m,x,r6,ways=>k0 tiers rate t13 t14 t15 (decide (t15<t14)) m x r6 ways
 | x_::xs,t15,tiers,rate,m,x,r6,ways =>
  oB (xx.sh F x_.2) fun c_1 =>
   bif decide ((i64.wrap (t15+1))<(tiers.length:Int)) then oB (xx.sh F x_.2) fun c_2 =>
    oB (yy.sh F c_2.1.1) fun c_3 =>
    bif idx (i64.wrap (t15+1)) tiers.length then oB (yy.sh F (i64.wrap ((get zo tiers ((i64.wrap (t15+1)).toNat)).1-x_.1))) fun c_4 =>
     oB (zW.sh F m c_3.1.1 c_4.1.1) fun c_5 =>
     bif (((m.1.1==c_5.2.1.1.1)&&((m.1.2==c_5.2.1.1.2)&&true))&&true) then oB (z7.sh F c_5.2.1 ways c_5.1.1) fun c_6 =>
      bif (((c_5.2.1.1.1==c_6.2.1.1.1)&&((c_5.2.1.1.2==c_6.2.1.1.2)&&true))&&true) then zp.l3.rg F k0 t13 t14 xs (t15+1) tiers (if c_1.1.1>rate then c_1.1.1 else rate) c_6.2.1 x r6 c_6.1.1
      else none
     else none
    else none
   else zp.l3.rg F k0 t13 t14 xs (t15+1) tiers (if c_1.1.1>rate then c_1.1.1 else rate) m x r6 ways
theorem zp.l3.rg_eq {R:Type} (F:Nat) (k0:zp.l3.K0 R) (t13:List zo.T) (t14:Int) (hN:t14=(t13.length:Int)) (hL:t13.length<9223372036854775807):∀(xs:List zo.T) (i fu:Nat) (tiers:List zo.T) (rate:Int) (m:yv.T) (x:zf.T) (r6:zf.T) (ways:zf.T),t13.drop i=xs->xs.length<fu->
  zp.l3 F k0 fu tiers rate t13 t14 (i:Int) m x r6 ways=zp.l3.rg F k0 t13 t14 xs (i:Int) tiers rate m x r6 ways:=by
 intro xs;induction xs with
 | nil =>
  intro i fu tiers rate m x r6 ways hZ hfZ;obtain ⟨fu,rfl⟩:∃k,fu=k+1:=⟨fu-1,by simp at hfZ; omega⟩;have e1:=vb hN (wa hZ);simp only[zp.l3,zp.l3.body,zp.l3.rg,e1,cond_false]
 | cons x_ xs ih =>
  intro i fu tiers rate m x r6 ways hZ hfZ;obtain ⟨fu,rfl⟩:∃k,fu=k+1:=⟨fu-1,by simp at hfZ; omega⟩;have e0:=xT hZ;have e1:=va hN e0;have e2:=yZ e0;have e3:=xY (t:=zo) hZ;have e4:=xS e0 hL;have e5:∀(tiers:List zo.T) (rate:Int) (m:yv.T) (x:zf.T) (r6:zf.T) (ways:zf.T),zp.l3 F k0 fu tiers rate t13 t14 ((i:Int)+1) m x r6 ways=zp.l3.rg F k0 t13 t14 xs ((i:Int)+1) tiers rate m x r6 ways:=fun tiers rate m x r6 ways=>by
   have:=ih (i+1) fu tiers rate m x r6 ways (xm hZ) (by simp at hfZ; omega);rwa [y4] at this
  simp only[zp.l3,zp.l3.body,zp.l3.rg,e1,e2,e3,e4,e5,cond_true]
def ym.l4.rg {R:Type} (F:Nat) (k0:ym.l4.K0 R) (t11:List zf.T) (t12:Int):List zf.T->Int->Int->Int->Int->zf.T->Option R
 | [],t13,lo,hi,top,r2=>k0 lo hi top t11 t12 t13 (decide (t13<t12)) r2
 | x_::xs,t13,lo,hi,top,r2 =>
  oB (ye.sh F lo x_.2 0) fun c_1 =>
   oB (ye.sh F hi (u64.wrap x_.1) c_1.1.2.1) fun c_2 =>
   ym.l4.rg F k0 t11 t12 xs (t13+1) c_1.1.1 c_2.1.1 (i64.wrap (top+(i64.wrap ((x_.1.fdiv (2^(min (63:Int).toNat IntKind.i64.bits)))+(i64.wrap c_2.1.2.1))))) r2
theorem ym.l4.rg_eq {R:Type} (F:Nat) (k0:ym.l4.K0 R) (t11:List zf.T) (t12:Int) (hN:t12=(t11.length:Int)) (hL:t11.length<9223372036854775807):∀(xs:List zf.T) (i fu:Nat) (lo:Int) (hi:Int) (top:Int) (r2:zf.T),t11.drop i=xs->xs.length<fu->
  ym.l4 F k0 fu lo hi top t11 t12 (i:Int) r2=ym.l4.rg F k0 t11 t12 xs (i:Int) lo hi top r2:=by
 intro xs;induction xs with
 | nil =>
  intro i fu lo hi top r2 hZ hfZ;obtain ⟨fu,rfl⟩:∃k,fu=k+1:=⟨fu-1,by simp at hfZ; omega⟩;have e1:=vb hN (wa hZ);simp only[ym.l4,ym.l4.body,ym.l4.rg,e1,cond_false]
 | cons x_ xs ih =>
  intro i fu lo hi top r2 hZ hfZ;obtain ⟨fu,rfl⟩:∃k,fu=k+1:=⟨fu-1,by simp at hfZ; omega⟩;have e0:=xT hZ;have e1:=va hN e0;have e2:=yZ e0;have e3:=xY (t:=zf) hZ;have e4:=xS e0 hL;have e5:∀(lo:Int) (hi:Int) (top:Int) (r2:zf.T),ym.l4 F k0 fu lo hi top t11 t12 ((i:Int)+1) r2=ym.l4.rg F k0 t11 t12 xs ((i:Int)+1) lo hi top r2:=fun lo hi top r2=>by
   have:=ih (i+1) fu lo hi top r2 (xm hZ) (by simp at hfZ; omega);rwa [y4] at this
  simp only[ym.l4,ym.l4.body,ym.l4.rg,e1,e2,e3,e4,e5,cond_true]
def zk.l4.rg {R:Type} (F:Nat) (k0:zk.l4.K0 R) (k1:zk.l4.K1 R) (t17:List zr.T) (t18:Int):List zr.T->Int->zI.T->yv.T->(List zf.T)->(List zf.T)->Option R
 | [],t19,p,m,mags,pile=>k1 t17 t18 t19 (decide (t19<t18)) p m mags pile
 | x_::xs,t19,p,m,mags,pile =>
  oB (zQ.sh F x_) fun c_1 =>
   bif (zG pile.length (some (i64.wrap ((pile.length:Int)-c_1.1.1))) none).1 then oB (zy.sh F m p x_ ((List.take (zG pile.length (some (i64.wrap ((pile.length:Int)-c_1.1.1))) none).2.2 pile).drop (zG pile.length (some (i64.wrap ((pile.length:Int)-c_1.1.1))) none).2.1)) fun c_2 =>
    bif c_2.2.1.2 then k0 ([]) t19
    else oB (y9.sh F x_ c_2.1.1) fun c_3 =>
    bif c_3.1.1 then k0 ([]) t19
    else bif Nat.ble (mags.length+([c_2.1.1]:List zf.T).length) xp then bif (zG pile.length none (some (i64.wrap ((pile.length:Int)-c_1.1.1)))).1 then bif Nat.ble ((zG pile.length none (some (i64.wrap ((pile.length:Int)-c_1.1.1)))).2.2+([c_2.1.1]:List zf.T).length) xp then zk.l4.rg F k0 k1 t17 t18 xs (t19+1) p c_2.2.1 (mags++([c_2.1.1]:List zf.T)) (pile.take (zG pile.length none (some (i64.wrap ((pile.length:Int)-c_1.1.1)))).2.2++([c_2.1.1]:List zf.T))
      else none
     else none
    else none
   else none
theorem zk.l4.rg_eq {R:Type} (F:Nat) (k0:zk.l4.K0 R) (k1:zk.l4.K1 R) (t17:List zr.T) (t18:Int) (hN:t18=(t17.length:Int)) (hL:t17.length<9223372036854775807):∀(xs:List zr.T) (i fu:Nat) (p:zI.T) (m:yv.T) (mags:List zf.T) (pile:List zf.T),t17.drop i=xs->xs.length<fu->
  zk.l4 F k0 k1 fu t17 t18 (i:Int) p m mags pile=zk.l4.rg F k0 k1 t17 t18 xs (i:Int) p m mags pile:=by
 intro xs;induction xs with
 | nil =>
  intro i fu p m mags pile hZ hfZ;obtain ⟨fu,rfl⟩:∃k,fu=k+1:=⟨fu-1,by simp at hfZ; omega⟩;have e1:=vb hN (wa hZ);simp only[zk.l4,zk.l4.body,zk.l4.rg,e1,cond_false]
 | cons x_ xs ih =>
  intro i fu p m mags pile hZ hfZ;obtain ⟨fu,rfl⟩:∃k,fu=k+1:=⟨fu-1,by simp at hfZ; omega⟩;have e0:=xT hZ;have e1:=va hN e0;have e2:=yZ e0;have e3:=xY (t:=zr) hZ;have e4:=xS e0 hL;have e5:∀(p:zI.T) (m:yv.T) (mags:List zf.T) (pile:List zf.T),zk.l4 F k0 k1 fu t17 t18 ((i:Int)+1) p m mags pile=zk.l4.rg F k0 k1 t17 t18 xs ((i:Int)+1) p m mags pile:=fun p m mags pile=>by
   have:=ih (i+1) fu p m mags pile (xm hZ) (by simp at hfZ; omega);rwa [y4] at this
  simp only[zk.l4,zk.l4.body,zk.l4.rg,e1,e2,e3,e4,e5,cond_true]
def zn.l1.rg {R:Type} (me:za.M) (F:Nat) (k0:zn.l1.K0 R) (t6:List Int) (t7:Int):List Int->Int->(zI.T×(List Int)×zf.T×zi.T×List Nat)->(List Int)->(List zf.T)->(List (List zo.T))->(List zM.T)->Option R
 | [],t8,m,m_9,m_10,m_11,m_12=>k0 t6 t7 t8 (decide (t8<t7)) (m.1,m.2.1,m.2.2.1,(m.2.2.2.1.1,m.2.2.2.1.2.1,[],[],[],[]),m.2.2.2.2) m_9 m_10 m_11 m_12
 | x_::xs,t8,m,m_9,m_10,m_11,m_12 =>
  oB (me (m.1,m.2.1,m.2.2.1,(m.2.2.2.1.1,m.2.2.2.1.2.1,m_9,m_10,m_11,m_12),m.2.2.2.2) x_) fun c_1 =>
   zn.l1.rg me F k0 t6 t7 xs (t8+1) (c_1.2.1.1,c_1.2.1.2.1,c_1.2.1.2.2.1,(c_1.2.1.2.2.2.1.1,c_1.2.1.2.2.2.1.2.1,[],[],[],[]),c_1.2.1.2.2.2.2) c_1.2.1.2.2.2.1.2.2.1 c_1.2.1.2.2.2.1.2.2.2.1 c_1.2.1.2.2.2.1.2.2.2.2.1 c_1.2.1.2.2.2.1.2.2.2.2.2
theorem zn.l1.rg_eq {R:Type} (me:za.M) (F:Nat) (k0:zn.l1.K0 R) (t6:List Int) (t7:Int) (hN:t7=(t6.length:Int)) (hL:t6.length<9223372036854775807):∀(xs:List Int) (i fu:Nat) (m:zI.T×(List Int)×zf.T×zi.T×List Nat) (m_9:List Int) (m_10:List zf.T) (m_11:List (List zo.T)) (m_12:List zM.T),t6.drop i=xs->xs.length<fu->
  zn.l1 me F k0 fu t6 t7 (i:Int) m m_9 m_10 m_11 m_12=zn.l1.rg me F k0 t6 t7 xs (i:Int) m m_9 m_10 m_11 m_12:=by
 intro xs;induction xs with
 | nil =>
  intro i fu m m_9 m_10 m_11 m_12 hZ hfZ;obtain ⟨fu,rfl⟩:∃k,fu=k+1:=⟨fu-1,by simp at hfZ; omega⟩;have e1:=vb hN (wa hZ);simp only[zn.l1,zn.l1.body,zn.l1.rg,e1,cond_false]
 | cons x_ xs ih =>
  intro i fu m m_9 m_10 m_11 m_12 hZ hfZ;obtain ⟨fu,rfl⟩:∃k,fu=k+1:=⟨fu-1,by simp at hfZ; omega⟩;have e0:=xT hZ;have e1:=va hN e0;have e2:=yZ e0;have e3:=xY (t:=(.int .i64)) hZ;have e4:=xS e0 hL;have e5:∀(m:zI.T×(List Int)×zf.T×zi.T×List Nat) (m_9:List Int) (m_10:List zf.T) (m_11:List (List zo.T)) (m_12:List zM.T),zn.l1 me F k0 fu t6 t7 ((i:Int)+1) m m_9 m_10 m_11 m_12=zn.l1.rg me F k0 t6 t7 xs ((i:Int)+1) m m_9 m_10 m_11 m_12:=fun m m_9 m_10 m_11 m_12=>by
   have:=ih (i+1) fu m m_9 m_10 m_11 m_12 (xm hZ) (by simp at hfZ; omega);rwa [y4] at this
  simp only[zn.l1,zn.l1.body,zn.l1.rg,e1,e2,e3,e4,e5,cond_true]
def zu.l4.rg {R:Type} (F:Nat) (k0:Bool->Option R) (k1:zu.l4.K1 R) (s1:List zo.T) (t12:Int):List zo.T->Int->(List zo.T)->Option R
 | [],t13,s2=>k1 s1 s2 t12 t13 (decide (t13<t12))
 | x_::xs,t13,s2 =>
  bif idx t13 s2.length then bif !((x_.1==(get zo s2 t13.toNat).1)&&((x_.2==(get zo s2 t13.toNat).2)&&true)) then k0 false
    else zu.l4.rg F k0 k1 s1 t12 xs (t13+1) s2
   else none
theorem zu.l4.rg_eq {R:Type} (F:Nat) (k0:Bool->Option R) (k1:zu.l4.K1 R) (s1:List zo.T) (t12:Int) (hN:t12=(s1.length:Int)) (hL:s1.length<9223372036854775807):∀(xs:List zo.T) (i fu:Nat) (s2:List zo.T),s1.drop i=xs->xs.length<fu->
  zu.l4 F k0 k1 fu s1 s2 t12 (i:Int)=zu.l4.rg F k0 k1 s1 t12 xs (i:Int) s2:=by
 intro xs;induction xs with
 | nil =>
  intro i fu s2 hZ hfZ;obtain ⟨fu,rfl⟩:∃k,fu=k+1:=⟨fu-1,by simp at hfZ; omega⟩;have e1:=vb hN (wa hZ);simp only[zu.l4,zu.l4.body,zu.l4.rg,e1,cond_false]
 | cons x_ xs ih =>
  intro i fu s2 hZ hfZ;obtain ⟨fu,rfl⟩:∃k,fu=k+1:=⟨fu-1,by simp at hfZ; omega⟩;have e0:=xT hZ;have e1:=va hN e0;have e2:=yZ e0;have e3:=xY (t:=zo) hZ;have e4:=xS e0 hL;have e5:∀(s2:List zo.T),zu.l4 F k0 k1 fu s1 s2 t12 ((i:Int)+1)=zu.l4.rg F k0 k1 s1 t12 xs ((i:Int)+1) s2:=fun s2=>by
   have:=ih (i+1) fu s2 (xm hZ) (by simp at hfZ; omega);rwa [y4] at this
  simp only[zu.l4,zu.l4.body,zu.l4.rg,e1,e2,e3,e4,e5,cond_true]
def zg.l2.rg {R:Type} (F:Nat) (k0:Int->Option R) (k1:zg.l2.K1 R) (s:List (List zo.T)) (t7:Int):List (List zo.T)->Int->(Nat×(List zo.T))->Option R
 | [],t8,f=>k1 s (f.1,f.2) t7 t8 (decide (t8<t7))
 | x_::xs,t8,f =>
  oB (zg.d16 F (f.1+1) (x_,f.2,())) fun c_1 =>
   bif c_1.1.1 then k0 t8
   else zg.l2.rg F k0 k1 s t7 xs (t8+1) (f.1,f.2)
theorem zg.l2.rg_eq {R:Type} (F:Nat) (k0:Int->Option R) (k1:zg.l2.K1 R) (s:List (List zo.T)) (t7:Int) (hN:t7=(s.length:Int)) (hL:s.length<9223372036854775807):∀(xs:List (List zo.T)) (i fu:Nat) (f:Nat×(List zo.T)),s.drop i=xs->xs.length<fu->
  zg.l2 F k0 k1 fu s f t7 (i:Int)=zg.l2.rg F k0 k1 s t7 xs (i:Int) f:=by
 intro xs;induction xs with
 | nil =>
  intro i fu f hZ hfZ;obtain ⟨fu,rfl⟩:∃k,fu=k+1:=⟨fu-1,by simp at hfZ; omega⟩;have e1:=vb hN (wa hZ);simp only[zg.l2,zg.l2.body,zg.l2.rg,e1,cond_false]
 | cons x_ xs ih =>
  intro i fu f hZ hfZ;obtain ⟨fu,rfl⟩:∃k,fu=k+1:=⟨fu-1,by simp at hfZ; omega⟩;have e0:=xT hZ;have e1:=va hN e0;have e2:=yZ e0;have e3:=xY (t:=(.sl zo)) hZ;have e4:=xS e0 hL;have e5:∀(f:Nat×(List zo.T)),zg.l2 F k0 k1 fu s f t7 ((i:Int)+1)=zg.l2.rg F k0 k1 s t7 xs ((i:Int)+1) f:=fun f=>by
   have:=ih (i+1) fu f (xm hZ) (by simp at hfZ; omega);rwa [y4] at this
  simp only[zg.l2,zg.l2.body,zg.l2.rg,e1,e2,e3,e4,e5,cond_true]
def zq.l2.rg {R:Type} (F:Nat) (k0:Int->Option R) (k1:zq.l2.K1 R) (s:List zf.T) (t7:Int):List zf.T->Int->zf.T->Option R
 | [],t8,v=>k1 s t7 t8 (decide (t8<t7)) v
 | x_::xs,t8,v =>
  bif ((v.1==x_.1)&&((v.2==x_.2)&&true)) then k0 t8
   else zq.l2.rg F k0 k1 s t7 xs (t8+1) v
theorem zq.l2.rg_eq {R:Type} (F:Nat) (k0:Int->Option R) (k1:zq.l2.K1 R) (s:List zf.T) (t7:Int) (hN:t7=(s.length:Int)) (hL:s.length<9223372036854775807):∀(xs:List zf.T) (i fu:Nat) (v:zf.T),s.drop i=xs->xs.length<fu->
  zq.l2 F k0 k1 fu s t7 (i:Int) v=zq.l2.rg F k0 k1 s t7 xs (i:Int) v:=by
 intro xs;induction xs with
 | nil =>
  intro i fu v hZ hfZ;obtain ⟨fu,rfl⟩:∃k,fu=k+1:=⟨fu-1,by simp at hfZ; omega⟩;have e1:=vb hN (wa hZ);simp only[zq.l2,zq.l2.body,zq.l2.rg,e1,cond_false]
 | cons x_ xs ih =>
  intro i fu v hZ hfZ;obtain ⟨fu,rfl⟩:∃k,fu=k+1:=⟨fu-1,by simp at hfZ; omega⟩;have e0:=xT hZ;have e1:=va hN e0;have e2:=yZ e0;have e3:=xY (t:=zf) hZ;have e4:=xS e0 hL;have e5:∀(v:zf.T),zq.l2 F k0 k1 fu s t7 ((i:Int)+1) v=zq.l2.rg F k0 k1 s t7 xs ((i:Int)+1) v:=fun v=>by
   have:=ih (i+1) fu v (xm hZ) (by simp at hfZ; omega);rwa [y4] at this
  simp only[zq.l2,zq.l2.body,zq.l2.rg,e1,e2,e3,e4,e5,cond_true]
def ze.l6.rg {R:Type} (me:za.M) (F:Nat) (k0:ze.l6.K0 R) (t18:List Int) (t19:Int):List Int->Int->Int->(zI.T×(List Int)×zf.T×zi.T×List Nat)->(List Int)->(List zf.T)->(List (List zo.T))->(List zM.T)->Option R
 | [],t20,op,m,m_9,m_10,m_11,m_12=>k0 op t18 t19 t20 (decide (t20<t19)) (m.1,m.2.1,m.2.2.1,(m.2.2.2.1.1,m.2.2.2.1.2.1,[],[],[],[]),m.2.2.2.2) m_9 m_10 m_11 m_12
 | x_::xs,t20,op,m,m_9,m_10,m_11,m_12 =>
  oB (me (m.1,m.2.1,m.2.2.1,(m.2.2.2.1.1,m.2.2.2.1.2.1,m_9,m_10,m_11,m_12),m.2.2.2.2) x_) fun c_2 =>
   oB (zw.sh F c_2.2.1 op 0) fun c_3 =>
   ze.l6.rg me F k0 t18 t19 xs (t20+1) op (c_3.2.1.1,c_3.2.1.2.1,c_3.2.1.2.2.1,(c_3.2.1.2.2.2.1.1,c_3.2.1.2.2.2.1.2.1,[],[],[],[]),c_3.2.1.2.2.2.2) c_3.2.1.2.2.2.1.2.2.1 c_3.2.1.2.2.2.1.2.2.2.1 c_3.2.1.2.2.2.1.2.2.2.2.1 c_3.2.1.2.2.2.1.2.2.2.2.2
theorem ze.l6.rg_eq {R:Type} (me:za.M) (F:Nat) (k0:ze.l6.K0 R) (t18:List Int) (t19:Int) (hN:t19=(t18.length:Int)) (hL:t18.length<9223372036854775807):∀(xs:List Int) (i fu:Nat) (op:Int) (m:zI.T×(List Int)×zf.T×zi.T×List Nat) (m_9:List Int) (m_10:List zf.T) (m_11:List (List zo.T)) (m_12:List zM.T),t18.drop i=xs->xs.length<fu->
  ze.l6 me F k0 fu op t18 t19 (i:Int) m m_9 m_10 m_11 m_12=ze.l6.rg me F k0 t18 t19 xs (i:Int) op m m_9 m_10 m_11 m_12:=by
 intro xs;induction xs with
 | nil =>
  intro i fu op m m_9 m_10 m_11 m_12 hZ hfZ;obtain ⟨fu,rfl⟩:∃k,fu=k+1:=⟨fu-1,by simp at hfZ; omega⟩;have e1:=vb hN (wa hZ);simp only[ze.l6,ze.l6.body,ze.l6.rg,e1,cond_false]
 | cons x_ xs ih =>
  intro i fu op m m_9 m_10 m_11 m_12 hZ hfZ;obtain ⟨fu,rfl⟩:∃k,fu=k+1:=⟨fu-1,by simp at hfZ; omega⟩;have e0:=xT hZ;have e1:=va hN e0;have e2:=yZ e0;have e3:=xY (t:=(.int .i64)) hZ;have e4:=xS e0 hL;have e5:∀(op:Int) (m:zI.T×(List Int)×zf.T×zi.T×List Nat) (m_9:List Int) (m_10:List zf.T) (m_11:List (List zo.T)) (m_12:List zM.T),ze.l6 me F k0 fu op t18 t19 ((i:Int)+1) m m_9 m_10 m_11 m_12=ze.l6.rg me F k0 t18 t19 xs ((i:Int)+1) op m m_9 m_10 m_11 m_12:=fun op m m_9 m_10 m_11 m_12=>by
   have:=ih (i+1) fu op m m_9 m_10 m_11 m_12 (xm hZ) (by simp at hfZ; omega);rwa [y4] at this
  simp only[ze.l6,ze.l6.body,ze.l6.rg,e1,e2,e3,e4,e5,cond_true]
def zL.l10.rg {R:Type} (F:Nat) (k0:zL.l10.K0 R) (t55:List xd.T) (t56:Int):List xd.T->Int->zI.T->zi.T->(zI.T×(List Int)×zf.T×zi.T×List Nat)->(List Int)->(List zf.T)->(List (List zo.T))->(List zM.T)->Option R
 | [],t57,p,r2,m,m_9,m_10,m_11,m_12=>k0 t55 t56 t57 (decide (t57<t56)) p r2 (m.1,m.2.1,m.2.2.1,(m.2.2.2.1.1,m.2.2.2.1.2.1,[],[],[],[]),m.2.2.2.2) m_9 m_10 m_11 m_12
 | x_::xs,t57,p,r2,m,m_9,m_10,m_11,m_12 =>
  bif Nat.ble (m_9.length+([x_.2]:List Int).length) xp then zL.l10.rg F k0 t55 t56 xs (t57+1) p r2 (m.1,m.2.1,m.2.2.1,(m.2.2.2.1.1,m.2.2.2.1.2.1,[],[],[],[]),m.2.2.2.2) (m_9++([x_.2]:List Int)) m_10 m_11 m_12
   else none
theorem zL.l10.rg_eq {R:Type} (F:Nat) (k0:zL.l10.K0 R) (t55:List xd.T) (t56:Int) (hN:t56=(t55.length:Int)) (hL:t55.length<9223372036854775807):∀(xs:List xd.T) (i fu:Nat) (p:zI.T) (r2:zi.T) (m:zI.T×(List Int)×zf.T×zi.T×List Nat) (m_9:List Int) (m_10:List zf.T) (m_11:List (List zo.T)) (m_12:List zM.T),t55.drop i=xs->xs.length<fu->
  zL.l10 F k0 fu t55 t56 (i:Int) p r2 m m_9 m_10 m_11 m_12=zL.l10.rg F k0 t55 t56 xs (i:Int) p r2 m m_9 m_10 m_11 m_12:=by
 intro xs;induction xs with
 | nil =>
  intro i fu p r2 m m_9 m_10 m_11 m_12 hZ hfZ;obtain ⟨fu,rfl⟩:∃k,fu=k+1:=⟨fu-1,by simp at hfZ; omega⟩;have e1:=vb hN (wa hZ);simp only[zL.l10,zL.l10.body,zL.l10.rg,e1,cond_false]
 | cons x_ xs ih =>
  intro i fu p r2 m m_9 m_10 m_11 m_12 hZ hfZ;obtain ⟨fu,rfl⟩:∃k,fu=k+1:=⟨fu-1,by simp at hfZ; omega⟩;have e0:=xT hZ;have e1:=va hN e0;have e2:=yZ e0;have e3:=xY (t:=xd) hZ;have e4:=xS e0 hL;have e5:∀(p:zI.T) (r2:zi.T) (m:zI.T×(List Int)×zf.T×zi.T×List Nat) (m_9:List Int) (m_10:List zf.T) (m_11:List (List zo.T)) (m_12:List zM.T),zL.l10 F k0 fu t55 t56 ((i:Int)+1) p r2 m m_9 m_10 m_11 m_12=zL.l10.rg F k0 t55 t56 xs ((i:Int)+1) p r2 m m_9 m_10 m_11 m_12:=fun p r2 m m_9 m_10 m_11 m_12=>by
   have:=ih (i+1) fu p r2 m m_9 m_10 m_11 m_12 (xm hZ) (by simp at hfZ; omega);rwa [y4] at this
  simp only[zL.l10,zL.l10.body,zL.l10.rg,e1,e2,e3,e4,e5,cond_true]
def zU.l4.rg {R:Type} (F:Nat) (k0:Bool->Option R) (k1:zU.l4.K1 R) (t20:List zo.T) (t21:Int):List zo.T->Int->(List zo.T)->Option R
 | [],t22,tiers=>k1 tiers t20 t21 t22 (decide (t22<t21))
 | x_::xs,t22,tiers =>
  bif decide (t22>0) then bif idx (i64.wrap (t22-1)) tiers.length then bif decide (x_.1<=(get zo tiers ((i64.wrap (t22-1)).toNat)).1) then k0 false
     else bif decide (x_.1>1000000000000) then k0 false
     else bif decide (x_.2<(-1000000000000)) then k0 false
     else bif decide (x_.2>1000000000000) then k0 false
     else zU.l4.rg F k0 k1 t20 t21 xs (t22+1) tiers
    else none
   else bif decide (x_.1>1000000000000) then k0 false
   else bif decide (x_.2<(-1000000000000)) then k0 false
   else bif decide (x_.2>1000000000000) then k0 false
   else zU.l4.rg F k0 k1 t20 t21 xs (t22+1) tiers
theorem zU.l4.rg_eq {R:Type} (F:Nat) (k0:Bool->Option R) (k1:zU.l4.K1 R) (t20:List zo.T) (t21:Int) (hN:t21=(t20.length:Int)) (hL:t20.length<9223372036854775807):∀(xs:List zo.T) (i fu:Nat) (tiers:List zo.T),t20.drop i=xs->xs.length<fu->
  zU.l4 F k0 k1 fu tiers t20 t21 (i:Int)=zU.l4.rg F k0 k1 t20 t21 xs (i:Int) tiers:=by
 intro xs;induction xs with
 | nil =>
  intro i fu tiers hZ hfZ;obtain ⟨fu,rfl⟩:∃k,fu=k+1:=⟨fu-1,by simp at hfZ; omega⟩;have e1:=vb hN (wa hZ);simp only[zU.l4,zU.l4.body,zU.l4.rg,e1,cond_false]
 | cons x_ xs ih =>
  intro i fu tiers hZ hfZ;obtain ⟨fu,rfl⟩:∃k,fu=k+1:=⟨fu-1,by simp at hfZ; omega⟩;have e0:=xT hZ;have e1:=va hN e0;have e2:=yZ e0;have e3:=xY (t:=zo) hZ;have e4:=xS e0 hL;have e5:∀(tiers:List zo.T),zU.l4 F k0 k1 fu tiers t20 t21 ((i:Int)+1)=zU.l4.rg F k0 k1 t20 t21 xs ((i:Int)+1) tiers:=fun tiers=>by
   have:=ih (i+1) fu tiers (xm hZ) (by simp at hfZ; omega);rwa [y4] at this
  simp only[zU.l4,zU.l4.body,zU.l4.rg,e1,e2,e3,e4,e5,cond_true]
def zt.l4.rg {R:Type} (F:Nat) (k0:Int->Option R) (k1:zt.l4.K1 R) (t40:List Int) (t41:Int):List Int->Int->zi.T->Option R
 | [],t42,p=>k1 t40 t41 t42 (decide (t42<t41)) p
 | x_::xs,t42,p =>
  bif decide (x_<1) then k0 1
   else bif decide (x_>1000000000000) then k0 1
   else zt.l4.rg F k0 k1 t40 t41 xs (t42+1) p
theorem zt.l4.rg_eq {R:Type} (F:Nat) (k0:Int->Option R) (k1:zt.l4.K1 R) (t40:List Int) (t41:Int) (hN:t41=(t40.length:Int)) (hL:t40.length<9223372036854775807):∀(xs:List Int) (i fu:Nat) (p:zi.T),t40.drop i=xs->xs.length<fu->
  zt.l4 F k0 k1 fu t40 t41 (i:Int) p=zt.l4.rg F k0 k1 t40 t41 xs (i:Int) p:=by
 intro xs;induction xs with
 | nil =>
  intro i fu p hZ hfZ;obtain ⟨fu,rfl⟩:∃k,fu=k+1:=⟨fu-1,by simp at hfZ; omega⟩;have e1:=vb hN (wa hZ);simp only[zt.l4,zt.l4.body,zt.l4.rg,e1,cond_false]
 | cons x_ xs ih =>
  intro i fu p hZ hfZ;obtain ⟨fu,rfl⟩:∃k,fu=k+1:=⟨fu-1,by simp at hfZ; omega⟩;have e0:=xT hZ;have e1:=va hN e0;have e2:=yZ e0;have e3:=xY (t:=(.int .i64)) hZ;have e4:=xS e0 hL;have e5:∀(p:zi.T),zt.l4 F k0 k1 fu t40 t41 ((i:Int)+1) p=zt.l4.rg F k0 k1 t40 t41 xs ((i:Int)+1) p:=fun p=>by
   have:=ih (i+1) fu p (xm hZ) (by simp at hfZ; omega);rwa [y4] at this
  simp only[zt.l4,zt.l4.body,zt.l4.rg,e1,e2,e3,e4,e5,cond_true]
def zt.l12.rg {R:Type} (F:Nat) (k0:Int->Option R) (k1:zt.l12.K1 R) (t70:List (List zo.T)) (t71:Int):List (List zo.T)->Int->zi.T->Option R
 | [],t72,p=>k1 t70 t71 t72 (decide (t72<t71)) p
 | x_::xs,t72,p =>
  oB (zU.sh F x_) fun c_3 =>
   bif !c_3.1.1 then k0 51
   else zt.l12.rg F k0 k1 t70 t71 xs (t72+1) p
theorem zt.l12.rg_eq {R:Type} (F:Nat) (k0:Int->Option R) (k1:zt.l12.K1 R) (t70:List (List zo.T)) (t71:Int) (hN:t71=(t70.length:Int)) (hL:t70.length<9223372036854775807):∀(xs:List (List zo.T)) (i fu:Nat) (p:zi.T),t70.drop i=xs->xs.length<fu->
  zt.l12 F k0 k1 fu t70 t71 (i:Int) p=zt.l12.rg F k0 k1 t70 t71 xs (i:Int) p:=by
 intro xs;induction xs with
 | nil =>
  intro i fu p hZ hfZ;obtain ⟨fu,rfl⟩:∃k,fu=k+1:=⟨fu-1,by simp at hfZ; omega⟩;have e1:=vb hN (wa hZ);simp only[zt.l12,zt.l12.body,zt.l12.rg,e1,cond_false]
 | cons x_ xs ih =>
  intro i fu p hZ hfZ;obtain ⟨fu,rfl⟩:∃k,fu=k+1:=⟨fu-1,by simp at hfZ; omega⟩;have e0:=xT hZ;have e1:=va hN e0;have e2:=yZ e0;have e3:=xY (t:=(.sl zo)) hZ;have e4:=xS e0 hL;have e5:∀(p:zi.T),zt.l12 F k0 k1 fu t70 t71 ((i:Int)+1) p=zt.l12.rg F k0 k1 t70 t71 xs ((i:Int)+1) p:=fun p=>by
   have:=ih (i+1) fu p (xm hZ) (by simp at hfZ; omega);rwa [y4] at this
  simp only[zt.l12,zt.l12.body,zt.l12.rg,e1,e2,e3,e4,e5,cond_true]
def zt.l18.rg {R:Type} (F:Nat) (k0:Int->Option R) (k1:zt.l18.K1 R) (t81:List zM.T) (t82:Int):List zM.T->Int->Option R
 | [],t83=>k1 t81 t82 t83 (decide (t83<t82))
 | x_::xs,t83 =>
  bif decide (x_.1<0) then k0 170
   else bif decide (x_.1>255) then k0 170
   else bif decide (x_.2.1<0) then k0 170
   else bif decide (x_.2.1>65535) then k0 170
   else bif decide (x_.2.2<0) then k0 170
   else bif decide (x_.2.2>65535) then k0 170
   else zt.l18.rg F k0 k1 t81 t82 xs (t83+1)
theorem zt.l18.rg_eq {R:Type} (F:Nat) (k0:Int->Option R) (k1:zt.l18.K1 R) (t81:List zM.T) (t82:Int) (hN:t82=(t81.length:Int)) (hL:t81.length<9223372036854775807):∀(xs:List zM.T) (i fu:Nat),t81.drop i=xs->xs.length<fu->
  zt.l18 F k0 k1 fu t81 t82 (i:Int)=zt.l18.rg F k0 k1 t81 t82 xs (i:Int):=by
 intro xs;induction xs with
 | nil =>
  intro i fu hZ hfZ;obtain ⟨fu,rfl⟩:∃k,fu=k+1:=⟨fu-1,by simp at hfZ; omega⟩;have e1:=vb hN (wa hZ);simp only[zt.l18,zt.l18.body,zt.l18.rg,e1,cond_false]
 | cons x_ xs ih =>
  intro i fu hZ hfZ;obtain ⟨fu,rfl⟩:∃k,fu=k+1:=⟨fu-1,by simp at hfZ; omega⟩;have e0:=xT hZ;have e1:=va hN e0;have e2:=yZ e0;have e3:=xY (t:=zM) hZ;have e4:=xS e0 hL;have e5:zt.l18 F k0 k1 fu t81 t82 ((i:Int)+1)=zt.l18.rg F k0 k1 t81 t82 xs ((i:Int)+1):=by
   have:=ih (i+1) fu (xm hZ) (by simp at hfZ; omega);rwa [y4] at this
  simp only[zt.l18,zt.l18.body,zt.l18.rg,e1,e2,e3,e4,e5,cond_true]
def zb.l6.rg {R:Type} (F:Nat) (k0:zb.l6.K0 R) (t36:List Int) (t37:Int):List Int->Int->zi.T->(List Int)->Option R
 | [],t38,p,b=>k0 t36 t37 t38 (decide (t38<t37)) p b
 | x_::xs,t38,p,b =>
  oB (ya.sh F b (u64.wrap x_) 8) fun c_2 =>
   zb.l6.rg F k0 t36 t37 xs (t38+1) p c_2.1.1
theorem zb.l6.rg_eq {R:Type} (F:Nat) (k0:zb.l6.K0 R) (t36:List Int) (t37:Int) (hN:t37=(t36.length:Int)) (hL:t36.length<9223372036854775807):∀(xs:List Int) (i fu:Nat) (p:zi.T) (b:List Int),t36.drop i=xs->xs.length<fu->
  zb.l6 F k0 fu t36 t37 (i:Int) p b=zb.l6.rg F k0 t36 t37 xs (i:Int) p b:=by
 intro xs;induction xs with
 | nil =>
  intro i fu p b hZ hfZ;obtain ⟨fu,rfl⟩:∃k,fu=k+1:=⟨fu-1,by simp at hfZ; omega⟩;have e1:=vb hN (wa hZ);simp only[zb.l6,zb.l6.body,zb.l6.rg,e1,cond_false]
 | cons x_ xs ih =>
  intro i fu p b hZ hfZ;obtain ⟨fu,rfl⟩:∃k,fu=k+1:=⟨fu-1,by simp at hfZ; omega⟩;have e0:=xT hZ;have e1:=va hN e0;have e2:=yZ e0;have e3:=xY (t:=(.int .i64)) hZ;have e4:=xS e0 hL;have e5:∀(p:zi.T) (b:List Int),zb.l6 F k0 fu t36 t37 ((i:Int)+1) p b=zb.l6.rg F k0 t36 t37 xs ((i:Int)+1) p b:=fun p b=>by
   have:=ih (i+1) fu p b (xm hZ) (by simp at hfZ; omega);rwa [y4] at this
  simp only[zb.l6,zb.l6.body,zb.l6.rg,e1,e2,e3,e4,e5,cond_true]
def zb.l12.rg {R:Type} (F:Nat) (k0:zb.l12.K0 R) (t54:List zf.T) (t55:Int):List zf.T->Int->zi.T->(List Int)->Option R
 | [],t56,p,b=>k0 t54 t55 t56 (decide (t56<t55)) p b
 | x_::xs,t56,p,b =>
  oB (ya.sh F b x_.2 8) fun c_5 =>
   oB (ya.sh F c_5.1.1 (u64.wrap x_.1) 8) fun c_6 =>
   zb.l12.rg F k0 t54 t55 xs (t56+1) p c_6.1.1
theorem zb.l12.rg_eq {R:Type} (F:Nat) (k0:zb.l12.K0 R) (t54:List zf.T) (t55:Int) (hN:t55=(t54.length:Int)) (hL:t54.length<9223372036854775807):∀(xs:List zf.T) (i fu:Nat) (p:zi.T) (b:List Int),t54.drop i=xs->xs.length<fu->
  zb.l12 F k0 fu t54 t55 (i:Int) p b=zb.l12.rg F k0 t54 t55 xs (i:Int) p b:=by
 intro xs;induction xs with
 | nil =>
  intro i fu p b hZ hfZ;obtain ⟨fu,rfl⟩:∃k,fu=k+1:=⟨fu-1,by simp at hfZ; omega⟩;have e1:=vb hN (wa hZ);simp only[zb.l12,zb.l12.body,zb.l12.rg,e1,cond_false]
 | cons x_ xs ih =>
  intro i fu p b hZ hfZ;obtain ⟨fu,rfl⟩:∃k,fu=k+1:=⟨fu-1,by simp at hfZ; omega⟩;have e0:=xT hZ;have e1:=va hN e0;have e2:=yZ e0;have e3:=xY (t:=zf) hZ;have e4:=xS e0 hL;have e5:∀(p:zi.T) (b:List Int),zb.l12 F k0 fu t54 t55 ((i:Int)+1) p b=zb.l12.rg F k0 t54 t55 xs ((i:Int)+1) p b:=fun p b=>by
   have:=ih (i+1) fu p b (xm hZ) (by simp at hfZ; omega);rwa [y4] at this
  simp only[zb.l12,zb.l12.body,zb.l12.rg,e1,e2,e3,e4,e5,cond_true]
def zb.l22.rg {R:Type} (F:Nat) (k0:zb.l22.K0 R) (t88:List zo.T) (t89:Int):List zo.T->Int->(List (List zo.T))->Int->Int->zi.T->(List Int)->Option R
 | [],t90,t76,t77,t78,p,b=>k0 t76 t77 t78 t88 t89 t90 (decide (t90<t89)) p b
 | x_::xs,t90,t76,t77,t78,p,b =>
  oB (ya.sh F b (u64.wrap x_.1) 8) fun c_9 =>
   oB (ya.sh F c_9.1.1 (u64.wrap x_.2) 8) fun c_10 =>
   zb.l22.rg F k0 t88 t89 xs (t90+1) t76 t77 t78 p c_10.1.1
theorem zb.l22.rg_eq {R:Type} (F:Nat) (k0:zb.l22.K0 R) (t88:List zo.T) (t89:Int) (hN:t89=(t88.length:Int)) (hL:t88.length<9223372036854775807):∀(xs:List zo.T) (i fu:Nat) (t76:List (List zo.T)) (t77:Int) (t78:Int) (p:zi.T) (b:List Int),t88.drop i=xs->xs.length<fu->
  zb.l22 F k0 fu t76 t77 t78 t88 t89 (i:Int) p b=zb.l22.rg F k0 t88 t89 xs (i:Int) t76 t77 t78 p b:=by
 intro xs;induction xs with
 | nil =>
  intro i fu t76 t77 t78 p b hZ hfZ;obtain ⟨fu,rfl⟩:∃k,fu=k+1:=⟨fu-1,by simp at hfZ; omega⟩;have e1:=vb hN (wa hZ);simp only[zb.l22,zb.l22.body,zb.l22.rg,e1,cond_false]
 | cons x_ xs ih =>
  intro i fu t76 t77 t78 p b hZ hfZ;obtain ⟨fu,rfl⟩:∃k,fu=k+1:=⟨fu-1,by simp at hfZ; omega⟩;have e0:=xT hZ;have e1:=va hN e0;have e2:=yZ e0;have e3:=xY (t:=zo) hZ;have e4:=xS e0 hL;have e5:∀(t76:List (List zo.T)) (t77:Int) (t78:Int) (p:zi.T) (b:List Int),zb.l22 F k0 fu t76 t77 t78 t88 t89 ((i:Int)+1) p b=zb.l22.rg F k0 t88 t89 xs ((i:Int)+1) t76 t77 t78 p b:=fun t76 t77 t78 p b=>by
   have:=ih (i+1) fu t76 t77 t78 p b (xm hZ) (by simp at hfZ; omega);rwa [y4] at this
  simp only[zb.l22,zb.l22.body,zb.l22.rg,e1,e2,e3,e4,e5,cond_true]
def zb.l29.rg {R:Type} (F:Nat) (k0:zb.l29.K0 R) (t112:List zM.T) (t113:Int):List zM.T->Int->(List Int)->Option R
 | [],t114,b=>k0 t112 t113 t114 (decide (t114<t113)) b
 | x_::xs,t114,b =>
  oB (ya.sh F b (u64.wrap x_.1) 1) fun c_14 =>
   oB (ya.sh F c_14.1.1 (u64.wrap x_.2.1) 2) fun c_15 =>
   oB (ya.sh F c_15.1.1 (u64.wrap x_.2.2) 2) fun c_16 =>
   zb.l29.rg F k0 t112 t113 xs (t114+1) c_16.1.1
theorem zb.l29.rg_eq {R:Type} (F:Nat) (k0:zb.l29.K0 R) (t112:List zM.T) (t113:Int) (hN:t113=(t112.length:Int)) (hL:t112.length<9223372036854775807):∀(xs:List zM.T) (i fu:Nat) (b:List Int),t112.drop i=xs->xs.length<fu->
  zb.l29 F k0 fu t112 t113 (i:Int) b=zb.l29.rg F k0 t112 t113 xs (i:Int) b:=by
 intro xs;induction xs with
 | nil =>
  intro i fu b hZ hfZ;obtain ⟨fu,rfl⟩:∃k,fu=k+1:=⟨fu-1,by simp at hfZ; omega⟩;have e1:=vb hN (wa hZ);simp only[zb.l29,zb.l29.body,zb.l29.rg,e1,cond_false]
 | cons x_ xs ih =>
  intro i fu b hZ hfZ;obtain ⟨fu,rfl⟩:∃k,fu=k+1:=⟨fu-1,by simp at hfZ; omega⟩;have e0:=xT hZ;have e1:=va hN e0;have e2:=yZ e0;have e3:=xY (t:=zM) hZ;have e4:=xS e0 hL;have e5:∀(b:List Int),zb.l29 F k0 fu t112 t113 ((i:Int)+1) b=zb.l29.rg F k0 t112 t113 xs ((i:Int)+1) b:=fun b=>by
   have:=ih (i+1) fu b (xm hZ) (by simp at hfZ; omega);rwa [y4] at this
  simp only[zb.l29,zb.l29.body,zb.l29.rg,e1,e2,e3,e4,e5,cond_true]
end Go.VS
