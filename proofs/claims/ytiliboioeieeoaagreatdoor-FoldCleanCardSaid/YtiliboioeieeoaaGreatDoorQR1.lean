import Derived.Test.YtiliboioeieeoaaGreatDoorQP2
set_option linter.all false
set_option maxRecDepth 100000
namespace Go.VS
open Go IntKind
variable {R:Type}
def zr.l2.rg {R:Type} (F:Nat) (k0:Int->Option R) (k1:zr.l2.K1 R) (s:List xB.T) (t7:Int):List xB.T->Int->(Nat×xB.T)->Option R
 | [],t8,f=>k1 s (f.1,f.2) t7 t8 (decide (t8<t7))
 | x_::xs,t8,f=>
  oB (zr.d16 F (f.1+1) (x_,f.2,())) fun c1=>
   bif c1.1.1 then k0 t8
   else zr.l2.rg F k0 k1 s t7 xs (t8+1) (f.1,f.2)
theorem zr.l2.rq (F:Nat) (k0:Int->Option R) (k1:zr.l2.K1 R) (s:List xB.T) (t7:Int) (hN:t7=(s.length:Int)) (hL:s.length<9223372036854775807):∀(xs:List xB.T) (i fu:Nat) (f:Nat×xB.T),s.drop i=xs->xs.length<fu->
  zr.l2 F k0 k1 fu s f t7 (i:Int)=zr.l2.rg F k0 k1 s t7 xs (i:Int) f:=by
 intro xs;induction xs with
 | nil=>
  intro i fu f hZ hfZ;obtain ⟨fu,rfl⟩:=pS_ hfZ;have e1:=uO hN (vZ hZ);simp only[zr.l2,zr.l2.y,zr.l2.rg,e1,cond_false]
 | cons x_ xs ih=>
  intro i fu f hZ hfZ;obtain ⟨fu,rfl⟩:=pS_ hfZ;have e0:=vc hZ;have e1:=uN hN e0;have e2:=xS e0;have e3:=vv (t:=xB) hZ;have e4:=vp e0 hL;have e5:∀(f:Nat×xB.T),zr.l2 F k0 k1 fu s f t7 ((i:Int)+1)=zr.l2.rg F k0 k1 s t7 xs ((i:Int)+1) f:=fun f=>by
   have:=ih (i+1) fu f (wz hZ) (pT_ hfZ);rwa [wd] at this
  simp only[zr.l2,zr.l2.y,zr.l2.rg,e1,e2,e3,e4,e5,cond_true]
def yZ.l6.rg {R:Type} (F:Nat) (k0:Int->Option R) (k1:Int->Option R) (k2:yZ.l6.K2 R) (t21:List xB.T) (t22:Int):List xB.T->Int->zO.T->Option R
 | [],t23,p=>k2 t21 t22 t23 (decide (t23<t22)) p
 | x_::xs,t23,p=>
  oB (vj.sh F x_.1) fun c2=>
   bif !c2.1.1 then k0 61
   else bif (zJ p.2.1.length none (some t23)).1 then oB (yW.sh F ((p.2.1.take (zJ p.2.1.length none (some t23)).2.2).drop (zJ p.2.1.length none (some t23)).2.1) (uF,x_)) fun c3=>
    bif c3.1.1 then k0 61
    else bif decide (x_.2<1) then k1 50
    else bif decide (x_.2>1000000000000) then k1 50
    else yZ.l6.rg F k0 k1 k2 t21 t22 xs (t23+1) p
   else none
theorem yZ.l6.rq (F:Nat) (k0:Int->Option R) (k1:Int->Option R) (k2:yZ.l6.K2 R) (t21:List xB.T) (t22:Int) (hN:t22=(t21.length:Int)) (hL:t21.length<9223372036854775807):∀(xs:List xB.T) (i fu:Nat) (p:zO.T),t21.drop i=xs->xs.length<fu->
  yZ.l6 F k0 k1 k2 fu t21 t22 (i:Int) p=yZ.l6.rg F k0 k1 k2 t21 t22 xs (i:Int) p:=by
 intro xs;induction xs with
 | nil=>
  intro i fu p hZ hfZ;obtain ⟨fu,rfl⟩:=pS_ hfZ;have e1:=uO hN (vZ hZ);simp only[yZ.l6,yZ.l6.y,yZ.l6.rg,e1,cond_false]
 | cons x_ xs ih=>
  intro i fu p hZ hfZ;obtain ⟨fu,rfl⟩:=pS_ hfZ;have e0:=vc hZ;have e1:=uN hN e0;have e2:=xS e0;have e3:=vv (t:=xB) hZ;have e4:=vp e0 hL;have e5:∀(p:zO.T),yZ.l6 F k0 k1 k2 fu t21 t22 ((i:Int)+1) p=yZ.l6.rg F k0 k1 k2 t21 t22 xs ((i:Int)+1) p:=fun p=>by
   have:=ih (i+1) fu p (wz hZ) (pT_ hfZ);rwa [wd] at this
  simp only[yZ.l6,yZ.l6.y,yZ.l6.rg,e1,e2,e3,e4,e5,cond_true]
def yy.l4.rg {R:Type} (F:Nat) (k0:Bool->Option R) (k1:yy.l4.K1 R) (t20:List yp.T) (t21:Int):List yp.T->Int->(List yp.T)->Option R
 | [],t22,tiers=>k1 tiers t20 t21 t22 (decide (t22<t21))
 | x_::xs,t22,tiers=>
  bif decide (t22>0) then bif idx (i64.wrap (t22-1)) tiers.length then bif decide (x_.1<=(get yp tiers ((i64.wrap (t22-1)).toNat)).1) then k0 false
     else bif decide (x_.1>1000000000000) then k0 false
     else bif decide (x_.2<(-1000000000000)) then k0 false
     else bif decide (x_.2>1000000000000) then k0 false
     else yy.l4.rg F k0 k1 t20 t21 xs (t22+1) tiers
    else none
   else bif decide (x_.1>1000000000000) then k0 false
   else bif decide (x_.2<(-1000000000000)) then k0 false
   else bif decide (x_.2>1000000000000) then k0 false
   else yy.l4.rg F k0 k1 t20 t21 xs (t22+1) tiers
theorem yy.l4.rq (F:Nat) (k0:Bool->Option R) (k1:yy.l4.K1 R) (t20:List yp.T) (t21:Int) (hN:t21=(t20.length:Int)) (hL:t20.length<9223372036854775807):∀(xs:List yp.T) (i fu:Nat) (tiers:List yp.T),t20.drop i=xs->xs.length<fu->
  yy.l4 F k0 k1 fu tiers t20 t21 (i:Int)=yy.l4.rg F k0 k1 t20 t21 xs (i:Int) tiers:=by
 intro xs;induction xs with
 | nil=>
  intro i fu tiers hZ hfZ;obtain ⟨fu,rfl⟩:=pS_ hfZ;have e1:=uO hN (vZ hZ);simp only[yy.l4,yy.l4.y,yy.l4.rg,e1,cond_false]
 | cons x_ xs ih=>
  intro i fu tiers hZ hfZ;obtain ⟨fu,rfl⟩:=pS_ hfZ;have e0:=vc hZ;have e1:=uN hN e0;have e2:=xS e0;have e3:=vv (t:=yp) hZ;have e4:=vp e0 hL;have e5:∀(tiers:List yp.T),yy.l4 F k0 k1 fu tiers t20 t21 ((i:Int)+1)=yy.l4.rg F k0 k1 t20 t21 xs ((i:Int)+1) tiers:=fun tiers=>by
   have:=ih (i+1) fu tiers (wz hZ) (pT_ hfZ);rwa [wd] at this
  simp only[yy.l4,yy.l4.y,yy.l4.rg,e1,e2,e3,e4,e5,cond_true]
def yE.l8.rg {R:Type} (F:Nat) (k0:Int->Int->Option R) (k1:yE.l8.K1 R) (t19:List za.T) (t20:Int):List za.T->Int->Int->zO.T->Option R
 | [],t21,pile,p=>k1 pile t19 t20 t21 (decide (t21<t20)) p
 | x_::xs,t21,pile,p=>
  oB (yV.sh F x_ (p.2.1.length:Int) pile) fun c2=>
   bif (c2.1.1 != 0) then k0 t21 c2.1.1
   else oB (wi.sh F x_) fun c3=>
   yE.l8.rg F k0 k1 t19 t20 xs (t21+1) (i64.wrap (pile+(i64.wrap (1-c3.1.1)))) p
theorem yE.l8.rq (F:Nat) (k0:Int->Int->Option R) (k1:yE.l8.K1 R) (t19:List za.T) (t20:Int) (hN:t20=(t19.length:Int)) (hL:t19.length<9223372036854775807):∀(xs:List za.T) (i fu:Nat) (pile:Int) (p:zO.T),t19.drop i=xs->xs.length<fu->
  yE.l8 F k0 k1 fu pile t19 t20 (i:Int) p=yE.l8.rg F k0 k1 t19 t20 xs (i:Int) pile p:=by
 intro xs;induction xs with
 | nil=>
  intro i fu pile p hZ hfZ;obtain ⟨fu,rfl⟩:=pS_ hfZ;have e1:=uO hN (vZ hZ);simp only[yE.l8,yE.l8.y,yE.l8.rg,e1,cond_false]
 | cons x_ xs ih=>
  intro i fu pile p hZ hfZ;obtain ⟨fu,rfl⟩:=pS_ hfZ;have e0:=vc hZ;have e1:=uN hN e0;have e2:=xS e0;have e3:=vv (t:=za) hZ;have e4:=vp e0 hL;have e5:∀(pile:Int) (p:zO.T),yE.l8 F k0 k1 fu pile t19 t20 ((i:Int)+1) p=yE.l8.rg F k0 k1 t19 t20 xs ((i:Int)+1) pile p:=fun pile p=>by
   have:=ih (i+1) fu pile p (wz hZ) (pT_ hfZ);rwa [wd] at this
  simp only[yE.l8,yE.l8.y,yE.l8.rg,e1,e2,e3,e4,e5,cond_true]
def yi.l3.rg {R:Type} (F:Nat) (k0:yi.l3.K0 R) (t10:List za.T) (t11:Int):List za.T->Int->(List Int)->(List Int)->Option R
 | [],t12,list,pile=>k0 t10 t11 t12 (decide (t12<t11)) list pile
 | x_::xs,t12,list,pile=>
  oB (wi.sh F x_) fun c1=>
   bif decide (c1.1.1>0) then bif idx (i64.wrap ((pile.length:Int)-c1.1.1)) pile.length then bif (zJ pile.length none (some (i64.wrap ((pile.length:Int)-c1.1.1)))).1 then bif Nat.ble ((pile.take (zJ pile.length none (some (i64.wrap ((pile.length:Int)-c1.1.1)))).2.2).length+([get (.int .i64) pile ((i64.wrap ((pile.length:Int)-c1.1.1)).toNat)]:List Int).length) wF then bif Nat.ble (list.length+([get (.int .i64) pile ((i64.wrap ((pile.length:Int)-c1.1.1)).toNat)]:List Int).length) wF then yi.l3.rg F k0 t10 t11 xs (t12+1) (list++([get (.int .i64) pile ((i64.wrap ((pile.length:Int)-c1.1.1)).toNat)]:List Int)) ((pile.take (zJ pile.length none (some (i64.wrap ((pile.length:Int)-c1.1.1)))).2.2)++([get (.int .i64) pile ((i64.wrap ((pile.length:Int)-c1.1.1)).toNat)]:List Int))
       else none
      else none
     else none
    else none
   else bif Nat.ble (pile.length+([t12]:List Int).length) wF then bif Nat.ble (list.length+([t12]:List Int).length) wF then yi.l3.rg F k0 t10 t11 xs (t12+1) (list++([t12]:List Int)) (pile++([t12]:List Int))
    else none
   else none
theorem yi.l3.rq (F:Nat) (k0:yi.l3.K0 R) (t10:List za.T) (t11:Int) (hN:t11=(t10.length:Int)) (hL:t10.length<9223372036854775807):∀(xs:List za.T) (i fu:Nat) (list:List Int) (pile:List Int),t10.drop i=xs->xs.length<fu->
  yi.l3 F k0 fu t10 t11 (i:Int) list pile=yi.l3.rg F k0 t10 t11 xs (i:Int) list pile:=by
 intro xs;induction xs with
 | nil=>
  intro i fu list pile hZ hfZ;obtain ⟨fu,rfl⟩:=pS_ hfZ;have e1:=uO hN (vZ hZ);simp only[yi.l3,yi.l3.y,yi.l3.rg,e1,cond_false]
 | cons x_ xs ih=>
  intro i fu list pile hZ hfZ;obtain ⟨fu,rfl⟩:=pS_ hfZ;have e0:=vc hZ;have e1:=uN hN e0;have e2:=xS e0;have e3:=vv (t:=za) hZ;have e4:=vp e0 hL;have e5:∀(list:List Int) (pile:List Int),yi.l3 F k0 fu t10 t11 ((i:Int)+1) list pile=yi.l3.rg F k0 t10 t11 xs ((i:Int)+1) list pile:=fun list pile=>by
   have:=ih (i+1) fu list pile (wz hZ) (pT_ hfZ);rwa [wd] at this
  simp only[yi.l3,yi.l3.y,yi.l3.rg,e1,e2,e3,e4,e5,cond_true]
def zT.l7.rg {R:Type} (F:Nat) (k0:zT.l7.K0 R) (t22:List za.T) (t23:Int):List za.T->Int->(List Int)->Int->(List Bool)->Option R
 | [],t24,list,last,out=>k0 list last t22 t23 t24 (decide (t24<t23)) out
 | x_::xs,t24,list,last,out=>
  bif (x_.1==3) then bif idx t24 list.length then bif idx t24 out.length then zT.l7.rg F k0 t22 t23 xs (t24+1) list t24 (out.set t24.toNat (decide (t24<(get (.int .i64) list t24.toNat))))
     else none
    else none
   else bif (x_.1==4) then bif idx t24 list.length then bif idx t24 out.length then zT.l7.rg F k0 t22 t23 xs (t24+1) list t24 (out.set t24.toNat (decide (t24<(get (.int .i64) list t24.toNat))))
     else none
    else none
   else bif idx t24 list.length then bif idx t24 out.length then zT.l7.rg F k0 t22 t23 xs (t24+1) list last (out.set t24.toNat (decide (last<(get (.int .i64) list t24.toNat))))
    else none
   else none
theorem zT.l7.rq (F:Nat) (k0:zT.l7.K0 R) (t22:List za.T) (t23:Int) (hN:t23=(t22.length:Int)) (hL:t22.length<9223372036854775807):∀(xs:List za.T) (i fu:Nat) (list:List Int) (last:Int) (out:List Bool),t22.drop i=xs->xs.length<fu->
  zT.l7 F k0 fu list last t22 t23 (i:Int) out=zT.l7.rg F k0 t22 t23 xs (i:Int) list last out:=by
 intro xs;induction xs with
 | nil=>
  intro i fu list last out hZ hfZ;obtain ⟨fu,rfl⟩:=pS_ hfZ;have e1:=uO hN (vZ hZ);simp only[zT.l7,zT.l7.y,zT.l7.rg,e1,cond_false]
 | cons x_ xs ih=>
  intro i fu list last out hZ hfZ;obtain ⟨fu,rfl⟩:=pS_ hfZ;have e0:=vc hZ;have e1:=uN hN e0;have e2:=xS e0;have e3:=vv (t:=za) hZ;have e4:=vp e0 hL;have e5:∀(list:List Int) (last:Int) (out:List Bool),zT.l7 F k0 fu list last t22 t23 ((i:Int)+1) out=zT.l7.rg F k0 t22 t23 xs ((i:Int)+1) list last out:=fun list last out=>by
   have:=ih (i+1) fu list last out (wz hZ) (pT_ hfZ);rwa [wd] at this
  simp only[zT.l7,zT.l7.y,zT.l7.rg,e1,e2,e3,e4,e5,cond_true]
def yb.l2.rg {R:Type} (F:Nat) (k0:Int->Option R) (k1:yb.l2.K1 R) (t10:List Int) (t11:Int):List Int->Int->Int->xD.T->Option R
 | [],t12,from_,n=>k1 from_ t10 t11 t12 (decide (t12<t11)) n
 | x_::xs,t12,from_,n=>
  bif idx from_ n.2.1.length then bif (x_ != (get (.int .i64) n.2.1 from_.toNat)) then k0 (-1)
    else yb.l2.rg F k0 k1 t10 t11 xs (t12+1) from_ n
   else none
theorem yb.l2.rq (F:Nat) (k0:Int->Option R) (k1:yb.l2.K1 R) (t10:List Int) (t11:Int) (hN:t11=(t10.length:Int)) (hL:t10.length<9223372036854775807):∀(xs:List Int) (i fu:Nat) (from_:Int) (n:xD.T),t10.drop i=xs->xs.length<fu->
  yb.l2 F k0 k1 fu from_ t10 t11 (i:Int) n=yb.l2.rg F k0 k1 t10 t11 xs (i:Int) from_ n:=by
 intro xs;induction xs with
 | nil=>
  intro i fu from_ n hZ hfZ;obtain ⟨fu,rfl⟩:=pS_ hfZ;have e1:=uO hN (vZ hZ);simp only[yb.l2,yb.l2.y,yb.l2.rg,e1,cond_false]
 | cons x_ xs ih=>
  intro i fu from_ n hZ hfZ;obtain ⟨fu,rfl⟩:=pS_ hfZ;have e0:=vc hZ;have e1:=uN hN e0;have e2:=xS e0;have e3:=vv (t:=(.int .i64)) hZ;have e4:=vp e0 hL;have e5:∀(from_:Int) (n:xD.T),yb.l2 F k0 k1 fu from_ t10 t11 ((i:Int)+1) n=yb.l2.rg F k0 k1 t10 t11 xs ((i:Int)+1) from_ n:=fun from_ n=>by
   have:=ih (i+1) fu from_ n (wz hZ) (pT_ hfZ);rwa [wd] at this
  simp only[yb.l2,yb.l2.y,yb.l2.rg,e1,e2,e3,e4,e5,cond_true]
def zF.l8.rg {R:Type} (F:Nat) (k0:zF.l8.K0 R) (k1:zF.l8.K1 R) (k2:zF.l8.K2 R) (t33:List za.T) (t34:Int):List za.T->Int->(List Bool)->(List Int)->(List Int)->(List Bool)->Option R
 | [],t35,fixed,types,pile,fix=>k2 fixed t33 t34 t35 (decide (t35<t34)) types pile fix
 | x_::xs,t35,fixed,types,pile,fix=>
  oB (wT.sh F x_.1) fun c3=>
   bif decide (c3.1.2.1<0) then bif (zJ pile.length (some (i64.wrap ((pile.length:Int)-x_.2.2.2.1))) none).1 then bif (zJ fix.length (some (i64.wrap ((pile.length:Int)-x_.2.2.2.1))) none).1 then oB (zF.d63 F c3.1.1 ((x_,(pile.take (zJ pile.length (some (i64.wrap ((pile.length:Int)-x_.2.2.2.1))) none).2.2).drop (zJ pile.length (some (i64.wrap ((pile.length:Int)-x_.2.2.2.1))) none).2.1,(fix.take (zJ fix.length (some (i64.wrap ((pile.length:Int)-x_.2.2.2.1))) none).2.2).drop (zJ fix.length (some (i64.wrap ((pile.length:Int)-x_.2.2.2.1))) none).2.1),())) fun c4=>
      bif (c4.1.1==(-1)) then k0 ([]) t35 80
      else bif (x_.1==8) then bif idx (i64.wrap ((pile.length:Int)-x_.2.2.2.1)) fix.length then bif !(get .bool fix ((i64.wrap ((pile.length:Int)-x_.2.2.2.1)).toNat)) then bif idx (i64.wrap ((i64.wrap ((pile.length:Int)-x_.2.2.2.1))+1)) fix.length then bif !(get .bool fix ((i64.wrap ((i64.wrap ((pile.length:Int)-x_.2.2.2.1))+1)).toNat)) then k1 ([]) t35 81
          else bif Nat.ble (types.length+([c4.1.1]:List Int).length) wF then bif (zJ pile.length none (some (i64.wrap ((pile.length:Int)-x_.2.2.2.1)))).1 then bif Nat.ble ((zJ pile.length none (some (i64.wrap ((pile.length:Int)-x_.2.2.2.1)))).2.2+([c4.1.1]:List Int).length) wF then bif (zJ fix.length none (some (i64.wrap ((pile.length:Int)-x_.2.2.2.1)))).1 then bif idx t35 fixed.length then bif Nat.ble ((zJ fix.length none (some (i64.wrap ((pile.length:Int)-x_.2.2.2.1)))).2.2+([get .bool fixed t35.toNat]:List Bool).length) wF then zF.l8.rg F k0 k1 k2 t33 t34 xs (t35+1) fixed (types++([c4.1.1]:List Int)) (pile.take (zJ pile.length none (some (i64.wrap ((pile.length:Int)-x_.2.2.2.1)))).2.2++([c4.1.1]:List Int)) (fix.take (zJ fix.length none (some (i64.wrap ((pile.length:Int)-x_.2.2.2.1)))).2.2++([get .bool fixed t35.toNat]:List Bool))
               else none
              else none
             else none
            else none
           else none
          else none
         else none
        else bif Nat.ble (types.length+([c4.1.1]:List Int).length) wF then bif (zJ pile.length none (some (i64.wrap ((pile.length:Int)-x_.2.2.2.1)))).1 then bif Nat.ble ((zJ pile.length none (some (i64.wrap ((pile.length:Int)-x_.2.2.2.1)))).2.2+([c4.1.1]:List Int).length) wF then bif (zJ fix.length none (some (i64.wrap ((pile.length:Int)-x_.2.2.2.1)))).1 then bif idx t35 fixed.length then bif Nat.ble ((zJ fix.length none (some (i64.wrap ((pile.length:Int)-x_.2.2.2.1)))).2.2+([get .bool fixed t35.toNat]:List Bool).length) wF then zF.l8.rg F k0 k1 k2 t33 t34 xs (t35+1) fixed (types++([c4.1.1]:List Int)) (pile.take (zJ pile.length none (some (i64.wrap ((pile.length:Int)-x_.2.2.2.1)))).2.2++([c4.1.1]:List Int)) (fix.take (zJ fix.length none (some (i64.wrap ((pile.length:Int)-x_.2.2.2.1)))).2.2++([get .bool fixed t35.toNat]:List Bool))
             else none
            else none
           else none
          else none
         else none
        else none
       else none
      else bif Nat.ble (types.length+([c4.1.1]:List Int).length) wF then bif (zJ pile.length none (some (i64.wrap ((pile.length:Int)-x_.2.2.2.1)))).1 then bif Nat.ble ((zJ pile.length none (some (i64.wrap ((pile.length:Int)-x_.2.2.2.1)))).2.2+([c4.1.1]:List Int).length) wF then bif (zJ fix.length none (some (i64.wrap ((pile.length:Int)-x_.2.2.2.1)))).1 then bif idx t35 fixed.length then bif Nat.ble ((zJ fix.length none (some (i64.wrap ((pile.length:Int)-x_.2.2.2.1)))).2.2+([get .bool fixed t35.toNat]:List Bool).length) wF then zF.l8.rg F k0 k1 k2 t33 t34 xs (t35+1) fixed (types++([c4.1.1]:List Int)) (pile.take (zJ pile.length none (some (i64.wrap ((pile.length:Int)-x_.2.2.2.1)))).2.2++([c4.1.1]:List Int)) (fix.take (zJ fix.length none (some (i64.wrap ((pile.length:Int)-x_.2.2.2.1)))).2.2++([get .bool fixed t35.toNat]:List Bool))
           else none
          else none
         else none
        else none
       else none
      else none
     else none
    else none
   else bif (zJ pile.length (some (i64.wrap ((pile.length:Int)-c3.1.2.1))) none).1 then bif (zJ fix.length (some (i64.wrap ((pile.length:Int)-c3.1.2.1))) none).1 then oB (zF.d63 F c3.1.1 ((x_,(pile.take (zJ pile.length (some (i64.wrap ((pile.length:Int)-c3.1.2.1))) none).2.2).drop (zJ pile.length (some (i64.wrap ((pile.length:Int)-c3.1.2.1))) none).2.1,(fix.take (zJ fix.length (some (i64.wrap ((pile.length:Int)-c3.1.2.1))) none).2.2).drop (zJ fix.length (some (i64.wrap ((pile.length:Int)-c3.1.2.1))) none).2.1),())) fun c5=>
     bif (c5.1.1==(-1)) then k0 ([]) t35 80
     else bif (x_.1==8) then bif idx (i64.wrap ((pile.length:Int)-c3.1.2.1)) fix.length then bif !(get .bool fix ((i64.wrap ((pile.length:Int)-c3.1.2.1)).toNat)) then bif idx (i64.wrap ((i64.wrap ((pile.length:Int)-c3.1.2.1))+1)) fix.length then bif !(get .bool fix ((i64.wrap ((i64.wrap ((pile.length:Int)-c3.1.2.1))+1)).toNat)) then k1 ([]) t35 81
         else bif Nat.ble (types.length+([c5.1.1]:List Int).length) wF then bif (zJ pile.length none (some (i64.wrap ((pile.length:Int)-c3.1.2.1)))).1 then bif Nat.ble ((zJ pile.length none (some (i64.wrap ((pile.length:Int)-c3.1.2.1)))).2.2+([c5.1.1]:List Int).length) wF then bif (zJ fix.length none (some (i64.wrap ((pile.length:Int)-c3.1.2.1)))).1 then bif idx t35 fixed.length then bif Nat.ble ((zJ fix.length none (some (i64.wrap ((pile.length:Int)-c3.1.2.1)))).2.2+([get .bool fixed t35.toNat]:List Bool).length) wF then zF.l8.rg F k0 k1 k2 t33 t34 xs (t35+1) fixed (types++([c5.1.1]:List Int)) (pile.take (zJ pile.length none (some (i64.wrap ((pile.length:Int)-c3.1.2.1)))).2.2++([c5.1.1]:List Int)) (fix.take (zJ fix.length none (some (i64.wrap ((pile.length:Int)-c3.1.2.1)))).2.2++([get .bool fixed t35.toNat]:List Bool))
              else none
             else none
            else none
           else none
          else none
         else none
        else none
       else bif Nat.ble (types.length+([c5.1.1]:List Int).length) wF then bif (zJ pile.length none (some (i64.wrap ((pile.length:Int)-c3.1.2.1)))).1 then bif Nat.ble ((zJ pile.length none (some (i64.wrap ((pile.length:Int)-c3.1.2.1)))).2.2+([c5.1.1]:List Int).length) wF then bif (zJ fix.length none (some (i64.wrap ((pile.length:Int)-c3.1.2.1)))).1 then bif idx t35 fixed.length then bif Nat.ble ((zJ fix.length none (some (i64.wrap ((pile.length:Int)-c3.1.2.1)))).2.2+([get .bool fixed t35.toNat]:List Bool).length) wF then zF.l8.rg F k0 k1 k2 t33 t34 xs (t35+1) fixed (types++([c5.1.1]:List Int)) (pile.take (zJ pile.length none (some (i64.wrap ((pile.length:Int)-c3.1.2.1)))).2.2++([c5.1.1]:List Int)) (fix.take (zJ fix.length none (some (i64.wrap ((pile.length:Int)-c3.1.2.1)))).2.2++([get .bool fixed t35.toNat]:List Bool))
            else none
           else none
          else none
         else none
        else none
       else none
      else none
     else bif Nat.ble (types.length+([c5.1.1]:List Int).length) wF then bif (zJ pile.length none (some (i64.wrap ((pile.length:Int)-c3.1.2.1)))).1 then bif Nat.ble ((zJ pile.length none (some (i64.wrap ((pile.length:Int)-c3.1.2.1)))).2.2+([c5.1.1]:List Int).length) wF then bif (zJ fix.length none (some (i64.wrap ((pile.length:Int)-c3.1.2.1)))).1 then bif idx t35 fixed.length then bif Nat.ble ((zJ fix.length none (some (i64.wrap ((pile.length:Int)-c3.1.2.1)))).2.2+([get .bool fixed t35.toNat]:List Bool).length) wF then zF.l8.rg F k0 k1 k2 t33 t34 xs (t35+1) fixed (types++([c5.1.1]:List Int)) (pile.take (zJ pile.length none (some (i64.wrap ((pile.length:Int)-c3.1.2.1)))).2.2++([c5.1.1]:List Int)) (fix.take (zJ fix.length none (some (i64.wrap ((pile.length:Int)-c3.1.2.1)))).2.2++([get .bool fixed t35.toNat]:List Bool))
          else none
         else none
        else none
       else none
      else none
     else none
    else none
   else none
theorem zF.l8.rq (F:Nat) (k0:zF.l8.K0 R) (k1:zF.l8.K1 R) (k2:zF.l8.K2 R) (t33:List za.T) (t34:Int) (hN:t34=(t33.length:Int)) (hL:t33.length<9223372036854775807):∀(xs:List za.T) (i fu:Nat) (fixed:List Bool) (types:List Int) (pile:List Int) (fix:List Bool),t33.drop i=xs->xs.length<fu->
  zF.l8 F k0 k1 k2 fu fixed t33 t34 (i:Int) types pile fix=zF.l8.rg F k0 k1 k2 t33 t34 xs (i:Int) fixed types pile fix:=by
 intro xs;induction xs with
 | nil=>
  intro i fu fixed types pile fix hZ hfZ;obtain ⟨fu,rfl⟩:=pS_ hfZ;have e1:=uO hN (vZ hZ);simp only[zF.l8,zF.l8.y,zF.l8.rg,e1,cond_false]
 | cons x_ xs ih=>
  intro i fu fixed types pile fix hZ hfZ;obtain ⟨fu,rfl⟩:=pS_ hfZ;have e0:=vc hZ;have e1:=uN hN e0;have e2:=xS e0;have e3:=vv (t:=za) hZ;have e4:=vp e0 hL;have e5:∀(fixed:List Bool) (types:List Int) (pile:List Int) (fix:List Bool),zF.l8 F k0 k1 k2 fu fixed t33 t34 ((i:Int)+1) types pile fix=zF.l8.rg F k0 k1 k2 t33 t34 xs ((i:Int)+1) fixed types pile fix:=fun fixed types pile fix=>by
   have:=ih (i+1) fu fixed types pile fix (wz hZ) (pT_ hfZ);rwa [wd] at this
  simp only[zF.l8,zF.l8.y,zF.l8.rg,e1,e2,e3,e4,e5,cond_true]
def ym.l5.rg {R:Type} (F:Nat) (k0:ym.l5.K0 R) (x:List Int):List Int->Int->Int->Option R
 | [],i,m=>k0 x m i (decide (i<(x.length:Int)))
 | x_::xs,i,m=>
  ym.l5.rg F k0 x xs (i+1) (if x_>m then x_ else m)
theorem ym.l5.rq (F:Nat) (k0:ym.l5.K0 R) (x:List Int) (hL:x.length<9223372036854775807):∀(xs:List Int) (i fu:Nat) (m:Int),x.drop i=xs->xs.length<fu->
  ym.l5 F k0 fu x m (i:Int)=ym.l5.rg F k0 x xs (i:Int) m:=by
 intro xs;induction xs with
 | nil=>
  intro i fu m hZ hfZ;obtain ⟨fu,rfl⟩:=pS_ hfZ;have e1:=uO rfl (vZ hZ);simp only[ym.l5,ym.l5.y,ym.l5.rg,e1,cond_false]
 | cons x_ xs ih=>
  intro i fu m hZ hfZ;obtain ⟨fu,rfl⟩:=pS_ hfZ;have e0:=vc hZ;have e1:=uN rfl e0;have e2:=xS e0;have e3:=vv (t:=(.int .i64)) hZ;have e4:=vp e0 hL;have e5:∀(m:Int),ym.l5 F k0 fu x m ((i:Int)+1)=ym.l5.rg F k0 x xs ((i:Int)+1) m:=fun m=>by
   have:=ih (i+1) fu m (wz hZ) (pT_ hfZ);rwa [wd] at this
  simp only[ym.l5,ym.l5.y,ym.l5.rg,e1,e2,e3,e4,e5,cond_true]
def yu.l6.rg {R:Type} (F:Nat) (k0:yu.l6.K0 R) (t20:List za.T) (t21:Int):List za.T->Int->(List Int)->Option R
 | [],t22,pile=>k0 t20 t21 t22 (decide (t22<t21)) pile
 | x_::xs,t22,pile=>
  oB (wi.sh F x_) fun c2=>
   bif decide (c2.1.1>0) then bif (zJ pile.length (some (i64.wrap ((pile.length:Int)-c2.1.1))) none).1 then oB (ym.sh F ((List.take (zJ pile.length (some (i64.wrap ((pile.length:Int)-c2.1.1))) none).2.2 pile).drop (zJ pile.length (some (i64.wrap ((pile.length:Int)-c2.1.1))) none).2.1)) fun c3=>
     bif (zJ pile.length none (some (i64.wrap ((pile.length:Int)-c2.1.1)))).1 then bif (x_.1==15) then bif Nat.ble ((pile.take (zJ pile.length none (some (i64.wrap ((pile.length:Int)-c2.1.1)))).2.2).length+([i64.wrap (c3.1.1+1)]:List Int).length) wF then yu.l6.rg F k0 t20 t21 xs (t22+1) ((pile.take (zJ pile.length none (some (i64.wrap ((pile.length:Int)-c2.1.1)))).2.2)++([i64.wrap (c3.1.1+1)]:List Int))
       else none
      else bif Nat.ble ((pile.take (zJ pile.length none (some (i64.wrap ((pile.length:Int)-c2.1.1)))).2.2).length+([c3.1.1]:List Int).length) wF then yu.l6.rg F k0 t20 t21 xs (t22+1) ((pile.take (zJ pile.length none (some (i64.wrap ((pile.length:Int)-c2.1.1)))).2.2)++([c3.1.1]:List Int))
      else none
     else none
    else none
   else bif (x_.1==15) then bif Nat.ble (pile.length+([i64.wrap (0+1)]:List Int).length) wF then yu.l6.rg F k0 t20 t21 xs (t22+1) (pile++([i64.wrap (0+1)]:List Int))
    else none
   else bif Nat.ble (pile.length+([0]:List Int).length) wF then yu.l6.rg F k0 t20 t21 xs (t22+1) (pile++([0]:List Int))
   else none
theorem yu.l6.rq (F:Nat) (k0:yu.l6.K0 R) (t20:List za.T) (t21:Int) (hN:t21=(t20.length:Int)) (hL:t20.length<9223372036854775807):∀(xs:List za.T) (i fu:Nat) (pile:List Int),t20.drop i=xs->xs.length<fu->
  yu.l6 F k0 fu t20 t21 (i:Int) pile=yu.l6.rg F k0 t20 t21 xs (i:Int) pile:=by
 intro xs;induction xs with
 | nil=>
  intro i fu pile hZ hfZ;obtain ⟨fu,rfl⟩:=pS_ hfZ;have e1:=uO hN (vZ hZ);simp only[yu.l6,yu.l6.y,yu.l6.rg,e1,cond_false]
 | cons x_ xs ih=>
  intro i fu pile hZ hfZ;obtain ⟨fu,rfl⟩:=pS_ hfZ;have e0:=vc hZ;have e1:=uN hN e0;have e2:=xS e0;have e3:=vv (t:=za) hZ;have e4:=vp e0 hL;have e5:∀(pile:List Int),yu.l6 F k0 fu t20 t21 ((i:Int)+1) pile=yu.l6.rg F k0 t20 t21 xs ((i:Int)+1) pile:=fun pile=>by
   have:=ih (i+1) fu pile (wz hZ) (pT_ hfZ);rwa [wd] at this
  simp only[yu.l6,yu.l6.y,yu.l6.rg,e1,e2,e3,e4,e5,cond_true]
def zP.l3.rg {R:Type} (F:Nat) (k0:zP.l3.K0 R) (t13:List yp.T) (t14:Int):List yp.T->Int->(List yp.T)->Int->zg.T->zd.T->zd.T->zd.T->Option R
 | [],t15,tiers,rate,m,x,r6,ways=>k0 tiers rate t13 t14 t15 (decide (t15<t14)) m x r6 ways
 | x_::xs,t15,tiers,rate,m,x,r6,ways=>
  oB (vf.sh F x_.2) fun c1=>
   bif decide ((i64.wrap (t15+1))<(tiers.length:Int)) then oB (vf.sh F x_.2) fun c2=>
    oB (xV.sh F c2.1.1) fun c3=>
    bif idx (i64.wrap (t15+1)) tiers.length then oB (xV.sh F (i64.wrap ((get yp tiers ((i64.wrap (t15+1)).toNat)).1-x_.1))) fun c4=>
     oB (y7.sh F m c3.1.1 c4.1.1) fun c5=>
     bif (((m.1.1==c5.2.1.1.1)&&((m.1.2==c5.2.1.1.2)&&true))&&true) then oB (xd.sh F c5.2.1 ways c5.1.1) fun c6=>
      bif (((c5.2.1.1.1==c6.2.1.1.1)&&((c5.2.1.1.2==c6.2.1.1.2)&&true))&&true) then zP.l3.rg F k0 t13 t14 xs (t15+1) tiers (if c1.1.1>rate then c1.1.1 else rate) c6.2.1 x r6 c6.1.1
      else none
     else none
    else none
   else zP.l3.rg F k0 t13 t14 xs (t15+1) tiers (if c1.1.1>rate then c1.1.1 else rate) m x r6 ways
theorem zP.l3.rq (F:Nat) (k0:zP.l3.K0 R) (t13:List yp.T) (t14:Int) (hN:t14=(t13.length:Int)) (hL:t13.length<9223372036854775807):∀(xs:List yp.T) (i fu:Nat) (tiers:List yp.T) (rate:Int) (m:zg.T) (x:zd.T) (r6:zd.T) (ways:zd.T),t13.drop i=xs->xs.length<fu->
  zP.l3 F k0 fu tiers rate t13 t14 (i:Int) m x r6 ways=zP.l3.rg F k0 t13 t14 xs (i:Int) tiers rate m x r6 ways:=by
 intro xs;induction xs with
 | nil=>
  intro i fu tiers rate m x r6 ways hZ hfZ;obtain ⟨fu,rfl⟩:=pS_ hfZ;have e1:=uO hN (vZ hZ);simp only[zP.l3,zP.l3.y,zP.l3.rg,e1,cond_false]
 | cons x_ xs ih=>
  intro i fu tiers rate m x r6 ways hZ hfZ;obtain ⟨fu,rfl⟩:=pS_ hfZ;have e0:=vc hZ;have e1:=uN hN e0;have e2:=xS e0;have e3:=vv (t:=yp) hZ;have e4:=vp e0 hL;have e5:∀(tiers:List yp.T) (rate:Int) (m:zg.T) (x:zd.T) (r6:zd.T) (ways:zd.T),zP.l3 F k0 fu tiers rate t13 t14 ((i:Int)+1) m x r6 ways=zP.l3.rg F k0 t13 t14 xs ((i:Int)+1) tiers rate m x r6 ways:=fun tiers rate m x r6 ways=>by
   have:=ih (i+1) fu tiers rate m x r6 ways (wz hZ) (pT_ hfZ);rwa [wd] at this
  simp only[zP.l3,zP.l3.y,zP.l3.rg,e1,e2,e3,e4,e5,cond_true]
def xw.l4.rg {R:Type} (F:Nat) (k0:xw.l4.K0 R) (t11:List zd.T) (t12:Int):List zd.T->Int->Int->Int->Int->zd.T->Option R
 | [],t13,lo,hi,top,r2=>k0 lo hi top t11 t12 t13 (decide (t13<t12)) r2
 | x_::xs,t13,lo,hi,top,r2=>
  oB (xi.sh F lo x_.2 0) fun c1=>
   oB (xi.sh F hi (u64.wrap x_.1) c1.1.2.1) fun c2=>
   xw.l4.rg F k0 t11 t12 xs (t13+1) c1.1.1 c2.1.1 (i64.wrap (top+(i64.wrap ((x_.1.fdiv (2^(min (63:Int).toNat IntKind.i64.bits)))+(i64.wrap c2.1.2.1))))) r2
theorem xw.l4.rq (F:Nat) (k0:xw.l4.K0 R) (t11:List zd.T) (t12:Int) (hN:t12=(t11.length:Int)) (hL:t11.length<9223372036854775807):∀(xs:List zd.T) (i fu:Nat) (lo:Int) (hi:Int) (top:Int) (r2:zd.T),t11.drop i=xs->xs.length<fu->
  xw.l4 F k0 fu lo hi top t11 t12 (i:Int) r2=xw.l4.rg F k0 t11 t12 xs (i:Int) lo hi top r2:=by
 intro xs;induction xs with
 | nil=>
  intro i fu lo hi top r2 hZ hfZ;obtain ⟨fu,rfl⟩:=pS_ hfZ;have e1:=uO hN (vZ hZ);simp only[xw.l4,xw.l4.y,xw.l4.rg,e1,cond_false]
 | cons x_ xs ih=>
  intro i fu lo hi top r2 hZ hfZ;obtain ⟨fu,rfl⟩:=pS_ hfZ;have e0:=vc hZ;have e1:=uN hN e0;have e2:=xS e0;have e3:=vv (t:=zd) hZ;have e4:=vp e0 hL;have e5:∀(lo:Int) (hi:Int) (top:Int) (r2:zd.T),xw.l4 F k0 fu lo hi top t11 t12 ((i:Int)+1) r2=xw.l4.rg F k0 t11 t12 xs ((i:Int)+1) lo hi top r2:=fun lo hi top r2=>by
   have:=ih (i+1) fu lo hi top r2 (wz hZ) (pT_ hfZ);rwa [wd] at this
  simp only[xw.l4,xw.l4.y,xw.l4.rg,e1,e2,e3,e4,e5,cond_true]
def zK.l4.rg {R:Type} (F:Nat) (k0:zK.l4.K0 R) (k1:zK.l4.K1 R) (t17:List za.T) (t18:Int):List za.T->Int->zO.T->zg.T->(List zd.T)->(List zd.T)->Option R
 | [],t19,p,m,mags,pile=>k1 t17 t18 t19 (decide (t19<t18)) p m mags pile
 | x_::xs,t19,p,m,mags,pile=>
  oB (yT.sh F x_) fun c1=>
   bif (zJ pile.length (some (i64.wrap ((pile.length:Int)-c1.1.1))) none).1 then oB (z8.sh F m p x_ ((List.take (zJ pile.length (some (i64.wrap ((pile.length:Int)-c1.1.1))) none).2.2 pile).drop (zJ pile.length (some (i64.wrap ((pile.length:Int)-c1.1.1))) none).2.1)) fun c2=>
    bif c2.2.1.2 then k0 ([]) t19
    else oB (wK.sh F x_ c2.1.1) fun c3=>
    bif c3.1.1 then k0 ([]) t19
    else bif Nat.ble (mags.length+([c2.1.1]:List zd.T).length) wF then bif (zJ pile.length none (some (i64.wrap ((pile.length:Int)-c1.1.1)))).1 then bif Nat.ble ((zJ pile.length none (some (i64.wrap ((pile.length:Int)-c1.1.1)))).2.2+([c2.1.1]:List zd.T).length) wF then zK.l4.rg F k0 k1 t17 t18 xs (t19+1) p c2.2.1 (mags++([c2.1.1]:List zd.T)) (pile.take (zJ pile.length none (some (i64.wrap ((pile.length:Int)-c1.1.1)))).2.2++([c2.1.1]:List zd.T))
      else none
     else none
    else none
   else none
theorem zK.l4.rq (F:Nat) (k0:zK.l4.K0 R) (k1:zK.l4.K1 R) (t17:List za.T) (t18:Int) (hN:t18=(t17.length:Int)) (hL:t17.length<9223372036854775807):∀(xs:List za.T) (i fu:Nat) (p:zO.T) (m:zg.T) (mags:List zd.T) (pile:List zd.T),t17.drop i=xs->xs.length<fu->
  zK.l4 F k0 k1 fu t17 t18 (i:Int) p m mags pile=zK.l4.rg F k0 k1 t17 t18 xs (i:Int) p m mags pile:=by
 intro xs;induction xs with
 | nil=>
  intro i fu p m mags pile hZ hfZ;obtain ⟨fu,rfl⟩:=pS_ hfZ;have e1:=uO hN (vZ hZ);simp only[zK.l4,zK.l4.y,zK.l4.rg,e1,cond_false]
 | cons x_ xs ih=>
  intro i fu p m mags pile hZ hfZ;obtain ⟨fu,rfl⟩:=pS_ hfZ;have e0:=vc hZ;have e1:=uN hN e0;have e2:=xS e0;have e3:=vv (t:=za) hZ;have e4:=vp e0 hL;have e5:∀(p:zO.T) (m:zg.T) (mags:List zd.T) (pile:List zd.T),zK.l4 F k0 k1 fu t17 t18 ((i:Int)+1) p m mags pile=zK.l4.rg F k0 k1 t17 t18 xs ((i:Int)+1) p m mags pile:=fun p m mags pile=>by
   have:=ih (i+1) fu p m mags pile (wz hZ) (pT_ hfZ);rwa [wd] at this
  simp only[zK.l4,zK.l4.y,zK.l4.rg,e1,e2,e3,e4,e5,cond_true]
def yw.l3.rg {R:Type} (F:Nat) (k0:yw.l3.K0 R) (t7:List za.T) (t8:Int):List za.T->Int->(List (LTr za.T))->Option R
 | [],t9,pile=>k0 t7 t8 t9 (decide (t9<t8)) pile
 | x_::xs,t9,pile=>
  oB (xa.sh F x_) fun c1=>
   bif (zJ pile.length none (some (i64.wrap ((pile.length:Int)-c1.1.1)))).1 then bif (zJ pile.length (some (i64.wrap ((pile.length:Int)-c1.1.1))) none).1 then oB (wq.sh F ((List.take (zJ pile.length (some (i64.wrap ((pile.length:Int)-c1.1.1))) none).2.2 pile).drop (zJ pile.length (some (i64.wrap ((pile.length:Int)-c1.1.1))) none).2.1)) fun c2=>
     bif Nat.ble ((zJ pile.length none (some (i64.wrap ((pile.length:Int)-c1.1.1)))).2.2+([(LTr.nd x_ c2.1.1)]:List (LTr za.T)).length) wF then yw.l3.rg F k0 t7 t8 xs (t9+1) (pile.take (zJ pile.length none (some (i64.wrap ((pile.length:Int)-c1.1.1)))).2.2++([(LTr.nd x_ c2.1.1)]:List (LTr za.T)))
     else none
    else none
   else none
theorem yw.l3.rq (F:Nat) (k0:yw.l3.K0 R) (t7:List za.T) (t8:Int) (hN:t8=(t7.length:Int)) (hL:t7.length<9223372036854775807):∀(xs:List za.T) (i fu:Nat) (pile:List (LTr za.T)),t7.drop i=xs->xs.length<fu->
  yw.l3 F k0 fu t7 t8 (i:Int) pile=yw.l3.rg F k0 t7 t8 xs (i:Int) pile:=by
 intro xs;induction xs with
 | nil=>
  intro i fu pile hZ hfZ;obtain ⟨fu,rfl⟩:=pS_ hfZ;have e1:=uO hN (vZ hZ);simp only[yw.l3,yw.l3.y,yw.l3.rg,e1,cond_false]
 | cons x_ xs ih=>
  intro i fu pile hZ hfZ;obtain ⟨fu,rfl⟩:=pS_ hfZ;have e0:=vc hZ;have e1:=uN hN e0;have e2:=xS e0;have e3:=vv (t:=za) hZ;have e4:=vp e0 hL;have e5:∀(pile:List (LTr za.T)),yw.l3 F k0 fu t7 t8 ((i:Int)+1) pile=yw.l3.rg F k0 t7 t8 xs ((i:Int)+1) pile:=fun pile=>by
   have:=ih (i+1) fu pile (wz hZ) (pT_ hfZ);rwa [wd] at this
  simp only[yw.l3,yw.l3.y,yw.l3.rg,e1,e2,e3,e4,e5,cond_true]
def zp.l4.rg {R:Type} (me:yX.M) (F:Nat) (k0:Bool->Option R) (k1:zp.l4.K1 R) (t15:List (LTr za.T)) (t16:Int):List (LTr za.T)->Int->(List (LTr za.T))->Nat->Option R
 | [],t17,s2,eq=>k1 s2 eq t15 t16 t17 (decide (t17<t16))
 | x_::xs,t17,s2,eq=>
  bif idx t17 s2.length then oB (zp.d29 me F eq (x_,get (.tr za) s2 t17.toNat,())) fun c1=>
    bif !c1.1.1 then k0 false
    else zp.l4.rg me F k0 k1 t15 t16 xs (t17+1) s2 eq
   else none
theorem zp.l4.rq (me:yX.M) (F:Nat) (k0:Bool->Option R) (k1:zp.l4.K1 R) (t15:List (LTr za.T)) (t16:Int) (hN:t16=(t15.length:Int)) (hL:t15.length<9223372036854775807):∀(xs:List (LTr za.T)) (i fu:Nat) (s2:List (LTr za.T)) (eq:Nat),t15.drop i=xs->xs.length<fu->
  zp.l4 me F k0 k1 fu s2 eq t15 t16 (i:Int)=zp.l4.rg me F k0 k1 t15 t16 xs (i:Int) s2 eq:=by
 intro xs;induction xs with
 | nil=>
  intro i fu s2 eq hZ hfZ;obtain ⟨fu,rfl⟩:=pS_ hfZ;have e1:=uO hN (vZ hZ);simp only[zp.l4,zp.l4.y,zp.l4.rg,e1,cond_false]
 | cons x_ xs ih=>
  intro i fu s2 eq hZ hfZ;obtain ⟨fu,rfl⟩:=pS_ hfZ;have e0:=vc hZ;have e1:=uN hN e0;have e2:=xS e0;have e3:=vv (t:=(.tr za)) hZ;have e4:=vp e0 hL;have e5:∀(s2:List (LTr za.T)) (eq:Nat),zp.l4 me F k0 k1 fu s2 eq t15 t16 ((i:Int)+1)=zp.l4.rg me F k0 k1 t15 t16 xs ((i:Int)+1) s2 eq:=fun s2 eq=>by
   have:=ih (i+1) fu s2 eq (wz hZ) (pT_ hfZ);rwa [wd] at this
  simp only[zp.l4,zp.l4.y,zp.l4.rg,e1,e2,e3,e4,e5,cond_true]
def zx.l5.rg {R:Type} (me:zx.M) (F:Nat) (k0:zx.l5.K0 R) (t31:List (LTr za.T)) (t32:Int):List (LTr za.T)->Int->Bool->Bool->Option R
 | [],t33,is,money=>k0 is money t31 t32 t33 (decide (t33<t32))
 | x_::xs,t33,is,money=>
  oB (me x_) fun c1=>
   bif is then bif money then zx.l5.rg me F k0 t31 t32 xs (t33+1) c1.1.1 true
    else zx.l5.rg me F k0 t31 t32 xs (t33+1) c1.1.1 c1.1.2.1
   else bif money then zx.l5.rg me F k0 t31 t32 xs (t33+1) false true
   else zx.l5.rg me F k0 t31 t32 xs (t33+1) false c1.1.2.1
theorem zx.l5.rq (me:zx.M) (F:Nat) (k0:zx.l5.K0 R) (t31:List (LTr za.T)) (t32:Int) (hN:t32=(t31.length:Int)) (hL:t31.length<9223372036854775807):∀(xs:List (LTr za.T)) (i fu:Nat) (is:Bool) (money:Bool),t31.drop i=xs->xs.length<fu->
  zx.l5 me F k0 fu is money t31 t32 (i:Int)=zx.l5.rg me F k0 t31 t32 xs (i:Int) is money:=by
 intro xs;induction xs with
 | nil=>
  intro i fu is money hZ hfZ;obtain ⟨fu,rfl⟩:=pS_ hfZ;have e1:=uO hN (vZ hZ);simp only[zx.l5,zx.l5.y,zx.l5.rg,e1,cond_false]
 | cons x_ xs ih=>
  intro i fu is money hZ hfZ;obtain ⟨fu,rfl⟩:=pS_ hfZ;have e0:=vc hZ;have e1:=uN hN e0;have e2:=xS e0;have e3:=vv (t:=(.tr za)) hZ;have e4:=vp e0 hL;have e5:∀(is:Bool) (money:Bool),zx.l5 me F k0 fu is money t31 t32 ((i:Int)+1)=zx.l5.rg me F k0 t31 t32 xs ((i:Int)+1) is money:=fun is money=>by
   have:=ih (i+1) fu is money (wz hZ) (pT_ hfZ);rwa [wd] at this
  simp only[zx.l5,zx.l5.y,zx.l5.rg,e1,e2,e3,e4,e5,cond_true]
def zv.l5.rg {R:Type} (F:Nat) (k0:zv.l5.K0 R) (x:List zd.T):List zd.T->Int->Nat->zd.T->zd.T->Option R
 | [],i,cmp,r4,m=>k0 x cmp i (decide (i<(x.length:Int))) r4 m
 | x_::xs,i,cmp,r4,m=>
  oB (zv.d26 F cmp (x_,m,())) fun c1=>
   bif decide (c1.1.1<0) then bif true then zv.l5.rg F k0 x xs (i+1) cmp r4 x_
    else none
   else zv.l5.rg F k0 x xs (i+1) cmp r4 m
theorem zv.l5.rq (F:Nat) (k0:zv.l5.K0 R) (x:List zd.T) (hL:x.length<9223372036854775807):∀(xs:List zd.T) (i fu:Nat) (cmp:Nat) (r4:zd.T) (m:zd.T),x.drop i=xs->xs.length<fu->
  zv.l5 F k0 fu x cmp (i:Int) r4 m=zv.l5.rg F k0 x xs (i:Int) cmp r4 m:=by
 intro xs;induction xs with
 | nil=>
  intro i fu cmp r4 m hZ hfZ;obtain ⟨fu,rfl⟩:=pS_ hfZ;have e1:=uO rfl (vZ hZ);simp only[zv.l5,zv.l5.y,zv.l5.rg,e1,cond_false]
 | cons x_ xs ih=>
  intro i fu cmp r4 m hZ hfZ;obtain ⟨fu,rfl⟩:=pS_ hfZ;have e0:=vc hZ;have e1:=uN rfl e0;have e2:=xS e0;have e3:=vv (t:=zd) hZ;have e4:=vp e0 hL;have e5:∀(cmp:Nat) (r4:zd.T) (m:zd.T),zv.l5 F k0 fu x cmp ((i:Int)+1) r4 m=zv.l5.rg F k0 x xs ((i:Int)+1) cmp r4 m:=fun cmp r4 m=>by
   have:=ih (i+1) fu cmp r4 m (wz hZ) (pT_ hfZ);rwa [wd] at this
  simp only[zv.l5,zv.l5.y,zv.l5.rg,e1,e2,e3,e4,e5,cond_true]
def zw.l5.rg {R:Type} (F:Nat) (k0:zw.l5.K0 R) (x:List zd.T):List zd.T->Int->Nat->zd.T->zd.T->Option R
 | [],i,cmp,r4,m=>k0 x cmp i (decide (i<(x.length:Int))) r4 m
 | x_::xs,i,cmp,r4,m=>
  oB (zw.d26 F cmp (x_,m,())) fun c1=>
   bif decide (c1.1.1>0) then bif true then zw.l5.rg F k0 x xs (i+1) cmp r4 x_
    else none
   else zw.l5.rg F k0 x xs (i+1) cmp r4 m
theorem zw.l5.rq (F:Nat) (k0:zw.l5.K0 R) (x:List zd.T) (hL:x.length<9223372036854775807):∀(xs:List zd.T) (i fu:Nat) (cmp:Nat) (r4:zd.T) (m:zd.T),x.drop i=xs->xs.length<fu->
  zw.l5 F k0 fu x cmp (i:Int) r4 m=zw.l5.rg F k0 x xs (i:Int) cmp r4 m:=by
 intro xs;induction xs with
 | nil=>
  intro i fu cmp r4 m hZ hfZ;obtain ⟨fu,rfl⟩:=pS_ hfZ;have e1:=uO rfl (vZ hZ);simp only[zw.l5,zw.l5.y,zw.l5.rg,e1,cond_false]
 | cons x_ xs ih=>
  intro i fu cmp r4 m hZ hfZ;obtain ⟨fu,rfl⟩:=pS_ hfZ;have e0:=vc hZ;have e1:=uN rfl e0;have e2:=xS e0;have e3:=vv (t:=zd) hZ;have e4:=vp e0 hL;have e5:∀(cmp:Nat) (r4:zd.T) (m:zd.T),zw.l5 F k0 fu x cmp ((i:Int)+1) r4 m=zw.l5.rg F k0 x xs ((i:Int)+1) cmp r4 m:=fun cmp r4 m=>by
   have:=ih (i+1) fu cmp r4 m (wz hZ) (pT_ hfZ);rwa [wd] at this
  simp only[zw.l5,zw.l5.y,zw.l5.rg,e1,e2,e3,e4,e5,cond_true]
def ze.l3.rg {R:Type} (me:ze.M) (F:Nat) (k0:ze.l3.K0 R) (t12:List (LTr za.T)) (t13:Int):List (LTr za.T)->Int->(LTr za.T)->zd.T->zd.T->(List zd.T)->Option R
 | [],t14,x,f,r4,k=>k0 x t12 t13 t14 (decide (t14<t13)) f r4 k
 | x_::xs,t14,x,f,r4,k=>
  oB (me f x_) fun c1=>
   bif Nat.ble (k.length+([c1.1.1]:List zd.T).length) wF then ze.l3.rg me F k0 t12 t13 xs (t14+1) x f r4 (k++([c1.1.1]:List zd.T))
   else none
theorem ze.l3.rq (me:ze.M) (F:Nat) (k0:ze.l3.K0 R) (t12:List (LTr za.T)) (t13:Int) (hN:t13=(t12.length:Int)) (hL:t12.length<9223372036854775807):∀(xs:List (LTr za.T)) (i fu:Nat) (x:LTr za.T) (f:zd.T) (r4:zd.T) (k:List zd.T),t12.drop i=xs->xs.length<fu->
  ze.l3 me F k0 fu x t12 t13 (i:Int) f r4 k=ze.l3.rg me F k0 t12 t13 xs (i:Int) x f r4 k:=by
 intro xs;induction xs with
 | nil=>
  intro i fu x f r4 k hZ hfZ;obtain ⟨fu,rfl⟩:=pS_ hfZ;have e1:=uO hN (vZ hZ);simp only[ze.l3,ze.l3.y,ze.l3.rg,e1,cond_false]
 | cons x_ xs ih=>
  intro i fu x f r4 k hZ hfZ;obtain ⟨fu,rfl⟩:=pS_ hfZ;have e0:=vc hZ;have e1:=uN hN e0;have e2:=xS e0;have e3:=vv (t:=(.tr za)) hZ;have e4:=vp e0 hL;have e5:∀(x:LTr za.T) (f:zd.T) (r4:zd.T) (k:List zd.T),ze.l3 me F k0 fu x t12 t13 ((i:Int)+1) f r4 k=ze.l3.rg me F k0 t12 t13 xs ((i:Int)+1) x f r4 k:=fun x f r4 k=>by
   have:=ih (i+1) fu x f r4 k (wz hZ) (pT_ hfZ);rwa [wd] at this
  simp only[ze.l3,ze.l3.y,ze.l3.rg,e1,e2,e3,e4,e5,cond_true]
def zn.l2.rg {R:Type} (F:Nat) (k0:Int->Option R) (k1:zn.l2.K1 R) (s:List (LTr za.T)) (t7:Int):List (LTr za.T)->Int->(Nat×(LTr za.T))->Option R
 | [],t8,f=>k1 s (f.1,f.2) t7 t8 (decide (t8<t7))
 | x_::xs,t8,f=>
  oB (zn.d16 F (f.1+1) (x_,f.2,())) fun c1=>
   bif c1.1.1 then k0 t8
   else zn.l2.rg F k0 k1 s t7 xs (t8+1) (f.1,f.2)
theorem zn.l2.rq (F:Nat) (k0:Int->Option R) (k1:zn.l2.K1 R) (s:List (LTr za.T)) (t7:Int) (hN:t7=(s.length:Int)) (hL:s.length<9223372036854775807):∀(xs:List (LTr za.T)) (i fu:Nat) (f:Nat×(LTr za.T)),s.drop i=xs->xs.length<fu->
  zn.l2 F k0 k1 fu s f t7 (i:Int)=zn.l2.rg F k0 k1 s t7 xs (i:Int) f:=by
 intro xs;induction xs with
 | nil=>
  intro i fu f hZ hfZ;obtain ⟨fu,rfl⟩:=pS_ hfZ;have e1:=uO hN (vZ hZ);simp only[zn.l2,zn.l2.y,zn.l2.rg,e1,cond_false]
 | cons x_ xs ih=>
  intro i fu f hZ hfZ;obtain ⟨fu,rfl⟩:=pS_ hfZ;have e0:=vc hZ;have e1:=uN hN e0;have e2:=xS e0;have e3:=vv (t:=(.tr za)) hZ;have e4:=vp e0 hL;have e5:∀(f:Nat×(LTr za.T)),zn.l2 F k0 k1 fu s f t7 ((i:Int)+1)=zn.l2.rg F k0 k1 s t7 xs ((i:Int)+1) f:=fun f=>by
   have:=ih (i+1) fu f (wz hZ) (pT_ hfZ);rwa [wd] at this
  simp only[zn.l2,zn.l2.y,zn.l2.rg,e1,e2,e3,e4,e5,cond_true]
def zj.l5.rg {R:Type} (F:Nat) (k0:zj.l5.K0 R) (t26:List (LTr za.T)) (t27:Int):List (LTr za.T)->Int->(LTr za.T)->(List (LTr za.T))->Option R
 | [],t28,x,kids=>k0 x t26 t27 t28 (decide (t28<t27)) kids
 | x_::xs,t28,x,kids=>
  oB (yL.sh F kids (wP,x_)) fun c1=>
   bif !c1.1.1 then bif Nat.ble (kids.length+([x_]:List (LTr za.T)).length) wF then zj.l5.rg F k0 t26 t27 xs (t28+1) x (kids++([x_]:List (LTr za.T)))
    else none
   else zj.l5.rg F k0 t26 t27 xs (t28+1) x kids
theorem zj.l5.rq (F:Nat) (k0:zj.l5.K0 R) (t26:List (LTr za.T)) (t27:Int) (hN:t27=(t26.length:Int)) (hL:t26.length<9223372036854775807):∀(xs:List (LTr za.T)) (i fu:Nat) (x:LTr za.T) (kids:List (LTr za.T)),t26.drop i=xs->xs.length<fu->
  zj.l5 F k0 fu x t26 t27 (i:Int) kids=zj.l5.rg F k0 t26 t27 xs (i:Int) x kids:=by
 intro xs;induction xs with
 | nil=>
  intro i fu x kids hZ hfZ;obtain ⟨fu,rfl⟩:=pS_ hfZ;have e1:=uO hN (vZ hZ);simp only[zj.l5,zj.l5.y,zj.l5.rg,e1,cond_false]
 | cons x_ xs ih=>
  intro i fu x kids hZ hfZ;obtain ⟨fu,rfl⟩:=pS_ hfZ;have e0:=vc hZ;have e1:=uN hN e0;have e2:=xS e0;have e3:=vv (t:=(.tr za)) hZ;have e4:=vp e0 hL;have e5:∀(x:LTr za.T) (kids:List (LTr za.T)),zj.l5 F k0 fu x t26 t27 ((i:Int)+1) kids=zj.l5.rg F k0 t26 t27 xs ((i:Int)+1) x kids:=fun x kids=>by
   have:=ih (i+1) fu x kids (wz hZ) (pT_ hfZ);rwa [wd] at this
  simp only[zj.l5,zj.l5.y,zj.l5.rg,e1,e2,e3,e4,e5,cond_true]
def zb.l3.rg {R:Type} (me:zb.M) (F:Nat) (k0:zb.l3.K0 R) (t20:List (LTr za.T)) (t21:Int):List (LTr za.T)->Int->(LTr za.T)->zd.T->(List (LTr za.T))->Option R
 | [],t22,x,f,kids=>k0 x t20 t21 t22 (decide (t22<t21)) f kids
 | x_::xs,t22,x,f,kids=>
  oB (me f x_) fun c1=>
   bif idx t22 kids.length then zb.l3.rg me F k0 t20 t21 xs (t22+1) x f (kids.set t22.toNat c1.1.1)
   else none
theorem zb.l3.rq (me:zb.M) (F:Nat) (k0:zb.l3.K0 R) (t20:List (LTr za.T)) (t21:Int) (hN:t21=(t20.length:Int)) (hL:t20.length<9223372036854775807):∀(xs:List (LTr za.T)) (i fu:Nat) (x:LTr za.T) (f:zd.T) (kids:List (LTr za.T)),t20.drop i=xs->xs.length<fu->
  zb.l3 me F k0 fu x t20 t21 (i:Int) f kids=zb.l3.rg me F k0 t20 t21 xs (i:Int) x f kids:=by
 intro xs;induction xs with
 | nil=>
  intro i fu x f kids hZ hfZ;obtain ⟨fu,rfl⟩:=pS_ hfZ;have e1:=uO hN (vZ hZ);simp only[zb.l3,zb.l3.y,zb.l3.rg,e1,cond_false]
 | cons x_ xs ih=>
  intro i fu x f kids hZ hfZ;obtain ⟨fu,rfl⟩:=pS_ hfZ;have e0:=vc hZ;have e1:=uN hN e0;have e2:=xS e0;have e3:=vv (t:=(.tr za)) hZ;have e4:=vp e0 hL;have e5:∀(x:LTr za.T) (f:zd.T) (kids:List (LTr za.T)),zb.l3 me F k0 fu x t20 t21 ((i:Int)+1) f kids=zb.l3.rg me F k0 t20 t21 xs ((i:Int)+1) x f kids:=fun x f kids=>by
   have:=ih (i+1) fu x f kids (wz hZ) (pT_ hfZ);rwa [wd] at this
  simp only[zb.l3,zb.l3.y,zb.l3.rg,e1,e2,e3,e4,e5,cond_true]
def zb.l9.rg {R:Type} (me:zb.M) (F:Nat) (k0:(LTr za.T)->Option R) (k1:zb.l9.K1 R) (t55:List (Nat×zd.T)) (t56:Int):List (Nat×zd.T)->Int->(LTr za.T)->zd.T->Option R
 | [],t57,x,f=>k1 x t55 t56 t57 (decide (t57<t56)) f
 | x_::xs,t57,x,f=>
  oB (zb.d63 me F x_.1 (x_.2,x,())) fun c3=>
   bif LTr.isNd c3.1.1 then oB (me f c3.1.1) fun c4=>
    k0 c4.1.1
   else zb.l9.rg me F k0 k1 t55 t56 xs (t57+1) x f
theorem zb.l9.rq (me:zb.M) (F:Nat) (k0:(LTr za.T)->Option R) (k1:zb.l9.K1 R) (t55:List (Nat×zd.T)) (t56:Int) (hN:t56=(t55.length:Int)) (hL:t55.length<9223372036854775807):∀(xs:List (Nat×zd.T)) (i fu:Nat) (x:LTr za.T) (f:zd.T),t55.drop i=xs->xs.length<fu->
  zb.l9 me F k0 k1 fu x t55 t56 (i:Int) f=zb.l9.rg me F k0 k1 t55 t56 xs (i:Int) x f:=by
 intro xs;induction xs with
 | nil=>
  intro i fu x f hZ hfZ;obtain ⟨fu,rfl⟩:=pS_ hfZ;have e1:=uO hN (vZ hZ);simp only[zb.l9,zb.l9.y,zb.l9.rg,e1,cond_false]
 | cons x_ xs ih=>
  intro i fu x f hZ hfZ;obtain ⟨fu,rfl⟩:=pS_ hfZ;have e0:=vc hZ;have e1:=uN hN e0;have e2:=xS e0;have e3:=vv (t:=(.bnd zd)) hZ;have e4:=vp e0 hL;have e5:∀(x:LTr za.T) (f:zd.T),zb.l9 me F k0 k1 fu x t55 t56 ((i:Int)+1) f=zb.l9.rg me F k0 k1 t55 t56 xs ((i:Int)+1) x f:=fun x f=>by
   have:=ih (i+1) fu x f (wz hZ) (pT_ hfZ);rwa [wd] at this
  simp only[zb.l9,zb.l9.y,zb.l9.rg,e1,e2,e3,e4,e5,cond_true]
def zB.l2.rg {R:Type} (me:zB.M) (F:Nat) (k0:zB.l2.K0 R) (t11:List (LTr za.T)) (t12:Int):List (LTr za.T)->Int->(LTr za.T)->(List za.T)->Option R
 | [],t13,x,l=>k0 x t11 t12 t13 (decide (t13<t12)) l
 | x_::xs,t13,x,l=>
  oB (me x_ l) fun c1=>
   zB.l2.rg me F k0 t11 t12 xs (t13+1) x c1.1.1
theorem zB.l2.rq (me:zB.M) (F:Nat) (k0:zB.l2.K0 R) (t11:List (LTr za.T)) (t12:Int) (hN:t12=(t11.length:Int)) (hL:t11.length<9223372036854775807):∀(xs:List (LTr za.T)) (i fu:Nat) (x:LTr za.T) (l:List za.T),t11.drop i=xs->xs.length<fu->
  zB.l2 me F k0 fu x t11 t12 (i:Int) l=zB.l2.rg me F k0 t11 t12 xs (i:Int) x l:=by
 intro xs;induction xs with
 | nil=>
  intro i fu x l hZ hfZ;obtain ⟨fu,rfl⟩:=pS_ hfZ;have e1:=uO hN (vZ hZ);simp only[zB.l2,zB.l2.y,zB.l2.rg,e1,cond_false]
 | cons x_ xs ih=>
  intro i fu x l hZ hfZ;obtain ⟨fu,rfl⟩:=pS_ hfZ;have e0:=vc hZ;have e1:=uN hN e0;have e2:=xS e0;have e3:=vv (t:=(.tr za)) hZ;have e4:=vp e0 hL;have e5:∀(x:LTr za.T) (l:List za.T),zB.l2 me F k0 fu x t11 t12 ((i:Int)+1) l=zB.l2.rg me F k0 t11 t12 xs ((i:Int)+1) x l:=fun x l=>by
   have:=ih (i+1) fu x l (wz hZ) (pT_ hfZ);rwa [wd] at this
  simp only[zB.l2,zB.l2.y,zB.l2.rg,e1,e2,e3,e4,e5,cond_true]
def zX.l3.rg {R:Type} (F:Nat) (k0:Bool->Option R) (k1:zX.l3.K1 R) (l:List ByteArray):List ByteArray->Int->ByteArray->Option R
 | [],i,s=>k1 s l i (decide (i<(l.length:Int)))
 | x_::xs,i,s=>
  bif (x_.toList==s.toList) then k0 true
   else zX.l3.rg F k0 k1 l xs (i+1) s
theorem zX.l3.rq (F:Nat) (k0:Bool->Option R) (k1:zX.l3.K1 R) (l:List ByteArray) (hL:l.length<9223372036854775807):∀(xs:List ByteArray) (i fu:Nat) (s:ByteArray),l.drop i=xs->xs.length<fu->
  zX.l3 F k0 k1 fu s l (i:Int)=zX.l3.rg F k0 k1 l xs (i:Int) s:=by
 intro xs;induction xs with
 | nil=>
  intro i fu s hZ hfZ;obtain ⟨fu,rfl⟩:=pS_ hfZ;have e1:=uO rfl (vZ hZ);simp only[zX.l3,zX.l3.y,zX.l3.rg,e1,cond_false]
 | cons x_ xs ih=>
  intro i fu s hZ hfZ;obtain ⟨fu,rfl⟩:=pS_ hfZ;have e0:=vc hZ;have e1:=uN rfl e0;have e2:=xS e0;have e3:=vv (t:=.str) hZ;have e4:=vp e0 hL;have e5:∀(s:ByteArray),zX.l3 F k0 k1 fu s l ((i:Int)+1)=zX.l3.rg F k0 k1 l xs ((i:Int)+1) s:=fun s=>by
   have:=ih (i+1) fu s (wz hZ) (pT_ hfZ);rwa [wd] at this
  simp only[zX.l3,zX.l3.y,zX.l3.rg,e1,e2,e3,e4,e5,cond_true]
def zy.l2.rg {R:Type} (F:Nat) (k0:Int->Option R) (k1:zy.l2.K1 R) (l:List Int):List Int->Int->Option R
 | [],i=>k1 l i (decide (i<(l.length:Int)))
 | x_::xs,i=>
  bif idx 0 l.length then bif (x_ != (get (.int .i64) l 0)) then k0 (-1)
    else zy.l2.rg F k0 k1 l xs (i+1)
   else none
theorem zy.l2.rq (F:Nat) (k0:Int->Option R) (k1:zy.l2.K1 R) (l:List Int) (hL:l.length<9223372036854775807):∀(xs:List Int) (i fu:Nat),l.drop i=xs->xs.length<fu->
  zy.l2 F k0 k1 fu l (i:Int)=zy.l2.rg F k0 k1 l xs (i:Int):=by
 intro xs;induction xs with
 | nil=>
  intro i fu hZ hfZ;obtain ⟨fu,rfl⟩:=pS_ hfZ;have e1:=uO rfl (vZ hZ);simp only[zy.l2,zy.l2.y,zy.l2.rg,e1,cond_false]
 | cons x_ xs ih=>
  intro i fu hZ hfZ;obtain ⟨fu,rfl⟩:=pS_ hfZ;have e0:=vc hZ;have e1:=uN rfl e0;have e2:=xS e0;have e3:=vv (t:=(.int .i64)) hZ;have e4:=vp e0 hL;have e5:zy.l2 F k0 k1 fu l ((i:Int)+1)=zy.l2.rg F k0 k1 l xs ((i:Int)+1):=by
   have:=ih (i+1) fu (wz hZ) (pT_ hfZ);rwa [wd] at this
  simp only[zy.l2,zy.l2.y,zy.l2.rg,e1,e2,e3,e4,e5,cond_true]
def zE.l4.rg {R:Type} (F:Nat) (k0:zE.l4.K0 R) (l:List yp.T):List yp.T->Int->Int->zg.T->zg.T->zg.T->zg.T->Option R
 | [],i,r,unit,x,r6,w=>k0 l r i (decide (i<(l.length:Int))) unit x r6 w
 | x_::xs,i,r,unit,x,r6,w=>
  oB (xx.sh F x_.2) fun c2=>
   bif decide (c2.1.1>r) then bif true then oB (xx.sh F x_.2) fun c3=>
     bif decide (i<(i64.wrap ((l.length:Int)-1))) then bif true then oB (xx.sh F x_.2) fun c4=>
       oB (yr.sh F c4.1.1) fun c5=>
       bif idx (i64.wrap (i+1)) l.length then bif true then oB (yr.sh F (i64.wrap ((get yp l ((i64.wrap (i+1)).toNat)).1-x_.1))) fun c6=>
         oB (yQ.sh F c5.1.1 c6.1.1) fun c7=>
         oB (yC.sh F w c7.1.1) fun c8=>
         zE.l4.rg F k0 l xs (i+1) c3.1.1 unit x r6 c8.1.1
        else none
       else none
      else none
     else zE.l4.rg F k0 l xs (i+1) c3.1.1 unit x r6 w
    else none
   else bif decide (i<(i64.wrap ((l.length:Int)-1))) then bif true then oB (xx.sh F x_.2) fun c9=>
     oB (yr.sh F c9.1.1) fun c10=>
     bif idx (i64.wrap (i+1)) l.length then bif true then oB (yr.sh F (i64.wrap ((get yp l ((i64.wrap (i+1)).toNat)).1-x_.1))) fun c11=>
       oB (yQ.sh F c10.1.1 c11.1.1) fun c12=>
       oB (yC.sh F w c12.1.1) fun c13=>
       zE.l4.rg F k0 l xs (i+1) r unit x r6 c13.1.1
      else none
     else none
    else none
   else zE.l4.rg F k0 l xs (i+1) r unit x r6 w
theorem zE.l4.rq (F:Nat) (k0:zE.l4.K0 R) (l:List yp.T) (hL:l.length<9223372036854775807):∀(xs:List yp.T) (i fu:Nat) (r:Int) (unit:zg.T) (x:zg.T) (r6:zg.T) (w:zg.T),l.drop i=xs->xs.length<fu->
  zE.l4 F k0 fu l r (i:Int) unit x r6 w=zE.l4.rg F k0 l xs (i:Int) r unit x r6 w:=by
 intro xs;induction xs with
 | nil=>
  intro i fu r unit x r6 w hZ hfZ;obtain ⟨fu,rfl⟩:=pS_ hfZ;have e1:=uO rfl (vZ hZ);simp only[zE.l4,zE.l4.y,zE.l4.rg,e1,cond_false]
 | cons x_ xs ih=>
  intro i fu r unit x r6 w hZ hfZ;obtain ⟨fu,rfl⟩:=pS_ hfZ;have e0:=vc hZ;have e1:=uN rfl e0;have e2:=xS e0;have e3:=vv (t:=yp) hZ;have e4:=vp e0 hL;have e5:∀(r:Int) (unit:zg.T) (x:zg.T) (r6:zg.T) (w:zg.T),zE.l4 F k0 fu l r ((i:Int)+1) unit x r6 w=zE.l4.rg F k0 l xs ((i:Int)+1) r unit x r6 w:=fun r unit x r6 w=>by
   have:=ih (i+1) fu r unit x r6 w (wz hZ) (pT_ hfZ);rwa [wd] at this
  simp only[zE.l4,zE.l4.y,zE.l4.rg,e1,e2,e3,e4,e5,cond_true]
def zz.l20.rg {R:Type} (F:Nat) (k0:zz.l20.K0 R) (l:List zg.T):List zg.T->Int->za.T->zg.T->zg.T->Option R
 | [],i,n,r8,s=>k0 l i (decide (i<(l.length:Int))) n r8 s
 | x_::xs,i,n,r8,s=>
  oB (yC.sh F s x_) fun c10=>
   zz.l20.rg F k0 l xs (i+1) n r8 c10.1.1
theorem zz.l20.rq (F:Nat) (k0:zz.l20.K0 R) (l:List zg.T) (hL:l.length<9223372036854775807):∀(xs:List zg.T) (i fu:Nat) (n:za.T) (r8:zg.T) (s:zg.T),l.drop i=xs->xs.length<fu->
  zz.l20 F k0 fu l (i:Int) n r8 s=zz.l20.rg F k0 l xs (i:Int) n r8 s:=by
 intro xs;induction xs with
 | nil=>
  intro i fu n r8 s hZ hfZ;obtain ⟨fu,rfl⟩:=pS_ hfZ;have e1:=uO rfl (vZ hZ);simp only[zz.l20,zz.l20.y,zz.l20.rg,e1,cond_false]
 | cons x_ xs ih=>
  intro i fu n r8 s hZ hfZ;obtain ⟨fu,rfl⟩:=pS_ hfZ;have e0:=vc hZ;have e1:=uN rfl e0;have e2:=xS e0;have e3:=vv (t:=zg) hZ;have e4:=vp e0 hL;have e5:∀(n:za.T) (r8:zg.T) (s:zg.T),zz.l20 F k0 fu l ((i:Int)+1) n r8 s=zz.l20.rg F k0 l xs ((i:Int)+1) n r8 s:=fun n r8 s=>by
   have:=ih (i+1) fu n r8 s (wz hZ) (pT_ hfZ);rwa [wd] at this
  simp only[zz.l20,zz.l20.y,zz.l20.rg,e1,e2,e3,e4,e5,cond_true]
def zL.l3.rg {R:Type} (F:Nat) (k0:zL.l3.K0 R) (l:List zd.T):List zd.T->Int->Int->zd.T->zd.T->Option R
 | [],i,sign,r4,b=>k0 l sign i (decide (i<(l.length:Int))) r4 b
 | x_::xs,i,sign,r4,b=>
  oB (yO.sh F x_ b) fun c1=>
   bif (c1.1.1==sign) then bif true then zL.l3.rg F k0 l xs (i+1) sign r4 x_
    else none
   else zL.l3.rg F k0 l xs (i+1) sign r4 b
theorem zL.l3.rq (F:Nat) (k0:zL.l3.K0 R) (l:List zd.T) (hL:l.length<9223372036854775807):∀(xs:List zd.T) (i fu:Nat) (sign:Int) (r4:zd.T) (b:zd.T),l.drop i=xs->xs.length<fu->
  zL.l3 F k0 fu l sign (i:Int) r4 b=zL.l3.rg F k0 l xs (i:Int) sign r4 b:=by
 intro xs;induction xs with
 | nil=>
  intro i fu sign r4 b hZ hfZ;obtain ⟨fu,rfl⟩:=pS_ hfZ;have e1:=uO rfl (vZ hZ);simp only[zL.l3,zL.l3.y,zL.l3.rg,e1,cond_false]
 | cons x_ xs ih=>
  intro i fu sign r4 b hZ hfZ;obtain ⟨fu,rfl⟩:=pS_ hfZ;have e0:=vc hZ;have e1:=uN rfl e0;have e2:=xS e0;have e3:=vv (t:=zd) hZ;have e4:=vp e0 hL;have e5:∀(sign:Int) (r4:zd.T) (b:zd.T),zL.l3 F k0 fu l sign ((i:Int)+1) r4 b=zL.l3.rg F k0 l xs ((i:Int)+1) sign r4 b:=fun sign r4 b=>by
   have:=ih (i+1) fu sign r4 b (wz hZ) (pT_ hfZ);rwa [wd] at this
  simp only[zL.l3,zL.l3.y,zL.l3.rg,e1,e2,e3,e4,e5,cond_true]
def zU.l3.rg {R:Type} (F:Nat) (k0:zU.l3.K0 R) (l:List yp.T):List yp.T->Int->Int->zd.T->Option R
 | [],i,k,x=>k0 l k i (decide (i<(l.length:Int))) x
 | x_::xs,i,k,x=>
  oB (yf.sh F x_.1) fun c1=>
   oB (yO.sh F c1.1.1 x) fun c2=>
   bif decide (c2.1.1<0) then zU.l3.rg F k0 l xs (i+1) i x
   else zU.l3.rg F k0 l xs (i+1) k x
theorem zU.l3.rq (F:Nat) (k0:zU.l3.K0 R) (l:List yp.T) (hL:l.length<9223372036854775807):∀(xs:List yp.T) (i fu:Nat) (k:Int) (x:zd.T),l.drop i=xs->xs.length<fu->
  zU.l3 F k0 fu l k (i:Int) x=zU.l3.rg F k0 l xs (i:Int) k x:=by
 intro xs;induction xs with
 | nil=>
  intro i fu k x hZ hfZ;obtain ⟨fu,rfl⟩:=pS_ hfZ;have e1:=uO rfl (vZ hZ);simp only[zU.l3,zU.l3.y,zU.l3.rg,e1,cond_false]
 | cons x_ xs ih=>
  intro i fu k x hZ hfZ;obtain ⟨fu,rfl⟩:=pS_ hfZ;have e0:=vc hZ;have e1:=uN rfl e0;have e2:=xS e0;have e3:=vv (t:=yp) hZ;have e4:=vp e0 hL;have e5:∀(k:Int) (x:zd.T),zU.l3 F k0 fu l k ((i:Int)+1) x=zU.l3.rg F k0 l xs ((i:Int)+1) k x:=fun k x=>by
   have:=ih (i+1) fu k x (wz hZ) (pT_ hfZ);rwa [wd] at this
  simp only[zU.l3,zU.l3.y,zU.l3.rg,e1,e2,e3,e4,e5,cond_true]
def zf.l7.rg {R:Type} (F:Nat) (k0:zf.l7.K0 R) (k1:zf.l7.K1 R) (q:List Int):List Int->Int->zO.T->zd.T->Option R
 | [],i,p,unit=>k1 q i (decide (i<(q.length:Int))) p unit
 | x_::xs,i,p,unit=>
  bif decide (x_<0) then k0 ([]) 101
   else bif true then bif decide (x_>1099511627776) then k0 ([]) 101
    else zf.l7.rg F k0 k1 q xs (i+1) p unit
   else none
theorem zf.l7.rq (F:Nat) (k0:zf.l7.K0 R) (k1:zf.l7.K1 R) (q:List Int) (hL:q.length<9223372036854775807):∀(xs:List Int) (i fu:Nat) (p:zO.T) (unit:zd.T),q.drop i=xs->xs.length<fu->
  zf.l7 F k0 k1 fu q (i:Int) p unit=zf.l7.rg F k0 k1 q xs (i:Int) p unit:=by
 intro xs;induction xs with
 | nil=>
  intro i fu p unit hZ hfZ;obtain ⟨fu,rfl⟩:=pS_ hfZ;have e1:=uO rfl (vZ hZ);simp only[zf.l7,zf.l7.y,zf.l7.rg,e1,cond_false]
 | cons x_ xs ih=>
  intro i fu p unit hZ hfZ;obtain ⟨fu,rfl⟩:=pS_ hfZ;have e0:=vc hZ;have e1:=uN rfl e0;have e2:=xS e0;have e3:=vv (t:=(.int .i64)) hZ;have e4:=vp e0 hL;have e5:∀(p:zO.T) (unit:zd.T),zf.l7 F k0 k1 fu q ((i:Int)+1) p unit=zf.l7.rg F k0 k1 q xs ((i:Int)+1) p unit:=fun p unit=>by
   have:=ih (i+1) fu p unit (wz hZ) (pT_ hfZ);rwa [wd] at this
  simp only[zf.l7,zf.l7.y,zf.l7.rg,e1,e2,e3,e4,e5,cond_true]
end Go.VS
