/- A semantics by values for the translated code, joined from smaller texts. -/
import Derived.Lib.IndexMore
import Derived.Test.YteppclpeidfhgaaGreatDoorQVb
set_option linter.unusedVariables false
set_option linter.unusedSimpArgs false
set_option linter.unusedSectionVars false
namespace Go.VS
open Go IntKind
theorem qE {w:World} {q:Q} {k:IntKind} {x:Int} {v:Value} (h:RE w q (Xi (.c (.int k)) x) v):v=.int k x:=h.1
theorem UN {w:World} {q:Q} {x:ByteArray} {v:Value} (h:RE w q (Xi (.c .str) x) v):v=.string x:=h.1
@[reducible] def yq.sg:Sig:={args:=[.d (.c (.int .u64)),.d (.c (.int .u64)),.d (.c (.int .u64))],res:=[.c (.int .u64),.c (.int .u64)]}
def yq.sh (_F:Nat) (x y c:Int):Option yq.sg.R :=
 bif decide (0<=x)&&(decide (0<=y)&&(decide (0<=c)&&decide (c<=1))) then some (((x+y+c)%18446744073709551616,(x+y+c)/18446744073709551616,()),()) else none
def yq.sp (F:Nat):TA yq.sg.args->Option yq.sg.R:=fun x=>yq.sh F x.1 x.2.1 x.2.2.1
@[reducible] def zW.sg:Sig:={args:=[.d (.c (.int .u64)),.d (.c (.int .u64)),.d (.c (.int .u64))],res:=[.c (.int .u64),.c (.int .u64)]}
def zW.sh (_F:Nat) (x y b:Int):Option zW.sg.R :=
 bif decide (0<=x)&&(decide (0<=y)&&(decide (y<18446744073709551616)&&(decide (0<=b)&&decide (b<=1)))) then some (((x-y-b)%18446744073709551616,(if x<y+b then 1 else 0),()),()) else none
def zW.sp (F:Nat):TA zW.sg.args->Option zW.sg.R:=fun x=>zW.sh F x.1 x.2.1 x.2.2.1
section
variable {P:Program} {G:Nat->Option vD}
def qN:Array Value->Sem Value:=fun args=>do
 let (x,y,b) ← Extern.MathBitsCarry.three "Sub64" args
 pure (Extern.MathBitsCarry.pair ((x+Extern.MathBitsCarry.m64-y-b)%Extern.MathBitsCarry.m64) (if x<y+b then 1 else 0))
theorem UT {P:Program} (x y b:Int) (hx:0<=x) (hy:0<=y) (hy2:y<18446744073709551616) (hb0:0<=b) (hb:b<=1) (w:World) :
  (qN #[.int .u64 x,.int .u64 y,.int .u64 b]).run P w =
   .ok (.tuple #[.int .u64 ((x-y-b)%18446744073709551616),.int .u64 (if x<y+b then 1 else 0)]) w:=by
 have key:∀k:Nat,k<=1->(qN #[.int .u64 x,.int .u64 y,.int .u64 (k:Int)]).run P w =
   .ok (Extern.MathBitsCarry.pair ((x.toNat+Extern.MathBitsCarry.m64-y.toNat-k)%Extern.MathBitsCarry.m64) (if x.toNat<y.toNat+k then 1 else 0)) w:=by
  intro k hk;have:k=0\/k=1:=by omega
  rcases this with rfl | rfl<;>rfl
 obtain ⟨k,rfl⟩:=Int.eq_ofNat_of_zero_le hb0;rw[key k (by omega)];obtain ⟨X,rfl⟩:=Int.eq_ofNat_of_zero_le hx;obtain ⟨Y,rfl⟩:=Int.eq_ofNat_of_zero_le hy;simp only[Extern.MathBitsCarry.pair,Extern.MathBitsCarry.m64,Int.toNat_natCast];congr 4
 ·simp; omega
 ·by_cases h:X<Y+k
  ·rw[if_pos h,if_pos (by omega)]; rfl
  ·rw[if_neg h,if_neg (by omega)]; rfl
theorem yq.ok' (F:Nat) {f:FuncId} {fn:Func} (hf:P.funcs[f]? = some fn) (hk:(!fn.body.isSome && !(fn.name == "runtime.NumGoroutine")) = true) (hn:Extern.findNext fn = none) (he:Extern.find fn = some add64Entry) :
  OK P G f yq.sg (yq.sp F):=by
 refine XU hf hk hn he ?_;intro x y hx w X Iq blk vs hE;obtain ⟨a,b,c,u⟩:=x;have hA:=hE.args;match vs,hA with
 | [v1,v2,v3],hA =>
  obtain ⟨_,h1,_,h2,_,h3,_⟩:=hA;obtain rfl:=qE h1;obtain rfl:=qE h2;obtain rfl:=qE h3;simp only[yq.sp,yq.sh] at hx;rw[cond_eq_ite] at hx;split at hx<;>simp at hx;rename_i hc;simp only[Bool.and_eq_true,decide_eq_true_eq] at hc;subst hx;refine ⟨_,run_add64 a b c hc.1 hc.2.1 hc.2.2.1 hc.2.2.2 w,ZO ?_ trivial⟩;exact ⟨_,rfl,⟨rfl,rfl⟩,⟨rfl,rfl⟩,trivial⟩
theorem zW.ok' (F:Nat) {f:FuncId} {fn:Func} (hf:P.funcs[f]? = some fn) (hk:(!fn.body.isSome && !(fn.name == "runtime.NumGoroutine")) = true) (hn:Extern.findNext fn = none) (he:Extern.find fn = some qN) :
  OK P G f zW.sg (zW.sp F):=by
 refine XU hf hk hn he ?_;intro x y hx w X Iq blk vs hE;obtain ⟨a,b,c,u⟩:=x;have hA:=hE.args;match vs,hA with
 | [v1,v2,v3],hA =>
  obtain ⟨_,h1,_,h2,_,h3,_⟩:=hA;obtain rfl:=qE h1;obtain rfl:=qE h2;obtain rfl:=qE h3;simp only[zW.sp,zW.sh] at hx;rw[cond_eq_ite] at hx;split at hx<;>simp at hx;rename_i hc;simp only[Bool.and_eq_true,decide_eq_true_eq] at hc;subst hx;refine ⟨_,UT a b c hc.1 hc.2.1 hc.2.2.1 hc.2.2.2.1 hc.2.2.2.2 w,ZO ?_ trivial⟩;exact ⟨_,rfl,⟨rfl,rfl⟩,⟨rfl,rfl⟩,trivial⟩
theorem Su {f:FuncId} {fn:Func} (hf:P.funcs[f]? = some fn) (hk:(fn.body.isSome && !(fn.name == "runtime.NumGoroutine")) = true) {s:Sig} {sp:TA s.args→Option s.R}
  (h:∀x y,sp x=some y->∀w X Iq blk vs,Xo G w X Iq blk s.args x vs->Calls P f vs.toArray w fun e w'=>∃v,e=.returned v/\Ud w w' X Iq blk s y v):OK P G f s sp:=by
 intro x y hx w X Iq blk vs hE;simp only[Bool.and_eq_true,Bool.not_eq_true'] at hk;refine .inr ⟨?_,(h x y hx w X Iq blk vs hE).mono fun e w' he=>?_⟩
 ·have hn:fn.body.isNone=false:=by cases h:fn.body<;>simp_all
  simp only[callFunc,Sem.run_bind,run_program,Result.andThen_ok,hf,hk.2,hn,Bool.false_eq_true,if_false];rfl
 ·obtain ⟨v,rfl,hp⟩:=he
  exact hp
theorem T6 {w:World} {Iq:Nat->Prop} {g:Nat} {k:IntKind} {m:Int} (h:u6 G w Iq) (hg:G g=some ⟨.int k,[m]⟩):w.cell? ⟨g,0,none⟩=some (.int k m):=by
 obtain ⟨_,_,h⟩:=h g _ hg;obtain ⟨us,h1,h2,h3⟩:=h 0 (by simp);have h3:us=[.int k m]:=h3 w (fun _=>True) (fun _=>True);subst h3;exact h2.1
@[reducible] def xt.sg:Sig:={args:=[.d (.c .str),.d (.c .str)],res:=[.c .bool]}
def xt.sh (_F:Nat) (s sub:ByteArray):Option xt.sg.R:=bif Nat.blt s.size 4294967281 then some ((Lib.contains s.data.toList sub.data.toList,()),()) else none
def xt.sp (F:Nat):TA xt.sg.args->Option xt.sg.R:=fun x=>xt.sh F x.1 x.2.1
theorem xt.ok' (F:Nat) {f:FuncId} {fn:Func} {g:Nat} {m:Int} (hf:P.funcs[f]? = some fn) (hk:(fn.body.isSome && !(fn.name == "runtime.NumGoroutine")) = true) (hg:G g = some ⟨.int .i64,[m]⟩)
  (h:∀(s sub:ByteArray) (w:World),s.size<4294967281->w.cell? ⟨g,0,none⟩=some (.int .i64 m)->
   Calls P f #[.string s,.string sub] w fun e w'=>e=.returned (.bool (Lib.contains s.data.toList sub.data.toList))/\w'=w):OK P G f xt.sg (xt.sp F):=by
 refine Su hf hk ?_;intro x y hx w X Iq blk vs hE;obtain ⟨a,b,u⟩:=x;have hA:=hE.args;match vs,hA with
 | [v1,v2],hA =>
  obtain ⟨_,h1,_,h2,_⟩:=hA;obtain rfl:=UN h1;obtain rfl:=UN h2;simp only[xt.sp,xt.sh] at hx;rw[cond_eq_ite] at hx;split at hx<;>simp at hx;rename_i hc;subst hx;refine (h a b w (by simpa using hc) (T6 hE.glob hg)).mono fun e w' ⟨he,hw⟩=>?_
  subst hw;exact ⟨_,he,ZO ⟨rfl,rfl⟩ trivial⟩
theorem U6 {w:World} {Iq:Nat->Prop} {g:Nat} {o:vD} {l:List (Nat×Option vD)}
  (h:g<w.heap.size/\¬Iq g/\∀i (h:i<o.l.length),∃us,us.length=o.t.size/\wb w g (0+i*o.t.size) us/\∀w ok okb,RT w ok okb o.t o.l[i] us) (hl:u6 (fun k=>lk none k l) w Iq) :
  u6 (fun k=>lk none k ((g,some o)::l)) w Iq:=by
 intro k p hp;simp only[lk] at hp;cases hb:Nat.beq k g with
 | false=>rw[hb] at hp; exact hl k p hp
 | true =>
  rw[hb] at hp;have hk:=xl hb;subst hk;simp at hp;subst hp;exact h
theorem U5 {w:World} {g:Nat} {k:IntKind} {m:Int} {l:List (Nat×Option vD)} (h:w.cell? ⟨g,0,none⟩=some (.int k m)) (hl:u6 (fun k=>lk none k l) w noX) :
  u6 (fun j=>lk none j ((g,some ⟨.int k,[m]⟩)::l)) w noX:=by
 refine U6 ⟨?_,id,fun i hi=>?_⟩ hl
 ·unfold World.cell? at h
  split at h<;>try simp at h
  rename_i e;exact (Array.getElem?_eq_some_iff.1 e).1
 ·simp at hi
  subst hi;exact ⟨[.int k m],rfl,⟨by simpa using h,trivial⟩,fun w ok okb=>rfl⟩
end
end Go.VS
namespace Go.VS
open Go IntKind
@[simp] theorem zQ {α β:Type} (x:α) (k:α->Option β):oB (some x) k=k x:=rfl
@[simp] theorem oB_none {α β:Type} (k:α->Option β):oB (none:Option α) k=none:=rfl
theorem wF (n:Int):u64.wrap n=n%18446744073709551616:=by
 show (if (false&&decide (n%18446744073709551616>=9223372036854775808))=true then n%18446744073709551616-18446744073709551616 else n%18446744073709551616)=_;simp
theorem uN (n:Int):i64.wrap n=if n%18446744073709551616>=9223372036854775808 then n%18446744073709551616-18446744073709551616 else n%18446744073709551616:=by
 show (if (true&&decide (n%18446744073709551616>=9223372036854775808))=true then n%18446744073709551616-18446744073709551616 else n%18446744073709551616)=_;simp
theorem yX {n:Int} (h1:-9223372036854775808<=n) (h2:n<9223372036854775808):i64.wrap n=n:=by
 rw[uN];split<;>omega
theorem wi {n:Int} (h1:0<=n) (h2:n<18446744073709551616):u64.wrap n=n:=by
 rw[wF];omega
theorem vK {i n:Nat} (h:i<n):idx (i:Int) n=true:=by simp[idx]; omega
theorem ZL {t:Ty} {l xs:List t.T} {x:t.T} {i:Nat} (h:l.drop i=x::xs):get t l (Int.toNat (i:Int))=x:=by
 have:l[i]?=some x:=by
  have:=congrArg (·[0]?) h
  simpa using this
 simp[get,this]
theorem tE {α:Type} {l xs:List α} {x:α} {i:Nat} (h:l.drop i=x::xs):l.drop (i+1)=xs:=by
 rw[<-List.drop_drop,h]; rfl
theorem Yt (i:Nat):((i+1:Nat):Int)=(i:Int)+1:=by simp
end Go.VS
