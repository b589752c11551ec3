/- A semantics by values for the translated code, joined from smaller texts. -/
import Derived.Calls
import Derived.Orders
import Derived.Below
import Derived.KernelRfl
import Derived.Laws.CopyRow
import Derived.Laws.AppendOwn
import Derived.Great.BuildSlice
import Derived.Deep.AppendSrc
set_option linter.unusedVariables false
set_option linter.unusedSimpArgs false
set_option linter.unusedSectionVars false
namespace Go.VS
inductive LTr (α:Type)
 | nil | nd (x:α) (ks:List (LTr α))
def LTr.isNd {α:Type}:LTr α->Bool
 | .nil=>false | .nd _ _=>true
def LTr.lab {α:Type} (d:α):LTr α->α
 | .nil=>d | .nd x _=>x
def LTr.kids {α:Type}:LTr α->List (LTr α)
 | .nil=>[] | .nd _ ks=>ks
inductive Ty
 | int (k:IntKind) | bool | str | fn | fnb
 | sl (t:Ty) | bsl (t:Ty) | pt (t:Ty) | bnd (t:Ty) | tr (t:Ty)
 | unit | pair (a b:Ty)
 deriving DecidableEq
@[reducible] def Ty.T:Ty->Type
 | .int _=>Int | .bool=>Bool | .str=>ByteArray | .fn=>Nat | .fnb=>Nat
 | .sl t=>List t.T | .bsl t=>List t.T | .pt t=>t.T | .bnd t=>Nat×t.T | .tr t=>LTr t.T | .unit=>Unit | .pair a b=>a.T×b.T
def Ty.dflt:(t:Ty)->t.T
 | .int _=>(0:Int) | .bool=>false | .str=>ByteArray.empty | .fn=>(0:Nat) | .fnb=>(0:Nat)
 | .sl _=>[] | .bsl _=>[] | .pt t=>t.dflt | .bnd t=>(0,t.dflt) | .tr _=>.nil | .unit=>() | .pair a b=>(a.dflt,b.dflt)
def Ty.size:Ty->Nat
 | .unit=>0 | .pair a b=>a.size+b.size | _=>1
def fnV:Nat->Value
 | 0=>.nilFunc
 | f+1=>.func (.func f) #[] #[]
inductive C
 | v (x:Value)
 | sl (t:Ty) (l:List t.T)
 | bs (t:Ty) (l:List t.T)
 | pt (t:Ty) (x:t.T)
 | own (s:Nat)
 | vw (s lo hi:Nat)
 | clo (f:Nat) (t:Ty) (x:t.T)
 | bnd (n:Nat) (t:Ty) (x:t.T)
 | tr (t:Ty) (x:LTr t.T)
 | clo2 (f:Nat) (t:Ty) (x:t.T) (u:Ty) (y:u.T)
 | fn (x:Nat)
 | fnb (x:Nat)
inductive DV
 | c (x:C) | g (l:List C) | a (k:IntKind) (l:List Int)
inductive Ent
 | undef
 | skip
 | d (x:DV) | t (l:List DV)
 | loc (s off:Nat) | locx (s:Nat) (i:Nat)
 | opos (s i off:Nat)
 | adr (l:List C) | adrl (t:Ty) (l:List t.T)
 | map (k j:IntKind) (l:List (Int×Int))
 | lt (t:Ty) (l:List t.T)
def Ty.enc:(t:Ty)->t.T->List C->List C
 | .int k,x,r=>.v (.int k x)::r
 | .bool,x,r=>.v (.bool x)::r
 | .str,x,r=>.v (.string x)::r
 | .fn,x,r=>.fn x::r
 | .fnb,x,r=>.fnb x::r
 | .sl t,x,r=>.sl t x::r
 | .bsl t,x,r=>.bs t x::r
 | .pt t,x,r=>.pt t x::r
 | .bnd t,x,r=>.bnd x.1 t x.2::r
 | .tr t,x,r=>.tr t x::r
 | .unit,_,r=>r
 | .pair a b,x,r=>a.enc x.1 (b.enc x.2 r)
inductive KS
 | c (t:Ty) | b (t:Ty) | g (t:Ty) | a (k:IntKind) | loc (s:Nat) | ow (r:Nat)
 | go (t:Ty) (ows:List (Nat×Nat)) | p (t:Ty) | cl (t:Ty) | cl2 (t u:Ty) | os (t:Ty) | og (t:Ty) (ms:List Nat)
@[reducible] def KS.T:KS->Type
 | .c t=>t.T | .b t=>List t.T | .g t=>t.T | .a _=>List Int | .loc _=>Unit | .ow _=>Unit
 | .go t _=>t.T | .p t=>t.T | .cl t=>Nat×t.T | .cl2 t u=>Nat×t.T×u.T | .os t=>List t.T | .og t _=>t.T
def vP (t u:Ty) (l:List t.T):Option (List u.T):=if h:t=u then some (h ▸ l) else none
def Xm (t u:Ty) (x:t.T):Option u.T:=if h:t=u then some (h ▸ x) else none
def Uv (k:IntKind):List C->Option (Int×List C)
 | .v (.int k' x)::r=>if k'=k then some (x,r) else none
 | _=>none
def XI:List C->Option (Bool×List C)
 | .v (.bool x)::r=>some (x,r)
 | _=>none
def Uu:List C->Option (ByteArray×List C)
 | .v (.string x)::r=>some (x,r)
 | _=>none
def Rv:List C->Option (Nat×List C)
 | .fn x::r=>some (x,r)
 | .v .nilFunc::r=>some (0,r)
 | _=>none
def Uw:List C->Option (Nat×List C)
 | .fnb x::r=>some (x,r)
 | .v .nilFunc::r=>some (0,r)
 | _=>none
def Rt (t:Ty):List C->Option (List t.T×List C)
 | .sl t' l::r=>match vP t' t l with | some l=>some (l,r) | none=>none
 | .v (.slice none 0 0)::r=>some ([],r)
 | _=>none
def Ux (t:Ty):List C->Option (List t.T×List C)
 | .sl t' l::r=>match vP t' t l with | some l=>some (l,r) | none=>none
 | .bs t' l::r=>match vP t' t l with | some l=>some (l,r) | none=>none
 | .v (.slice none 0 0)::r=>some ([],r)
 | _=>none
def Ru (t:Ty):List C->Option (t.T×List C)
 | .pt t' x::r=>match Xm t' t x with | some x=>some (x,r) | none=>none
 | _=>none
def Uy (t:Ty):List C->Option ((Nat×t.T)×List C)
 | .bnd n t' x::r=>match Xm t' t x with | some x=>some ((n,x),r) | none=>none
 | .v .nilFunc::r=>some ((0,t.dflt),r)
 | _=>none
def zal (t u:Ty) (x:LTr t.T):Option (LTr u.T):=if h:t=u then some (h ▸ x) else none
def Rs (t:Ty):List C->Option (LTr t.T×List C)
 | .tr t' x::r=>match zal t' t x with | some x=>some (x,r) | none=>none
 | .v (.pointer none)::r=>some (.nil,r)
 | _=>none
def Ty.dec:(t:Ty)->List C->Option (t.T×List C)
 | .int k,l=>Uv k l
 | .bool,l=>XI l
 | .str,l=>Uu l
 | .fn,l=>Rv l
 | .fnb,l=>Uw l
 | .sl t,l=>Rt t l
 | .bsl t,l=>Ux t l
 | .pt t,l=>Ru t l
 | .bnd t,l=>Uy t l
 | .tr t,l=>Rs t l
 | .unit,r=>some ((),r)
 | .pair a b,r=>match a.dec r with
  | some (x,r)=>match b.dec r with
   | some (y,r)=>some ((x,y),r)
   | none=>none
  | none=>none
def Ty.decA (t:Ty) (l:List C):Option t.T:=match t.dec l with
 | some (x,[])=>some x
 | _=>none
structure xK where
 t:Ty
 l:List t.T
inductive qw | no | dead | is (o:xK)
structure St where
 env:Nat->Ent
 box:Nat->Option DV
 own:Nat->qw
def upd {α:Type} (f:Nat->α) (s:Nat) (e:α):Nat->α:=fun x=>bif Nat.beq x s then e else f x
def lk {α:Type} (d:α) (x:Nat):List (Nat×α)->α
 | []=>d
 | (k,a)::r=>bif Nat.beq x k then a else lk d x r
structure TS where
 agg:Bool:=false
 zs:List Value:=[]
 fields:List (Nat×Nat×Bool):=[]
 el:Option Ty:=none
 arr:Option (IntKind×Nat):=none
 alen:Option (Nat×Nat):=none
 str:Bool:=false
 eqOK:Bool:=false
 ptr:Bool:=false
 mp:Option (IntKind×IntKind):=none
 u8:Bool:=false
def TS.elSz (t:TS) (e:Ty):Bool:=match t.el with
 | some f=>Nat.beq f.size e.size
 | none=>false
inductive ME
 | none
 | newBox (d:DV)
 | newOwn (t:Ty) (l:List t.T)
 | setBox (s:Nat) (d:DV)
 | setOwn (s:Nat) (t:Ty) (l:List t.T)
 | grow (s:Nat) (t:Ty) (l:List t.T)
 | outs (l:List (Nat×DV)) (mv:List Nat) (k:Nat) (os:List (Bool×xK)) (ips:List Nat)
 | freeze (s:Nat) (l:List C)
 | freeze2 (s:Nat) (l:List C) (s':Nat) (l':List C)
structure Eff where
 ent:Ent
 mem:ME:=.none
inductive AT
 | d (k:KS) | io (t:Ty) (ms:List Nat) | ios (t:Ty)
@[reducible] def AT.T:AT->Type
 | .d k=>k.T | .io t _=>t.T | .ios t=>List t.T
@[reducible] def TA:List AT->Type
 | []=>Unit
 | a::r=>a.T×TA r
@[reducible] def TK:List KS->Type
 | []=>Unit
 | k::r=>k.T×TK r
@[reducible] def TIo:List AT->Type
 | []=>Unit
 | .io t _::r=>t.T×TIo r
 | .ios t::r=>List t.T×TIo r
 | .d _::r=>TIo r
structure Sig where
 args:List AT:=[]
 res:List KS:=[]
@[reducible] def Sig.R (s:Sig):Type:=TK s.res×TIo s.args
def U8:Nat->C->Option xK
 | 1,.sl t l=>some ⟨t,l⟩
 | _,_=>none
def unM (k:Nat):List Nat->List C->List C×List xK
 | b::ms,c::r=>match U8 b c with
  | some o=>(.own k::(unM (k+1) ms r).1,o::(unM (k+1) ms r).2)
  | none=>(c::(unM k ms r).1,(unM k ms r).2)
 | [],r=>(r,[])
 | _::_,[]=>([],[])
def wH:(a:AT)->a.T->List xK
 | .d (.os t),x=>[⟨t,x⟩]
 | .d (.og t ms),x=>(unM 0 ms (t.enc x [])).2
 | .d _,_=>[]
 | .io t ms,x=>(unM 0 ms (t.enc x [])).2
 | .ios t,x=>[⟨t,x⟩]
def Yh:(k:KS)->k.T->List xK
 | .os t,x=>[⟨t,x⟩]
 | .og t ms,x=>(unM 0 ms (t.enc x [])).2
 | _,_=>[]
def uF (n:Nat):Bool:=Nat.ble 1000000 n
inductive Lk
 | lb (s:Nat) | ib (s:Nat) | lp (p:Nat) | mp (p:Nat) | ip (p:Nat)
def Lk.key:Lk->Nat
 | .lb s=>2*s+1 | .ib s=>2*s+1 | .lp p=>2*p+2 | .mp p=>2*p+2 | .ip p=>2*p+2
def Lk.x:Lk->Bool
 | .lb _=>false | .lp _=>false | _=>true
def u9 (a b:Lk):Bool:=Nat.beq a.key b.key&&(a.x||b.x)
def Zl (a:Lk):List Lk->Bool
 | []=>true
 | b::r=>!(u9 a b)&&Zl a r
def vD:List Lk->Bool
 | []=>true
 | a::r=>Zl a r&&vD r
def Tr (s:Nat) (t:Ty) (l:List t.T):C->C
 | .own r=>bif Nat.beq r s then .sl t l else .own r
 | .vw r lo hi=>bif Nat.beq r s then .sl t ((l.take hi).drop lo) else .vw r lo hi
 | c=>c
def Xj (s:Nat) (t:Ty) (l:List t.T):DV->DV
 | .c x=>.c (Tr s t l x)
 | .g k=>.g (k.map (Tr s t l))
 | .a k x=>.a k x
def Re (s:Nat) (t:Ty) (l:List t.T):Ent->Ent
 | .d x=>.d (Xj s t l x)
 | .t k=>.t (k.map (Xj s t l))
 | .opos r i off=>bif Nat.beq r s then .undef else .opos r i off
 | e=>e
def Q5 (σ:St) (s:Nat):St :=
 match σ.own s with
 | .is o=>{env:=fun x=>Re s o.t o.l (σ.env x),box:=fun x=>match σ.box x with | some d=>some (Xj s o.t o.l d) | none=>none,own:=upd σ.own s .dead}
 | _=>σ
structure Hn where
 MU:Nat->Bool:=fun _=>false
 DS:Nat->Option Sig:=fun _=>none
 CT:Nat->Ty:=fun _=>.unit
 na:Nat:=0
 sp:Nat->Nat:=fun _=>0
 fz:Nat->List Nat:=fun _=>[]
 fzJ:Nat->List Nat:=fun _=>[]
 fzO:Nat->List Nat:=fun _=>[]
 BT:Nat->Option Ty:=fun _=>none
 me:Option Nat:=none
 LS:Nat->Bool:=fun _=>false
def qi (Hh:Hn) (s:Nat):Bool:=match Hh.me with
 | some r=>Nat.beq s r
 | none=>false
def WU (x:Nat):List Nat->Bool
 | []=>false
 | y::r=>Nat.beq y x||WU x r
def meA (Hh:Hn):List AT->List Ent->Bool
 | .io _ ms::as,e::es=>(bif WU 2 ms then (match e with | .loc s _=>qi Hh s | _=>false) else true)&&meA Hh as es
 | _::as,_::es=>meA Hh as es
 | _,_=>true
def nfT:Ty->Bool
 | .fnb=>false
 | .sl t=>nfT t
 | .bsl t=>nfT t
 | .pt t=>nfT t
 | .bnd t=>nfT t
 | .tr t=>nfT t
 | .pair a b=>nfT a&&nfT b
 | _=>true
def nfK:KS->Bool
 | .c t | .b t | .g t | .p t | .os t | .og t _=>nfT t
 | .a _=>true
 | _=>false
def nfA:AT->Bool
 | .d k=>nfK k
 | _=>false
def meF (s:Sig) (Hh:Hn):Bool:=match Hh.me with
 | none=>true
 | some i=>bif Nat.blt i Hh.na then (match s.args[i]? with
  | some (.io _ ms)=>WU 2 ms
  | _=>false) else s.args.all nfA&&s.res.all nfK
def trE (s:Nat) (l:List C) (c:C):Ent->Ent
 | .loc s' off=>bif Nat.beq s' s then (bif Nat.beq off 0 then .d (.c c) else .adr (l.drop off)) else .loc s' off
 | .locx s' i=>bif Nat.beq s' s then .undef else .locx s' i
 | e=>e
def giveB (Hh:Hn) (σ:St) (s:Nat):St :=
 match Hh.BT s,σ.box s with
 | some t,some (.g l)=>match (Ty.pair t (.sl (.tr t))).decA l with
  | some y=>bif Nat.ble Hh.na s&&!(qi Hh s) then {σ with env:=fun x=>trE s l (.tr t (.nd y.1 y.2)) (σ.env x),box:=upd σ.box s none} else σ
  | none=>σ
 | _,_=>σ
def giveL (Hh:Hn) (σ:St):List Nat->St
 | []=>σ
 | s::r=>giveL Hh (giveB Hh (Q5 σ s) s) r
def Hn.sig (h:Hn) (d:Nat):Sig:=(h.DS d).getD {}
def xp:Nat:=1099511627776
section
variable (TI:Nat->TS) (G:Nat->Option (xK)) (Hh:Hn)
def scalar:Value->Bool
 | .agg _ | .tuple _=>false
 | _=>true
def St.ev (σ:St):Operand->Ent
 | .tmp t=>σ.env t
 | .const v=>bif scalar v then .d (.c (.v v)) else .undef
 | .global g=>match G g with
  | some o=>.adrl o.t o.l
  | none=>.undef
 | .func f=>.d (.c (.fn (f+1)))
def ent (e:Ent):Option (Bool×Eff):=some (true,⟨e,.none⟩)
def ZD (c:C):Option (Bool×Eff):=ent (.d (.c c))
def qn (v:Value):Option (Bool×Eff):=ZD (.v v)
def cmpI (op:BinOp) (a b:Int):Option Bool :=
 match op with
 | .eql=>some (a==b) | .neq=>some (a != b) | .lss=>some (decide (a<b)) | .leq=>some (decide (a<=b))
 | .gtr=>some (decide (a>b)) | .geq=>some (decide (a>=b)) | _=>none
def bitsI (op:BinOp) (k:IntKind) (a b:Int):Option Int :=
 match op with
 | .and=>some (k.wrap ((BitVec.ofInt k.bits a &&& BitVec.ofInt k.bits b).toNat))
 | .or=>some (k.wrap ((BitVec.ofInt k.bits a ||| BitVec.ofInt k.bits b).toNat))
 | .xor=>some (k.wrap ((BitVec.ofInt k.bits a ^^^ BitVec.ofInt k.bits b).toNat))
 | _=>none
def binI (op:BinOp) (k:IntKind) (a b:Int):Option (Bool×Value) :=
 match op with
 | .add=>some (true,.int k (k.wrap (a+b)))
 | .sub=>some (true,.int k (k.wrap (a-b)))
 | .mul=>some (true,.int k (k.wrap (a*b)))
 | .quo=>some (b != 0,.int k (k.wrap (a.tdiv b)))
 | .rem=>some (b != 0,.int k (a.tmod b))
 | .and | .or | .xor=>match bitsI op k a b with
  | some n=>some (true,.int k n)
  | none=>none
 | .shl=>some (decide (0<=b),.int k (k.wrap (a*2^(min b.toNat k.bits))))
 | .shr=>some (decide (0<=b),.int k (a.fdiv (2^(min b.toNat k.bits))))
 | op=>match cmpI op a b with
  | some t=>some (true,.bool t)
  | none=>none
def binS (op:BinOp) (a b:ByteArray):Option (Bool×Value) :=
 match op with
 | .add=>some (Nat.ble (a.size+b.size) xp,.string (a++b))
 | .eql=>some (true,.bool (a.toList==b.toList))
 | .neq=>some (true,.bool !(a.toList==b.toList))
 | .lss=>some (true,.bool (Op.bytesLess a.toList b.toList))
 | .leq=>some (true,.bool (Op.bytesLess a.toList b.toList||a.toList==b.toList))
 | .gtr=>some (true,.bool !(Op.bytesLess a.toList b.toList||a.toList==b.toList))
 | .geq=>some (true,.bool !(Op.bytesLess a.toList b.toList))
 | _=>none
def eqC:List C->List C->Option Bool
 | [],[]=>some true
 | .v (.int k a)::r,.v (.int k' b)::s=>if k=k' then (match eqC r s with | some q=>some ((a==b)&&q) | none=>none) else none
 | .v (.bool a)::r,.v (.bool b)::s=>match eqC r s with | some q=>some ((a==b)&&q) | none=>none
 | .v (.string a)::r,.v (.string b)::s=>match eqC r s with | some q=>some ((a==b)&&q) | none=>none
 | _,_=>none
def RZ:Option (Bool×Value)->Option (Bool×Eff)
 | some (b,v)=>some (b,⟨.d (.c (.v v)),.none⟩)
 | none=>none
def xC:List Value->List Value->Bool
 | [],[]=>true
 | .int k _::r,.int k' _::s=>decide (k=k')&&xC r s
 | .bool _::r,.bool _::s=>xC r s
 | .string _::r,.string _::s=>xC r s
 | _,_=>false
def uV:List Value->List C->Bool
 | [],[]=>true
 | .int k _::r,.v (.int k' _)::s=>decide (k=k')&&uV r s
 | .bool _::r,.v (.bool _)::s=>uV r s
 | .string _::r,.v (.string _)::s=>uV r s
 | _,_=>false
def zaw (t:TS) (k:IntKind):Bool:=match t.arr with
 | some (k0,_)=>decide (k0=k)
 | none=>false
def binE (op:BinOp) (t:Nat) (x y:Ent):Option (Bool×Eff) :=
 match x,y with
 | .d (.c (.v (.int k a))),.d (.c (.v (.int k' b))) =>
  match op with
  | .shl | .shr=>RZ (binI op k a b)
  | op=>if k=k' then RZ (binI op k a b) else none
 | .d (.c (.v (.string a))),.d (.c (.v (.string b)))=>RZ (binS op a b)
 | .d (.c (.v (.bool a))),.d (.c (.v (.bool b))) =>
  match op,(TI t).zs,(TI t).agg with
  | .eql,[.bool _],false=>qn (.bool (a==b))
  | .neq,[.bool _],false=>qn (.bool (!(a==b)))
  | _,_,_=>none
 | .d (.c (.tr _ y)),.d (.c (.v (.pointer none))) =>
  match op,(TI t).ptr with
  | .eql,true=>qn (.bool (!y.isNd))
  | .neq,true=>qn (.bool y.isNd)
  | _,_=>none
 | .d (.g l),.d (.g m)=>bif (TI t).eqOK&&uV (TI t).zs l&&uV (TI t).zs m then
  (match op with
  | .eql=>match eqC l m with | some b=>qn (.bool b) | none=>none
  | .neq=>match eqC l m with | some b=>qn (.bool !b) | none=>none
  | _=>none) else none
 | .d (.a k l),.d (.a k' m)=>bif (TI t).eqOK&&zaw (TI t) k then
  (if k=k' then (match op with
  | .eql=>some (Nat.beq l.length m.length&&Nat.beq l.length (TI t).zs.length,⟨.d (.c (.v (.bool (l==m)))),.none⟩)
  | .neq=>some (Nat.beq l.length m.length&&Nat.beq l.length (TI t).zs.length,⟨.d (.c (.v (.bool (!(l==m))))),.none⟩)
  | _=>none) else none) else none
 | _,_=>none
def unE (op:UnOp) (x:Ent):Option (Bool×Eff) :=
 match op,x with
 | .neg,.d (.c (.v (.int k a)))=>qn (.int k (k.wrap (0-a)))
 | .not,.d (.c (.v (.bool a)))=>qn (.bool !a)
 | _,_=>none
def cellsOf:DV->List C
 | .c x=>[x] | .g l=>l | .a k l=>l.map fun n=>.v (.int k n)
def part (t:TS) (off:Nat) (l:List C):Option DV :=
 bif t.agg then (match t.arr with
  | none=>bif Nat.ble (off+t.zs.length) l.length then some (.g ((l.drop off).take t.zs.length)) else none
  | some _=>none)
 else match t.zs,l.drop off with | [_],x::_=>some (.c x) | _,_=>none
def VJ (t:TS):DV :=
 match t.arr with
 | some (k,n)=>.a k (List.replicate n 0)
 | none=>match t.agg,t.zs with | false,[v]=>.c (.v v) | _,zs=>.g (zs.map .v)
def XT (l:List C) (off:Nat) (m:List C):List C:=l.take off++m++l.drop (off+m.length)
def Vu (fs:List (Nat×Nat×Bool)) (cells:List C):List (Nat×DV)->Option (List C)
 | []=>some cells
 | (i,d)::r=>match fs[i]? with
  | none=>none
  | some (off,sz,_)=>bif Nat.beq (cellsOf d).length sz&&Nat.ble (off+sz) cells.length then Vu fs (XT cells off (cellsOf d)) r else none
def tJ (t:TS):List (Nat×Nat×Bool):=match t.alen with
 | none=>t.fields
 | some (m,sz)=>(List.range m).map fun j=>(j*sz,sz,true)
def vA (σ:St):List (Nat×Operand)->Option (List (Nat×DV))
 | []=>some []
 | (i,x)::r=>match σ.ev G x with
  | .d y=>match vA σ r with
   | some l=>some ((i,y)::l)
   | none=>none
  | _=>none
def qj (k:IntKind) (l:List Int):List (Nat×DV)->Option (List Int)
 | []=>some l
 | (i,.c (.v (.int k' n)))::r=>if k'=k then (bif Nat.blt i l.length then qj k (l.set i n) r else none) else none
 | _=>none
def u7 (t:Ty) (l:List t.T):List (Nat×DV)->Option (List t.T)
 | []=>some l
 | (i,d)::r=>match t.decA (cellsOf d) with
  | some x=>bif Nat.blt i l.length then u7 t (l.set i x) r else none
  | none=>none
def idx (n:Int) (len:Nat):Bool:=decide (0<=n)&&decide (n<(len:Int))
def get (t:Ty) (l:List t.T) (n:Nat):t.T:=l.getD n t.dflt
def bt (s:ByteArray) (n:Int):Int:=((s.data.toList.getD n.toNat 0).toNat:Int)
def vv (σ:St):Ent->Option xK
 | .d (.c (.sl t l))=>some ⟨t,l⟩
 | .d (.c (.bs t l))=>some ⟨t,l⟩
 | .d (.c (.own s))=>match σ.own s with
  | .is o=>some o
  | _=>none
 | .d (.c (.vw s lo hi))=>match σ.own s with
  | .is o=>some ⟨o.t,(o.l.take hi).drop lo⟩
  | _=>none
 | _=>none
def uA (t:TS) (σ:St):Ent->Option (Bool×Eff)
 | .loc s off=>match σ.box s with
  | some (.g l)=>match part t off l with
   | some y=>ent (.d y)
   | none=>none
  | some (.c y)=>bif t.agg||!(Nat.beq off 0)||!(Nat.beq t.zs.length 1) then none else ent (.d (.c y))
  | some (.a k l)=>match t.arr with
   | some (k',n)=>if k'=k then (bif Nat.beq off 0 then some (Nat.beq n l.length,⟨.d (.a k l),.none⟩) else none) else none
   | none=>none
  | none=>none
 | .locx s i=>match σ.box s with
  | some (.a k l)=>bif t.agg||!(Nat.beq t.zs.length 1) then none else qn (.int k (l.getD i 0))
  | _=>none
 | .opos s i off=>match σ.own s with
  | .is o=>match part t off (o.t.enc (get o.t o.l i) []) with
   | some y=>ent (.d y)
   | none=>none
  | _=>none
 | .adr l=>match part t 0 l with
  | some y=>ent (.d y)
  | none=>none
 | _=>none
def VR (t:TS) (σ:St):Ent->Ent->Option (Bool×Eff)
 | .loc s off,.d d=>match σ.box s with
  | some (.g l)=>bif Nat.beq (cellsOf d).length t.zs.length&&Nat.ble (off+t.zs.length) l.length then
    some (true,⟨.undef,.setBox s (.g (XT l off (cellsOf d)))⟩) else none
  | some (.c _)=>match d with
   | .c y=>bif Nat.beq off 0&&Nat.beq t.zs.length 1 then some (true,⟨.undef,.setBox s (.c y)⟩) else none
   | _=>none
  | some (.a k l)=>match d with
   | .a k' l'=>if k'=k then (bif Nat.beq off 0 then some (Nat.beq l'.length l.length&&Nat.beq t.zs.length l.length,⟨.undef,.setBox s (.a k l')⟩) else none) else none
   | _=>none
  | none=>none
 | .locx s i,.d (.c (.v (.int k n)))=>match σ.box s with
  | some (.a k' l)=>if k'=k then (bif Nat.beq t.zs.length 1 then some (true,⟨.undef,.setBox s (.a k (l.set i n))⟩) else none) else none
  | _=>none
 | .opos s i off,.d d=>match σ.own s with
  | .is o =>
   bif Nat.beq (cellsOf d).length t.zs.length&&Nat.ble (off+t.zs.length) o.t.size then
   (match o.t.decA (XT (o.t.enc (get o.t o.l i) []) off (cellsOf d)) with
   | some y=>some (true,⟨.undef,.setOwn s o.t (o.l.set i y)⟩)
   | none=>none) else none
  | _=>none
 | _,_=>none
def YJ (t:TS) (σ:St) (x y:Ent):Option (Bool×Eff):=bif t.zs.isEmpty then none else VR t σ x y
def ZY (fs:List (Nat×Nat×Bool)) (i:Nat) (x:Ent):Option (Bool×Eff) :=
 match fs[i]? with
 | none=>none
 | some (off,_,_)=>match x with
  | .loc s o=>ent (.loc s (o+off))
  | .opos s j o=>ent (.opos s j (o+off))
  | .adr l=>ent (.adr (l.drop off))
  | _=>none
def Su (fs:List (Nat×Nat×Bool)) (i:Nat) (x:Ent):Option (Bool×Eff) :=
 match fs[i]?,x with
 | some (off,sz,agg),.d (.g l) =>
  bif agg then (bif Nat.ble (off+sz) l.length then ent (.d (.g ((l.drop off).take sz))) else none)
  else match l.drop off with
   | y::_=>ZD y
   | []=>none
 | _,_=>none
def vM (ts:TS) (σ:St) (x i:Ent):Option (Bool×Eff) :=
 match i with
 | .d (.c (.v (.int _ n)))=>match x with
  | .d (.c (.sl t l))=>bif ts.elSz t then some (idx n l.length,⟨.adr (t.enc (get t l n.toNat) []),.none⟩) else none
  | .d (.c (.bs t l))=>bif ts.elSz t then some (idx n l.length,⟨.adr (t.enc (get t l n.toNat) []),.none⟩) else none
  | .d (.c (.own s))=>match σ.own s with
   | .is o=>bif ts.elSz o.t then some (idx n o.l.length,⟨.opos s n.toNat 0,.none⟩) else none
   | _=>none
  | .d (.c (.vw s lo hi))=>match σ.own s with
   | .is o=>bif ts.elSz o.t then some (idx n (hi-lo),⟨.opos s (lo+n.toNat) 0,.none⟩) else none
   | _=>none
  | .loc s off=>match σ.box s,ts.arr with
   | some (.a _ l),some (_,m)=>bif Nat.beq off 0 then some (idx n m&&Nat.beq m l.length,⟨.locx s n.toNat,.none⟩) else none
   | some (.g _),none=>match ts.alen with
    | some (m,sz)=>bif Nat.beq off 0 then some (idx n m,⟨.loc s (n.toNat*sz),.none⟩) else none
    | none=>none
   | _,_=>none
  | .adrl t l=>match ts.alen with
   | some (m,sz)=>bif Nat.beq sz t.size&&Nat.beq m l.length then some (idx n m,⟨.adr (t.enc (get t l n.toNat) []),.none⟩) else none
   | none=>none
  | _=>none
 | _=>none
def Sl (ts:TS) (x i:Ent):Option (Bool×Eff) :=
 match x,i with
 | .d (.c (.v (.string b))),.d (.c (.v (.int _ n)))=>bif ts.str then some (idx n b.size,⟨.d (.c (.v (.int .u8 (bt b n)))),.none⟩) else none
 | .d (.a k l),.d (.c (.v (.int _ n)))=>match ts.arr with
  | some (_,m)=>some (idx n m&&Nat.beq m l.length,⟨.d (.c (.v (.int k (l.getD n.toNat 0)))),.none⟩)
  | none=>none
 | _,_=>none
def Yn:Option Ent->Option (Option Int)
 | none=>some none
 | some (.d (.c (.v (.int _ n))))=>some (some n)
 | _=>none
def zG (len:Nat) (lo hi:Option Int):Bool×Nat×Nat :=
 let l:=lo.getD 0
 let h:=hi.getD (len:Int)
 (decide (0<=l)&&decide (l<=h)&&decide (h<=(len:Int)),l.toNat,h.toNat)
def YL (ts:TS) (σ:St) (x:Ent) (lo hi:Option Ent):Option (Bool×Eff) :=
 match Yn lo,Yn hi with
 | some l,some h=>match x with
  | .d (.c (.v (.string b))) =>
   let q:=zG b.size l h
   bif ts.str then some (q.1,⟨.d (.c (.v (.string (b.extract q.2.1 q.2.2)))),.none⟩) else none
  | .d (.c (.sl t m)) =>
   let q:=zG m.length l h
   bif ts.elSz t then some (q.1,⟨.d (.c (.sl t ((m.take q.2.2).drop q.2.1))),.none⟩) else none
  | .d (.c (.bs t m)) =>
   let q:=zG m.length l h
   bif ts.elSz t then some (q.1,⟨.d (.c (.bs t ((m.take q.2.2).drop q.2.1))),.none⟩) else none
  | .d (.c (.own s))=>match σ.own s with
   | .is o =>
    let q:=zG o.l.length l h
    bif ts.elSz o.t then some (q.1,⟨.d (.c (.vw s q.2.1 q.2.2)),.none⟩) else none
   | _=>none
  | _=>none
 | _,_=>none
def qE (t:Ty) (n:Nat):List t.T:=List.replicate n t.dflt
def Q0 (t:TS) (dst:Option Nat) (len cap:Ent):Option (Bool×Eff) :=
 match t.el,dst,len,cap with
 | some e,some s,.d (.c (.v (.int _ n))),.d (.c (.v (.int _ c))) =>
  some (decide (0<=n)&&decide (n<=c)&&decide (c<=(xp:Int)),⟨.d (.c (.own s)),.newOwn e (qE e n.toNat)⟩)
 | _,_,_,_=>none
def Te (σ:St) (e:Ty):Ent->Option (List e.T)
 | .d (.c (.v (.slice none 0 0)))=>some []
 | y=>match vv σ y with
  | some o=>vP o.t e o.l
  | none=>none
def Zy (t:TS) (σ:St) (dst:Option Nat) (x y:Ent):Option (Bool×Eff) :=
 match t.el,dst with
 | some e,some s =>
  match Te σ e y with
  | none=>none
  | some ys=>match x with
   | .d (.c (.v (.slice none 0 0)))=>some (Nat.ble ys.length xp,⟨.d (.c (.own s)),.newOwn e ys⟩)
   | .d (.c (.own r))=>match σ.own r with
    | .is o=>match vP o.t e o.l with
     | some l=>some (Nat.ble (l.length+ys.length) xp,⟨.d (.c (.own s)),.grow r e (l++ys)⟩)
     | none=>none
    | _=>none
   | .d (.c (.vw r lo hi))=>match σ.own r with
    | .is o=>match vP o.t e o.l with
     | some l=>bif Nat.beq lo 0 then some (Nat.ble (hi+ys.length) xp,⟨.d (.c (.own s)),.grow r e (l.take hi++ys)⟩) else none
     | none=>none
    | _=>none
   | .lt e' l'=>match vP e' e l' with
    | some l=>bif ys.isEmpty then none else some (Nat.ble (l.length+ys.length) xp,⟨.d (.c (.own s)),.newOwn e (l++ys)⟩)
    | none=>none
   | _=>none
 | _,_=>none
def qm (isMax:Bool):Int->List Ent->IntKind->Option Int
 | x,[],_=>some x
 | x,.d (.c (.v (.int k' y)))::r,k=>if k'=k then qm isMax (bif isMax then (if y>x then y else x) else (if y<x then y else x)) r k else none
 | _,_,_=>none
def tU (σ:St) (dst:Option Nat) (b:Builtin) (ts:List Nat) (args:List Ent):Option (Bool×Eff) :=
 match b,args with
 | .len,[x]=>match ts with
  | t::_=>match x with
   | .d (.c (.v (.string s)))=>bif (TI t).str then qn (.int .i64 s.size) else none
   | x=>match (TI t).el with
    | none=>none
    | some _=>match x with
     | .d (.c (.v (.slice none 0 0)))=>qn (.int .i64 0)
     | .d (.c (.vw _ lo hi))=>qn (.int .i64 ((hi-lo:Nat):Int))
     | x=>match vv σ x with
      | some o=>qn (.int .i64 o.l.length)
      | none=>none
  | _=>none
 | .append,[x,y]=>match ts with
  | t::u::_=>match (TI u).el with
   | some _=>Zy (TI t) σ dst x y
   | none=>none
  | _=>none
 | .max,.d (.c (.v (.int k x)))::r=>match qm true x r k with | some n=>qn (.int k n) | none=>none
 | .min,.d (.c (.v (.int k x)))::r=>match qm false x r k with | some n=>qn (.int k n) | none=>none
 | _,_=>none
def tq (σ:St):C->C
 | .own s=>match σ.own s with
  | .is o=>.bs o.t o.l
  | _=>.own s
 | .vw s lo hi=>match σ.own s with
  | .is o=>.bs o.t ((o.l.take hi).drop lo)
  | _=>.vw s lo hi
 | c=>c
def wQ:List C->List Lk
 | []=>[]
 | .own s::r=>.lp s::wQ r
 | .vw s _ _::r=>.lp s::wQ r
 | _::r=>wQ r
def jnC (σ:St):C->Option (C×List Lk)
 | .v (.slice none 0 0)=>some (.v (.slice none 0 0),[])
 | .own s=>match σ.own s with
  | .is o=>some (.sl o.t o.l,[.mp s])
  | _=>none
 | .vw s lo hi=>match σ.own s with
  | .is o=>bif Nat.beq lo 0 then some (.sl o.t (o.l.take hi),[.mp s]) else none
  | _=>none
 | _=>none
def jnM (σ:St):List Nat->List C->Option (List C×List Lk)
 | b::ms,c::r=>match jnM σ ms r with
  | some (r',ps)=>bif Nat.beq b 1 then (match jnC σ c with
   | some (c',p)=>some (c'::r',p++ps)
   | none=>none) else some (c::r',ps)
  | none=>none
 | [],r=>some (r,[])
 | _::_,[]=>some ([],[])
def noB:Ty->Bool
 | .bsl _=>false
 | .sl t=>noB t
 | .pt t=>noB t
 | .bnd t=>noB t
 | .tr t=>noB t
 | .pair a b=>noB a&&noB b
 | _=>true
def xA (σ:St) (e:Ent):(a:AT)->Option (a.T×List Lk)
 | .d (.c t)=>match e with
  | .d (.c x)=>match t.decA [x] with
   | some y=>some (y,[])
   | none=>none
  | _=>none
 | .d (.b t)=>match e with
  | .d (.c (.v (.slice none 0 0)))=>some ([],[])
  | .d (.c (.vw s lo hi))=>match σ.own s with
   | .is o=>match vP o.t t ((o.l.take hi).drop lo) with
    | some l=>some (l,[.lp s])
    | none=>none
   | _=>none
  | .d (.c c)=>match vv σ (.d (.c c)) with
   | some o=>match vP o.t t o.l with
    | some l=>some (l,wQ [c])
    | none=>none
   | none=>none
  | _=>none
 | .d (.g t)=>match e with
  | .d (.g l)=>match t.decA (l.map (tq σ)) with
   | some y=>some (y,wQ l)
   | none=>none
  | _=>none
 | .d (.a k)=>match e with
  | .d (.a k' l)=>if k'=k then some (l,[]) else none
  | _=>none
 | .d (.p t)=>match e with
  | .adr l=>match t.decA l with
   | some y=>some (y,[])
   | none=>none
  | .loc s off=>bif Nat.beq off 0 then (match σ.box s with
   | some (.g l)=>match t.decA l with
    | some y=>some (y,[.lb s])
    | none=>none
   | _=>none) else none
  | _=>none
 | .d (.cl t)=>match e with
  | .d (.c (.clo f t' x))=>match Xm t' t x with
   | some y=>some ((f,y),[])
   | none=>none
  | _=>none
 | .d (.os t)=>match e with
  | .d (.c c)=>match jnM σ [1] [c] with
   | some (l',ps)=>match (Ty.sl t).decA l' with
    | some l=>bif noB t then some (l,ps) else none
    | none=>none
   | none=>none
  | _=>none
 | .d (.og t ms)=>match e with
  | .d (.g l)=>match jnM σ ms l with
   | some (l',ps)=>match t.decA l' with
    | some y=>bif noB t then some (y,ps) else none
    | none=>none
   | none=>none
  | _=>none
 | .d _=>none
 | .io t ms=>match e with
  | .loc s off=>bif Nat.beq off 0 then (match σ.box s with
   | some (.g l)=>match jnM σ ms l with
    | some (l',ps)=>match t.decA l' with
     | some y=>bif noB t then some (y,.ib s::ps) else none
     | none=>none
    | none=>none
   | _=>none) else none
  | _=>none
 | .ios t=>match e with
  | .d (.c (.own s))=>match σ.own s with
   | .is o=>match vP o.t t o.l with
    | some l=>bif noB t then some (l,[.ip s]) else none
    | none=>none
   | _=>none
  | _=>none
def lkI (n:Int):List (Int×Int)->Int
 | []=>0
 | (a,b)::r=>bif n==a then b else lkI n r
def Ua (t:TS) (x i:Ent):Option (Bool×Eff) :=
 match t.mp,x,i with
 | some (k,j),.map k' j' l,.d (.c (.v (.int k'' n)))=>if k'=k/\j'=j/\k''=k then qn (.int j (lkI n l)) else none
 | _,_,_=>none
def wJ:C->Bool
 | .own _ | .vw _ _ _=>false
 | _=>true
def efG (o:Oper) (σ:St):Option (Bool×Eff) :=
 match o.op with
 | .move x | .assign x=>ent (σ.ev G x)
 | .box _ x=>match σ.ev G x,o.dst with
  | .d y,some s=>match Hh.BT s with
   | some t=>match (Ty.pair t (.sl (.tr t))).decA (cellsOf y) with
    | some z=>ZD (.tr t (.nd z.1 z.2))
    | none=>none
   | none=>bif Nat.ble Hh.na s then some (true,⟨.loc s 0,.newBox y⟩) else none
  | _,_=>none
 | .alloc t=>match o.dst with
  | some s=>bif (TI t).zs.isEmpty||!(Nat.ble Hh.na s) then none else some (true,⟨.loc s 0,.newBox (VJ (TI t))⟩)
  | none=>none
 | .load t x=>uA (TI t) σ (σ.ev G x)
 | .store t x y=>YJ (TI t) σ (σ.ev G x) (σ.ev G y)
 | .fieldAddr t x i=>ZY (TI t).fields i (σ.ev G x)
 | .field t x i=>Su (TI t).fields i (σ.ev G x)
 | .indexAddr t x i=>vM (TI t) σ (σ.ev G x) (σ.ev G i)
 | .index t x i=>Sl (TI t) (σ.ev G x) (σ.ev G i)
 | .binOp op t x y _=>binE TI op t (σ.ev G x) (σ.ev G y)
 | .unOp op _ x=>unE op (σ.ev G x)
 | .convert u t x=>match σ.ev G x,(TI u).zs,(TI t).zs,(TI t).agg||(TI u).agg with
  | .d (.c (.v (.int _ n))),[_],[.int k _],false=>qn (.int k (k.wrap n))
  | _,_,_,_=>none
 | .build t ps=>match vA G σ ps.toList with
  | some l=>match (TI t).arr with
   | some (k,n)=>match qj k (List.replicate n 0) l with
    | some is=>ent (.d (.a k is))
    | none=>none
   | none=>bif (TI t).agg then (match Vu (tJ (TI t)) ((TI t).zs.map .v) l with
    | some cs=>ent (.d (.g cs))
    | none=>none) else none
  | none=>none
 | .buildSlice t n ps=>match (TI t).el,o.dst,vA G σ ps.toList with
  | some e,some s,some l=>match u7 e (qE e n) l with
   | some xs=>bif Nat.ble (n*e.size) 16777216 then (bif Hh.MU s then some (true,⟨.d (.c (.own s)),.newOwn e xs⟩) else ZD (.sl e xs)) else none
   | none=>none
  | _,_,_=>none
 | .makeSlice t n c=>Q0 (TI t) o.dst (σ.ev G n) (σ.ev G c)
 | .slice t x lo hi none=>YL (TI t) σ (σ.ev G x) (lo.map (σ.ev G)) (hi.map (σ.ev G))
 | .lookup t x i ok=>bif ok then none else Ua (TI t) (σ.ev G x) (σ.ev G i)
 | .extract x i=>match σ.ev G x with
  | .t l=>match l[i]? with
   | some y=>ent (.d y)
   | none=>none
  | _=>none
 | .nilCheck x=>match σ.ev G x with
  | .loc s off=>ent (.loc s off)
  | .adr l=>ent (.adr l)
  | .d (.c (.pt t y))=>ent (.adr (t.enc y []))
  | .d (.c (.tr t y))=>some (y.isNd,⟨.adr (t.enc (y.lab t.dflt) [.sl (.tr t) y.kids]),.none⟩)
  | _=>none
 | .makeFunc (.func f) a b=>match a.toList,b.toList with
  | [],[]=>ZD (.fn (f+1))
  | [],[x]=>match σ.ev G x with
   | .loc s off=>bif Nat.beq off 0 then (match σ.box s with
    | some d=>match (Hh.CT (o.dst.getD 0)).decA (cellsOf d) with
     | some y=>bif (cellsOf d).all wJ&&(Nat.ble Hh.na s&&!(qi Hh s)) then some (true,⟨.d (.c (.clo f (Hh.CT (o.dst.getD 0)) y)),.freeze s (cellsOf d)⟩) else none
     | none=>none
    | none=>none) else none
   | .adr l=>match (Hh.CT (o.dst.getD 0)).decA l with
    | some y=>ZD (.clo f (Hh.CT (o.dst.getD 0)) y)
    | none=>none
   | _=>none
  | [],[x,z]=>match σ.ev G x,σ.ev G z,Hh.CT (o.dst.getD 0) with
   | .loc s off,.loc s' off',.pair t u=>bif Nat.beq off 0&&Nat.beq off' 0&&!(Nat.beq s' s) then (match σ.box s,σ.box s' with
    | some (.g l),some (.g l')=>match t.decA l,u.decA l' with
     | some y,some y'=>bif l.all wJ&&l'.all wJ&&(Nat.ble Hh.na s&&!(qi Hh s))&&(Nat.ble Hh.na s'&&!(qi Hh s')) then some (true,⟨.d (.c (.clo2 f t y u y')),.freeze2 s l s' l'⟩) else none
     | _,_=>none
    | _,_=>none) else none
   | _,_,_=>none
  | [x],[]=>match σ.ev G x with
   | .d (.g l)=>match (Hh.CT (o.dst.getD 0)).decA l with
    | some y=>ZD (.bnd (f+1) (Hh.CT (o.dst.getD 0)) y)
    | none=>none
   | .loc s off=>bif Nat.beq off 0&&qi Hh s then ZD (.fnb (f+1)) else none
   | _=>none
  | _,_=>none
 | .call c=>match c.callee with
  | .builtin b=>tU TI σ o.dst b c.argTypes.toList (c.args.toList.map (σ.ev G))
  | _=>none
 | _=>none
def yO (σ:St):(as:List AT)->List Ent->Option (TA as×List Lk)
 | [],[]=>some ((),[])
 | a::as,e::es=>match xA σ e a,yO σ as es with
  | some x,some y=>some ((x.1,y.1),x.2++y.2)
  | _,_=>none
 | _,_=>none
def WX (n:Nat):(k:KS)->k.T->DV
 | .c t,x=>match t.enc x [] with
  | [y]=>.c y
  | _=>.g []
 | .b t,x=>.c (.bs t x)
 | .g t,x=>.g (t.enc x [])
 | .a k,x=>.a k x
 | .cl t,x=>.c (.clo x.1 t x.2)
 | .os _,_=>.c (.own n)
 | .og t ms,x=>.g (unM n ms (t.enc x [])).1
 | _,_=>.g []
def vZ (n:Nat):(ks:List KS)->TK ks->List DV
 | [],_=>[]
 | k::r,x=>WX n k x.1::vZ (n+(Yh k x.1).length) r x.2
def wE:(ks:List KS)->TK ks->List (Bool×xK)
 | [],_=>[]
 | k::r,x=>(Yh k x.1).map (fun o=>(false,o))++wE r x.2
def ux (n:Nat):(as:List AT)->TIo as->List DV
 | [],_=>[]
 | .io t ms::r,x=>.g (unM n ms (t.enc x.1 [])).1::ux (n+(unM 0 ms (t.enc x.1 [])).2.length) r x.2
 | .ios _::r,x=>ux (n+1) r x.2
 | .d _::r,x=>ux n r x
def uW:(as:List AT)->TIo as->List (Bool×xK)
 | [],_=>[]
 | .io t ms::r,x=>(unM 0 ms (t.enc x.1 [])).2.map (fun o=>(false,o))++uW r x.2
 | .ios t::r,x=>(true,⟨t,x.1⟩)::uW r x.2
 | .d _::r,x=>uW r x
def wX:List Lk->List Nat
 | []=>[]
 | .ib s::r=>s::wX r
 | _::r=>wX r
def tM:List Lk->List Nat
 | []=>[]
 | .mp s::r=>s::tM r
 | _::r=>tM r
def wW:List Lk->List Nat
 | []=>[]
 | .ip s::r=>s::wW r
 | _::r=>wW r
def Z0:Option Nat->Nat
 | some d=>100000+40*d
 | none=>99000
def WS (dst:Option Nat) (s:Sig) (ss:List Lk) (r:s.R):Eff :=
 ⟨match vZ (Z0 dst) s.res r.1 with | [x]=>.d x | l=>.t l,
  .outs ((wX ss).zip (ux (Z0 dst+(wE s.res r.1).length) s.args r.2)) (tM ss) (Z0 dst) (wE s.res r.1++uW s.args r.2) (wW ss)⟩
def oB {α β:Type} (x:Option α) (k:α->Option β):Option β :=
 match x with
 | some r=>k r
 | none=>none
def ZN {R:Type} (off sz:Nat) (K:Nat->Option R):Nat->Nat->Option R
 | 0,_=>none
 | c+1,j=>bif Nat.beq off j then K j else ZN off sz K c (j+sz)
variable (Sg:Nat->Sig)
def vQ (Hh:Hn) (as:List AT) (es:List Ent) (ls:List Lk):Bool:=vD ls&&meA Hh as es
def vj:Type 1:=(f:Nat)->TA (Sg f).args->{R:Type}->((Sg f).R->Option R)->Option R
def wy (Hh:Hn):Type 1:=(d f:Nat)->TA (Hh.sig d).args->{R:Type}->((Hh.sig d).R->Option R)->Option R
variable (V:vj Sg) (VD:wy Hh) {R:Type}
def efK (o:Oper) (σ:St) (K:Eff->Option R):Option R :=
 match o.op with
 | .pick c a b=>match σ.ev G c with
  | .d (.c (.v (.bool t)))=>bif t then K ⟨σ.ev G a,.none⟩ else K ⟨σ.ev G b,.none⟩
  | _=>none
 | .call {callee:=.value f,args,..}=>match σ.ev G f with
  | .d (.c (.fn f))=>match Hh.DS (o.dst.getD 0) with
   | none=>match f with
    | 0=>none
    | f+1=>match yO σ (Sg f).args (args.toList.map (σ.ev G)) with
     | some x=>bif vQ Hh (Sg f).args (args.toList.map (σ.ev G)) x.2 then (V f x.1 fun r=>K (WS o.dst (Sg f) x.2 r)) else none
     | none=>none
   | some _=>match yO σ (Hh.sig (o.dst.getD 0)).args (args.toList.map (σ.ev G)) with
    | some x=>bif vQ Hh (Hh.sig (o.dst.getD 0)).args (args.toList.map (σ.ev G)) x.2 then (VD (o.dst.getD 0) f x.1 fun r=>K (WS o.dst (Hh.sig (o.dst.getD 0)) x.2 r)) else none
    | none=>none
  | .d (.c (.clo f t y))=>match yO σ (Hh.sig (o.dst.getD 0)).args (args.toList.map (σ.ev G)++[.adr (t.enc y [])]) with
   | some x=>bif vQ Hh (Hh.sig (o.dst.getD 0)).args (args.toList.map (σ.ev G)++[.adr (t.enc y [])]) x.2 then (VD (o.dst.getD 0) (f+1) x.1 fun r=>K (WS o.dst (Hh.sig (o.dst.getD 0)) x.2 r)) else none
   | none=>none
  | .d (.c (.clo2 f t y u z))=>match yO σ (Hh.sig (o.dst.getD 0)).args (args.toList.map (σ.ev G)++[.adr (t.enc y []),.adr (u.enc z [])]) with
   | some x=>bif vQ Hh (Hh.sig (o.dst.getD 0)).args (args.toList.map (σ.ev G)++[.adr (t.enc y []),.adr (u.enc z [])]) x.2 then (VD (o.dst.getD 0) (f+1) x.1 fun r=>K (WS o.dst (Hh.sig (o.dst.getD 0)) x.2 r)) else none
   | none=>none
  | .d (.c (.bnd n t y))=>match yO σ (Hh.sig (o.dst.getD 0)).args (.d (.g (t.enc y []))::args.toList.map (σ.ev G)) with
   | some x=>bif vQ Hh (Hh.sig (o.dst.getD 0)).args (.d (.g (t.enc y []))::args.toList.map (σ.ev G)) x.2 then (VD (o.dst.getD 0) n x.1 fun r=>K (WS o.dst (Hh.sig (o.dst.getD 0)) x.2 r)) else none
   | none=>none
  | .d (.c (.fnb n))=>match Hh.me with
   | some s=>match yO σ (Hh.sig (o.dst.getD 0)).args (.loc s 0::args.toList.map (σ.ev G)) with
    | some x=>bif vQ Hh (Hh.sig (o.dst.getD 0)).args (.loc s 0::args.toList.map (σ.ev G)) x.2 then (VD (o.dst.getD 0) n x.1 fun r=>K (WS o.dst (Hh.sig (o.dst.getD 0)) x.2 r)) else none
    | none=>none
   | none=>none
  | _=>none
 | .indexAddr t _ _=>match efG TI G Hh o σ with
  | some (b,e)=>bif b then (match e.ent,(TI t).arr,(TI t).alen with
   | .loc s off,none,some (m,sz)=>ZN off sz (fun j=>K ⟨.loc s j,.none⟩) m 0
   | _,_,_=>K e) else none
  | none=>none
 | _=>match efG TI G Hh o σ with
  | some (b,e)=>bif b then K e else none
  | none=>none
def Yb (f:Nat->Option DV):List (Nat×DV)->Nat->Option DV
 | []=>f
 | (s,d)::r=>Yb (upd f s (some d)) r
def ZC (s:Nat) (l:List C):Ent->Ent
 | .loc s' off=>bif Nat.beq s' s then .adr (l.drop off) else .loc s' off
 | .locx s' i=>bif Nat.beq s' s then .undef else .locx s' i
 | e=>e
def Vk:List Nat->(Nat->qw)->Nat->qw
 | [],f=>f
 | p::r,f=>Vk r (upd f p .dead)
def uX:Nat->List (Bool×xK)->List Nat->(Nat->qw)->Option (Nat->qw)
 | _,[],[],f=>some f
 | k,(false,o)::r,ips,f=>match f k with
  | .no=>bif uF k then none else uX (k+1) r ips (upd f k (.is o))
  | _=>none
 | k,(true,o)::r,p::ips,f=>match f k with
  | .no=>bif uF k then none else uX (k+1) r ips (upd (upd f k .dead) p (.is o))
  | _=>none
 | _,_,_,_=>none
def vL (σ:St) (dst:Option Nat):ME->Option St
 | .none=>some σ
 | .newBox d=>match dst with
  | some s=>match σ.box s with
   | none=>some {σ with box:=upd σ.box s (some d)}
   | some _=>none
  | none=>none
 | .newOwn t l=>match dst with
  | some s=>match σ.own s with
   | .no=>bif uF s then none else some {σ with own:=upd σ.own s (.is ⟨t,l⟩)}
   | _=>none
  | none=>none
 | .setBox s d=>some {σ with box:=upd σ.box s (some d)}
 | .setOwn s t l=>some {σ with own:=upd σ.own s (.is ⟨t,l⟩)}
 | .grow r t l=>match dst with
  | some s=>match σ.own s with
   | .no=>bif uF s then none else some {σ with own:=upd (upd σ.own r .dead) s (.is ⟨t,l⟩)}
   | _=>none
  | none=>none
 | .outs l mv k os ips=>match uX k os ips (Vk mv σ.own) with
  | some f=>some {σ with box:=Yb σ.box l,own:=f}
  | none=>none
 | .freeze s l=>some {σ with env:=fun x=>ZC s l (σ.env x),box:=upd σ.box s none}
 | .freeze2 s l s' l'=>some {σ with env:=fun x=>ZC s' l' (ZC s l (σ.env x)),box:=upd (upd σ.box s none) s' none}
def Rd (k:Nat):Option DV->DV->Option Bool
 | some (.g l),.g m=>bif Nat.beq l.length m.length&&Nat.ble k l.length then eqC (l.take k) (m.take k) else none
 | _,_=>none
def ZJ (sp:Nat->Nat) (σ:St):List (Nat×DV)->Option Bool
 | []=>some true
 | (s,d)::r=>bif Nat.beq (sp s) 0 then ZJ sp σ r else match Rd (sp s) (σ.box s) d,ZJ sp σ r with
  | some a,some b=>some (a&&b)
  | _,_=>none
def ZI (sp:Nat->Nat) (σ:St) (dst:Option Nat):ME->Option Bool
 | .newBox _=>match dst with
  | some s=>bif Nat.beq (sp s) 0 then some true else none
  | none=>some true
 | .setBox s d=>ZJ sp σ [(s,d)]
 | .outs l _ _ _ _=>ZJ sp σ l
 | _=>some true
def ww (sp:Nat->Nat) (N:Nat) (σ:St) (dst:Option Nat) (e:Eff):Option St :=
 match ZI sp σ dst e.mem with
 | none=>none
 | some b=>bif b then (match vL σ dst e.mem with
  | none=>none
  | some σ'=>match dst with
   | some s=>bif Nat.blt s N then some {σ' with env:=upd σ'.env s e.ent} else none
   | none=>some σ') else none
def uh (ops:List Oper) (g:Nat):Option Nat:=match ops[g]? with | some o=>o.dst | none=>none
variable (N:Nat)
def plC:List C->List Nat
 | []=>[]
 | .own s::r=>(2*s+2)::plC r
 | .vw s _ _::r=>(2*s+2)::plC r
 | _::r=>plC r
def plE:Ent->List Nat
 | .loc s _=>[2*s+1]
 | .locx s _=>[2*s+1]
 | .opos s _ _=>[2*s+2]
 | .d (.c c)=>plC [c]
 | .d (.g l)=>plC l
 | _=>[]
def plL:List Ent->List Nat
 | []=>[]
 | e::r=>plE e++plL r
def tE:Op->List Operand
 | .load _ x=>[x]
 | .store _ x _=>[x]
 | .indexAddr _ x _=>[x]
 | .slice _ x _ _ _=>[x]
 | .makeFunc _ _ b=>b.toList
 | .call c=>c.args.toList
 | _=>[]
def tn:Op->List Operand
 | .move x | .assign x | .box _ x | .load _ x | .fieldAddr _ x _ | .field _ x _ | .unOp _ _ x | .convert _ _ x | .extract x _ | .nilCheck x=>[x]
 | .store _ x y | .indexAddr _ x y | .index _ x y | .lookup _ x y _ | .binOp _ _ x y _ | .makeSlice _ x y=>[x,y]
 | .build _ ps | .buildSlice _ _ ps=>ps.toList.map (·.2)
 | .slice _ x lo hi _=>x::(lo.toList++hi.toList)
 | .makeFunc _ a b=>a.toList++b.toList
 | .call c=>match c.callee with
  | .value f=>f::c.args.toList
  | _=>c.args.toList
 | .pick c a b=>[c,a,b]
 | _=>[]
def qH:List Operand->List Nat
 | []=>[]
 | .tmp t::r=>t::qH r
 | _::r=>qH r
def looks (all:List Oper) (o:Oper):List Nat :=
 match o.guard with
 | some (g,_)=>match uh all g with
  | some s=>s::qH (tn o.op)
  | none=>qH (tn o.op)
 | none=>qH (tn o.op)
def uv (o:Oper) (σ:St):Bool:=match o.op with
 | .load t x=>match σ.ev G x with
  | .loc s off=>Nat.blt 0 (Hh.sp s)&&Nat.ble (off+(TI t).zs.length) (Hh.sp s)
  | _=>false
 | _=>false
def plB (σ:St):List Ent->List Nat
 | []=>[]
 | .loc s _::r=>(match σ.box s with
  | some (.g l)=>plC l
  | _=>[])++plB σ r
 | _::r=>plB σ r
def meE (Hh:Hn) (e:Ent):List Ent:=match e,Hh.me with
 | .d (.c (.fnb _)),some s=>[.loc s 0]
 | _,_=>[]
def meL (o:Oper) (σ:St):List Ent:=match o.op with
 | .call {callee:=.value f,..}=>meE Hh (σ.ev G f)
 | _=>[]
def Y4 (o:Oper) (σ:St):List Nat:=match o.op with
 | .call c=>plB σ (c.args.toList.map (σ.ev G))
 | _=>[]
def vT (o:Oper) (σ:St):List Nat:=bif uv TI G Hh o σ then [0] else 0::((plL ((tE o.op).map (σ.ev G))++Y4 G o σ)++(plL (meL G Hh o σ)++plB σ (meL G Hh o σ)))
def ue:Nat->List (Bool×xK)->List Nat
 | _,[]=>[]
 | k,_::r=>k::ue (k+1) r
def wr (dst:Option Nat):ME->List Nat
 | .none=>[]
 | .newBox _=>match dst with | some s=>[2*s+1] | none=>[]
 | .newOwn _ _=>match dst with | some s=>[2*s+2] | none=>[]
 | .setBox s _=>[2*s+1]
 | .setOwn s _ _=>[2*s+2]
 | .grow r _ _=>match dst with | some s=>[2*r+2,2*s+2] | none=>[2*r+2]
 | .outs l mv k os ips=>(l.map fun p=>2*p.1+1)++((mv++(ue k os++ips)).map fun p=>2*p+2)
 | .freeze _ _=>[0]
 | .freeze2 _ _ _ _=>[0]
def QF (o:Oper) (σ:St) (K:St->List Nat->Option R):Option R :=
 efK TI G Hh Sg V VD o σ fun e=>match ZI Hh.sp σ o.dst e.mem with
  | none=>none
  | some b=>bif b then (match vL σ o.dst e.mem with
   | none=>none
   | some σ'=>match o.dst with
    | some s=>bif Nat.blt s N then K {σ' with env:=upd σ'.env s e.ent} (wr o.dst e.mem) else none
    | none=>K σ' (wr o.dst e.mem)) else none
def UO (o:Oper) (σ:St) (K:St->List Nat->Option R):Option R :=
 match ww Hh.sp N σ o.dst ⟨.skip,.none⟩ with
 | some σ'=>K σ' []
 | none=>none
def oK (all:List Oper) (o:Oper) (σ:St) (K:St->List Nat->Option R):Option R :=
 match o.guard with
 | none=>QF TI G Hh Sg V VD N o σ K
 | some (g,want)=>match uh all g with
  | none=>none
  | some s=>match σ.env s with
   | .d (.c (.v (.bool b))) =>
    bif b then (bif want then QF TI G Hh Sg V VD N o {σ with env:=upd σ.env s (.d (.c (.v (.bool true))))} K
     else UO Hh N o {σ with env:=upd σ.env s (.d (.c (.v (.bool true))))} K)
    else (bif want then UO Hh N o {σ with env:=upd σ.env s (.d (.c (.v (.bool false))))} K
     else QF TI G Hh Sg V VD N o {σ with env:=upd σ.env s (.d (.c (.v (.bool false))))} K)
   | .skip=>UO Hh N o σ K
   | _=>none
def Rg (o:Oper):List Nat:=match o.dst with
 | some d=>Hh.fzO d
 | none=>[]
structure Qr where
 d:Nat
 k:IntKind
 j:IntKind
 t:Nat
 l:List (Int×Int)
def Sr (n:Int):List (Int×Int)->Bool
 | []=>false
 | (a,_)::r=>(n==a)||Sr n r
def X9 (o:Oper):Option Qr:=match o.op,o.dst,o.guard with
 | .makeMap t none,some d,none=>match (TI t).mp with
  | some (k,j)=>bif Nat.blt d N then some ⟨d,k,j,t,[]⟩ else none
  | none=>none
 | _,_,_=>none
def V8 (p:Qr) (o:Oper):Option Qr:=match o.op,o.dst,o.guard with
 | .insert t (.tmp d) (.const (.int k a)) (.const (.int j b)),none,none=>if k=p.k/\j=p.j then (bif Nat.beq t p.t&&Nat.beq d p.d&&!(Sr a p.l) then some ⟨p.d,p.k,p.j,p.t,p.l++[(a,b)]⟩ else none) else none
 | _,_,_=>none
inductive Pn
 | no | map (p:Qr) | lit (d t:Nat) (e:Ty) (l:List e.T)
def Wb (o:Oper) (σ:St):Option Pn:=match o.op,o.dst,o.guard with
 | .buildSlice t n ps,some d,none=>bif Hh.LS d&&(TI t).u8&&Nat.blt d N then (match (TI t).el,vA G σ ps.toList with
  | some e,some l=>match u7 e (qE e n) l with
   | some xs=>bif Nat.ble (n*e.size) 16777216&&Nat.beq e.size 1 then some (.lit d t e xs) else none
   | none=>none
  | _,_=>none) else none
 | _,_,_=>none
def Ub (d t:Nat) (e:Ty) (l:List e.T) (o:Oper) (σ:St):Option St:=match o.op,o.dst,o.guard with
 | .convert u v (.tmp d'),some s,none=>bif Nat.beq u t&&Nat.beq v t&&Nat.beq d' d&&Nat.blt s N then some {σ with env:=upd (upd σ.env d .undef) s (.lt e l)} else none
 | _,_,_=>none
def Yr (σ:St) (p:Pn) (o:Oper):Option (St×Pn):=match p with
 | .no=>match X9 TI N o with
  | some p=>some (σ,.map p)
  | none=>match Wb TI G Hh N o σ with
   | some p=>some (σ,p)
   | none=>none
 | .map p=>match V8 p o with
  | some p=>some (σ,.map p)
  | none=>none
 | .lit d t e l=>match Ub N d t e l o σ with
  | some σ'=>some (σ',.no)
  | none=>none
def V9 (p:Pn) (σ:St):St:=match p with
 | .no=>σ
 | .map p=>{σ with env:=upd σ.env p.d (.map p.k p.j p.l)}
 | .lit d _ _ _=>{σ with env:=upd σ.env d .undef}
def RW (all:List Oper):List Oper->St->Pn->(St->Option R)->Option R
 | [],σ,p,K=>K (V9 p σ)
 | o::r,σ,p,K=>match Yr TI G Hh N σ p o with
  | some (σ',p')=>RW all r σ' p' K
  | none=>oK TI G Hh Sg V VD N all o (giveL Hh (V9 p σ) (Rg Hh o)) fun σ' _=>RW all r σ' .no K
def YT (all:List Oper):List Oper->St->List (List Nat×List Nat)->(St->List (List Nat×List Nat)->Option R)->Option R
 | [],σ,acc,K=>K σ acc
 | o::r,σ,acc,K=>oK TI G Hh Sg V VD N all o σ fun σ' w=>YT all r σ' ((vT TI G Hh o σ,w)::acc) K
structure FP where
 i:Nat
 dst:Option Nat
 looks:List Nat
 T:List Nat
 W:List Nat
 m:Nat
def Qh:List Nat->List Nat->Bool
 | [],_=>true
 | x::r,l=>!(WU x l)&&Qh r l
def TD (d:Option Nat) (l:List Nat):Bool:=match d with | some s=>WU s l | none=>false
def Ui (x y:FP):Bool :=
 !(TD x.dst y.looks)&&!(TD y.dst x.looks)&&!(TD x.dst (match y.dst with | some s=>[s] | none=>[])) &&
 Qh x.W y.T&&Qh y.W x.T&&Qh x.W y.W
def Uj (i:Nat):List FP->Option FP
 | []=>none
 | p::r=>bif Nat.beq p.i i then some p else Uj i r
def ZT (done:List FP):List Edge->Option Nat
 | []=>some 0
 | e::r=>bif Region.binds .any e then (match Uj e.on done,ZT done r with
   | some p,some m=>some (m ||| p.m ||| 1 <<< p.i)
   | _,_=>none) else ZT done r
def vI (all:List Oper):List FP->Nat->List Oper->List (List Nat×List Nat)->Bool
 | _,_,[],[]=>true
 | done,j,o::r,p::q=>match ZT done o.after.toList with
  | some m=>done.all (fun x=>Nat.testBit m x.i||Ui x ⟨j,o.dst,looks all o,p.1,p.2,m⟩)&&vI all (⟨j,o.dst,looks all o,p.1,p.2,m⟩::done) (j+1) r q
  | none=>false
 | _,_,_,_=>false
inductive Src | env (v:Nat) | cell (s j:Nat)
structure wx where
 n:Nat
 src:Src
 t:Ty
structure Shape where
 env:List (Nat×KS):=[]
 box:List (Nat×KS):=[]
 own:List wx:=[]
@[reducible] def TE:List (Nat×KS)->Type
 | []=>Unit
 | p::r=>p.2.T×TE r
@[reducible] def TO:List wx->Type
 | []=>Unit
 | p::r=>List p.t.T×TO r
@[reducible] def Shape.T (h:Shape):Type:=TE h.env×TE h.box×TO h.own
def Vm:Ent->Bool
 | .d (.c (.v (.slice none 0 0)))=>true
 | _=>false
def wZ (σ:St):Ent->Option (Nat×Option Nat)
 | .d (.c (.own s))=>some (s,none)
 | .d (.c (.vw s lo hi))=>bif Nat.beq lo 0 then some (s,some hi) else none
 | _=>none
def wD (σ:St):Src->Ent
 | .env v=>σ.env v
 | .cell s j=>match σ.box s with
  | some (.g l)=>match l[j]? with
   | some c=>.d (.c c)
   | none=>.undef
  | _=>.undef
def sameC:Ent->Ent->Bool
 | .d (.c (.own s)),.d (.c (.own r))=>Nat.beq s r
 | .d (.c (.v (.slice none 0 0))),.d (.c (.v (.slice none 0 0)))=>true
 | _,_=>false
def uw (os:List wx) (n:Nat):Option wx :=
 match os with
 | []=>none
 | o::r=>bif Nat.beq o.n n then some o else uw r n
def isSrc:Src->Src->Bool
 | .env v,.env u=>Nat.beq v u
 | .cell s j,.cell s' j'=>Nat.beq s s'&&Nat.beq j j'
 | _,_=>false
def RY (σ:St) (os:List wx) (at_:Src) (n:Nat):Bool :=
 match uw os n with
 | some o=>isSrc at_ o.src||sameC (wD σ at_) (wD σ o.src)
 | none=>false
def zaq (l:List C):List (Nat×Nat)->List C
 | []=>l
 | (j,_)::r=>zaq (l.set j (.v (.slice none 0 0))) r
def Zg (l:List C):List (Nat×Nat)->List C
 | []=>l
 | (j,n)::r=>(Zg l r).set j (.own n)
def U9 (σ:St) (os:List wx) (s:Nat):List (Nat×Nat)->Bool
 | []=>true
 | (j,n)::r=>RY σ os (.cell s j) n&&U9 σ os s r
def wV (σ:St) (os:List wx) (v:Nat) (e:Ent):(k:KS)->Option k.T
 | .c t=>match e with
  | .d (.c x)=>t.decA [x]
  | _=>none
 | .b t=>match e with
  | .d (.c (.v (.slice none 0 0)))=>some []
  | .d (.c (.sl t' l))=>vP t' t l
  | .d (.c (.bs t' l))=>vP t' t l
  | _=>none
 | .g t=>match e with
  | .d (.g l)=>t.decA l
  | _=>none
 | .a k=>match e with
  | .d (.a k' l)=>if k'=k then some l else none
  | _=>none
 | .loc s=>match e with
  | .loc s' off=>bif Nat.beq s' s&&Nat.beq off 0 then some () else none
  | _=>none
 | .ow n=>bif RY σ os (.env v) n then some () else none
 | .go t ows=>match e with
  | .d (.g l)=>bif U9 σ os v ows then t.decA (zaq l ows) else none
  | _=>none
 | .p t=>match e with
  | .adr l=>t.decA l
  | _=>none
 | .cl t=>match e with
  | .d (.c (.clo f t' x))=>match Xm t' t x with
   | some y=>some (f,y)
   | none=>none
  | _=>none
 | .cl2 t u=>match e with
  | .d (.c (.clo2 f t' x u' z))=>match Xm t' t x,Xm u' u z with
   | some y,some y'=>some (f,y,y')
   | _,_=>none
  | _=>none
 | .os _=>none
 | .og _ _=>none
def UY (σ:St) (os:List wx) (f:Nat->Ent):(l:List (Nat×KS))->Option (TE l)
 | []=>some ()
 | p::r=>match wV σ os p.1 (f p.1) p.2,UY σ os f r with
  | some x,some y=>some (x,y)
  | _,_=>none
def WI (b:Option DV):Ent:=match b with | some d=>.d d | none=>.undef
def XX (σ:St):(l:List wx)->Option (TO l)
 | []=>some ()
 | p::r=>match (match wZ σ (wD σ p.src) with
   | some (s,none)=>match σ.own s with
    | .is o=>bif uF p.n&&!(Nat.beq p.n s) then none else vP o.t p.t o.l
    | _=>none
   | some (s,some m)=>match σ.own s with
    | .is o=>bif uF p.n then none else vP o.t p.t (o.l.take m)
    | _=>none
   | none=>bif Vm (wD σ p.src)&&!(uF p.n) then some [] else none),XX σ r with
  | some x,some y=>some (x,y)
  | _,_=>none
def WM (σ:St):List wx->Bool
 | []=>true
 | p::r=>r.all (fun q=>!(Nat.beq q.n p.n)&&(match wZ σ (wD σ p.src),wZ σ (wD σ q.src) with
   | some x,some y=>!(Nat.beq x.1 y.1)
   | _,_=>true))&&WM σ r
def QM:KS->Bool
 | .go _ _=>false
 | _=>true
def VZ:KS->Bool
 | .go _ _ | .g _ | .c _ | .a _=>true
 | _=>false
def Wl (s:Nat):List (Nat×KS)->Bool
 | []=>false
 | p::r=>Nat.beq s p.1||Wl s r
def V6 (h:Shape):Bool:=h.env.all (fun p=>QM p.2&&(match p.2 with | .loc s=>Wl s h.box | _=>true))&&h.box.all (fun p=>VZ p.2)
def QJ (h:Shape) (σ:St):Option h.T :=
 bif V6 h&&WM σ h.own then
 match UY σ h.own σ.env h.env,UY σ h.own (fun s=>WI (σ.box s)) h.box,XX σ h.own with
 | some x,some y,some z=>some (x,y,z)
 | _,_,_=>none
 else none
def Th (s:Nat):List (Nat×KS)->Bool
 | []=>false
 | p::r=>bif Nat.beq s p.1 then (match p.2 with | .g _ | .go _ _=>true | _=>false) else Th s r
def Uc (me:Option Nat) (h:Shape) (σ:St):Bool:=match me with
 | none=>true
 | some s=>Th s h.box||(match σ.box s with | none=>true | some _=>false)
def qy (me:Option Nat) (h:Shape) (σ:St):Option h.T:=bif Uc me h σ then QJ h σ else none
def Uo:(k:KS)->k.T->Ent
 | .c t,x=>match t.enc x [] with
  | [y]=>.d (.c y)
  | _=>.undef
 | .b t,x=>.d (.c (.bs t x))
 | .g t,x=>.d (.g (t.enc x []))
 | .a k,x=>.d (.a k x)
 | .loc s,_=>.loc s 0
 | .ow r,_=>.d (.c (.own r))
 | .go t ows,x=>.d (.g (Zg (t.enc x []) ows))
 | .p t,x=>.adr (t.enc x [])
 | .cl t,x=>.d (.c (.clo x.1 t x.2))
 | .cl2 t u,x=>.d (.c (.clo2 x.1 t x.2.1 u x.2.2))
 | .os _,_=>.undef
 | .og _ _,_=>.undef
def Wz:(l:List (Nat×KS))->TE l->Nat->Ent
 | [],_,_=>.undef
 | p::r,x,n=>bif Nat.beq n p.1 then Uo p.2 x.1 else Wz r x.2 n
def tH:Ent->Option DV
 | .d d=>some d
 | _=>none
def Tv:(l:List wx)->TO l->Nat->qw
 | [],_,_=>.no
 | p::r,x,n=>bif Nat.beq n p.n then .is ⟨p.t,x.1⟩ else Tv r x.2 n
def yW (h:Shape) (x:h.T):St :=
 {env:=Wz h.env x.1,box:=fun s=>tH (Wz h.box x.2.1 s),own:=Tv h.own x.2.2}
inductive Ex | normal | exit (id:Nat) | ret
def rid:Code->Nat
 | .region id _ _=>id
 | .seq a _=>rid a
 | .cond _ a _=>rid a
 | .block _ a=>rid a
 | .loop a=>rid a
 | .scope a=>rid a
 | _=>0
variable (H HL:Nat->Shape) (HJ:Nat->Option Shape)
def ul:Type 1:=(r:Nat)->(HL r).T->{R:Type}->(Ex->St->Option R)->Option R
def shJ (r:Nat):Shape:=(HJ r).getD {}
def um:Type 1:=(r:Nat)->(shJ HJ r).T->{R:Type}->(Ex->St->Option R)->Option R
variable (L:ul HL) (J:um HJ)
def seqK (k:St->(Ex->St->Option R)->Option R) (K:Ex->St->Option R):Ex->St->Option R
 | .normal,σ=>k σ K
 | e,σ=>K e σ
def cutK (r:Nat) (k:St->(Ex->St->Option R)->Option R) (σ:St) (K:Ex->St->Option R):Option R :=
 match HJ r with
 | none=>k σ K
 | some _=>match qy Hh.me (shJ HJ r) (giveL Hh σ (Hh.fzJ r)) with
  | some x=>J r x K
  | none=>none
def SK (id:Nat) (K:Ex->St->Option R):Ex->St->Option R
 | .exit id',σ=>bif Nat.beq id' id then K .normal σ else K (.exit id') σ
 | e,σ=>K e σ
def uC:Code->St->(Ex->St->Option R)->Option R
 | .skip,σ,K=>K .normal σ
 | .region id ops false,σ,K=>RW TI G Hh Sg V VD N ops.toList ops.toList σ .no fun σ'=>match qy Hh.me (H id) (giveL Hh σ' (Hh.fz id)) with
  | some x=>K .normal (yW (H id) x)
  | none=>none
 | .region id ops true,σ,K=>YT TI G Hh Sg V VD N ops.toList ops.toList σ [] fun σ' acc=>bif vI ops.toList [] 0 ops.toList acc.reverse then (match qy Hh.me (H id) (giveL Hh σ' (Hh.fz id)) with
  | some x=>K .normal (yW (H id) x)
  | none=>none) else none
 | .seq a b,σ,K=>uC a σ (seqK (cutK Hh HJ J (rid b) (uC b)) K)
 | .cond c a b,σ,K=>match σ.ev G c with
  | .d (.c (.v (.bool t)))=>bif t then uC a σ K else uC b σ K
  | _=>none
 | .block id c,σ,K=>uC c σ (SK id K)
 | .loop c,σ,K=>match qy Hh.me (HL (rid c)) σ with
  | some x=>L (rid c) x K
  | none=>none
 | .exit id,σ,K=>K (.exit id) σ
 | .ret,σ,K=>K .ret σ
 | .label _,σ,K=>K .normal σ
 | _,_,_=>none
def RG {T:Type} (rd:St->Option T) (rec:T->Option R) (K:Ex->St->Option R):Ex->St->Option R
 | .normal,σ=>match rd σ with
  | some x=>rec x
  | none=>none
 | e,σ=>K e σ
def Wa (c:Code) (r:Nat) (K:Ex->St->Option R):Nat->(HL r).T->Option R
 | 0,_=>none
 | n+1,x=>uC TI G Hh Sg V VD N H HL HJ L J c (yW (HL r) x) (RG (qy Hh.me (HL r)) (Wa c r K n) K)
def Xb (σ:St) (k:KS) (e:Ent):Option (k.T×List Lk) :=
 match k with
 | .c (.sl t)=>match e with
  | .d (.c (.own s))=>match σ.own s with
   | .is o=>match vP o.t t o.l with
    | some l=>some (l,[.lp s])
    | none=>none
   | _=>none
  | e=>match wV σ [] 0 e (.c (.sl t)) with
   | some y=>some (y,[])
   | none=>none
 | .c t=>match wV σ [] 0 e (.c t) with
  | some y=>some (y,[])
  | none=>none
 | .g t=>match wV σ [] 0 e (.g t) with
  | some y=>some (y,[])
  | none=>none
 | .a k=>match wV σ [] 0 e (.a k) with
  | some y=>some (y,[])
  | none=>none
 | .os t=>xA σ e (.d (.os t))
 | .og t ms=>xA σ e (.d (.og t ms))
 | _=>none
def vV (σ:St):(ks:List KS)->List ResultVar->Option (TK ks×List Lk)
 | [],[]=>some ((),[])
 | k::ks,.tmp t::r=>match Xb σ k (σ.env t),vV σ ks r with
  | some x,some y=>some ((x.1,y.1),x.2++y.2)
  | _,_=>none
 | k::ks,.cell a t::r=>match uA (TI t) σ (σ.env a) with
  | some (_,⟨.d z,.none⟩)=>match Xb σ k (.d z),vV σ ks r with
   | some x,some y=>some ((x.1,y.1),x.2++y.2)
   | _,_=>none
  | _=>none
 | _,_=>none
def qs (σ:St):List ResultVar->Bool
 | []=>true
 | .tmp _::r=>qs σ r
 | .cell a t::r=>match uA (TI t) σ (σ.env a) with
  | some (b,_)=>b&&qs σ r
  | none=>false
def uR (σ:St):(i k:Nat)->(as:List AT)->TA as->Option (TIo as×List Lk)
 | _,_,[],_=>some ((),[])
 | i,k,.d a::r,x=>uR σ (i+1) (k+(wH (.d a) x.1).length) r x.2
 | i,k,.io t ms::r,x=>match (match σ.box i with
   | some (.g l)=>match jnM σ ms l with
    | some (l',ps)=>match t.decA l' with
     | some y=>some (y,ps)
     | none=>none
    | none=>none
   | _=>none),uR σ (i+1) (k+(wH (.io t ms) x.1).length) r x.2 with
  | some z,some y=>some ((z.1,y.1),z.2++y.2)
  | _,_=>none
 | i,k,.ios t::r,x=>match (match σ.own k with
   | .is o=>vP o.t t o.l
   | _=>none),uR σ (i+1) (k+1) r x.2 with
  | some z,some y=>some ((z,y.1),.mp k::y.2)
  | _,_=>none
def tc:(i k:Nat)->(as:List AT)->TA as->Nat->Ent
 | _,_,[],_,_=>.undef
 | i,k,.d (.p t)::r,x,n=>bif Nat.beq n i then .adr (t.enc x.1 []) else tc (i+1) k r x.2 n
 | i,k,.d a::r,x,n=>bif Nat.beq n i then .d (WX k a x.1) else tc (i+1) (k+(wH (.d a) x.1).length) r x.2 n
 | i,k,.io t ms::r,x,n=>bif Nat.beq n i then .loc i 0 else tc (i+1) (k+(wH (.io t ms) x.1).length) r x.2 n
 | i,k,.ios _::r,x,n=>bif Nat.beq n i then .d (.c (.own k)) else tc (i+1) (k+1) r x.2 n
def q9:(i k:Nat)->(as:List AT)->TA as->Nat->Option DV
 | _,_,[],_,_=>none
 | i,k,.d a::r,x,n=>q9 (i+1) (k+(wH (.d a) x.1).length) r x.2 n
 | i,k,.io t ms::r,x,n=>bif Nat.beq n i then some (.g (unM k ms (t.enc x.1 [])).1) else q9 (i+1) (k+(wH (.io t ms) x.1).length) r x.2 n
 | i,k,.ios _::r,x,n=>q9 (i+1) (k+1) r x.2 n
def QA:Nat->List xK->(Nat->qw)->Nat->qw
 | _,[],f,p=>f p
 | k,o::r,f,p=>bif Nat.beq p k then .is o else QA (k+1) r f p
def Z1:(k:Nat)->(as:List AT)->TA as->Nat->qw
 | _,[],_,_=>.no
 | k,a::r,x,p=>QA k (wH a x.1) (Z1 (k+(wH a x.1).length) r x.2) p
def inN:Nat:=1000000
def Wh (as:List AT) (x:TA as):St:={env:=tc 0 inN as x,box:=q9 0 inN as x,own:=Z1 inN as x}
def finK (s:Sig) (x:TA s.args) (rv:List ResultVar):Ex->St->Option s.R
 | .exit _,_=>none
 | _,σ=>bif qs TI σ rv then (match vV TI σ s.res rv,uR σ 0 inN s.args x with
  | some r,some o=>bif vD (r.2++o.2) then some (r.1,o.1) else none
  | _,_=>none) else none
def SY:KS->Bool
 | .c t | .g t=>noB t
 | .os t=>noB t
 | .og t _=>noB t
 | .a _=>true
 | _=>false
def argOK:AT->Bool
 | .io t _=>noB t
 | .ios t=>noB t
 | .d (.os t)=>noB t
 | .d (.og t _)=>noB t
 | _=>true
def Qy (s:Sig):Bool:=s.res.all SY&&s.args.all argOK
def Rf (fn:Func) (s:Sig) (c:Code) (x:TA s.args):Option s.R :=
 bif Qy s&&Nat.beq s.args.length Hh.na&&meF s Hh then uC TI G Hh Sg V VD N H HL HJ L J c (Wh s.args x) (finK TI s x fn.results.toList) else none
def mkV (l:List ((f:Nat)×(TA (Sg f).args->Option (Sg f).R))):vj Sg:=fun f x _ K =>
 match l with
 | []=>none
 | p::r=>if h:p.1=f then oB (p.2 (h ▸ x)) (fun y=>K (h ▸ y)) else mkV r f x K
def mkD (Hh:Hn) (l:List ((d:Nat)×(Nat->TA (Hh.sig d).args->Option (Hh.sig d).R))):wy Hh:=fun d f x _ K =>
 match l with
 | []=>none
 | p::r=>if h:p.1=d then oB (p.2 f (h ▸ x)) (fun y=>K (h ▸ y)) else mkD Hh r d f x K
def wg:Code->List Code
 | .seq a b=>wg a++wg b
 | .cond _ a b=>wg a++wg b
 | .block _ c=>wg c
 | .loop c=>c::wg c
 | _=>[]
def wS (HJ:Nat->Option Shape):Code->List Code
 | .seq a b=>(match HJ (rid b) with | some _=>[b] | none=>[])++wS HJ a++wS HJ b
 | .cond _ a b=>wS HJ a++wS HJ b
 | .block _ c=>wS HJ c
 | .loop c=>wS HJ c
 | _=>[]
def mkL (l:List ((r:Nat)×((HL r).T->(R:Type)->(Ex->St->Option R)->Option R))):ul HL:=fun r x _ K =>
 match l with
 | []=>none
 | p::t=>if h:p.1=r then p.2 (h ▸ x) _ K else mkL t r x K
def mkJ (l:List ((r:Nat)×((shJ HJ r).T->(R:Type)->(Ex->St->Option R)->Option R))):um HJ:=fun r x _ K =>
 match l with
 | []=>none
 | p::t=>if h:p.1=r then p.2 (h ▸ x) _ K else mkJ t r x K
end
end Go.VS
namespace Go.VS
open Go IntKind
def All2 {α β:Type} (R:α->β->Prop):List α->List β->Prop
 | [],[]=>True
 | a::l,b::m=>R a b/\All2 R l m
 | _,_=>False
section all2
variable {α β:Type} {R S:α->β->Prop}
theorem All2.mono (h:∀a b,R a b->S a b):∀{l:List α} {m:List β},All2 R l m->All2 S l m
 | [],[],_=>trivial
 | _::_,_::_,⟨h1,h2⟩=>⟨h _ _ h1,All2.mono h h2⟩
theorem All2.len:∀{l:List α} {m:List β},All2 R l m->l.length=m.length
 | [],[],_=>rfl
 | _::_,_::_,⟨_,h2⟩=>by simp[All2.len h2]
theorem All2.app:∀{l:List α} {m:List β} {l':List α} {m':List β},All2 R l m->All2 R l' m'->All2 R (l++l') (m++m')
 | [],[],_,_,_,h=>h
 | _::_,_::_,_,_,⟨h1,h2⟩,h=>⟨h1,All2.app h2 h⟩
theorem All2.drop:∀(n:Nat) {l:List α} {m:List β},All2 R l m->All2 R (l.drop n) (m.drop n)
 | 0,_,_,h=>h
 | _+1,[],[],_=>trivial
 | n+1,_::_,_::_,⟨_,h2⟩=>by simpa using All2.drop n h2
theorem All2.take:∀(n:Nat) {l:List α} {m:List β},All2 R l m->All2 R (l.take n) (m.take n)
 | 0,_,_,_=>by simp[All2]
 | _+1,[],[],_=>trivial
 | n+1,_::_,_::_,⟨h1,h2⟩=>by simpa [All2] using ⟨h1,All2.take n h2⟩
theorem All2.get:∀{l:List α} {m:List β} {i:Nat} {a:α},All2 R l m->l[i]?=some a->∃b,m[i]?=some b/\R a b
 | [],[],_,_,_,h=>by simp at h
 | a::l,b::m,0,_,⟨h1,_⟩,h=>by simp at h; subst h; exact ⟨b,by simp,h1⟩
 | a::l,b::m,i+1,_,⟨_,h2⟩,h=>by simp at h; obtain ⟨b',e,r⟩:=All2.get h2 h; exact ⟨b',by simpa using e,r⟩
theorem All2.set:∀{l:List α} {m:List β} (i:Nat) {a:α} {b:β},All2 R l m->R a b->All2 R (l.set i a) (m.set i b)
 | [],[],_,_,_,_,_=>trivial
 | _::_,_::_,0,_,_,⟨_,h2⟩,h=>⟨h,h2⟩
 | _::_,_::_,i+1,_,_,⟨h1,h2⟩,h=>⟨h1,All2.set i h2 h⟩
theorem All2.nil_left {m:List β} (h:All2 R ([]:List α) m):m=[]:=by cases m<;>simp_all [All2]
theorem All2.cons_left {a:α} {l:List α} {m:List β} (h:All2 R (a::l) m):∃b m',m=b::m'/\R a b/\All2 R l m':=by
 cases m with
 | nil=>exact h.elim
 | cons b m'=>exact ⟨b,m',rfl,h.1,h.2⟩
theorem All2.map_left {γ:Type} {f:γ->α}:∀{l:List γ} {m:List β},All2 R (l.map f) m↔All2 (fun c b=>R (f c) b) l m
 | [],[]=>Iff.rfl
 | [],_::_=>Iff.rfl
 | _::_,[]=>Iff.rfl
 | c::l,b::m=>by simp only[List.map_cons,All2]; exact and_congr Iff.rfl All2.map_left
end all2
def xc (w:World) (b off:Nat):List Value->Prop
 | []=>True
 | v::r=>w.cell? ⟨b,off,none⟩=some v/\xc w b (off+1) r
def SlR {α:Type} (w:World) (good:Nat->Prop) (sz:Nat) (R:α->List Value->Prop) (l:List α) (v:Value):Prop :=
 ∃a cap,v=.slice a l.length cap/\l.length<=cap/\(l≠[]->∃b off,a=some ⟨b,off,none⟩/\good b /\
  ∀i (h:i<l.length),∃us,us.length=sz/\xc w b (off+i*sz) us/\R l[i] us)
theorem xf {w w':World} {b:Nat} (h:∀off v,w.cell? ⟨b,off,none⟩=some v->w'.cell? ⟨b,off,none⟩=some v) :
  ∀{vs:List Value} {off:Nat},xc w b off vs->xc w' b off vs
 | [],_,_=>trivial
 | _::_,_,⟨h1,h2⟩=>⟨h _ _ h1,xf h h2⟩
inductive TrR {α:Type} (w:World) (ok:Nat->Prop) (sz:Nat) (R:α->List Value->Prop):LTr α->Value->Prop
 | nil:TrR w ok sz R .nil (.pointer none)
 | nd {x:α} {ks:List (LTr α)} {b off:Nat} {us:List Value} {a:Option Addr} {cap b' off':Nat} (vals:Nat->Value) (hb:ok b) (hl:us.length=sz) (hc:xc w b off (us++[.slice a ks.length cap])) (hx:R x us) (hcap:ks.length<=cap)
   (ha:ks≠[]->a=some ⟨b',off',none⟩/\ok b') (hv:∀i,i<ks.length->w.cell? ⟨b',off'+i,none⟩=some (vals i)) (hk:∀i (h:i<ks.length),TrR w ok sz R ks[i] (vals i)):TrR w ok sz R (.nd x ks) (.pointer (some ⟨b,off,none⟩))
theorem TrR.mono {α:Type} {w w':World} {ok ok':Nat->Prop} {sz:Nat} {R R':α->List Value->Prop}
  (hg:∀b,ok b->ok' b/\∀off v,w.cell? ⟨b,off,none⟩=some v->w'.cell? ⟨b,off,none⟩=some v)
  (hR:∀x us,R x us->R' x us) {y:LTr α} {v:Value} (h:TrR w ok sz R y v):TrR w' ok' sz R' y v:=by
 induction h with
 | nil=>exact .nil
 | @nd x ks b off us a cap b' off' vals hb hl hc hx hcap ha hv hk ih =>
  refine .nd (b':=b') (off':=off') vals (hg b hb).1 hl (xf (hg b hb).2 hc) (hR _ _ hx) hcap (fun hn=>⟨(ha hn).1,(hg _ (ha hn).2).1⟩) (fun i hi=>?_) ih;have hn:ks≠[]:=fun e=>by subst e; exact absurd hi (Nat.not_lt_zero _)
  exact (hg _ (ha hn).2).2 _ _ (hv i hi)
def RF (me:Option Nat) (x:Nat) (v:Value):Prop:=(x=0/\v=.nilFunc)\/∃f b,x=f+1/\me=some b/\v=.func (.func f) #[.pointer (some ⟨b,0,none⟩)] #[]
theorem RF.mono {me me':Option Nat} (h:∀b,me=some b->me'=some b) {x:Nat} {v:Value}:RF me x v->RF me' x v :=
 fun r=>r.imp (fun r=>r) fun ⟨f,b,e1,e2,e3⟩=>⟨f,b,e1,h b e2,e3⟩
theorem RF.sc {me:Option Nat} {x:Nat} {v:Value} (h:RF me x v):scalar v=true:=by
 rcases h with ⟨_,e⟩ | ⟨_,_,_,_,e⟩<;>(subst e; rfl)
def RT (w:World) (ok okb:Nat->Prop) (me:Option Nat):(t:Ty)->t.T->List Value->Prop
 | .int k,x,vs=>vs=[.int k x]
 | .bool,x,vs=>vs=[.bool x]
 | .str,x,vs=>vs=[.string x]
 | .fn,x,vs=>vs=[fnV x]
 | .fnb,x,vs=>∃v,vs=[v]/\RF me x v
 | .sl t,l,vs=>∃v,vs=[v]/\SlR w ok t.size (RT w ok okb me t) l v
 | .bsl t,l,vs=>∃v,vs=[v]/\SlR w okb t.size (RT w ok okb me t) l v
 | .pt t,x,vs=>∃b off us,vs=[.pointer (some ⟨b,off,none⟩)]/\ok b/\us.length=t.size/\xc w b off us/\RT w ok okb me t x us
 | .bnd t,x,vs=>(x.1=0/\vs=[.nilFunc])\/∃(f:Nat) (us:Array Value),x.1=f+1/\vs=[.func (.func f) #[.agg us] #[]]/\RT w ok okb me t x.2 us.toList
 | .tr t,x,vs=>∃v,vs=[v]/\TrR w ok t.size (RT w ok okb me t) x v
 | .unit,_,vs=>vs=[]
 | .pair a b,x,vs=>∃us ws,vs=us++ws/\RT w ok okb me a x.1 us/\RT w ok okb me b x.2 ws
theorem SlR.mono {α:Type} {w w':World} {good good':Nat->Prop} {sz:Nat} {R R':α->List Value->Prop} {l:List α} {v:Value}
  (hg:∀b,good b->good' b/\∀off v,w.cell? ⟨b,off,none⟩=some v->w'.cell? ⟨b,off,none⟩=some v)
  (hR:∀x us,R x us->R' x us) (h:SlR w good sz R l v):SlR w' good' sz R' l v:=by
 obtain ⟨a,cap,e,hc,h⟩:=h;refine ⟨a,cap,e,hc,fun hne=>?_⟩;obtain ⟨b,off,ea,hb,h⟩:=h hne;refine ⟨b,off,ea,(hg b hb).1,fun i hi=>?_⟩;obtain ⟨us,h1,h2,h3⟩:=h i hi;exact ⟨us,h1,xf (hg b hb).2 h2,hR _ _ h3⟩
theorem RT.mono {w w':World} {ok okb ok' okb':Nat->Prop} {me me':Option Nat}
  (h1:∀b,ok b->ok' b/\∀off v,w.cell? ⟨b,off,none⟩=some v->w'.cell? ⟨b,off,none⟩=some v)
  (h2:∀b,okb b->okb' b/\∀off v,w.cell? ⟨b,off,none⟩=some v->w'.cell? ⟨b,off,none⟩=some v) (h3:∀b,me=some b->me'=some b) :
  ∀(t:Ty) (x:t.T) (vs:List Value),RT w ok okb me t x vs->RT w' ok' okb' me' t x vs
 | .int _,_,_,h=>h
 | .bool,_,_,h=>h
 | .str,_,_,h=>h
 | .fn,_,_,h=>h
 | .fnb,_,_,⟨v,e,h⟩=>⟨v,e,h.mono h3⟩
 | .sl t,_,_,⟨v,e,h⟩=>⟨v,e,h.mono h1 (RT.mono h1 h2 h3 t)⟩
 | .bsl t,_,_,⟨v,e,h⟩=>⟨v,e,h.mono h2 (RT.mono h1 h2 h3 t)⟩
 | .pt t,_,_,⟨b,off,us,e,hb,hl,hc,h⟩=>⟨b,off,us,e,(h1 b hb).1,hl,xf (h1 b hb).2 hc,RT.mono h1 h2 h3 t _ _ h⟩
 | .bnd t,_,_,h=>h.imp (fun h=>h) fun ⟨f,us,e1,e2,e3⟩=>⟨f,us,e1,e2,RT.mono h1 h2 h3 t _ _ e3⟩
 | .tr t,_,_,⟨v,e,h⟩=>⟨v,e,h.mono h1 (RT.mono h1 h2 h3 t)⟩
 | .unit,_,_,h=>h
 | .pair a b,_,_,⟨us,ws,e,p,q⟩=>⟨us,ws,e,RT.mono h1 h2 h3 a _ _ p,RT.mono h1 h2 h3 b _ _ q⟩
theorem RT.len {w:World} {ok okb:Nat->Prop} {me:Option Nat}:∀(t:Ty) (x:t.T) (vs:List Value),RT w ok okb me t x vs->vs.length=t.size
 | .int _,_,_,h=>by simp only[RT] at h; subst h; rfl
 | .bool,_,_,h=>by simp only[RT] at h; subst h; rfl
 | .str,_,_,h=>by simp only[RT] at h; subst h; rfl
 | .fn,_,_,h=>by simp only[RT] at h; subst h; rfl
 | .fnb,_,_,⟨_,e,_⟩=>by subst e; rfl
 | .sl _,_,_,⟨v,e,_⟩=>by subst e; rfl
 | .bsl _,_,_,⟨v,e,_⟩=>by subst e; rfl
 | .pt _,_,_,⟨b,off,us,e,_⟩=>by subst e; rfl
 | .bnd _,_,_,h=>by
  rcases h with ⟨_,e⟩ | ⟨_,_,_,e,_⟩<;>(subst e; rfl)
 | .tr _,_,_,⟨v,e,_⟩=>by subst e; rfl
 | .unit,_,_,h=>by simp only[RT] at h; subst h; rfl
 | .pair a b,_,_,⟨us,ws,e,p,q⟩=>by subst e; simp[Ty.size,RT.len a _ _ p,RT.len b _ _ q]
structure Hd where
 a:Option Addr
 len:Nat
 cap:Nat
 sz:Nat
structure Gh where
 blk:Nat->Option Nat
 hd:Nat->Option Hd
 me:Option Nat:=none
structure Q where
 ok:Nat->Prop
 okb:Nat->Prop
 m:Gh
def RC (w:World) (q:Q):C->Value->Prop
 | .v x,v=>v=x/\scalar x=true
 | .sl t l,v=>SlR w q.ok t.size (RT w q.ok q.okb q.m.me t) l v
 | .bs t l,v=>SlR w q.okb t.size (RT w q.ok q.okb q.m.me t) l v
 | .pt t x,v=>∃b off us,v=.pointer (some ⟨b,off,none⟩)/\q.ok b/\us.length=t.size/\xc w b off us/\RT w q.ok q.okb q.m.me t x us
 | .own s,v=>∃h,q.m.hd s=some h/\v=.slice h.a h.len h.cap
 | .vw s lo hi,v=>∃h,q.m.hd s=some h/\lo<=hi/\hi<=h.len /\
   v=.slice (if h.cap=lo then h.a else h.a.map (·.add (lo*h.sz))) (hi-lo) (h.cap-lo)
 | .fn x,v=>v=fnV x
 | .fnb x,v=>RF q.m.me x v
 | .bnd n t x,v=>(n=0/\v=.nilFunc)\/∃(f:Nat) (us:Array Value),n=f+1/\v=.func (.func f) #[.agg us] #[]/\RT w q.ok q.okb q.m.me t x us.toList
 | .tr t x,v=>TrR w q.ok t.size (RT w q.ok q.okb q.m.me t) x v
 | .clo2 f t x u y,v=>∃b off us b' off' us',v=.func (.func f) #[] #[.pointer (some ⟨b,off,none⟩),.pointer (some ⟨b',off',none⟩)]/\(q.okb b/\us.length=t.size/\xc w b off us/\RT w q.ok q.okb q.m.me t x us)/\(q.okb b'/\us'.length=u.size/\xc w b' off' us'/\RT w q.ok q.okb q.m.me u y us')
 | .clo f t x,v=>∃b off us,v=.func (.func f) #[] #[.pointer (some ⟨b,off,none⟩)]/\q.okb b/\us.length=t.size/\xc w b off us/\RT w q.ok q.okb q.m.me t x us
structure QLe (w w':World) (q q':Q):Prop where
 ok:∀b,q.ok b->q'.ok b/\∀off v,w.cell? ⟨b,off,none⟩=some v->w'.cell? ⟨b,off,none⟩=some v
 okb:∀b,q.okb b->q'.okb b/\∀off v,w.cell? ⟨b,off,none⟩=some v->w'.cell? ⟨b,off,none⟩=some v
 me:∀b,q.m.me=some b->q'.m.me=some b
structure QLeH (w w':World) (q q':Q):Prop extends QLe w w' q q' where
 hd:∀s h,q.m.hd s=some h->q'.m.hd s=some h
theorem RC.scalar {w:World} {q:Q}:∀{c:C} {v:Value},RC w q c v->scalar v=true
 | .v _,_,⟨e,h⟩=>e ▸ h
 | .sl _ _,_,⟨_,_,e,_⟩=>by subst e; rfl
 | .bs _ _,_,⟨_,_,e,_⟩=>by subst e; rfl
 | .pt _ _,_,⟨_,_,_,e,_⟩=>by subst e; rfl
 | .tr _ _,_,h=>by cases h<;>rfl
 | .own _,_,⟨_,_,e⟩=>by subst e; rfl
 | .vw _ _ _,_,⟨_,_,_,_,e⟩=>by subst e; rfl
 | .clo2 _ _ _ _ _,_,⟨_,_,_,_,_,_,e,_⟩=>by subst e; rfl
 | .clo _ _ _,_,⟨_,_,_,e,_⟩=>by subst e; rfl
 | .bnd _ _ _,_,h=>by
  rcases h with ⟨_,e⟩ | ⟨_,_,_,e,_⟩<;>(subst e; rfl)
 | .fn x,_,e=>by cases x<;>(simp only[RC,fnV] at e; subst e; rfl)
 | .fnb _,_,h=>RF.sc h
theorem RC.mono {w w':World} {q q':Q} (hq:QLeH w w' q q'):∀{c:C} {v:Value},RC w q c v->RC w' q' c v
 | .v _,_,h=>h
 | .sl t _,_,h=>SlR.mono hq.ok (RT.mono hq.ok hq.okb hq.me t) h
 | .bs t _,_,h=>SlR.mono hq.okb (RT.mono hq.ok hq.okb hq.me t) h
 | .pt t _,_,⟨b,off,us,e,hb,hl,hc,h⟩=>⟨b,off,us,e,(hq.ok b hb).1,hl,xf (hq.ok b hb).2 hc,RT.mono hq.ok hq.okb hq.me t _ _ h⟩
 | .own _,_,⟨h,e,k⟩=>⟨h,hq.hd _ _ e,k⟩
 | .vw _ _ _,_,⟨h,e,k⟩=>⟨h,hq.hd _ _ e,k⟩
 | .fn _,_,h=>h
 | .fnb _,_,h=>RF.mono hq.me h
 | .tr t _,_,h=>TrR.mono hq.ok (RT.mono hq.ok hq.okb hq.me t) h
 | .bnd _ t _,_,h=>h.imp (fun h=>h) fun ⟨f,us,e1,e2,e3⟩=>⟨f,us,e1,e2,RT.mono hq.ok hq.okb hq.me t _ _ e3⟩
 | .clo2 _ t _ u _,_,⟨b,off,us,b',off',us',e,⟨hb,hl,hc,h⟩,⟨hb',hl',hc',h'⟩⟩=>⟨b,off,us,b',off',us',e,⟨(hq.okb b hb).1,hl,xf (hq.okb b hb).2 hc,RT.mono hq.ok hq.okb hq.me t _ _ h⟩,⟨(hq.okb b' hb').1,hl',xf (hq.okb b' hb').2 hc',RT.mono hq.ok hq.okb hq.me u _ _ h'⟩⟩
 | .clo _ t _,_,⟨b,off,us,e,hb,hl,hc,h⟩=>⟨b,off,us,e,(hq.okb b hb).1,hl,xf (hq.okb b hb).2 hc,RT.mono hq.ok hq.okb hq.me t _ _ h⟩
theorem RC.mono_plain {w w':World} {q q':Q} (hq:QLe w w' q q'):∀{c:C} {v:Value},wJ c=true->RC w q c v->RC w' q' c v
 | .v _,_,_,h=>h
 | .sl t _,_,_,h=>SlR.mono hq.ok (RT.mono hq.ok hq.okb hq.me t) h
 | .bs t _,_,_,h=>SlR.mono hq.okb (RT.mono hq.ok hq.okb hq.me t) h
 | .pt t _,_,_,⟨b,off,us,e,hb,hl,hc,h⟩=>⟨b,off,us,e,(hq.ok b hb).1,hl,xf (hq.ok b hb).2 hc,RT.mono hq.ok hq.okb hq.me t _ _ h⟩
 | .fn _,_,_,h=>h
 | .fnb _,_,_,h=>RF.mono hq.me h
 | .tr t _,_,_,h=>TrR.mono hq.ok (RT.mono hq.ok hq.okb hq.me t) h
 | .bnd _ t _,_,_,h=>h.imp (fun h=>h) fun ⟨f,us,e1,e2,e3⟩=>⟨f,us,e1,e2,RT.mono hq.ok hq.okb hq.me t _ _ e3⟩
 | .clo2 _ t _ u _,_,_,⟨b,off,us,b',off',us',e,⟨hb,hl,hc,h⟩,⟨hb',hl',hc',h'⟩⟩=>⟨b,off,us,b',off',us',e,⟨(hq.okb b hb).1,hl,xf (hq.okb b hb).2 hc,RT.mono hq.ok hq.okb hq.me t _ _ h⟩,⟨(hq.okb b' hb').1,hl',xf (hq.okb b' hb').2 hc',RT.mono hq.ok hq.okb hq.me u _ _ h'⟩⟩
 | .clo _ t _,_,_,⟨b,off,us,e,hb,hl,hc,h⟩=>⟨b,off,us,e,(hq.okb b hb).1,hl,xf (hq.okb b hb).2 hc,RT.mono hq.ok hq.okb hq.me t _ _ h⟩
theorem RT.sc {w:World} {ok okb:Nat->Prop} {me:Option Nat}:∀(t:Ty) (x:t.T) (vs:List Value),RT w ok okb me t x vs->∀v∈vs,scalar v=true
 | .int _,_,_,h=>by simp only[RT] at h; subst h; simp[VS.scalar]
 | .bool,_,_,h=>by simp only[RT] at h; subst h; simp[VS.scalar]
 | .str,_,_,h=>by simp only[RT] at h; subst h; simp[VS.scalar]
 | .fn,x,_,h=>by simp only[RT] at h; subst h; cases x<;>simp[fnV,VS.scalar]
 | .fnb,_,_,⟨v,e,h⟩=>by subst e; intro v' hv; rw[List.mem_singleton.1 hv]; exact RF.sc h
 | .sl _,_,_,⟨v,e,_,_,e2,_⟩=>by subst e; subst e2; simp[VS.scalar]
 | .bsl _,_,_,⟨v,e,_,_,e2,_⟩=>by subst e; subst e2; simp[VS.scalar]
 | .pt _,_,_,⟨b,off,us,e,_⟩=>by subst e; simp[VS.scalar]
 | .bnd _,_,_,h=>by
  rcases h with ⟨_,e⟩ | ⟨_,_,_,e,_⟩<;>(subst e; simp[VS.scalar])
 | .tr _,_,_,⟨v,e,h⟩=>by subst e; cases h<;>simp[VS.scalar]
 | .unit,_,_,h=>by simp only[RT] at h; subst h; simp
 | .pair a b,_,_,⟨us,ws,e,p,q⟩=>by
  subst e;intro v hv;rcases List.mem_append.1 hv with h | h
  ·exact RT.sc a _ _ p v h
  ·exact RT.sc b _ _ q v h
theorem Un {w:World} {q:Q}:∀(t:Ty) (x:t.T) (r:List C) (vs ws:List Value),RT w q.ok q.okb q.m.me t x vs->All2 (RC w q) r ws->
  All2 (RC w q) (t.enc x r) (vs++ws)
 | .int _,_,_,_,_,h,hr=>by simp only[RT] at h; subst h; exact ⟨⟨rfl,rfl⟩,hr⟩
 | .bool,_,_,_,_,h,hr=>by simp only[RT] at h; subst h; exact ⟨⟨rfl,rfl⟩,hr⟩
 | .str,_,_,_,_,h,hr=>by simp only[RT] at h; subst h; exact ⟨⟨rfl,rfl⟩,hr⟩
 | .fn,_,_,_,_,h,hr=>by simp only[RT] at h; subst h; exact ⟨rfl,hr⟩
 | .fnb,_,_,_,_,⟨v,e,h⟩,hr=>by subst e; exact ⟨h,hr⟩
 | .sl _,_,_,_,_,⟨v,e,h⟩,hr=>by subst e; exact ⟨h,hr⟩
 | .bsl _,_,_,_,_,⟨v,e,h⟩,hr=>by subst e; exact ⟨h,hr⟩
 | .pt _,_,_,_,_,⟨b,off,us,e,h⟩,hr=>by subst e; exact ⟨⟨b,off,us,rfl,h⟩,hr⟩
 | .bnd _,x,_,_,_,h,hr=>by
  rcases h with ⟨e0,e⟩ | ⟨f,us,e0,e,h⟩
  ·subst e; exact ⟨.inl ⟨e0,rfl⟩,hr⟩
  ·subst e; exact ⟨.inr ⟨f,us,e0,rfl,h⟩,hr⟩
 | .tr _,_,_,_,_,⟨v,e,h⟩,hr=>by subst e; exact ⟨h,hr⟩
 | .unit,_,_,_,_,h,hr=>by simp only[RT] at h; subst h; exact hr
 | .pair a b,x,r,_,ws,⟨us,vs,e,h1,h2⟩,hr=>by
  subst e;rw[List.append_assoc];exact Un a x.1 _ us (vs++ws) h1 (Un b x.2 r vs ws h2 hr)
theorem Um {w:World} {q:Q}:∀(t:Ty) (x:t.T) (r:List C) (vs:List Value),All2 (RC w q) (t.enc x r) vs->
  ∃us ws,vs=us++ws/\RT w q.ok q.okb q.m.me t x us/\All2 (RC w q) r ws
 | .int _,_,_,_,h=>by obtain ⟨b,m,e,⟨e1,_⟩,h2⟩:=h.cons_left; subst e; subst e1; exact ⟨[_],m,rfl,rfl,h2⟩
 | .bool,_,_,_,h=>by obtain ⟨b,m,e,⟨e1,_⟩,h2⟩:=h.cons_left; subst e; subst e1; exact ⟨[_],m,rfl,rfl,h2⟩
 | .str,_,_,_,h=>by obtain ⟨b,m,e,⟨e1,_⟩,h2⟩:=h.cons_left; subst e; subst e1; exact ⟨[_],m,rfl,rfl,h2⟩
 | .fn,_,_,_,h=>by obtain ⟨b,m,e,e1,h2⟩:=h.cons_left; subst e; subst e1; exact ⟨[_],m,rfl,rfl,h2⟩
 | .fnb,_,_,_,h=>by obtain ⟨b,m,e,h1,h2⟩:=h.cons_left; subst e; exact ⟨[b],m,rfl,⟨b,rfl,h1⟩,h2⟩
 | .sl _,_,_,_,h=>by obtain ⟨b,m,e,h1,h2⟩:=h.cons_left; subst e; exact ⟨[b],m,rfl,⟨b,rfl,h1⟩,h2⟩
 | .bsl _,_,_,_,h=>by obtain ⟨b,m,e,h1,h2⟩:=h.cons_left; subst e; exact ⟨[b],m,rfl,⟨b,rfl,h1⟩,h2⟩
 | .pt _,_,_,_,h=>by obtain ⟨b,m,e,⟨b2,off,us,e2,h1⟩,h2⟩:=h.cons_left; subst e; subst e2; exact ⟨[_],m,rfl,⟨b2,off,us,rfl,h1⟩,h2⟩
 | .bnd _,_,_,_,h=>by
  obtain ⟨b,m,e,h1,h2⟩:=h.cons_left;subst e;rcases h1 with ⟨e0,e⟩ | ⟨f,us,e0,e,h1⟩
  ·subst e; exact ⟨[_],m,rfl,.inl ⟨e0,rfl⟩,h2⟩
  ·subst e; exact ⟨[_],m,rfl,.inr ⟨f,us,e0,rfl,h1⟩,h2⟩
 | .tr _,_,_,_,h=>by obtain ⟨b,m,e,h1,h2⟩:=h.cons_left; subst e; exact ⟨[b],m,rfl,⟨b,rfl,h1⟩,h2⟩
 | .unit,_,_,vs,h=>⟨[],vs,rfl,rfl,h⟩
 | .pair a b,x,r,vs,h=>by
  obtain ⟨us,ws,e,h1,h2⟩:=Um a x.1 _ vs h;obtain ⟨us2,ws2,e2,h3,h4⟩:=Um b x.2 r ws h2;subst e2; subst e;exact ⟨us++us2,ws2,by simp,⟨us,us2,rfl,h1,h3⟩,h4⟩
theorem Ri {w:World} {q:Q} {t:Ty} {x:t.T} {vs:List Value}:All2 (RC w q) (t.enc x []) vs↔RT w q.ok q.okb q.m.me t x vs:=by
 constructor
 ·intro h
  obtain ⟨us,ws,e,h1,h2⟩:=Um t x [] vs h;have:=h2.nil_left; subst this; subst e; simpa using h1
 ·intro h; have:=Un t x [] vs [] h trivial; simpa using this
theorem x6 {t u:Ty} {l:List t.T} {m:List u.T} (h:vP t u l=some m):∃e:t=u,e ▸ l=m:=by
 unfold vP at h;split at h
 ·rename_i e; exact ⟨e,by simpa using h⟩
 ·simp at h
theorem uz {t u:Ty} {l:t.T} {m:u.T} (h:Xm t u l=some m):∃e:t=u,e ▸ l=m:=by
 unfold Xm at h;split at h
 ·rename_i e; exact ⟨e,by simpa using h⟩
 ·simp at h
theorem TN {t u:Ty} {l:LTr t.T} {m:LTr u.T} (h:zal t u l=some m):∃e:t=u,e ▸ l=m:=by
 unfold zal at h;split at h
 ·rename_i e; exact ⟨e,by simpa using h⟩
 ·simp at h
theorem SlR.nil {α:Type} {w:World} {good:Nat->Prop} {sz:Nat} {R:α->List Value->Prop}:SlR w good sz R [] (.slice none 0 0) :=
 ⟨none,0,rfl,Nat.le_refl _,fun h=>absurd rfl h⟩
theorem zab {w:World} {q:Q} (hok:∀b,q.ok b->q.okb b):∀(t:Ty) (l:List C) (x:t.T) (r:List C) (vs:List Value),t.dec l=some (x,r)->All2 (RC w q) l vs->
  ∃us ws,vs=us++ws/\RT w q.ok q.okb q.m.me t x us/\All2 (RC w q) r ws:=by
 intro t;induction t with
 | int k =>
  intro l x r vs hd h;unfold Ty.dec Uv at hd;split at hd<;>simp at hd;obtain ⟨hk,rfl,rfl⟩:=hd;obtain ⟨b,m,e,⟨e1,_⟩,h2⟩:=h.cons_left;subst e; subst e1; subst hk;exact ⟨[_],m,rfl,rfl,h2⟩
 | bool =>
  intro l x r vs hd h;unfold Ty.dec XI at hd;split at hd<;>simp at hd;obtain ⟨rfl,rfl⟩:=hd;obtain ⟨b,m,e,⟨e1,_⟩,h2⟩:=h.cons_left;subst e; subst e1;exact ⟨[_],m,rfl,rfl,h2⟩
 | str =>
  intro l x r vs hd h;unfold Ty.dec Uu at hd;split at hd<;>simp at hd;obtain ⟨rfl,rfl⟩:=hd;obtain ⟨b,m,e,⟨e1,_⟩,h2⟩:=h.cons_left;subst e; subst e1;exact ⟨[_],m,rfl,rfl,h2⟩
 | fn =>
  intro l x r vs hd h;unfold Ty.dec Rv at hd;split at hd<;>simp at hd
  ·obtain ⟨rfl,rfl⟩:=hd
   obtain ⟨b,m,e,e1,h2⟩:=h.cons_left;subst e; subst e1;exact ⟨[_],m,rfl,rfl,h2⟩
  ·obtain ⟨rfl,rfl⟩:=hd
   obtain ⟨b,m,e,⟨e1,_⟩,h2⟩:=h.cons_left;subst e; subst e1;exact ⟨[_],m,rfl,rfl,h2⟩
 | tr t ih =>
  intro l x r vs hd h;unfold Ty.dec Rs at hd;split at hd<;>try simp at hd
  ·split at hd<;>simp at hd
   rename_i hc;obtain ⟨rfl,rfl⟩:=hd;obtain ⟨e,e2⟩:=TN hc;subst e; subst e2;obtain ⟨b,m,e,h1,h2⟩:=h.cons_left;subst e;exact ⟨[b],m,rfl,⟨b,rfl,h1⟩,h2⟩
  ·obtain ⟨rfl,rfl⟩:=hd
   obtain ⟨b,m,e,⟨e1,_⟩,h2⟩:=h.cons_left;subst e; subst e1;exact ⟨[_],m,rfl,⟨_,rfl,.nil⟩,h2⟩
 | fnb =>
  intro l x r vs hd h;unfold Ty.dec Uw at hd;split at hd<;>simp at hd
  ·obtain ⟨rfl,rfl⟩:=hd
   obtain ⟨b,m,e,h1,h2⟩:=h.cons_left;subst e;exact ⟨[b],m,rfl,⟨b,rfl,h1⟩,h2⟩
  ·obtain ⟨rfl,rfl⟩:=hd
   obtain ⟨b,m,e,⟨e1,_⟩,h2⟩:=h.cons_left;subst e; subst e1;exact ⟨[_],m,rfl,⟨_,rfl,.inl ⟨rfl,rfl⟩⟩,h2⟩
 | sl t ih =>
  intro l x r vs hd h;unfold Ty.dec Rt at hd;split at hd<;>try simp at hd
  ·split at hd<;>simp at hd
   rename_i hc;obtain ⟨rfl,rfl⟩:=hd;obtain ⟨e,e2⟩:=x6 hc;subst e; subst e2;obtain ⟨b,m,e,h1,h2⟩:=h.cons_left;subst e;exact ⟨[b],m,rfl,⟨b,rfl,h1⟩,h2⟩
  ·obtain ⟨rfl,rfl⟩:=hd
   obtain ⟨b,m,e,⟨e1,_⟩,h2⟩:=h.cons_left;subst e; subst e1;exact ⟨[_],m,rfl,⟨_,rfl,SlR.nil⟩,h2⟩
 | bsl t ih =>
  intro l x r vs hd h;unfold Ty.dec Ux at hd;split at hd<;>try simp at hd
  ·split at hd<;>simp at hd
   rename_i hc;obtain ⟨rfl,rfl⟩:=hd;obtain ⟨e,e2⟩:=x6 hc;subst e; subst e2;obtain ⟨b,m,e,h1,h2⟩:=h.cons_left;subst e;exact ⟨[b],m,rfl,⟨b,rfl,SlR.mono (fun b hb=>⟨hok b hb,fun _ _ h=>h⟩) (fun _ _ h=>h) h1⟩,h2⟩
  ·split at hd<;>simp at hd
   rename_i hc;obtain ⟨rfl,rfl⟩:=hd;obtain ⟨e,e2⟩:=x6 hc;subst e; subst e2;obtain ⟨b,m,e,h1,h2⟩:=h.cons_left;subst e;exact ⟨[b],m,rfl,⟨b,rfl,h1⟩,h2⟩
  ·obtain ⟨rfl,rfl⟩:=hd
   obtain ⟨b,m,e,⟨e1,_⟩,h2⟩:=h.cons_left;subst e; subst e1;exact ⟨[_],m,rfl,⟨_,rfl,SlR.nil⟩,h2⟩
 | pt t ih =>
  intro l x r vs hd h;unfold Ty.dec Ru at hd;split at hd<;>try simp at hd
  split at hd<;>simp at hd;rename_i hc;obtain ⟨rfl,rfl⟩:=hd;obtain ⟨e,e2⟩:=uz hc;subst e; subst e2;obtain ⟨b,m,e,⟨b2,off,us,e2,h1⟩,h2⟩:=h.cons_left;subst e; subst e2;exact ⟨[_],m,rfl,⟨b2,off,us,rfl,h1⟩,h2⟩
 | bnd t ih =>
  intro l x r vs hd h;unfold Ty.dec Uy at hd;split at hd<;>try simp at hd
  ·split at hd<;>simp at hd
   rename_i hc;obtain ⟨rfl,rfl⟩:=hd;obtain ⟨e,e2⟩:=uz hc;subst e; subst e2;obtain ⟨b,m,e,h1,h2⟩:=h.cons_left;subst e;rcases h1 with ⟨e0,e⟩ | ⟨f,us,e0,e,h1⟩
   ·subst e; exact ⟨[_],m,rfl,.inl ⟨e0,rfl⟩,h2⟩
   ·subst e; exact ⟨[_],m,rfl,.inr ⟨f,us,e0,rfl,h1⟩,h2⟩
  ·obtain ⟨rfl,rfl⟩:=hd
   obtain ⟨b,m,e,⟨e1,_⟩,h2⟩:=h.cons_left;subst e; subst e1;exact ⟨[_],m,rfl,.inl ⟨rfl,rfl⟩,h2⟩
 | unit =>
  intro l x r vs hd h;unfold Ty.dec at hd;simp at hd;obtain ⟨_,rfl⟩:=hd;exact ⟨[],vs,rfl,rfl,h⟩
 | pair a b iha ihb =>
  intro l x r vs hd h;unfold Ty.dec at hd;split at hd<;>try simp at hd
  rename_i h1;split at hd<;>simp at hd;rename_i h2;obtain ⟨rfl,rfl⟩:=hd;obtain ⟨us,ws,e,p1,p2⟩:=iha _ _ _ _ h1 h;obtain ⟨us2,ws2,e2,p3,p4⟩:=ihb _ _ _ _ h2 p2;subst e2; subst e;exact ⟨us++us2,ws2,by simp,⟨us,us2,rfl,p1,p3⟩,p4⟩
theorem wh {w:World} {q:Q} (hok:∀b,q.ok b->q.okb b) {t:Ty} {l:List C} {x:t.T} {vs:List Value} (hd:t.decA l=some x) (h:All2 (RC w q) l vs) :
  RT w q.ok q.okb q.m.me t x vs:=by
 unfold Ty.decA at hd;split at hd<;>simp at hd;rename_i e;subst hd;obtain ⟨us,ws,e,p1,p2⟩:=zab hok t _ _ _ _ e h;have:=p2.nil_left; subst this; subst e; simpa using p1
end Go.VS
namespace Go.VS
open Go IntKind
structure Cx where
 P:Program
 TI:Nat->TS
 G:Nat->Option xK
 N:Nat
 w0:World
 X:Nat->Prop
 Iq:Nat->Prop
 na:Nat
 g0:Gh
 me:Option Nat:=none
def Mv (g:Gh) (b:Nat):Prop:=∃p h off,g.hd p=some h/\h.a=some ⟨b,off,none⟩/\0<h.cap
def Cx.new (cx:Cx) (b:Nat):Prop:=¬cx.X b/\¬cx.Iq b/\(cx.w0.heap.size<=b\/Mv cx.g0 b)
def xz (σ:St) (m:Gh):Nat ⊕ Nat->Nat->Prop
 | .inl s,b=>m.blk s=some b
 | .inr s,b=>∃o h off,σ.own s=.is o/\m.hd s=some h/\h.a=some ⟨b,off,none⟩/\0<h.cap
def qz (σ:St) (m:Gh) (b:Nat):Prop:=∃p,xz σ m p b
def Cx.q (cx:Cx) (σ:St) (m:Gh) (w:World):Q where
 ok b:=b<w.heap.size/\¬qz σ m b/\¬cx.X b/\¬cx.Iq b
 okb b:=b<w.heap.size/\¬qz σ m b/\¬cx.Iq b
 m:=m
theorem Cx.q_ok (cx:Cx) (σ:St) (m:Gh) (w:World):∀b,(cx.q σ m w).ok b->(cx.q σ m w).okb b:=fun _ h=>⟨h.1,h.2.1,h.2.2.2⟩
def RD (w:World) (q:Q):DV->Value->Prop
 | .c c,v=>RC w q c v
 | .g l,v=>∃cs,v=.agg cs/\All2 (RC w q) l cs.toList
 | .a k l,v=>v=.agg (l.map (Value.int k)).toArray
def RB (w:World) (q:Q):DV->List Value->Prop
 | .c c,cs=>∃v,cs=[v]/\RC w q c v
 | .g l,cs=>All2 (RC w q) l cs
 | .a k l,cs=>cs=l.map (Value.int k)
def RE (w:World) (q:Q):Ent->Value->Prop
 | .undef,_=>True
 | .skip,v=>v=Go.undef
 | .d x,v=>RD w q x v
 | .t l,v=>∃vs,v=.tuple vs/\All2 (RD w q) l vs.toList
 | .loc s off,v=>∃b,q.m.blk s=some b/\v=.pointer (some ⟨b,off,none⟩)
 | .locx s i,v=>∃b cs T,q.m.blk s=some b/\v=.pointer (some ⟨b,i,none⟩)/\w.heap[b]?=some (.cells cs T (0,0))/\i<cs.size
 | .opos s i off,v=>∃h b o,q.m.hd s=some h/\h.a=some ⟨b,o,none⟩/\i<h.len/\v=.pointer (some ⟨b,o+i*h.sz+off,none⟩)
 | .adr l,v=>∃b off vs,v=.pointer (some ⟨b,off,none⟩)/\q.okb b/\xc w b off vs/\All2 (RC w q) l vs/\∀c∈l,wJ c=true
 | .map k j l,v=>∃b es c,v=.map (some b)/\w.heap[b]?=some (.map es c)/\es.toList.map (fun e=>(e.key,e.val))=l.map fun p=>(Value.int k p.1,Value.int j p.2)
 | .lt t l,v=>RC w q (.sl t l) v/\∃a,v=.slice a l.length l.length
 | .adrl t l,v=>∃b off,v=.pointer (some ⟨b,off,none⟩)/\q.okb b/\∀i (h:i<l.length),∃us,us.length=t.size /\
   xc w b (off+i*t.size) us/\RT w q.ok q.okb q.m.me t l[i] us
structure Le (w w':World) (q q':Q):Prop extends QLeH w w' q q' where
 blk:∀s b,q.m.blk s=some b->q'.m.blk s=some b
 sz:∀(b:Nat) (cs:Array Value) (T:TypeId),w.heap[b]?=some (Obj.cells cs T (0,0))->∃cs':Array Value,w'.heap[b]?=some (Obj.cells cs' T (0,0))/\cs'.size=cs.size
 mp:∀(b:Nat) (es:Array MapEntry) (c:Nat),w.heap[b]?=some (Obj.map es c)->w'.heap[b]?=some (Obj.map es c)
theorem RD.mono {w w':World} {q q':Q} (h:QLeH w w' q q'):∀{d:DV} {v:Value},RD w q d v->RD w' q' d v
 | .c _,_,r=>RC.mono h r
 | .g _,_,⟨cs,e,r⟩=>⟨cs,e,r.mono fun _ _=>RC.mono h⟩
 | .a _ _,_,r=>r
theorem RB.mono {w w':World} {q q':Q} (h:QLeH w w' q q'):∀{d:DV} {cs:List Value},RB w q d cs->RB w' q' d cs
 | .c _,_,⟨v,e,r⟩=>⟨v,e,RC.mono h r⟩
 | .g _,_,r=>All2.mono (fun _ _=>RC.mono h) r
 | .a _ _,_,r=>r
theorem RE.mono {w w':World} {q q':Q} (h:Le w w' q q'):∀{e:Ent} {v:Value},RE w q e v->RE w' q' e v
 | .undef,_,_=>trivial
 | .skip,_,r=>r
 | .d _,_,r=>RD.mono h.toQLeH r
 | .t _,_,⟨vs,e,r⟩=>⟨vs,e,r.mono fun _ _=>RD.mono h.toQLeH⟩
 | .loc _ _,_,⟨b,e,r⟩=>⟨b,h.blk _ _ e,r⟩
 | .locx _ _,_,⟨b,cs,T,e,r,hc,hi⟩=>by
  obtain ⟨cs',hc',hs⟩:=h.sz b cs T hc;exact ⟨b,cs',T,h.blk _ _ e,r,hc',by omega⟩
 | .opos _ _ _,_,⟨hh,b,o,e,r⟩=>⟨hh,b,o,h.hd _ _ e,r⟩
 | .adr _,_,⟨b,off,vs,e,hb,hc,r,hp⟩=>⟨b,off,vs,e,(h.okb b hb).1,xf (h.okb b hb).2 hc,r.mono fun _ _=>RC.mono h.toQLeH,hp⟩
 | .map _ _ _,_,⟨b,es,c,e,hm,r⟩=>⟨b,es,c,e,h.mp b es c hm,r⟩
 | .lt t l,_,⟨r,e⟩=>⟨RC.mono (c:=.sl t l) h.toQLeH r,e⟩
 | .adrl t _,_,⟨b,off,e,hb,r⟩=>⟨b,off,e,(h.okb b hb).1,fun i hi=>by
  obtain ⟨us,h1,h2,h3⟩:=r i hi;exact ⟨us,h1,xf (h.okb b hb).2 h2,RT.mono h.ok h.okb h.me t _ _ h3⟩⟩
def OwnRep (w:World) (q:Q) (h:Hd) (o:xK):Prop :=
 h.len=o.l.length/\h.sz=o.t.size/\h.len<=h.cap/\(0<h.cap->∃b off cs T,h.a=some ⟨b,off,none⟩/\w.heap[b]?=some (.cells cs T (0,0)) /\
  off+h.cap*h.sz<=cs.size/\∀i (hi:i<o.l.length),∃us,us.length=o.t.size/\xc w b (off+i*o.t.size) us/\RT w q.ok q.okb q.m.me o.t o.l[i] us)
structure Rel (cx:Cx) (m:Gh) (σ:St) (a:Act) (w:World):Prop where
 size:cx.N<=a.tmps.size
 defers:a.defers=[]
 env:∀t,RE w (cx.q σ m w) (σ.env t) (a.tmps.getD t Go.undef)
 box:∀s d,σ.box s=some d->∃b cs T,m.blk s=some b/\w.heap[b]?=some (.cells cs T (0,0))/\RB w (cx.q σ m w) d cs.toList
 nobox:∀s b,m.blk s=some b->σ.box s≠none
 own:∀s o,σ.own s=.is o->∃h,m.hd s=some h/\OwnRep w (cx.q σ m w) h o
 noown:∀s h,m.hd s=some h->σ.own s≠.no
 dom:∀p b,xz σ m p b->b<w.heap.size/\(cx.new b\/(cx.Iq b/\∃s,p=.inl s/\s<cx.na))
 inj:∀p p' b,xz σ m p b->xz σ m p' b->p=p'
 mem:∀b,b<cx.w0.heap.size->¬cx.Iq b->¬Mv cx.g0 b->w.heap[b]?=cx.w0.heap[b]?
 grown:cx.w0.heap.size<=w.heap.size
 oldX:∀b,cx.X b\/cx.Iq b->b<cx.w0.heap.size
 argna:∀s b,cx.g0.blk s=some b->s<cx.na
 arg:∀s b b0,m.blk s=some b->cx.g0.blk s=some b0->b=b0
 argp:∀p h,cx.g0.hd p=some h->uF p=true
 argh:∀p h h0,m.hd p=some h->cx.g0.hd p=some h0->h=h0
 me:m.me=cx.g0.me\/(cx.g0.me=none/\∃s,cx.me=some s/\cx.na<=s)
 melt:∀s,cx.me=some s->cx.na<=s->m.blk s=none->m.me=none
 mebox:∀s b,cx.me=some s->m.blk s=some b->m.me=some b
 iosz:∀(b:Nat) (cs:Array Value) (T:TypeId),cx.Iq b\/Mv cx.g0 b->cx.w0.heap[b]?=some (Obj.cells cs T (0,0))->∃cs':Array Value,w.heap[b]?=some (Obj.cells cs' T (0,0))/\cs'.size=cs.size
 os:w.os=cx.w0.os
 tape:w.tape=cx.w0.tape
 output:w.output=cx.w0.output
theorem Rel.newGe {cx:Cx} {m:Gh} {σ:St} {a:Act} {w:World} (h:Rel cx m σ a w) {b:Nat} (hb:cx.w0.heap.size<=b):cx.new b :=
 ⟨fun hx=>by have:=h.oldX b (.inl hx); omega,fun hx=>by have:=h.oldX b (.inr hx); omega,.inl hb⟩
theorem Rel.newOf {cx:Cx} {m:Gh} {σ:St} {a:Act} {w:World} (h:Rel cx m σ a w) {s b:Nat} (ho:xz σ m (.inr s) b):cx.new b:=by
 rcases (h.dom _ b ho).2 with h' | ⟨_,_,h',_⟩
 ·exact h'
 ·simp at h'
theorem Rel.lt {cx:Cx} {m:Gh} {σ:St} {a:Act} {w:World} (_:Rel cx m σ a w) {b:Nat} {x:Obj} (h:w.heap[b]?=some x):b<w.heap.size:=by
 rcases Nat.lt_or_ge b w.heap.size with h' | h'
 ·exact h'
 ·rw[Array.getElem?_eq_none h'] at h; simp at h
theorem Rel.cells_of {cx:Cx} {m:Gh} {σ:St} {a:Act} {w:World} (h:Rel cx m σ a w) {p:Nat ⊕ Nat} {b:Nat} (hp:xz σ m p b):∃cs T,w.heap[b]?=some (.cells cs T (0,0)):=by
 cases p with
 | inl s =>
  cases hd:σ.box s with
  | none=>exact absurd hd (h.nobox s b hp)
  | some d =>
   obtain ⟨b',cs,T,e1,e2,_⟩:=h.box s d hd;have:m.blk s=some b:=hp;rw[this] at e1;cases e1
   exact ⟨cs,T,e2⟩
 | inr s =>
  obtain ⟨o,hd,off,e1,e2,e3,e4⟩:=hp;obtain ⟨hd',e5,_,_,_,l4⟩:=h.own s o e1;rw[e2] at e5;cases e5
  obtain ⟨b',off',cs,T,e6,e7,_⟩:=l4 e4;rw[e3] at e6;cases e6
  exact ⟨cs,T,e7⟩
theorem vi {w w':World} {b:Nat} (h:w'.heap[b]?=w.heap[b]?) (off:Nat):w'.cell? ⟨b,off,none⟩=w.cell? ⟨b,off,none⟩:=by
 simp[World.cell?,h]
theorem Cx.qle {cx:Cx} {σ σ':St} {m m':Gh} {w w':World} (hsz:w.heap.size<=w'.heap.size)
  (how:∀b,b<w.heap.size->qz σ' m' b->qz σ m b)
  (hblk:∀b,b<w.heap.size->¬qz σ m b->¬cx.Iq b->w'.heap[b]?=w.heap[b]?) (hme:∀b,m.me=some b->m'.me=some b:=by exact fun _ h=>h):QLe w w' (cx.q σ m w) (cx.q σ' m' w') where
 ok b hb:=⟨⟨by have:=hb.1; omega,fun h=>hb.2.1 (how b hb.1 h),hb.2.2⟩,fun off v h=>by rw[vi (hblk b hb.1 hb.2.1 hb.2.2.2)]; exact h⟩
 okb b hb:=⟨⟨by have:=hb.1; omega,fun h=>hb.2.1 (how b hb.1 h),hb.2.2⟩,fun off v h=>by rw[vi (hblk b hb.1 hb.2.1 hb.2.2)]; exact h⟩
 me:=hme
theorem yp {α:Type} (f:Nat->α) (s:Nat) (e:α):upd f s e s=e:=by simp[upd]
theorem yN {α:Type} (f:Nat->α) {s x:Nat} (e:α) (h:x≠s):upd f s e x=f x:=by
 have:Nat.beq x s=false:=by cases e:Nat.beq x s with
  | false=>rfl
  | true=>exact absurd (Nat.eq_of_beq_eq_true e) h
 simp[upd,this]
theorem Rel.put {cx:Cx} {m:Gh} {σ:St} {a:Act} {w:World} (h:Rel cx m σ a w) {s:Nat} {e:Ent} {v:Value} (hs:s<cx.N)
  (he:RE w (cx.q σ m w) e v):Rel cx m {σ with env:=upd σ.env s e} (a.put (some s) v) w where
 size:=by simpa [Act.put] using h.size
 defers:=h.defers
 env t:=by
  by_cases ht:t=s
  ·subst ht
   have:t<a.tmps.size:=Nat.lt_of_lt_of_le hs h.size;show RE w (cx.q σ m w) (upd σ.env t e t) _;rw[yp];simpa [Act.put,this] using he
  ·show RE w (cx.q σ m w) (upd σ.env s e t) _
   rw[yN _ _ ht];have:(a.put (some s) v).tmps.getD t Go.undef=a.tmps.getD t Go.undef:=by
    simp[Act.put,Array.getElem?_setIfInBounds_ne (Ne.symm ht)]
   rw[this]; exact h.env t
 box:=h.box
 nobox:=h.nobox
 own:=h.own
 noown:=h.noown
 dom:=h.dom
 inj:=h.inj
 mem:=h.mem
 grown:=h.grown
 oldX:=h.oldX
 argna:=h.argna
 arg:=h.arg
 argp:=h.argp
 argh:=h.argh
 iosz:=h.iosz
 os:=h.os
 tape:=h.tape
 output:=h.output
 me:=h.me
 melt:=h.melt
 mebox:=h.mebox
section
variable {cx:Cx} {m:Gh} {σ:St} {a:Act} {w w':World}
theorem uk {h h':Array Obj} {o:Obj} (e:h'=h.push o) {b:Nat} (hb:b<h.size):h'[b]?=h[b]?:=by
 subst e; simp[Array.getElem?_push,Nat.ne_of_lt hb]
theorem qM {h h':Array Obj} {o:Obj} (e:h'=h.push o):h'[h.size]?=some o:=by subst e; simp
theorem Le.mk_push {q q':Q} {cs:Array Value} {T:TypeId} (hh:w'.heap=w.heap.push (.cells cs T (0,0))) (hq:QLe w w' q q')
  (hhd:∀s h,q.m.hd s=some h->q'.m.hd s=some h) (hb:∀s b,q.m.blk s=some b->q'.m.blk s=some b):Le w w' q q' where
 toQLe:=hq
 hd:=hhd
 blk:=hb
 sz b cs' T' h:=⟨cs',by
  have hb:b<w.heap.size:=by
   rcases Nat.lt_or_ge b w.heap.size with h' | h'
   ·exact h'
   ·rw[Array.getElem?_eq_none h'] at h; simp at h
  rw[uk hh hb]; exact h,rfl⟩
 mp b es c h:=by
  have hb:b<w.heap.size:=by
   rcases Nat.lt_or_ge b w.heap.size with h' | h'
   ·exact h'
   ·rw[Array.getElem?_eq_none h'] at h; simp at h
  rw[uk hh hb]; exact h
def uT (cx:Cx) (m:Gh) (s b:Nat):Option Nat:=if cx.me=some s then some b else m.me
theorem Rel.newBox (h:Rel cx m σ a w) {s:Nat} {d:DV} {cs:Array Value} {T:TypeId} (hs:σ.box s=none) (hna:cx.na<=s)
  (hh:w'.heap=w.heap.push (.cells cs T (0,0))) (h1:w'.os=w.os) (h2:w'.tape=w.tape) (h3:w'.output=w.output)
  (hd:RB w (cx.q σ m w) d cs.toList) :
  Rel cx {m with blk:=upd m.blk s (some w.heap.size),me:=uT cx m s w.heap.size} {σ with box:=upd σ.box s (some d)} a w' /\
   Le w w' (cx.q σ m w) (cx.q {σ with box:=upd σ.box s (some d)} {m with blk:=upd m.blk s (some w.heap.size),me:=uT cx m s w.heap.size} w'):=by
 have hm:m.blk s=none:=by
  cases e:m.blk s with
  | none=>rfl
  | some b=>exact absurd hs (h.nobox s b e)
 have hme:∀b,m.me=some b->uT cx m s w.heap.size=some b:=by
  intro b hb;unfold uT;split
  ·rename_i e
   rw[h.melt s e hna hm] at hb; cases hb
  ·exact hb
 have hsz:w'.heap.size=w.heap.size+1:=by rw[hh]; simp
 have how:∀p b,xz {σ with box:=upd σ.box s (some d)} {m with blk:=upd m.blk s (some w.heap.size),me:=uT cx m s w.heap.size} p b->xz σ m p b\/(p=.inl s/\b=w.heap.size):=by
  intro p b hp;cases p with
  | inl r =>
   by_cases hr:r=s
   ·subst hr; simp only[xz,yp] at hp; right; exact ⟨rfl,by simpa using hp.symm⟩
   ·simp only[xz,yN _ _ hr] at hp; exact .inl hp
  | inr r=>exact .inl hp
 have hq:QLe w w' (cx.q σ m w) (cx.q {σ with box:=upd σ.box s (some d)} {m with blk:=upd m.blk s (some w.heap.size),me:=uT cx m s w.heap.size} w') :=
  Cx.qle (by omega) (fun b hb ⟨p,hp⟩=>by
   rcases how p b hp with h' | ⟨_,h'⟩
   ·exact ⟨p,h'⟩
   ·omega) (fun b hb _ _=>uk hh hb) hme
 have hle:Le w w' (cx.q σ m w) (cx.q {σ with box:=upd σ.box s (some d)} {m with blk:=upd m.blk s (some w.heap.size),me:=uT cx m s w.heap.size} w') :=
  Le.mk_push hh hq (fun _ _ h=>h) (fun r b hr=>by
   by_cases e:r=s
   ·subst e; rw[show (cx.q σ m w).m.blk r=none from hm] at hr; simp at hr
   ·show upd m.blk s _ r=some b; rw[yN _ _ e]; exact hr)
 refine ⟨?_,hle⟩;exact {
  size:=h.size
  defers:=h.defers
  env:=fun t=>RE.mono hle (h.env t)
  box:=fun r d' hr=>by
   by_cases e:r=s
   ·subst e
    simp only[yp,Option.some.injEq] at hr;subst hr;exact ⟨w.heap.size,cs,T,by simp[yp],qM hh,RB.mono hle.toQLeH hd⟩
   ·simp only[yN _ _ e] at hr
    obtain ⟨b,cs',T',e1,e2,e3⟩:=h.box r d' hr;exact ⟨b,cs',T',by simpa [yN _ _ e] using e1,by rw[uk hh (h.lt e2)]; exact e2,RB.mono hle.toQLeH e3⟩
  nobox:=fun r b hr=>by
   by_cases e:r=s
   ·subst e; simp[yp]
   ·simp only[yN _ _ e] at hr ⊢; exact h.nobox r b hr
  own:=fun r o hr=>by
   obtain ⟨hh',e,l1,l2,l3,l4⟩:=h.own r o hr;refine ⟨hh',e,l1,l2,l3,fun hc=>?_⟩;obtain ⟨b,off,cs',T',e1,e2,e3,e4⟩:=l4 hc;have hb:=h.lt e2;refine ⟨b,off,cs',T',e1,by rw[uk hh hb]; exact e2,e3,fun i hi=>?_⟩;obtain ⟨us,u1,u2,u3⟩:=e4 i hi;exact ⟨us,u1,xf (fun off v hv=>by rw[vi (uk hh hb)]; exact hv) u2,RT.mono hq.ok hq.okb hq.me _ _ _ u3⟩
  noown:=h.noown
  dom:=fun p b hp=>by
   rcases how p b hp with h' | ⟨hp',hb⟩
   ·have:=h.dom p b h'; exact ⟨by omega,this.2⟩
   ·subst hb; exact ⟨by omega,.inl (h.newGe h.grown)⟩
  inj:=fun p p' b hp hp'=>by
   rcases how p b hp with h1 | ⟨e1,e2⟩<;>rcases how p' b hp' with h2 | ⟨e3,e4⟩
   ·exact h.inj p p' b h1 h2
   ·have:=(h.dom p b h1).1; omega
   ·have:=(h.dom p' b h2).1; omega
   ·rw[e1,e3]
  mem:=fun b hb hi hm=>by rw[uk hh (Nat.lt_of_lt_of_le hb h.grown)]; exact h.mem b hb hi hm
  grown:=by have:=h.grown; omega
  oldX:=h.oldX
  argna:=h.argna
  arg:=fun r b b0 hr h0=>by
   by_cases e:r=s
   ·subst e; have:=h.argna r b0 h0; omega
   ·simp only[yN _ _ e] at hr; exact h.arg r b b0 hr h0
  argp:=h.argp
  argh:=h.argh
  iosz:=fun b cs T hi h0=>let ⟨cs1,h1,s1⟩:=h.iosz b cs T hi h0; let ⟨cs2,h2,s2⟩:=hle.sz b cs1 T h1; ⟨cs2,h2,s2.trans s1⟩
  os:=h1.trans h.os
  tape:=h2.trans h.tape
  output:=h3.trans h.output
  me:=by
   show uT cx m s w.heap.size=_\/_;unfold uT;split
   ·rename_i e
    right;refine ⟨?_,s,e,hna⟩;rcases h.me with h' | h'
    ·rw[<-h']; exact h.melt s e hna hm
    ·exact h'.1
   ·exact h.me
  melt:=fun r hr hl hb=>by
   have e:r≠s:=fun e=>by subst e; simp[yp] at hb
   show uT cx m s w.heap.size=none;rw[uT,if_neg (fun h'=>e (by rw[hr] at h'; simpa using h'))];exact h.melt r hr hl (by simpa [yN _ _ e] using hb)
  mebox:=fun r b hr hb=>by
   show uT cx m s w.heap.size=some b;by_cases e:r=s
   ·subst e
    rw[uT,if_pos hr];simpa [yp] using hb
   ·rw[uT,if_neg (fun h'=>e (by rw[hr] at h'; simpa using h'))]
    exact h.mebox r b hr (by simpa [yN _ _ e] using hb)}
end
end Go.VS
namespace Go.VS
open Go IntKind
section
variable {cx:Cx} {m:Gh} {σ:St} {a:Act} {w w':World}
theorem OwnRep.mono {q q':Q} {h:Hd} {o:xK} (hq:QLe w w' q q') (hb:∀b off,h.a=some ⟨b,off,none⟩->0<h.cap->w'.heap[b]?=w.heap[b]?) (r:OwnRep w q h o) :
  OwnRep w' q' h o:=by
 obtain ⟨l1,l2,l3,l4⟩:=r;refine ⟨l1,l2,l3,fun hc=>?_⟩;obtain ⟨b,off,cs,T,e1,e2,e3,e4⟩:=l4 hc;have hbb:=hb b off e1 hc;refine ⟨b,off,cs,T,e1,by rw[hbb]; exact e2,e3,fun i hi=>?_⟩;obtain ⟨us,u1,u2,u3⟩:=e4 i hi;exact ⟨us,u1,xf (fun off v hv=>by rw[vi hbb]; exact hv) u2,RT.mono hq.ok hq.okb hq.me _ _ _ u3⟩
theorem Rel.newOwn (h:Rel cx m σ a w) {s:Nat} {o:xK} {hd:Hd} (hs:σ.own s=.no) (hp:uF s=false)
  (hsz:w.heap.size<=w'.heap.size) (hold:∀b,b<w.heap.size->w'.heap[b]?=w.heap[b]?)
  (h1:w'.os=w.os) (h2:w'.tape=w.tape) (h3:w'.output=w.output)
  (hnew:∀b off,hd.a=some ⟨b,off,none⟩->0<hd.cap->w.heap.size<=b/\b<w'.heap.size)
  (hrep:QLe w w' (cx.q σ m w) (cx.q {σ with own:=upd σ.own s (.is o)} {m with hd:=upd m.hd s (some hd)} w')->
   OwnRep w' (cx.q {σ with own:=upd σ.own s (.is o)} {m with hd:=upd m.hd s (some hd)} w') hd o) :
  Rel cx {m with hd:=upd m.hd s (some hd)} {σ with own:=upd σ.own s (.is o)} a w' /\
   Le w w' (cx.q σ m w) (cx.q {σ with own:=upd σ.own s (.is o)} {m with hd:=upd m.hd s (some hd)} w'):=by
 have hm:m.hd s=none:=by
  cases e:m.hd s with
  | none=>rfl
  | some b=>exact absurd hs (h.noown s b e)
 have how:∀p b,xz {σ with own:=upd σ.own s (.is o)} {m with hd:=upd m.hd s (some hd)} p b->xz σ m p b\/(p=.inr s/\w.heap.size<=b/\b<w'.heap.size):=by
  intro p b hp;cases p with
  | inl r=>exact .inl hp
  | inr r =>
   by_cases hr:r=s
   ·subst hr
    obtain ⟨o',h',off,e1,e2,e3,e4⟩:=hp;simp only[yp,Option.some.injEq] at e2;subst e2;exact .inr ⟨rfl,hnew b off e3 e4⟩
   ·obtain ⟨o',h',off,e1,e2,e3,e4⟩:=hp
    simp only[yN _ _ hr] at e1 e2;exact .inl ⟨o',h',off,e1,e2,e3,e4⟩
 have hq:QLe w w' (cx.q σ m w) (cx.q {σ with own:=upd σ.own s (.is o)} {m with hd:=upd m.hd s (some hd)} w') :=
  Cx.qle hsz (fun b hb ⟨p,hp⟩=>by
   rcases how p b hp with h' | ⟨_,h',_⟩
   ·exact ⟨p,h'⟩
   ·omega) (fun b hb _ _=>hold b hb)
 have hle:Le w w' (cx.q σ m w) (cx.q {σ with own:=upd σ.own s (.is o)} {m with hd:=upd m.hd s (some hd)} w'):={
  toQLe:=hq
  hd:=fun r h' hr=>by
   by_cases e:r=s
   ·subst e; rw[show (cx.q σ m w).m.hd r=none from hm] at hr; simp at hr
   ·show upd m.hd s _ r=some h'; rw[yN _ _ e]; exact hr
  blk:=fun _ _ h=>h
  sz:=fun b cs T hb=>⟨cs,by rw[hold b (h.lt hb)]; exact hb,rfl⟩
  mp:=fun b es c hb=>by rw[hold b (h.lt hb)]; exact hb}
 refine ⟨?_,hle⟩;exact {
  size:=h.size
  defers:=h.defers
  env:=fun t=>RE.mono hle (h.env t)
  box:=fun r d hr=>by
   obtain ⟨b,cs',T',e1,e2,e3⟩:=h.box r d hr;exact ⟨b,cs',T',e1,by rw[hold b (h.lt e2)]; exact e2,RB.mono hle.toQLeH e3⟩
  nobox:=h.nobox
  own:=fun r o' hr=>by
   by_cases e:r=s
   ·subst e
    simp only[yp,qw.is.injEq] at hr;subst hr;exact ⟨hd,by simp[yp],hrep hq⟩
   ·simp only[yN _ _ e] at hr
    obtain ⟨hh',e',l⟩:=h.own r o' hr;refine ⟨hh',by simpa [yN _ _ e] using e',l.mono hq fun b off e1 hc=>?_⟩;obtain ⟨b2,off2,cs,T,e3,e4,_⟩:=l.2.2.2 hc;rw[e1] at e3;simp at e3;obtain ⟨rfl,rfl⟩:=e3;exact hold b (h.lt e4)
  noown:=fun r h' hr=>by
   by_cases e:r=s
   ·subst e; simp[yp]
   ·simp only[yN _ _ e] at hr ⊢; exact h.noown r h' hr
  dom:=fun p b hp=>by
   rcases how p b hp with h' | ⟨hp',hb⟩
   ·have:=h.dom p b h'; exact ⟨by omega,this.2⟩
   ·have:=h.grown; exact ⟨by omega,.inl (h.newGe (by omega))⟩
  inj:=fun p p' b hp hp'=>by
   rcases how p b hp with h1 | ⟨e1,e2⟩<;>rcases how p' b hp' with h2 | ⟨e3,e4⟩
   ·exact h.inj p p' b h1 h2
   ·have:=(h.dom p b h1).1; omega
   ·have:=(h.dom p' b h2).1; omega
   ·rw[e1,e3]
  mem:=fun b hb hi hm=>by rw[hold b (Nat.lt_of_lt_of_le hb h.grown)]; exact h.mem b hb hi hm
  grown:=by have:=h.grown; omega
  oldX:=h.oldX
  argna:=h.argna
  arg:=h.arg
  argp:=h.argp
  argh:=fun p h1 h0 h2 h3=>by
   by_cases e:p=s
   ·subst e; have:=h.argp p h0 h3; rw[hp] at this; cases this
   ·simp only[yN _ _ e] at h2; exact h.argh p h1 h0 h2 h3
  iosz:=fun b cs T hi h0=>let ⟨cs1,h1,s1⟩:=h.iosz b cs T hi h0; let ⟨cs2,h2,s2⟩:=hle.sz b cs1 T h1; ⟨cs2,h2,s2.trans s1⟩
  os:=h1.trans h.os
  tape:=h2.trans h.tape
  output:=h3.trans h.output
  me:=h.me
  melt:=h.melt
  mebox:=h.mebox}
theorem Rel.leSet (h:Rel cx m σ a w) {p:Nat ⊕ Nat} {b:Nat} (hp:xz σ m p b) {σ':St} {m':Gh}
  (how:∀k,qz σ' m' k->qz σ m k)
  (hhd:∀s h,m.hd s=some h->m'.hd s=some h) (hblk:∀s k,m.blk s=some k->m'.blk s=some k)
  (hoth:∀k,k≠b->w'.heap[k]?=w.heap[k]?) (hsz:w'.heap.size=w.heap.size)
  (hcs:∀cs T,w.heap[b]?=some (Obj.cells cs T (0,0))->∃cs':Array Value,w'.heap[b]?=some (Obj.cells cs' T (0,0))/\cs'.size=cs.size) (hme:∀b,m.me=some b->m'.me=some b:=by exact fun _ h=>h) :
  Le w w' (cx.q σ m w) (cx.q σ' m' w') where
 toQLe:=Cx.qle (by omega) (fun k _ hk=>how k hk) (fun k _ hk _=>hoth k (fun e=>hk ⟨p,e ▸ hp⟩)) hme
 hd:=hhd
 blk:=hblk
 sz k cs T hk:=by
  by_cases e:k=b
  ·subst e; exact hcs cs T hk
  ·exact ⟨cs,by rw[hoth k e]; exact hk,rfl⟩
 mp k es c hk:=by
  by_cases e:k=b
  ·subst e
   obtain ⟨cs,T,e1⟩:=h.cells_of hp;rw[hk] at e1; cases e1
  ·rw[hoth k e]; exact hk
theorem Va (h:Rel cx m σ a w) {p:Nat ⊕ Nat} {b:Nat} (hp:xz σ m p b) {r:Nat} (hr:p≠.inr r) {o:xK} (ho:σ.own r=.is o) {hd:Hd} (hh:m.hd r=some hd)
  (hoth:∀k,k≠b->w'.heap[k]?=w.heap[k]?) {q':Q} (hq:QLe w w' (cx.q σ m w) q') (l:OwnRep w (cx.q σ m w) hd o):OwnRep w' q' hd o:=by
 refine l.mono hq fun k off e1 hc=>hoth k fun e=>hr ?_
 exact h.inj _ _ b hp (e ▸ ⟨o,hd,off,ho,hh,e1,hc⟩)
theorem Rel.setBox (h:Rel cx m σ a w) {s b:Nat} {d:DV} {T:TypeId} {cs cs':Array Value} (hb:m.blk s=some b) (hc:w.heap[b]?=some (Obj.cells cs T (0,0)))
  (hsz:cs'.size=cs.size) (hd:RB w (cx.q σ m w) d cs'.toList) :
  Rel cx m {σ with box:=upd σ.box s (some d)} a (w.setRow b cs')/\Le w (w.setRow b cs') (cx.q σ m w) (cx.q {σ with box:=upd σ.box s (some d)} m (w.setRow b cs')):=by
 have hoth:∀k,k≠b->(w.setRow b cs').heap[k]?=w.heap[k]?:=fun k hk=>setRow_other w b k cs' hk
 have hnew:=setRow_heap w b cs cs' T (0,0) hc;have how:∀p k,xz {σ with box:=upd σ.box s (some d)} m p k->xz σ m p k:=fun p k hp=>by cases p<;>exact hp
 have hle:Le w (w.setRow b cs') (cx.q σ m w) (cx.q {σ with box:=upd σ.box s (some d)} m (w.setRow b cs')) :=
  h.leSet (p:=.inl s) hb (fun k ⟨p,hp⟩=>⟨p,how p k hp⟩) (fun _ _ h=>h) (fun _ _ h=>h) hoth (by simp) (fun cs2 T2 h2=>by
   rw[hc] at h2; simp at h2; obtain ⟨rfl,rfl⟩:=h2; exact ⟨cs',hnew,hsz⟩)
 refine ⟨?_,hle⟩;exact {
  size:=h.size
  defers:=h.defers
  env:=fun t=>RE.mono hle (h.env t)
  box:=fun r d' hr=>by
   by_cases e:r=s
   ·subst e
    simp only[yp,Option.some.injEq] at hr;subst hr;exact ⟨b,cs',T,hb,hnew,RB.mono hle.toQLeH hd⟩
   ·simp only[yN _ _ e] at hr
    obtain ⟨b2,cs2,T2,e1,e2,e3⟩:=h.box r d' hr;refine ⟨b2,cs2,T2,e1,?_,RB.mono hle.toQLeH e3⟩;rw[hoth b2 fun eb=>e (by have:=h.inj (.inl r) (.inl s) b (eb ▸ e1) hb; simpa using this)];exact e2
  nobox:=fun r k hr=>by
   by_cases e:r=s
   ·subst e; simp[yp]
   ·simp only[yN _ _ e]; exact h.nobox r k hr
  own:=fun r o hr=>by
   obtain ⟨hh',e',l⟩:=h.own r o hr;exact ⟨hh',e',Va h (p:=.inl s) hb (by simp) hr e' hoth hle.toQLe l⟩
  noown:=h.noown
  dom:=fun p k hp=>by have:=h.dom p k (how p k hp); simpa using this
  inj:=fun p p' k hp hp'=>h.inj p p' k (how p k hp) (how p' k hp')
  mem:=fun k hk hi hm=>by
   rw[hoth k fun e=>?_]
   ·exact h.mem k hk hi hm
   ·subst e
    rcases (h.dom (.inl s) k hb).2 with h' | h'
    ·rcases h'.2.2 with h' | h'
     ·omega
     ·exact hm h'
    ·exact hi h'.1
  grown:=by simpa using h.grown
  oldX:=h.oldX
  argna:=h.argna
  arg:=h.arg
  argp:=h.argp
  argh:=h.argh
  iosz:=fun b cs T hi h0=>let ⟨cs1,h1,s1⟩:=h.iosz b cs T hi h0; let ⟨cs2,h2,s2⟩:=hle.sz b cs1 T h1; ⟨cs2,h2,s2.trans s1⟩
  os:=h.os
  tape:=h.tape
  output:=h.output
  me:=h.me
  melt:=h.melt
  mebox:=h.mebox}
theorem Rel.setOwn (h:Rel cx m σ a w) {r s:Nat} {o o':xK} {hd hd':Hd} {b off:Nat} {T:TypeId} {cs cs':Array Value} (ho:σ.own r=.is o) (hh:m.hd r=some hd)
  (ha:hd.a=some ⟨b,off,none⟩) (hcap:0<hd.cap) (hc:w.heap[b]?=some (Obj.cells cs T (0,0))) (hsz:cs'.size=cs.size)
  (hs:s=r/\hd'=hd\/(σ.own s=.no/\uF s=false)) (ha':∃off',hd'.a=some ⟨b,off',none⟩) {own':Nat->qw} {hds:Nat->Option Hd}
  (hown:∀x,own' x=if x=s then .is o' else if x=r then .dead else σ.own x)
  (hhds:∀x,hds x=if x=s then some hd' else m.hd x)
  (hrep:QLe w (w.setRow b cs') (cx.q σ m w) (cx.q {σ with own:=own'} {m with hd:=hds} (w.setRow b cs'))->
   OwnRep (w.setRow b cs') (cx.q {σ with own:=own'} {m with hd:=hds} (w.setRow b cs')) hd' o') :
  Rel cx {m with hd:=hds} {σ with own:=own'} a (w.setRow b cs') /\
   Le w (w.setRow b cs') (cx.q σ m w) (cx.q {σ with own:=own'} {m with hd:=hds} (w.setRow b cs')):=by
 have hoth:∀k,k≠b->(w.setRow b cs').heap[k]?=w.heap[k]?:=fun k hk=>setRow_other w b k cs' hk
 have hnew:=setRow_heap w b cs cs' T (0,0) hc;have hob:xz σ m (.inr r) b:=⟨o,hd,off,ho,hh,ha,hcap⟩;have how:∀p k,xz {σ with own:=own'} {m with hd:=hds} p k->xz σ m p k\/(p=.inr s/\k=b):=by
  intro p k hp;cases p with
  | inl x=>exact .inl hp
  | inr x =>
   obtain ⟨o2,h2,off2,e1,e2,e3,e4⟩:=hp;simp only[hown,hhds] at e1 e2;by_cases hx:x=s
   ·subst hx
    simp only[if_true,Option.some.injEq] at e2;subst e2;obtain ⟨off',e5⟩:=ha';rw[e5] at e3;simp at e3;exact .inr ⟨rfl,e3.1.symm⟩
   ·simp only[hx,if_false] at e1 e2
    by_cases hxr:x=r
    ·simp[hxr] at e1
    ·simp only[hxr,if_false] at e1
     exact .inl ⟨o2,h2,off2,e1,e2,e3,e4⟩
 have hsm:s=r\/m.hd s=none:=by
  rcases hs with ⟨h1,_⟩ | ⟨h1,_⟩
  ·exact .inl h1
  ·right
   cases e:m.hd s with
   | none=>rfl
   | some x=>exact absurd h1 (h.noown s x e)
 have hle:Le w (w.setRow b cs') (cx.q σ m w) (cx.q {σ with own:=own'} {m with hd:=hds} (w.setRow b cs')) :=
  h.leSet (p:=.inr r) hob (fun k ⟨p,hp⟩=>by
   rcases how p k hp with h' | ⟨_,h'⟩
   ·exact ⟨p,h'⟩
   ·exact ⟨.inr r,h' ▸ hob⟩)
   (fun x h2 hx=>by
    simp only[hhds];by_cases e:x=s
    ·subst e
     rcases hs with ⟨e1,e2⟩ | ⟨h1,_⟩
     ·subst e1; subst e2; rw[hh] at hx; simp[hx]
     ·exact absurd h1 (h.noown x h2 hx)
    ·simp[e,hx])
   (fun _ _ h=>h) hoth (by simp) (fun cs2 T2 h2=>by
    rw[hc] at h2; simp at h2; obtain ⟨rfl,rfl⟩:=h2; exact ⟨cs',hnew,hsz⟩)
 refine ⟨?_,hle⟩;exact {
  size:=h.size
  defers:=h.defers
  env:=fun t=>RE.mono hle (h.env t)
  box:=fun x d' hr=>by
   obtain ⟨b2,cs2,T2,e1,e2,e3⟩:=h.box x d' hr;refine ⟨b2,cs2,T2,e1,?_,RB.mono hle.toQLeH e3⟩;rw[hoth b2 fun eb=>by have:=h.inj (.inl x) (.inr r) b (eb ▸ e1) hob; simp at this];exact e2
  nobox:=h.nobox
  own:=fun x o2 hx=>by
   simp only[hown] at hx;simp only[hhds];by_cases e:x=s
   ·subst e
    simp only[if_true,qw.is.injEq] at hx;subst hx;exact ⟨hd',by simp,hrep hle.toQLe⟩
   ·simp only[e,if_false] at hx ⊢
    by_cases e2:x=r
    ·simp[e2] at hx
    ·simp only[e2,if_false] at hx
     obtain ⟨hh',e',l⟩:=h.own x o2 hx;exact ⟨hh',e',Va h (p:=.inr r) hob (by simpa using Ne.symm e2) hx e' hoth hle.toQLe l⟩
  noown:=fun x h2 hx=>by
   simp only[hhds] at hx;simp only[hown];by_cases e:x=s
   ·simp[e]
   ·simp only[e,if_false] at hx ⊢
    by_cases e2:x=r
    ·simp[e2]
    ·simpa [e2] using h.noown x h2 hx
  dom:=fun p k hp=>by
   rcases how p k hp with h' | ⟨h1,h2⟩
   ·have:=h.dom p k h'; simpa using this
   ·subst h2
    have:=h.dom _ _ hob;exact ⟨by simpa using this.1,.inl (h.newOf hob)⟩
  inj:=fun p p' k hp hp'=>by
   rcases how p k hp with h1 | ⟨e1,e2⟩<;>rcases how p' k hp' with h2 | ⟨e3,e4⟩
   ·exact h.inj p p' k h1 h2
   ·subst e4
    have:=h.inj _ _ _ h1 hob;subst this;rw[e3];obtain ⟨o2,h2,off2,e5,_⟩:=hp;simp only[hown] at e5;by_cases e:r=s
    ·rw[e]
    ·simp[e] at e5
   ·subst e2
    have:=h.inj _ _ _ h2 hob;subst this;rw[e1];obtain ⟨o2,h2,off2,e5,_⟩:=hp';simp only[hown] at e5;by_cases e:r=s
    ·rw[e]
    ·simp[e] at e5
   ·rw[e1,e3]
  mem:=fun k hk hi hm=>by
   rw[hoth k fun e=>?_]
   ·exact h.mem k hk hi hm
   ·subst e
    rcases (h.dom _ _ hob).2 with h' | ⟨_,_,h'⟩
    ·rcases h'.2.2 with h' | h'
     ·omega
     ·exact hm h'
    ·simp at h'
  grown:=by simpa using h.grown
  oldX:=h.oldX
  argna:=h.argna
  arg:=h.arg
  argp:=h.argp
  argh:=fun p h1 h0 h2 h3=>by
   simp only[hhds] at h2;by_cases e:p=s
   ·subst e
    rcases hs with ⟨e1,e2⟩ | ⟨_,hp⟩
    ·subst e1; subst e2; simp at h2; subst h2; exact h.argh _ _ _ hh h3
    ·have:=h.argp p h0 h3; rw[hp] at this; cases this
   ·simp only[e,if_false] at h2; exact h.argh p h1 h0 h2 h3
  iosz:=fun b cs T hi h0=>let ⟨cs1,h1,s1⟩:=h.iosz b cs T hi h0; let ⟨cs2,h2,s2⟩:=hle.sz b cs1 T h1; ⟨cs2,h2,s2.trans s1⟩
  os:=h.os
  tape:=h.tape
  output:=h.output
  me:=h.me
  melt:=h.melt
  mebox:=h.mebox}
theorem Rel.moveOwn (h:Rel cx m σ a w) {r s:Nat} {o o':xK} {hd':Hd} (ho:σ.own r=.is o) (hs:σ.own s=.no) (hp:uF s=false)
  (hsz:w.heap.size<=w'.heap.size) (hold:∀b,b<w.heap.size->w'.heap[b]?=w.heap[b]?)
  (h1:w'.os=w.os) (h2:w'.tape=w.tape) (h3:w'.output=w.output)
  (hnew:∀b off,hd'.a=some ⟨b,off,none⟩->0<hd'.cap->w.heap.size<=b/\b<w'.heap.size)
  (hrep:QLe w w' (cx.q σ m w) (cx.q {σ with own:=upd (upd σ.own r .dead) s (.is o')} {m with hd:=upd m.hd s (some hd')} w')->
   OwnRep w' (cx.q {σ with own:=upd (upd σ.own r .dead) s (.is o')} {m with hd:=upd m.hd s (some hd')} w') hd' o') :
  Rel cx {m with hd:=upd m.hd s (some hd')} {σ with own:=upd (upd σ.own r .dead) s (.is o')} a w' /\
   Le w w' (cx.q σ m w) (cx.q {σ with own:=upd (upd σ.own r .dead) s (.is o')} {m with hd:=upd m.hd s (some hd')} w'):=by
 have hne:s≠r:=fun e=>by subst e; rw[hs] at ho; simp at ho
 have hg:Rel cx m {σ with own:=upd σ.own r .dead} a w/\Le w w (cx.q σ m w) (cx.q {σ with own:=upd σ.own r .dead} m w):=by
  have how:∀p k,xz {σ with own:=upd σ.own r .dead} m p k->xz σ m p k:=by
   intro p k hp;cases p with
   | inl x=>exact hp
   | inr x =>
    obtain ⟨o2,h2,off2,e1,e2,e3,e4⟩:=hp;by_cases hx:x=r
    ·subst hx; simp[yp] at e1
    ·simp only[yN _ _ hx] at e1; exact ⟨o2,h2,off2,e1,e2,e3,e4⟩
  have hq:QLe w w (cx.q σ m w) (cx.q {σ with own:=upd σ.own r .dead} m w):=Cx.qle (Nat.le_refl _) (fun b _ ⟨p,hp⟩=>⟨p,how p b hp⟩) (fun _ _ _ _=>rfl);have hle:Le w w (cx.q σ m w) (cx.q {σ with own:=upd σ.own r .dead} m w):={toQLe:=hq,hd:=fun _ _ h=>h,blk:=fun _ _ h=>h,sz:=fun b cs T hb=>⟨cs,hb,rfl⟩,mp:=fun _ _ _ h=>h};refine ⟨?_,hle⟩;exact {
   size:=h.size
   defers:=h.defers
   env:=fun t=>RE.mono hle (h.env t)
   box:=fun x d hx=>by
    obtain ⟨b,cs,T,e1,e2,e3⟩:=h.box x d hx;exact ⟨b,cs,T,e1,e2,RB.mono hle.toQLeH e3⟩
   nobox:=h.nobox
   own:=fun x o2 hx=>by
    by_cases e:x=r
    ·subst e; simp[yp] at hx
    ·simp only[yN _ _ e] at hx
     obtain ⟨hh',e',l⟩:=h.own x o2 hx;exact ⟨hh',e',l.mono hq fun _ _ _ _=>rfl⟩
   noown:=fun x h2 hx=>by
    by_cases e:x=r
    ·subst e; simp[yp]
    ·simp only[yN _ _ e]; exact h.noown x h2 hx
   dom:=fun p k hp=>h.dom p k (how p k hp)
   inj:=fun p p' k hp hp'=>h.inj p p' k (how p k hp) (how p' k hp')
   mem:=h.mem
   grown:=h.grown
   oldX:=h.oldX
   argna:=h.argna
   arg:=h.arg
   argp:=h.argp
   argh:=h.argh
   iosz:=fun b cs T hi h0=>let ⟨cs1,h1,s1⟩:=h.iosz b cs T hi h0; let ⟨cs2,h2,s2⟩:=hle.sz b cs1 T h1; ⟨cs2,h2,s2.trans s1⟩
   os:=h.os
   tape:=h.tape
   output:=h.output
   me:=h.me
   melt:=h.melt
   mebox:=h.mebox}
 obtain ⟨h',hle'⟩:=hg;have trans:∀{q3:Q},QLe w w' (cx.q {σ with own:=upd σ.own r .dead} m w) q3->QLe w w' (cx.q σ m w) q3:=fun hq3=>{
  ok:=fun b hb=>⟨(hq3.ok b (hle'.ok b hb).1).1,(hq3.ok b (hle'.ok b hb).1).2⟩
  okb:=fun b hb=>⟨(hq3.okb b (hle'.okb b hb).1).1,(hq3.okb b (hle'.okb b hb).1).2⟩
  me:=fun b hb=>hq3.me b (hle'.me b hb)}
 obtain ⟨h2',hle2⟩:=Rel.newOwn (σ:={σ with own:=upd σ.own r .dead}) h' (s:=s) (o:=o') (hd:=hd') (by simp only[yN _ _ hne]; exact hs) hp hsz hold h1 h2 h3 hnew (fun hq=>hrep (trans hq));exact ⟨h2',{toQLe:=trans hle2.toQLe,hd:=hle2.hd,blk:=hle2.blk,sz:=hle2.sz,mp:=hle2.mp}⟩
end
end Go.VS
namespace Go.VS
open Go IntKind
def Zc:TypeDesc->Bool
 | .struct _ | .array _ _=>true
 | _=>false
def vH:List Value->List Value->Option Bool
 | [],[]=>some true
 | .int k a::r,.int k' b::s=>if k=k' then (match vH r s with | some q=>some ((a==b)&&q) | none=>none) else none
 | .bool a::r,.bool b::s=>match vH r s with | some q=>some ((a==b)&&q) | none=>none
 | .string a::r,.string b::s=>match vH r s with | some q=>some ((a==b)&&q) | none=>none
 | _,_=>none
structure vo (P:Program) (t:Nat) (ts:TS):Prop where
 size:ts.zs≠[]->∃i d,P.info? t=some i/\i.size=ts.zs.length/\P.underlying t=some d/\Zc d=ts.agg
 one:ts.agg=false->ts.zs≠[]->∃z,ts.zs=[z]
 sc:∀z,ts.zs=[z]->ts.agg=false->∃i d,P.info? t=some i/\i.zero=some z/\i.size=1/\P.underlying t=some d/\Zc d=false/\scalar z=true
 ag:ts.agg=true->∃i d zc,P.info? t=some i/\i.zero=some (.agg zc)/\zc.toList=ts.zs/\i.size=ts.zs.length/\P.underlying t=some d/\Zc d=true /\
  ∀v∈ts.zs,scalar v=true
 field:∀(j off sz:Nat) (ag:Bool),ts.fields[j]?=some (off,sz,ag)->ts.agg=true/\∃fs f i d,P.underlying t=some (.struct fs)/\fs[j]?=some f/\f.offset=off /\
  P.info? f.type=some i/\i.size=sz/\0<sz/\P.underlying f.type=some d/\Zc d=ag
 struct:ts.agg=true->ts.arr=none->ts.alen=none->∃fs,P.underlying t=some (.struct fs)/\∀(j:Nat) (f:Field),fs[j]?=some f->∃off sz ag,ts.fields[j]?=some (off,sz,ag)
 int:∀k n,ts.zs=[.int k n]->ts.agg=false->P.underlying t=some (.int k)
 bool:∀b,ts.zs=[.bool b]->ts.agg=false->P.underlying t=some .bool
 str:ts.str=true->P.underlying t=some .string
 ptr:ts.ptr=true->∃e,P.underlying t=some (.pointer e)
 el:∀e,ts.el=some e->∃et i z,P.underlying t=some (.slice et)/\P.info? et=some i/\i.zero=some z/\z.cells.size=e.size/\i.size=e.size/\0<e.size/\i.bytes<=128 /\
  ∀w ok okb me,RT w ok okb me e e.dflt z.cells.toList
 arr:∀k n,ts.arr=some (k,n)->ts.agg=true/\ts.zs=List.replicate n (.int k 0)/\∃et i,P.underlying t=some (.array n et)/\P.info? et=some i/\i.size=1 /\
  P.underlying et=some (.int k)
 alen:∀n sz,ts.alen=some (n,sz)->∃et i,P.underlying t=some (.array n et)/\P.info? et=some i/\i.size=sz
 mp:∀k j,ts.mp=some (k,j)->∃kt et i,P.underlying t=some (.map kt et)/\P.underlying kt=some (.int k)/\P.info? et=some i/\i.zero=some (.int j 0)
 u8:ts.u8=true->∃et,P.underlying t=some (.slice et)/\P.underlying et=some (.int .u8)
 eq:ts.eqOK=true->∀(xs ys:Array Value) (b:Bool),xC ts.zs xs.toList=true->xC ts.zs ys.toList=true->vH xs.toList ys.toList=some b->∀(x y:Operand) (w:World),
  ((do eqGuard .eql t x y (.agg xs) (.agg ys); Go.binOp .eql t (.agg xs) (.agg ys)):Sem Value).run P w=.ok (.bool b) w /\
  ((do eqGuard .neq t x y (.agg xs) (.agg ys); Go.binOp .neq t (.agg xs) (.agg ys)):Sem Value).run P w=.ok (.bool (!b)) w
def RunsTo (P:Program) (o:Oper) (a:Act) (w:World) (v:Value) (w':World):Prop :=
 (execOp a.eval o).run P w=.ok (.value v) w'\/((execOp a.eval o).run P w=.ok .skip w'/\v=Go.undef)
def Done (cx:Cx) (σ:St) (a:Act) (w:World) (o:Oper) (e:Eff):Prop :=
 ∃v w' m',RunsTo cx.P o a w v w'/\∀σ1,vL σ o.dst e.mem=some σ1->Rel cx m' σ1 a w'/\RE w' (cx.q σ1 m' w') e.ent v
structure xU (cx:Cx):Prop where
 at_:∀g o,cx.G g=some o->g<cx.w0.heap.size/\¬cx.Iq g/\∀i (h:i<o.l.length),∃us,us.length=o.t.size/\xc cx.w0 g (0+i*o.t.size) us /\
  ∀w ok okb me,RT w ok okb me o.t o.l[i] us
 mv:∀g o,cx.G g=some o->¬Mv cx.g0 g
section
variable {cx:Cx} {Hh:Hn} {m:Gh} {σ:St} {a:Act} {w:World} {o:Oper} {eff:Eff}
theorem sc_ok {v:Value} (h:scalar v=true):v.oneCell'=true:=by cases v<;>simp_all [scalar,Value.oneCell']
theorem wn (hG:xU cx) (h:Rel cx m σ a w) (x:Operand):RE w (cx.q σ m w) (σ.ev cx.G x) (a.eval x):=by
 cases x with
 | tmp t=>exact h.env t
 | const v =>
  simp only[St.ev,Act.eval];cases hs:scalar v with
  | false=>exact trivial
  | true=>exact ⟨rfl,hs⟩
 | func f=>exact rfl
 | global g =>
  simp only[St.ev,Act.eval];cases hg:cx.G g with
  | none=>exact trivial
  | some o =>
   obtain ⟨h1,h2,h3⟩:=hG.at_ g o hg;refine ⟨g,0,rfl,⟨Nat.lt_of_lt_of_le h1 h.grown,fun ⟨p,hp⟩=>?_,h2⟩,fun i hi=>?_⟩
   ·rcases (h.dom p g hp).2 with h' | h'
    ·rcases h'.2.2 with h' | h'
     ·omega
     ·exact hG.mv g o hg h'
    ·exact h2 h'.1
   ·obtain ⟨us,u1,u2,u3⟩:=h3 i hi
    exact ⟨us,u1,xf (fun off v hv=>by rw[vi (h.mem g h1 h2 (hG.mv g o hg))]; exact hv) u2,u3 _ _ _ _⟩
theorem Done.pure {e:Ent} {v:Value} (h:Rel cx m σ a w) (hr:(execOp a.eval o).run cx.P w=.ok (.value v) w) (he:RE w (cx.q σ m w) e v) :
  Done cx σ a w o ⟨e,.none⟩:=⟨v,w,m,.inl hr,fun σ1 h1=>by simp only[vL,Option.some.injEq] at h1; subst h1; exact ⟨h,he⟩⟩
theorem vu {e:Ent} {b:Bool} (h:ent e=some (b,eff)):b=true/\eff=⟨e,.none⟩:=by simp[ent] at h; exact ⟨h.1,h.2.symm⟩
theorem Zq {c:C} {b:Bool} (h:ZD c=some (b,eff)):b=true/\eff=⟨.d (.c c),.none⟩:=vu h
theorem wO {v:Value} {b:Bool} (h:qn v=some (b,eff)):b=true/\eff=⟨.d (.c (.v v)),.none⟩:=vu h
theorem VC (hG:xU cx) (h:Rel cx m σ a w) {x:Operand} (ho:o.op=.move x\/o.op=.assign x) (he:ent (σ.ev cx.G x)=some (true,eff)):Done cx σ a w o eff:=by
 obtain ⟨_,rfl⟩:=vu he;refine Done.pure h (v:=a.eval x) ?_ (wn hG h x);rcases ho with ho | ho<;>simp[execOp,ho]
theorem RE.v_eq {q:Q} {x v:Value} (h:RE w q (.d (.c (.v x))) v):v=x/\scalar x=true:=h
theorem zas {op:BinOp} {k k':IntKind} {x y:Int} {t:TypeId} {v:Value} (hk:op=.shl\/op=.shr\/k=k') (hb:binI op k x y=some (true,v)) :
  (Go.binOp op t (.int k x) (.int k' y)).run cx.P w=.ok v w/\scalar v=true:=by
 cases op<;>simp only[binI,bitsI,cmpI,Option.some.injEq,Prod.mk.injEq,true_and,bne_iff_ne,decide_eq_true_eq] at hb
 all_goals (try (rcases hk with h | h | h<;>try simp at h))
 all_goals (try subst h)
 all_goals (try (first
  | (subst hb; simp[Go.binOp,Op.intArith,Op.intCmp,Op.intBits,scalar]; done)
  | (obtain ⟨h0,rfl⟩:=hb; simp[Go.binOp,Op.intDiv,h0,scalar]; done)
  | (obtain ⟨h0,rfl⟩:=hb; have h1:¬y<0:=(by omega); simp[Go.binOp,Op.shift,h1,scalar]; done)))
 all_goals simp at hb
theorem zar {op:BinOp} {x y:ByteArray} {t:TypeId} {v:Value} (hb:binS op x y=some (true,v)) :
  (Go.binOp op t (.string x) (.string y)).run cx.P w=.ok v w/\scalar v=true:=by
 cases op<;>simp only[binS,Option.some.injEq,Prod.mk.injEq,true_and] at hb
 case add =>
  obtain ⟨h0,rfl⟩:=hb;have h1:=Nat.le_of_ble_eq_true h0;have h2:¬(9223372036854775807:Int)<(x.size:Int)+(y.size:Int):=by simp only[xp] at h1; omega
  simp[Go.binOp,Op.stringOp,IntKind.max,IntKind.bits,IntKind.signed,h2,scalar]
 all_goals (try (subst hb; simp[Go.binOp,Op.stringOp,scalar]; done))
 all_goals simp at hb
theorem yx {x y:Nat} (h:Nat.beq x y=true):x=y:=Nat.eq_of_beq_eq_true h
theorem Wu {q:Q}:∀{l k:List C} {cs ds:List Value} {b:Bool},eqC l k=some b->All2 (RC w q) l cs->All2 (RC w q) k ds->vH cs ds=some b
 | [],[],[],[],_,h,_,_=>by simpa [eqC,vH] using h
 | c::l,d::k,v::cs,u::ds,b,h,h1,h2=>by
  unfold eqC at h;split at h
  ·rename_i e _; cases e
  ·rename_i e1 e2; cases e1; cases e2
   obtain ⟨⟨rfl,_⟩,h1⟩:=h1;obtain ⟨⟨rfl,_⟩,h2⟩:=h2;split at h
   ·split at h<;>simp at h
    rename_i hk _ q hq;subst h;simp[vH,hk,Wu hq h1 h2]
   ·simp at h
  ·rename_i e1 e2; cases e1; cases e2
   obtain ⟨⟨rfl,_⟩,h1⟩:=h1;obtain ⟨⟨rfl,_⟩,h2⟩:=h2;split at h<;>simp at h;rename_i q hq;subst h;simp[vH,Wu hq h1 h2]
  ·rename_i e1 e2; cases e1; cases e2
   obtain ⟨⟨rfl,_⟩,h1⟩:=h1;obtain ⟨⟨rfl,_⟩,h2⟩:=h2;split at h<;>simp at h;rename_i q hq;subst h;simp[vH,Wu hq h1 h2]
  ·simp at h
 | [],[],_::_,_,_,_,h1,_=>h1.elim
 | [],[],[],_::_,_,_,_,h2=>h2.elim
 | [],_::_,_,_,_,h,_,_=>by simp[eqC] at h
 | c::l,[],_,_,_,h,_,_=>by unfold eqC at h; split at h<;>simp_all
 | _::_,_::_,[],_,_,_,h1,_=>h1.elim
 | _::_,_::_,_::_,[],_,_,_,h2=>h2.elim
theorem qQ {q:Q}:∀{zs:List Value} {l:List C} {cs:List Value},uV zs l=true->All2 (RC w q) l cs->xC zs cs=true
 | [],[],[],_,_=>rfl
 | [],[],_::_,_,h=>h.elim
 | [],_::_,_,h,_=>by simp[uV] at h
 | z::zs,[],_,h,_=>by unfold uV at h; split at h<;>simp_all
 | z::zs,c::l,[],_,h=>h.elim
 | z::zs,c::l,v::cs,h,⟨h1,h2⟩=>by
  unfold uV at h;split at h
  ·rename_i e _; cases e
  ·rename_i e1 e2; cases e1; cases e2
   obtain ⟨rfl,_⟩:=h1;simp only[Bool.and_eq_true] at h;simp only[xC,Bool.and_eq_true];exact ⟨h.1,qQ h.2 h2⟩
  ·rename_i e1 e2; cases e1; cases e2
   obtain ⟨rfl,_⟩:=h1;simp only[xC];exact qQ h h2
  ·rename_i e1 e2; cases e1; cases e2
   obtain ⟨rfl,_⟩:=h1;simp only[xC];exact qQ h h2
  ·simp at h
theorem ZU (k:IntKind):∀(n:Nat) (l:List Int),l.length=n->xC (List.replicate n (.int k 0)) (l.map (Value.int k))=true
 | 0,[],_=>rfl
 | n+1,x::l,h=>by simp[List.replicate_succ,xC,ZU k n l (by simpa using h)]
 | 0,_::_,h=>by simp at h
 | _+1,[],h=>by simp at h
theorem Vy (k:IntKind):∀(l r:List Int),l.length=r.length->vH (l.map (Value.int k)) (r.map (Value.int k))=some (l==r)
 | [],[],_=>rfl
 | x::l,y::r,h=>by
  have:=Vy k l r (by simpa using h);simp[vH,this]
 | [],_::_,h=>by simp at h
 | _::_,[],h=>by simp at h
theorem Ul {t:TypeId} (hb:cx.P.underlying t=some .bool) (d:Nat) (x y:Bool):(Op.equalIn (d+1) t (.bool x) (.bool y)).run cx.P w=.ok (x==y) w:=by
 simp[Op.equalIn,run_underlying hb]
theorem Ws {t:TypeId} (hb:cx.P.underlying t=some .bool) (x y:Bool):(Op.equal t (.bool x) (.bool y)).run cx.P w=.ok (x==y) w :=
 Ul hb 9999 x y
theorem zap {t:TypeId} (hb:cx.P.underlying t=some .bool) (x y:Bool):(Go.binOp .eql t (.bool x) (.bool y)).run cx.P w=.ok (.bool (x==y)) w:=by
 have:Go.binOp .eql t (.bool x) (.bool y)=(do pure (.bool (<-Op.equal t (.bool x) (.bool y)))):=rfl;rw[this];simp only[Sem.run_bind,Ws hb];rfl
theorem zao {t:TypeId} (hb:cx.P.underlying t=some .bool) (x y:Bool):(Go.binOp .neq t (.bool x) (.bool y)).run cx.P w=.ok (.bool (!(x==y))) w:=by
 have:Go.binOp .neq t (.bool x) (.bool y)=(do pure (.bool (!(<-Op.equal t (.bool x) (.bool y))))):=rfl;rw[this];simp only[Sem.run_bind,Ws hb];rfl
theorem TrR.is {α:Type} {w:World} {ok:Nat->Prop} {sz:Nat} {R:α->List Value->Prop} {y:LTr α} {v:Value} (h:TrR w ok sz R y v):(y.isNd=false/\v=.pointer none)\/(y.isNd=true/\∃a,v=.pointer (some a)):=by
 cases h with
 | nil=>exact .inl ⟨rfl,rfl⟩
 | nd=>exact .inr ⟨rfl,_,rfl⟩
theorem Tu {t:TypeId} {e:TypeId} (hb:cx.P.underlying t=some (.pointer e)) (d:Nat) {n:Bool} {v:Value} (hv:(n=false/\v=.pointer none)\/(n=true/\∃a,v=.pointer (some a))):(Op.equalIn (d+1) t v (.pointer none)).run cx.P w=.ok (!n) w:=by
 rcases hv with ⟨rfl,rfl⟩ | ⟨rfl,a,rfl⟩<;>simp[Op.equalIn,run_underlying hb]
theorem Vw {t:TypeId} {e:TypeId} (hb:cx.P.underlying t=some (.pointer e)) {n:Bool} {v:Value} (hv:(n=false/\v=.pointer none)\/(n=true/\∃a,v=.pointer (some a))):(Op.equal t v (.pointer none)).run cx.P w=.ok (!n) w :=
 Tu hb 9999 hv
theorem ptr_eql {t:TypeId} {e:TypeId} (hb:cx.P.underlying t=some (.pointer e)) {n:Bool} {v:Value} (hv:(n=false/\v=.pointer none)\/(n=true/\∃a,v=.pointer (some a))):(Go.binOp .eql t v (.pointer none)).run cx.P w=.ok (.bool (!n)) w:=by
 have:Go.binOp .eql t v (.pointer none)=(do pure (.bool (<-Op.equal t v (.pointer none)))):=by rcases hv with ⟨_,rfl⟩ | ⟨_,a,rfl⟩<;>rfl
 rw[this];simp only[Sem.run_bind,Vw hb hv];rfl
theorem ptr_neq {t:TypeId} {e:TypeId} (hb:cx.P.underlying t=some (.pointer e)) {n:Bool} {v:Value} (hv:(n=false/\v=.pointer none)\/(n=true/\∃a,v=.pointer (some a))):(Go.binOp .neq t v (.pointer none)).run cx.P w=.ok (.bool n) w:=by
 have:Go.binOp .neq t v (.pointer none)=(do pure (.bool (!(<-Op.equal t v (.pointer none))))):=by rcases hv with ⟨_,rfl⟩ | ⟨_,a,rfl⟩<;>rfl
 rw[this];simp only[Sem.run_bind,Vw hb hv];cases n<;>rfl
theorem za8 (hT:∀t,vo cx.P t (cx.TI t)) (hG:xU cx) (h:Rel cx m σ a w) {op:BinOp} {t u:TypeId} {x y:Operand} (ho:o.op=.binOp op t x y u)
  (he:binE cx.TI op t (σ.ev cx.G x) (σ.ev cx.G y)=some (true,eff)):Done cx σ a w o eff:=by
 have hx:=wn hG h x;have hy:=wn hG h y;generalize σ.ev cx.G x=ex at he hx;generalize σ.ev cx.G y=ey at he hy;unfold binE at he;split at he
 ·
  rename_i k p k' q;obtain ⟨hx,_⟩:=hx.v_eq;obtain ⟨hy,_⟩:=hy.v_eq;have key:∀v,(op=.shl\/op=.shr\/k=k')->binI op k p q=some (true,v)->eff=⟨.d (.c (.v v)),.none⟩->Done cx σ a w o eff:=by
   intro v hk hb e;subst e;obtain ⟨r,s⟩:=zas (cx:=cx) (w:=w) (t:=t) hk hb;refine Done.pure h (v:=v) ?_ ⟨rfl,s⟩;simp[execOp,ho,hx,hy,eqGuard,r]
  have key2:∀z:Option (Bool×Value),RZ z=some (true,eff)->∃v,z=some (true,v)/\eff=⟨.d (.c (.v v)),.none⟩:=by
   intro z hz;unfold RZ at hz;split at hz<;>simp at hz;obtain ⟨rfl,rfl⟩:=hz;exact ⟨_,rfl,rfl⟩
  split at he
  ·obtain ⟨v,e1,e2⟩:=key2 _ he; exact key v (.inl rfl) e1 e2
  ·obtain ⟨v,e1,e2⟩:=key2 _ he; exact key v (.inr (.inl rfl)) e1 e2
  ·split at he
   ·rename_i hk; obtain ⟨v,e1,e2⟩:=key2 _ he; exact key v (.inr (.inr hk)) e1 e2
   ·simp at he
 ·
  obtain ⟨hx,_⟩:=hx.v_eq;obtain ⟨hy,_⟩:=hy.v_eq;unfold RZ at he;split at he<;>simp at he;rename_i hb;obtain ⟨rfl,rfl⟩:=he;obtain ⟨r,s⟩:=zar (cx:=cx) (w:=w) (t:=t) hb;refine Done.pure h ?_ ⟨rfl,s⟩;simp[execOp,ho,hx,hy,eqGuard,r]
 ·
  obtain ⟨hx,_⟩:=hx.v_eq;obtain ⟨hy,_⟩:=hy.v_eq;split at he
  ·rename_i hz ha
   obtain ⟨_,rfl⟩:=wO he;have hb:=(hT t).bool _ hz ha;refine Done.pure h ?_ ⟨rfl,rfl⟩;simp[execOp,ho,hx,hy,eqGuard,zap hb]
  ·rename_i hz ha
   obtain ⟨_,rfl⟩:=wO he;have hb:=(hT t).bool _ hz ha;refine Done.pure h ?_ ⟨rfl,rfl⟩;simp[execOp,ho,hx,hy,eqGuard,zao hb]
  ·simp at he
 ·
  rename_i tt y0;have hx':=TrR.is (show TrR w (cx.q σ m w).ok tt.size _ y0 (a.eval x) from hx);obtain ⟨hy,_⟩:=hy.v_eq;have hg:∀op' v,v=a.eval x->eqGuard op' t x y v (.pointer none)=pure ():=by
   intro op' v hv;rw[<-hv] at hx';rcases hx' with ⟨_,e⟩ | ⟨_,_,e⟩<;>(rw[e]; cases op'<;>rfl)
  split at he
  ·rename_i hp
   obtain ⟨_,rfl⟩:=wO he;obtain ⟨e,hb⟩:=(hT t).ptr hp;refine Done.pure h ?_ ⟨rfl,rfl⟩;simp only[execOp,ho,hy,hg _ _ rfl];simp[ptr_eql hb hx']
  ·rename_i hp
   obtain ⟨_,rfl⟩:=wO he;obtain ⟨e,hb⟩:=(hT t).ptr hp;refine Done.pure h ?_ ⟨rfl,rfl⟩;simp only[execOp,ho,hy,hg _ _ rfl];simp[ptr_neq hb hx']
  ·simp at he
 ·
  obtain ⟨cs,ex,rx⟩:=hx;obtain ⟨ds,ey,ry⟩:=hy;rename_i l k;cases hk:(cx.TI t).eqOK&&uV (cx.TI t).zs l&&uV (cx.TI t).zs k with
  | false=>simp[hk] at he
  | true =>
   simp only[hk,cond_true] at he;simp only[Bool.and_eq_true] at hk;obtain ⟨⟨h1,h2⟩,h3⟩:=hk;have l1:=qQ h2 rx;have l2:=qQ h3 ry;split at he
   ·split at he<;>try simp at he
    rename_i b hb;obtain ⟨_,rfl⟩:=wO he;refine Done.pure h ?_ ⟨rfl,rfl⟩;have:=((hT t).eq h1 cs ds b l1 l2 (Wu hb rx ry) x y w).1;simp only[execOp,ho,ex,ey];simp only[Sem.run_bind] at this ⊢;simp[this]
   ·split at he<;>try simp at he
    rename_i b hb;obtain ⟨_,rfl⟩:=wO he;refine Done.pure h ?_ ⟨rfl,rfl⟩;have:=((hT t).eq h1 cs ds b l1 l2 (Wu hb rx ry) x y w).2;simp only[execOp,ho,ex,ey];simp only[Sem.run_bind] at this ⊢;simp[this]
   ·simp at he
 ·
  rename_i k l k' l';cases hk:(cx.TI t).eqOK&&zaw (cx.TI t) k with
  | false=>simp[hk] at he
  | true =>
   simp only[hk,cond_true] at he;simp only[Bool.and_eq_true] at hk;obtain ⟨hk,hka⟩:=hk;obtain ⟨n0,harr⟩:∃n0,(cx.TI t).arr=some (k,n0):=by
    unfold zaw at hka;split at hka
    ·rename_i k0 n0 h; rw[of_decide_eq_true hka] at h; exact ⟨n0,h⟩
    ·cases hka
   obtain ⟨_,hzs,_⟩:=(hT t).arr _ _ harr;split at he<;>try simp at he
   rename_i hkk;subst hkk;simp only[RE,RD] at hx hy;have key:∀{b1 b2:Bool},b1=true->b2=true->b1=(Nat.beq l.length l'.length)->b2=Nat.beq l.length (cx.TI t).zs.length->
     ∀(x' y':Operand),((do eqGuard .eql t x' y' (.agg (l.map (Value.int k)).toArray) (.agg (l'.map (Value.int k)).toArray); Go.binOp .eql t (.agg (l.map (Value.int k)).toArray) (.agg (l'.map (Value.int k)).toArray)):Sem Value).run cx.P w=.ok (.bool (l==l')) w /\
     ((do eqGuard .neq t x' y' (.agg (l.map (Value.int k)).toArray) (.agg (l'.map (Value.int k)).toArray); Go.binOp .neq t (.agg (l.map (Value.int k)).toArray) (.agg (l'.map (Value.int k)).toArray)):Sem Value).run cx.P w=.ok (.bool (!(l==l'))) w:=by
    intro b1 b2 e1 e2 e3 e4 x' y';have f1:=yx (e3.symm.trans e1);have f2:=yx (e4.symm.trans e2);rw[hzs] at f2;simp only[List.length_replicate] at f2;exact (hT t).eq hk _ _ _ (by rw[hzs]; simpa using ZU _ n0 l f2) (by rw[hzs]; simpa using ZU _ n0 l' (by omega)) (by simpa using Vy _ l l' f1) x' y' w
   split at he<;>simp at he
   ·obtain ⟨⟨h1,h2⟩,rfl⟩:=he
    refine Done.pure h ?_ ⟨rfl,rfl⟩;have:=(key (b1:=Nat.beq l.length l'.length) (b2:=Nat.beq l.length (cx.TI t).zs.length) (by simpa using h1) (by simpa using h2) rfl rfl x y).1;simp only[execOp,ho,hx,hy];simp only[Sem.run_bind] at this ⊢;simp[this]
   ·obtain ⟨⟨h1,h2⟩,rfl⟩:=he
    refine Done.pure h ?_ ⟨rfl,rfl⟩;have:=(key (b1:=Nat.beq l.length l'.length) (b2:=Nat.beq l.length (cx.TI t).zs.length) (by simpa using h1) (by simpa using h2) rfl rfl x y).2;simp only[execOp,ho,hx,hy];simp only[Sem.run_bind] at this ⊢;simp[this]
 ·simp at he
theorem done_un (hG:xU cx) (h:Rel cx m σ a w) {op:UnOp} {t:TypeId} {x:Operand} (ho:o.op=.unOp op t x)
  (he:unE op (σ.ev cx.G x)=some (true,eff)):Done cx σ a w o eff:=by
 have hx:=wn hG h x;generalize σ.ev cx.G x=ex at he hx;unfold unE at he;split at he
 ·obtain ⟨hx,_⟩:=hx.v_eq
  obtain ⟨_,rfl⟩:=wO he;refine Done.pure h ?_ ⟨rfl,rfl⟩;simp[execOp,ho,hx,Op.unary,Op.intArith]
 ·obtain ⟨hx,_⟩:=hx.v_eq
  obtain ⟨_,rfl⟩:=wO he;refine Done.pure h ?_ ⟨rfl,rfl⟩;simp[execOp,ho,hx,Op.unary]
 ·simp at he
theorem Ur (hG:xU cx) (h:Rel cx m σ a w) {i:Nat} {x:Operand} (ho:o.op=.extract x i)
  (he:(match σ.ev cx.G x with
   | .t l=>match l[i]? with
    | some y=>ent (.d y)
    | none=>none
   | _=>none)=some (true,eff)):Done cx σ a w o eff:=by
 have hx:=wn hG h x;generalize σ.ev cx.G x=ex at he hx;split at he<;>try simp at he
 obtain ⟨vs,ev,rv⟩:=hx;split at he<;>try simp at he
 rename_i y hy;obtain ⟨_,rfl⟩:=vu he;obtain ⟨v,hv,r⟩:=rv.get hy;refine Done.pure h (v:=v) ?_ r;have hv':vs[i]?=some v:=by simpa using hv
 simp[execOp,ho,ev,Instr.extract,hv']
theorem Us (hT:∀t,vo cx.P t (cx.TI t)) (hG:xU cx) (h:Rel cx m σ a w) {u t:TypeId} {x:Operand} (ho:o.op=.convert u t x)
  (he:(match σ.ev cx.G x,(cx.TI u).zs,(cx.TI t).zs,(cx.TI t).agg||(cx.TI u).agg with
  | .d (.c (.v (.int _ n))),[_],[.int k _],false=>qn (.int k (k.wrap n))
  | _,_,_,_=>none)=some (true,eff)):Done cx σ a w o eff:=by
 have hx:=wn hG h x;generalize σ.ev cx.G x=ex at he hx;split at he<;>try simp at he
 rename_i hu ht hag;obtain ⟨hx,_⟩:=hx.v_eq;obtain ⟨_,rfl⟩:=wO he;simp only[Bool.or_eq_false_iff] at hag;have h1:=(hT t).int _ _ ht hag.1;obtain ⟨_,d,_,_,_,h2,_⟩:=(hT u).sc _ hu hag.2;refine Done.pure h ?_ ⟨rfl,rfl⟩;simp[execOp,ho,hx,convert,run_underlying h1,run_underlying h2,Conv.intToInt]
end
end Go.VS
namespace Go.VS
open Go IntKind
section
variable {cx:Cx} {Hh:Hn} {m:Gh} {σ:St} {a:Act} {w:World} {o:Oper} {eff:Eff}
theorem ui (b off n:Nat):(⟨b,off,none⟩:Addr).add n=⟨b,off+n,none⟩:=by unfold Addr.add; split<;>simp_all
theorem xR {b:Nat}:∀{vs:List Value} {off j:Nat} {v:Value},xc w b off vs->vs[j]?=some v->w.cell? ⟨b,off+j,none⟩=some v
 | _::_,off,0,_,⟨h,_⟩,e=>by simp at e; subst e; exact h
 | _::_,off,j+1,_,⟨_,h⟩,e=>by
  have:=xR (j:=j) h (by simpa using e);rwa [show off+1+j=off+(j+1) by omega] at this
theorem wT {b:Nat}:∀{vs:List Value} {off:Nat},(∀j v,vs[j]?=some v->w.cell? ⟨b,off+j,none⟩=some v)->xc w b off vs
 | [],_,_=>trivial
 | v::r,off,h=>⟨h 0 v rfl,wT fun j u hj=>by have:=h (j+1) u (by simpa using hj); rwa [show off+(j+1)=off+1+j by omega] at this⟩
theorem xH {b:Nat} {cs:Array Value} {T:TypeId} {fr:Nat×Nat} (h:w.heap[b]?=some (Obj.cells cs T fr)):xc w b 0 cs.toList :=
 wT fun j v hv=>by simp[World.cell?,h]; simpa using hv
theorem YN {P:Program} {t:TypeId} {d:TypeDesc} (h:P.underlying t=some d):(isAgg t).run P w=.ok (Zc d) w:=by
 simp only[isAgg,Sem.run_bind,run_underlying h];cases d<;>rfl
theorem vf {P:Program} {t:TypeId} {i:TypeInfo} (h:P.info? t=some i):(sizeOf t).run P w=.ok i.size w:=by
 simp[sizeOf,typeInfo,h]
theorem tC {P:Program} {t:TypeId} {d:TypeDesc} {b off:Nat} {v:Value} (h:P.underlying t=some d) (hd:Zc d=false) (hc:w.cell? ⟨b,off,none⟩=some v) :
  (Instr.loadAt t (.pointer (some ⟨b,off,none⟩))).run P w=.ok v w:=by
 simp[Instr.loadAt,Instr.sureAddr,loadVar,YN h,hd,hc]
theorem Ye {P:Program} {t:TypeId} {d:TypeDesc} {i:TypeInfo} {b off:Nat} {vs:List Value} (h:P.underlying t=some d) (hi:P.info? t=some i) (hd:Zc d=true)
  (hl:vs.length=i.size) (hc:xc w b off vs):(Instr.loadAt t (.pointer (some ⟨b,off,none⟩))).run P w=.ok (.agg vs.toArray) w:=by
 have:=run_loadCells_list (P:=P) w ⟨b,off,none⟩ vs (fun j v hv=>by rw[ui]; exact xR hc hv);rw[hl] at this;simp[Instr.loadAt,Instr.sureAddr,loadVar,YN h,hd,vf hi,this]
theorem vB {b:Nat}:∀{vs:List Value} {off:Nat} (n:Nat),xc w b off vs->xc w b (off+n) (vs.drop n)
 | _,_,0,h=>h
 | [],_,n+1,_=>trivial
 | _::r,off,n+1,⟨_,h⟩=>by have:=vB n h; rw[show off+(n+1)=off+1+n by omega]; simpa using this
theorem qt {b:Nat}:∀{vs:List Value} {off:Nat} (n:Nat),xc w b off vs->xc w b off (vs.take n)
 | _,_,0,_=>trivial
 | [],_,n+1,_=>trivial
 | _::r,off,n+1,⟨h1,h2⟩=>by simpa [xc] using ⟨h1,qt n h2⟩
theorem YR {q:Q} {t:TypeId} (hT:vo cx.P t (cx.TI t)) {l:List C} {vs:List Value} {b base off:Nat} {y:DV} (hl:All2 (RC w q) l vs) (hc:xc w b base vs)
  (hp:part (cx.TI t) off l=some y):∃v,(Instr.loadAt t (.pointer (some ⟨b,base+off,none⟩))).run cx.P w=.ok v w/\RD w q y v:=by
 unfold part at hp;cases ha:(cx.TI t).agg with
 | true =>
  simp only[ha,cond_true] at hp;split at hp<;>try simp at hp
  cases hb:Nat.ble (off+(cx.TI t).zs.length) l.length with
  | false=>simp[hb] at hp
  | true =>
   simp[hb] at hp;subst hp;obtain ⟨i,d,zc,h1,h2,h3,h4,h5,h6,h7⟩:=hT.ag ha;have hle:=Nat.le_of_ble_eq_true hb;have hlen:=hl.len;refine ⟨_,Ye (vs:=(vs.drop off).take (cx.TI t).zs.length) h5 h1 h6 (by simp; omega) (qt _ (vB off hc)),_,rfl,?_⟩;simpa using (hl.drop off).take (cx.TI t).zs.length
 | false =>
  simp only[ha,cond_false] at hp;split at hp<;>try simp at hp
  rename_i z x r hz hdr;subst hp;obtain ⟨i,d,h1,h2,h3,h4,h5,h6⟩:=hT.sc _ hz ha;have hd:=hl.drop off;rw[hdr] at hd;obtain ⟨v,m',e,r1,_⟩:=hd.cons_left;have hc':=vB off hc;rw[e] at hc';exact ⟨v,tC h4 h5 hc'.1,r1⟩
theorem Uh {t:Ty} {l:List t.T} {i:Nat} (h:i<l.length):get t l i=l[i]:=by simp[get,h]
theorem xJ {q:Q} {t:Ty} {x:t.T} {us:List Value} (h:RT w q.ok q.okb q.m.me t x us):All2 (RC w q) (t.enc x []) us:=Ri.2 h
theorem Tj (hT:∀t,vo cx.P t (cx.TI t)) (hG:xU cx) (h:Rel cx m σ a w) {t:TypeId} {x:Operand}
  (he:uA (cx.TI t) σ (σ.ev cx.G x)=some (true,eff)):eff.mem=.none/\∃v,(Instr.loadAt t (a.eval x)).run cx.P w=.ok v w/\RE w (cx.q σ m w) eff.ent v:=by
 have hx:=wn hG h x;generalize σ.ev cx.G x=ex at he hx;have fin:∀{b off:Nat} {y:DV} {v:Value},a.eval x=.pointer (some ⟨b,off,none⟩)->(Instr.loadAt t (.pointer (some ⟨b,off,none⟩))).run cx.P w=.ok v w->RD w (cx.q σ m w) y v->
   (⟨.d y,.none⟩:Eff).mem=.none/\∃v,(Instr.loadAt t (a.eval x)).run cx.P w=.ok v w/\RE w (cx.q σ m w) (⟨.d y,.none⟩:Eff).ent v:=fun {_ _ _ v} e r hr=>⟨rfl,v,by rw[e]; exact r,hr⟩
 unfold uA at he;split at he
 ·
  rename_i s off;obtain ⟨b,hb,ex⟩:=hx;split at he
  ·rename_i l hl
   split at he<;>try simp at he
   rename_i y hy;obtain ⟨_,rfl⟩:=vu he;obtain ⟨b',cs,T,e1,e2,e3⟩:=h.box s _ hl;have hbb:b'=b:=by rw[show (cx.q σ m w).m.blk s=m.blk s from rfl] at hb; rw[hb] at e1; simpa using e1.symm
   subst hbb;obtain ⟨v,r,hr⟩:=YR (hT t) e3 (xH e2) hy;rw[Nat.zero_add] at r;exact fin ex r hr
  ·rename_i y hl
   cases hc:(cx.TI t).agg||!(Nat.beq off 0)||!(Nat.beq (cx.TI t).zs.length 1) with
   | true=>simp[hc] at he
   | false =>
    simp only[hc,cond_false] at he;obtain ⟨_,rfl⟩:=vu he;simp only[Bool.or_eq_false_iff,Bool.not_eq_false'] at hc;obtain ⟨⟨h1,h2⟩,h3⟩:=hc;have h2:=yx h2;subst h2;obtain ⟨b',cs,T,e1,e2,v,e3,e4⟩:=h.box s _ hl;have hbb:b'=b:=by rw[show (cx.q σ m w).m.blk s=m.blk s from rfl] at hb; rw[hb] at e1; simpa using e1.symm
    subst hbb;have hz:∃z,(cx.TI t).zs=[z]:=List.length_eq_one_iff.1 (yx h3);obtain ⟨z,hz⟩:=hz;obtain ⟨i,d,_,_,_,h4,h5,_⟩:=(hT t).sc z hz h1;have hc:=xH e2;rw[e3] at hc;exact fin ex (tC h4 h5 hc.1) e4
  ·rename_i k l hl
   split at he<;>try simp at he
   rename_i k' n harr;obtain ⟨hk,he⟩:=he;subst hk;cases h0:Nat.beq off 0 with
   | false=>simp[h0] at he
   | true =>
    simp[h0] at he;obtain ⟨hn,rfl⟩:=he;have h0:=yx h0;subst h0;obtain ⟨ha,hz,_⟩:=(hT t).arr _ _ harr;obtain ⟨i,d,zc,h1,h2,h3,h4,h5,h6,h7⟩:=(hT t).ag ha;obtain ⟨b',cs,T,e1,e2,e3⟩:=h.box s _ hl;have hbb:b'=b:=by rw[show (cx.q σ m w).m.blk s=m.blk s from rfl] at hb; rw[hb] at e1; simpa using e1.symm
    subst hbb;have hc:=xH e2;rw[e3] at hc;refine fin (y:=.a k' l) ex (Ye h5 h1 h6 ?_ hc) rfl;have:=yx (x:=n) (y:=l.length) (by simpa using hn);rw[h4,hz]; simp; omega
  ·simp at he
 ·
  rename_i s i;obtain ⟨b,cs,T,hb,ex,hc,hi⟩:=hx;split at he<;>try simp at he
  rename_i k l hl;cases hcc:(cx.TI t).agg||!(Nat.beq (cx.TI t).zs.length 1) with
  | true=>simp[hcc] at he
  | false =>
   simp only[hcc,cond_false] at he;obtain ⟨_,rfl⟩:=wO he;simp only[Bool.or_eq_false_iff,Bool.not_eq_false'] at hcc;obtain ⟨z,hz⟩:=List.length_eq_one_iff.1 (yx hcc.2);obtain ⟨_,d,_,_,_,h4,h5,_⟩:=(hT t).sc z hz hcc.1;obtain ⟨b',cs',T',e1,e2,e3⟩:=h.box s _ hl;have hbb:b'=b:=by rw[show (cx.q σ m w).m.blk s=m.blk s from rfl] at hb; rw[hb] at e1; simpa using e1.symm
   subst hbb;rw[hc] at e2;simp at e2;obtain ⟨rfl,rfl⟩:=e2;simp only[RB] at e3;have hil:i<l.length:=by
    have:cs.toList.length=l.length:=by rw[e3]; simp
    simp at this; omega
   refine fin (y:=.c (.v (.int k (l.getD i 0)))) ex (tC h4 h5 ?_) ⟨rfl,rfl⟩;have:=xR (j:=i) (xH hc) (v:=.int k (l.getD i 0)) (by rw[e3]; simp[hil]);simpa using this
 ·
  rename_i s i off;obtain ⟨hd,b,o',e1,e2,e3,e4⟩:=hx;split at he<;>try simp at he
  rename_i ow hown;split at he<;>try simp at he
  rename_i y hy;obtain ⟨_,rfl⟩:=vu he;obtain ⟨hd',f1,l1,l2,l3,l4⟩:=h.own s ow hown;rw[show (cx.q σ m w).m.hd s=m.hd s from rfl] at e1;rw[e1] at f1;simp at f1;subst f1;obtain ⟨b',off',cs,T,g1,g2,g3,g4⟩:=l4 (by omega);rw[e2] at g1;simp at g1;obtain ⟨rfl,rfl⟩:=g1;obtain ⟨us,u1,u2,u3⟩:=g4 i (by omega);rw[Uh (by omega)] at hy;obtain ⟨v,r,hr⟩:=YR (hT t) (xJ u3) u2 hy;rw[<-l2] at r;exact fin e4 r hr
 ·
  obtain ⟨b,off,vs,e1,e2,e3,e4,_⟩:=hx;split at he<;>try simp at he
  rename_i y hy;obtain ⟨_,rfl⟩:=vu he;obtain ⟨v,r,hr⟩:=YR (hT t) e4 e3 hy;exact fin e1 r hr
 ·simp at he
theorem Qg (hT:∀t,vo cx.P t (cx.TI t)) (hG:xU cx) (h:Rel cx m σ a w) {t:TypeId} {x:Operand} (ho:o.op=.load t x)
  (he:uA (cx.TI t) σ (σ.ev cx.G x)=some (true,eff)):Done cx σ a w o eff:=by
 obtain ⟨h1,v,h2,h3⟩:=Tj hT hG h he;obtain ⟨ent,mem⟩:=eff;simp only at h1;subst h1;exact Done.pure h (by simp[execOp,ho,h2]) h3
theorem Wr {P:Program} {f:Field} {i:TypeInfo} {b off:Nat} (hi:P.info? f.type=some i) (h0:0<i.size) :
  (fieldPlace ⟨b,off,none⟩ f).run P w=.ok ⟨b,off+f.offset,none⟩ w:=by
 simp[fieldPlace,vf hi,Nat.ne_of_gt h0,ui]
theorem WD (hT:∀t,vo cx.P t (cx.TI t)) (hG:xU cx) (h:Rel cx m σ a w) {t:TypeId} {x:Operand} {i:Nat} (ho:o.op=.fieldAddr t x i)
  (he:ZY (cx.TI t).fields i (σ.ev cx.G x)=some (true,eff)):Done cx σ a w o eff:=by
 have hx:=wn hG h x;generalize σ.ev cx.G x=ex at he hx;unfold ZY at he;split at he<;>try simp at he
 rename_i off sz ag hf;obtain ⟨_,fs,f,fi,d,h1,h2,h3,h4,h5,h6,_⟩:=(hT t).field _ _ _ _ hf;have run:∀{b o':Nat},a.eval x=.pointer (some ⟨b,o',none⟩)->(execOp a.eval o).run cx.P w=.ok (.value (.pointer (some ⟨b,o'+off,none⟩))) w:=by
  intro b o' e;have:=Wr (w:=w) (b:=b) (off:=o') h4 (by omega);simp[execOp,ho,e,Instr.fieldAt,run_underlying h1,h2,Instr.sureAddr,this,h3]
 split at he
 ·obtain ⟨_,rfl⟩:=vu he
  obtain ⟨b,hb,e⟩:=hx;exact Done.pure h (run e) ⟨b,hb,rfl⟩
 ·obtain ⟨_,rfl⟩:=vu he
  obtain ⟨hd,b,o',e1,e2,e3,e4⟩:=hx;exact Done.pure h (run e4) ⟨hd,b,o',e1,e2,e3,by rw[Nat.add_assoc]⟩
 ·obtain ⟨_,rfl⟩:=vu he
  obtain ⟨b,o',vs,e1,e2,e3,e4,e5⟩:=hx;exact Done.pure h (run e1) ⟨b,o'+off,vs.drop off,rfl,e2,vB off e3,e4.drop off,fun c hc=>e5 c (List.mem_of_mem_drop hc)⟩
 ·simp at he
theorem Yd {P:Program} {t:TypeId} {d:TypeDesc} {i:TypeInfo} {cs:Array Value} {off:Nat} (h:P.underlying t=some d) (hi:P.info? t=some i) :
  (Go.part t cs off).run P w=if Zc d then .ok (.agg (cs.extract off (off+i.size))) w else (match cs[off]? with
   | some v=>.ok v w
   | none=>.halt (.stuck "part: no such cell") w):=by
 simp only[Go.part,Sem.run_bind,YN h];cases hd:Zc d with
 | true=>simp[Result.andThen,vf hi]
 | false=>cases hc:cs[off]?<;>simp[Result.andThen,stuck]
theorem Sv {cs:Array Value} {off n:Nat}:(cs.extract off (off+n)).toList=(cs.toList.drop off).take n:=by
 simp[List.take_drop]
theorem SC (hT:∀t,vo cx.P t (cx.TI t)) (hG:xU cx) (h:Rel cx m σ a w) {t:TypeId} {x:Operand} {i:Nat} (ho:o.op=.field t x i)
  (he:Su (cx.TI t).fields i (σ.ev cx.G x)=some (true,eff)):Done cx σ a w o eff:=by
 have hx:=wn hG h x;generalize σ.ev cx.G x=ex at he hx;unfold Su at he;split at he<;>try simp at he
 rename_i off sz ag l hf;obtain ⟨_,fs,f,fi,d,h1,h2,h3,h4,h5,_,h6,h7⟩:=(hT t).field _ _ _ _ hf;obtain ⟨cs,e,r⟩:=hx;cases hag:ag with
 | true =>
  simp only[hag,cond_true] at he;cases hb:Nat.ble (off+sz) l.length with
  | false=>simp[hb] at he
  | true =>
   simp only[hb,cond_true] at he;obtain ⟨_,rfl⟩:=vu he;refine Done.pure h (v:=.agg (cs.extract off (off+sz))) ?_ ⟨_,rfl,?_⟩
   ·simp[execOp,ho,e,Instr.field,run_underlying h1,h2,asAgg,Yd h6 h4,h7,hag,h3,h5]
   ·rw[Sv]; exact (r.drop off).take sz
 | false =>
  simp only[hag,cond_false] at he;split at he<;>try simp at he
  rename_i y r' hdr;obtain ⟨_,rfl⟩:=Zq he;have hd:=r.drop off;rw[hdr] at hd;obtain ⟨v,m',e2,r1,_⟩:=hd.cons_left;have hv:cs[off]?=some v:=by
   have:cs.toList[off]?=some v:=by
    have h:=congrArg (fun l:List Value=>l[0]?) e2;simpa [List.getElem?_drop] using h
   simpa using this
  refine Done.pure h (v:=v) ?_ r1;simp[execOp,ho,e,Instr.field,run_underlying h1,h2,asAgg,Yd h6 h4,h7,hag,h3,hv]
end
end Go.VS
namespace Go.VS
open Go IntKind
section
variable {cx:Cx} {Hh:Hn} {m:Gh} {σ:St} {a:Act} {w:World} {o:Oper} {eff:Eff}
theorem wM:∀(t:Ty) (x:t.T) (r:List C),(∀c∈r,wJ c=true)->∀c∈t.enc x r,wJ c=true
 | .int _,_,_,h=>by intro c hc; simp only[Ty.enc,List.mem_cons] at hc; rcases hc with rfl | hc; (·rfl); (·exact h c hc)
 | .bool,_,_,h=>by intro c hc; simp only[Ty.enc,List.mem_cons] at hc; rcases hc with rfl | hc; (·rfl); (·exact h c hc)
 | .str,_,_,h=>by intro c hc; simp only[Ty.enc,List.mem_cons] at hc; rcases hc with rfl | hc; (·rfl); (·exact h c hc)
 | .fn,_,_,h=>by intro c hc; simp only[Ty.enc,List.mem_cons] at hc; rcases hc with rfl | hc; (·rfl); (·exact h c hc)
 | .fnb,_,_,h=>by intro c hc; simp only[Ty.enc,List.mem_cons] at hc; rcases hc with rfl | hc; (·rfl); (·exact h c hc)
 | .sl _,_,_,h=>by intro c hc; simp only[Ty.enc,List.mem_cons] at hc; rcases hc with rfl | hc; (·rfl); (·exact h c hc)
 | .bsl _,_,_,h=>by intro c hc; simp only[Ty.enc,List.mem_cons] at hc; rcases hc with rfl | hc; (·rfl); (·exact h c hc)
 | .pt _,_,_,h=>by intro c hc; simp only[Ty.enc,List.mem_cons] at hc; rcases hc with rfl | hc; (·rfl); (·exact h c hc)
 | .bnd _,_,_,h=>by intro c hc; simp only[Ty.enc,List.mem_cons] at hc; rcases hc with rfl | hc; (·rfl); (·exact h c hc)
 | .tr _,_,_,h=>by intro c hc; simp only[Ty.enc,List.mem_cons] at hc; rcases hc with rfl | hc; (·rfl); (·exact h c hc)
 | .unit,_,_,h=>h
 | .pair a b,x,r,h=>wM a x.1 _ (wM b x.2 r h)
theorem ut {n:Int} {len:Nat} (h:idx n len=true):0<=n/\n<(len:Int):=by simpa [idx] using h
theorem YO {P:Program} {t et:TypeId} {i:TypeInfo} {k:IntKind} {n:Int} {b off len cap:Nat} (h:P.underlying t=some (.slice et)) (hi:P.info? et=some i)
  (h0:0<=n) (h1:n<(len:Int)):(Instr.indexAt t (.slice (some ⟨b,off,none⟩) len cap) (.int k n)).run P w=.ok (.pointer (some ⟨b,off+n.toNat*i.size,none⟩)) w:=by
 simp[Instr.indexAt,asIntOf,run_underlying h,h0,h1,vf hi,ui]
theorem tD {P:Program} {t et:TypeId} {i:TypeInfo} {k:IntKind} {n:Int} {b off len:Nat} (h:P.underlying t=some (.array len et)) (hi:P.info? et=some i)
  (h0:0<=n) (h1:n<(len:Int)):(Instr.indexAt t (.pointer (some ⟨b,off,none⟩)) (.int k n)).run P w=.ok (.pointer (some ⟨b,off+n.toNat*i.size,none⟩)) w:=by
 simp[Instr.indexAt,asIntOf,run_underlying h,Instr.sureAddr,h0,h1,vf hi,ui]
theorem SlR.at {α:Type} {good:Nat->Prop} {sz:Nat} {R:α->List Value->Prop} {l:List α} {v:Value} (h:SlR w good sz R l v) {n:Nat} (hn:n<l.length) :
  ∃b off cap us,v=.slice (some ⟨b,off,none⟩) l.length cap/\good b/\us.length=sz/\xc w b (off+n*sz) us/\R l[n] us:=by
 obtain ⟨a,cap,e,_,h⟩:=h;obtain ⟨b,off,ea,hb,h⟩:=h (by intro h0; subst h0; simp at hn);obtain ⟨us,u1,u2,u3⟩:=h n hn;exact ⟨b,off,cap,us,by rw[e,ea],hb,u1,u2,u3⟩
theorem Zs {ts:TS} {t:Ty} {P:Program} {ty:Nat} (hT:vo P ty ts) (h:ts.elSz t=true):∃et i,P.underlying ty=some (.slice et)/\P.info? et=some i/\i.size=t.size:=by
 unfold TS.elSz at h;split at h
 ·rename_i f hf
  obtain ⟨et,i,z,h1,h2,h3,h4,h5,_⟩:=hT.el f hf;exact ⟨et,i,h1,h2,by rw[h5]; exact yx h⟩
 ·simp at h
theorem lt_help {n:Int} {lo hi len:Nat} (h0:0<=n) (h1:n<((hi-lo:Nat):Int)) (h2:lo<=hi) (h3:hi<=len):lo+n.toNat<len:=by omega
theorem WC (hT:∀t,vo cx.P t (cx.TI t)) (hG:xU cx) (h:Rel cx m σ a w) {t:TypeId} {x i:Operand} (ho:o.op=.indexAddr t x i)
  (he:vM (cx.TI t) σ (σ.ev cx.G x) (σ.ev cx.G i)=some (true,eff)):Done cx σ a w o eff:=by
 have hx:=wn hG h x;have hi:=wn hG h i;generalize σ.ev cx.G x=ex at he hx;generalize σ.ev cx.G i=ei at he hi;unfold vM at he;split at he<;>try simp at he
 rename_i k n;obtain ⟨hi,_⟩:=hi.v_eq;have fin:∀{v:Value} {e:Ent},(Instr.indexAt t (a.eval x) (.int k n)).run cx.P w=.ok v w->RE w (cx.q σ m w) e v->Done cx σ a w o ⟨e,.none⟩:=fun r hr =>
  Done.pure h (by simp[execOp,ho,hi,r]) hr
 have shut:∀{u:Ty} {l:List u.T} {good:Nat->Prop},(∀b,good b->(cx.q σ m w).okb b)->SlR w good u.size (RT w (cx.q σ m w).ok (cx.q σ m w).okb m.me u) l (a.eval x)->
   (cx.TI t).elSz u=true->idx n l.length=true->Done cx σ a w o ⟨.adr (u.enc (get u l n.toNat) []),.none⟩:=by
  intro u l good hg hs hz hn;obtain ⟨n0,n1⟩:=ut hn;obtain ⟨et,it,h1,h2,h3⟩:=Zs (hT t) hz;have hlt:n.toNat<l.length:=by omega
  obtain ⟨b,off,cap,us,e1,e2,e3,e4,e5⟩:=hs.at hlt;rw[Uh hlt];refine fin (v:=.pointer (some ⟨b,off+n.toNat*u.size,none⟩)) ?_ ⟨b,_,us,rfl,hg b e2,e4,xJ e5,wM _ _ _ (by simp)⟩;rw[e1,YO h1 h2 n0 n1,h3]
 split at he
 ·rename_i u l
  cases hz:(cx.TI t).elSz u with
  | false=>simp[hz] at he
  | true =>
   simp[hz] at he;obtain ⟨hn,rfl⟩:=he;exact shut (cx.q_ok σ m w) hx hz hn
 ·rename_i u l
  cases hz:(cx.TI t).elSz u with
  | false=>simp[hz] at he
  | true =>
   simp[hz] at he;obtain ⟨hn,rfl⟩:=he;exact shut (fun _ h=>h) hx hz hn
 ·
  rename_i s;obtain ⟨hd,e1,e2⟩:=hx;split at he<;>try simp at he
  rename_i ow hown;cases hz:(cx.TI t).elSz ow.t with
  | false=>simp[hz] at he
  | true =>
   simp[hz] at he;obtain ⟨hn,rfl⟩:=he;obtain ⟨n0,n1⟩:=ut hn;obtain ⟨et,it,h1,h2,h3⟩:=Zs (hT t) hz;obtain ⟨hd',f1,l1,l2,l3,l4⟩:=h.own s ow hown;rw[show (cx.q σ m w).m.hd s=m.hd s from rfl] at e1;rw[e1] at f1;simp at f1;subst f1;obtain ⟨b,off,cs,T,g1,g2,g3,g4⟩:=l4 (by omega);refine fin (v:=.pointer (some ⟨b,off+n.toNat*ow.t.size,none⟩)) ?_ ⟨hd,b,off,e1,g1,by omega,by rw[l2,Nat.add_zero]⟩;rw[e2,g1,YO h1 h2 n0 (by omega),h3]
 ·rename_i s lo hi
  obtain ⟨hd,e1,e3,e4,e2⟩:=hx;split at he<;>try simp at he
  rename_i ow hown;cases hz:(cx.TI t).elSz ow.t with
  | false=>simp[hz] at he
  | true =>
   simp[hz] at he;obtain ⟨hn,rfl⟩:=he;obtain ⟨n0,n1⟩:=ut hn;obtain ⟨et,it,h1,h2,h3⟩:=Zs (hT t) hz;obtain ⟨hd',f1,l1,l2,l3,l4⟩:=h.own s ow hown;rw[show (cx.q σ m w).m.hd s=m.hd s from rfl] at e1;rw[e1] at f1;simp at f1;subst f1;obtain ⟨b,off,cs,T,g1,g2,g3,g4⟩:=l4 (by omega);have n2:lo+n.toNat<hd.len:=lt_help n0 n1 e3 e4;refine fin (v:=.pointer (some ⟨b,off+lo*hd.sz+n.toNat*ow.t.size,none⟩)) ?_ ⟨hd,b,off,e1,g1,n2,?_⟩
   ·rw[e2,if_neg (by omega),g1]
    simp only[Option.map_some,ui];rw[YO h1 h2 n0 n1,h3]
   ·rw[l2,Nat.add_zero,Nat.add_mul,Nat.add_assoc]
 ·
  rename_i s off;split at he;rotate_left
  ·rename_i hl harr
   split at he<;>try simp at he
   rename_i mm sz hal;cases h0:Nat.beq off 0 with
   | false=>simp[h0] at he
   | true =>
    simp[h0] at he;obtain ⟨hn,rfl⟩:=he;have h0:=yx h0;subst h0;obtain ⟨n0,n1⟩:=ut hn;obtain ⟨et,it,h1,h2,h3⟩:=(hT t).alen _ _ hal;obtain ⟨b,hb,ex⟩:=hx;refine fin (v:=.pointer (some ⟨b,n.toNat*sz,none⟩)) ?_ ⟨b,hb,rfl⟩;rw[ex,tD h1 h2 n0 n1,h3];simp
  ·simp at he
  rename_i k' l k2 mm hl harr;cases h0:Nat.beq off 0 with
  | false=>simp[h0] at he
  | true =>
   simp[h0] at he;obtain ⟨⟨hn,hml⟩,rfl⟩:=he;have h0:=yx h0;subst h0;obtain ⟨n0,n1⟩:=ut hn;have hml:=yx (x:=mm) (y:=l.length) (by simpa using hml);obtain ⟨_,_,et,it,h1,h2,h3,_⟩:=(hT t).arr _ _ harr;obtain ⟨b,hb,ex⟩:=hx;obtain ⟨b',cs,T,e1,e2,e3⟩:=h.box s _ hl;have hbb:b'=b:=by rw[show (cx.q σ m w).m.blk s=m.blk s from rfl] at hb; rw[hb] at e1; simpa using e1.symm
   subst hbb;simp only[RB] at e3;have hsz:cs.size=l.length:=by have:=congrArg List.length e3; simpa using this
   refine fin (v:=.pointer (some ⟨b',n.toNat,none⟩)) ?_ ⟨b',cs,T,e1,rfl,e2,by omega⟩;rw[ex,tD h1 h2 n0 n1,h3];simp
 ·
  rename_i u l;split at he<;>try simp at he
  rename_i mm sz harr;cases h0:Nat.beq sz u.size&&Nat.beq mm l.length with
  | false=>simp[h0] at he
  | true =>
   simp[h0] at he;obtain ⟨hn,rfl⟩:=he;simp only[Bool.and_eq_true] at h0;have hsz:=yx h0.1;have hml:=yx h0.2;obtain ⟨n0,n1⟩:=ut hn;obtain ⟨et,it,h1,h2,h3⟩:=(hT t).alen _ _ harr;obtain ⟨b,off,e1,e2,e3⟩:=hx;have hlt:n.toNat<l.length:=by omega
   obtain ⟨us,u1,u2,u3⟩:=e3 n.toNat hlt;rw[Uh hlt];refine fin (v:=.pointer (some ⟨b,off+n.toNat*u.size,none⟩)) ?_ ⟨b,_,us,rfl,e2,u2,xJ u3,wM _ _ _ (by simp)⟩;rw[e1,tD h1 h2 n0 n1,h3,hsz]
 ·simp at he
theorem Ql (b:ByteArray) (n:Nat) (h:n<b.size):b[n]?=some (b.data.toList.getD n 0):=by
 have h':n<b.data.size:=h;rw[show b[n]?=some (b.get n h) from by simp[h]; rfl];have h'':n<b.data.toList.length:=by simpa using h'
 simp only[ByteArray.get,List.getD_eq_getElem?_getD,List.getElem?_eq_getElem h'',Option.getD_some];simp
theorem SB (hT:∀t,vo cx.P t (cx.TI t)) (hG:xU cx) (h:Rel cx m σ a w) {t:TypeId} {x i:Operand} (ho:o.op=.index t x i)
  (he:Sl (cx.TI t) (σ.ev cx.G x) (σ.ev cx.G i)=some (true,eff)):Done cx σ a w o eff:=by
 have hx:=wn hG h x;have hi:=wn hG h i;generalize σ.ev cx.G x=ex at he hx;generalize σ.ev cx.G i=ei at he hi;unfold Sl at he;split at he
 ·rename_i b k n
  obtain ⟨hx,_⟩:=hx.v_eq;obtain ⟨hi,_⟩:=hi.v_eq;cases hs:(cx.TI t).str with
  | false=>simp[hs] at he
  | true =>
   simp[hs] at he;obtain ⟨hn,rfl⟩:=he;obtain ⟨n0,n1⟩:=ut hn;have hu:=(hT t).str hs;refine Done.pure h (v:=.int .u8 (bt b n)) ?_ ⟨rfl,rfl⟩;have:=Ql b n.toNat (by omega);simp[execOp,ho,hx,hi,Instr.index,asIntOf,run_underlying hu,n0,this,bt]
 ·rename_i k l k' n
  obtain ⟨hi,_⟩:=hi.v_eq;split at he<;>try simp at he
  rename_i k2 mm harr;obtain ⟨⟨hn,hml⟩,rfl⟩:=he;obtain ⟨n0,n1⟩:=ut hn;have hml:=yx (x:=mm) (y:=l.length) (by simpa using hml);obtain ⟨_,_,et,it,h1,h2,h3,h4⟩:=(hT t).arr _ _ harr;simp only[RE,RD] at hx;refine Done.pure h (v:=.int k (l.getD n.toNat 0)) ?_ ⟨rfl,rfl⟩;have hlt:n.toNat<l.length:=by omega
  have hp:=Yd (P:=cx.P) (w:=w) (cs:=(l.map (Value.int k)).toArray) (off:=n.toNat) h4 h2;simp[Zc,hlt] at hp;simp[execOp,ho,hx,hi,Instr.index,asIntOf,run_underlying h1,n0,n1,vf h2,h3,hp,hlt]
 ·simp at he
def NumV (o:Option Int) (v:Option Value):Prop:=(o=none/\v=none)\/∃k n,o=some n/\v=some (.int k n)
theorem uQ {P:Program} {isS:Bool} {len cap:Nat} {lo hi:Option Int} {vl vh:Option Value} (hlo:NumV lo vl) (hhi:NumV hi vh) (hc:len<=cap)
  (hb:(zG len lo hi).1=true):(Instr.sliceBounds isS len cap vl vh none).run P w=.ok ((zG len lo hi).2.1,(zG len lo hi).2.2,cap) w /\
   (zG len lo hi).2.1<=(zG len lo hi).2.2/\(zG len lo hi).2.2<=len:=by
 simp only[zG,Bool.and_eq_true,decide_eq_true_eq] at hb;obtain ⟨⟨b1,b2⟩,b3⟩:=hb;refine ⟨?_,by simp only[zG]; omega,by simp only[zG]; omega⟩;rcases hlo with ⟨rfl,rfl⟩ | ⟨k,n,rfl,rfl⟩<;>rcases hhi with ⟨rfl,rfl⟩ | ⟨k',n',rfl,rfl⟩<;>simp only[Option.getD_some,Option.getD_none] at b1 b2 b3
 ·simp[Instr.sliceBounds,zG]
 ·have h1:0<=n':=by omega
  have h2:n'<=(cap:Int):=by omega
  simp[Instr.sliceBounds,Instr.sliceBound,asIntOf,zG,h1,h2]
 ·have h1:n<=(len:Int):=by omega
  simp[Instr.sliceBounds,Instr.sliceBound,asIntOf,zG,b1,h1]
 ·have h1:0<=n':=by omega
  have h2:n'<=(cap:Int):=by omega
  have h3:n<=(n'.toNat:Int):=by omega
  have h4:n<=max n' 0:=by omega
  simp[Instr.sliceBounds,Instr.sliceBound,asIntOf,zG,h1,h2,b1,h4]
theorem Tb (hG:xU cx) (h:Rel cx m σ a w) {x:Option Operand} {l:Option Int} (he:Yn (x.map (σ.ev cx.G))=some l):NumV l (x.map a.eval):=by
 cases x with
 | none=>simp[Yn] at he; subst he; exact .inl ⟨rfl,rfl⟩
 | some y =>
  have hy:=wn hG h y;simp only[Option.map_some] at he ⊢;generalize σ.ev cx.G y=ey at he hy;cases ey<;>try (simp[Yn] at he; done)
  rename_i d;cases d<;>try (simp[Yn] at he; done)
  rename_i c;cases c<;>try (simp[Yn] at he; done)
  rename_i v;cases v<;>try (simp[Yn] at he; done)
  simp[Yn] at he;subst he;obtain ⟨e,_⟩:=hy.v_eq;exact .inr ⟨_,_,rfl,by rw[e]⟩
theorem SlR.cut {α:Type} {good:Nat->Prop} {sz:Nat} {R:α->List Value->Prop} {l:List α} {a:Option Addr} {len cap:Nat} (h:SlR w good sz R l (.slice a len cap)) {lo hi:Nat} (h1:lo<=hi) (h2:hi<=l.length) :
  SlR w good sz R ((l.take hi).drop lo) (.slice (if cap=lo then a else a.map (·.add (lo*sz))) (hi-lo) (cap-lo)):=by
 obtain ⟨a',cap',e,hc,h⟩:=h;simp at e;obtain ⟨rfl,rfl,rfl⟩:=e;have hlen:((l.take hi).drop lo).length=hi-lo:=by simp; omega
 refine ⟨_,_,by rw[hlen],by rw[hlen]; omega,fun hne=>?_⟩;have hlt:lo<hi:=by
  rcases Nat.lt_or_ge lo hi with h' | h'
  ·exact h'
  ·exact absurd (List.length_eq_zero_iff.1 (by rw[hlen]; omega)) hne
 obtain ⟨b,off,ea,hb,h⟩:=h (by intro h0; subst h0; simp at h2; omega);refine ⟨b,off+lo*sz,by rw[if_neg (by omega),ea]; simp[ui],hb,fun i hi'=>?_⟩;rw[hlen] at hi';obtain ⟨us,u1,u2,u3⟩:=h (lo+i) (by omega);refine ⟨us,u1,?_,?_⟩
 ·rw[Nat.add_mul] at u2; rwa [Nat.add_assoc]
 ·simpa using u3
theorem SA (hT:∀t,vo cx.P t (cx.TI t)) (hG:xU cx) (h:Rel cx m σ a w) {t:TypeId} {x:Operand} {lo hi:Option Operand} (ho:o.op=.slice t x lo hi none)
  (he:YL (cx.TI t) σ (σ.ev cx.G x) (lo.map (σ.ev cx.G)) (hi.map (σ.ev cx.G))=some (true,eff)):Done cx σ a w o eff:=by
 have hx:=wn hG h x;generalize σ.ev cx.G x=ex at he hx;unfold YL at he;split at he<;>try simp at he
 rename_i l u hl hu;have hl:=Tb hG h hl;have hu:=Tb hG h hu;have run:∀{b:Option Addr} {len cap:Nat} {et:TypeId} {i:TypeInfo},a.eval x=.slice b len cap->cx.P.underlying t=some (.slice et)->cx.P.info? et=some i->len<=cap->
   (zG len l u).1=true->(execOp a.eval o).run cx.P w=.ok (.value (.slice (if cap=(zG len l u).2.1 then b else b.map (·.add ((zG len l u).2.1*i.size))) ((zG len l u).2.2-(zG len l u).2.1) (cap-(zG len l u).2.1))) w:=by
  intro b len cap et i e h1 h2 h3 hb;have:=(uQ (P:=cx.P) (w:=w) (isS:=true) hl hu h3 hb).1;simp[execOp,ho,e,Instr.sliceAt,Instr.slice,run_underlying h1,vf h2,this]
 split at he
 ·rename_i b
  obtain ⟨hx,_⟩:=hx.v_eq;cases hs:(cx.TI t).str with
  | false=>simp[hs] at he
  | true =>
   simp[hs] at he;obtain ⟨hb,rfl⟩:=he;have hu':=(hT t).str hs;have:=(uQ (P:=cx.P) (w:=w) (isS:=false) hl hu (Nat.le_refl b.size) hb).1;refine Done.pure h ?_ ⟨rfl,rfl⟩;simp[execOp,ho,hx,Instr.sliceAt,Instr.slice,run_underlying hu',this]
 ·rename_i e l'
  cases hz:(cx.TI t).elSz e with
  | false=>simp[hz] at he
  | true =>
   simp[hz] at he;obtain ⟨hb,rfl⟩:=he;obtain ⟨et,i,h1,h2,h3⟩:=Zs (hT t) hz;have hx':SlR w (cx.q σ m w).ok e.size (RT w (cx.q σ m w).ok (cx.q σ m w).okb m.me e) l' (a.eval x):=hx;obtain ⟨b,cap,ev,hc,_⟩:=id hx';obtain ⟨_,b1,b2⟩:=uQ (P:=cx.P) (w:=w) (isS:=true) hl hu hc hb;refine Done.pure h (run ev h1 h2 hc hb) ?_;rw[ev] at hx';rw[h3];exact hx'.cut b1 b2
 ·rename_i e l'
  cases hz:(cx.TI t).elSz e with
  | false=>simp[hz] at he
  | true =>
   simp[hz] at he;obtain ⟨hb,rfl⟩:=he;obtain ⟨et,i,h1,h2,h3⟩:=Zs (hT t) hz;have hx':SlR w (cx.q σ m w).okb e.size (RT w (cx.q σ m w).ok (cx.q σ m w).okb m.me e) l' (a.eval x):=hx;obtain ⟨b,cap,ev,hc,_⟩:=id hx';obtain ⟨_,b1,b2⟩:=uQ (P:=cx.P) (w:=w) (isS:=true) hl hu hc hb;refine Done.pure h (run ev h1 h2 hc hb) ?_;rw[ev] at hx';rw[h3];exact hx'.cut b1 b2
 ·rename_i s
  obtain ⟨hd,e1,e2⟩:=hx;split at he<;>try simp at he
  rename_i ow hown;cases hz:(cx.TI t).elSz ow.t with
  | false=>simp[hz] at he
  | true =>
   simp[hz] at he;obtain ⟨hb,rfl⟩:=he;obtain ⟨et,i,h1,h2,h3⟩:=Zs (hT t) hz;obtain ⟨hd',f1,l1,l2,l3,l4⟩:=h.own s ow hown;rw[show (cx.q σ m w).m.hd s=m.hd s from rfl] at e1;rw[e1] at f1;simp at f1;subst f1;rw[<-l1] at hb ⊢;obtain ⟨_,b1,b2⟩:=uQ (P:=cx.P) (w:=w) (isS:=true) hl hu l3 hb;refine Done.pure h (run e2 h1 h2 l3 hb) ⟨hd,e1,b1,b2,?_⟩;rw[h3,l2]
 ·simp at he
theorem tr_kids {w:World} {q:Q} {t:Ty} {x:t.T} {ks:List (LTr t.T)} {v:Value} (h:TrR w q.ok t.size (RT w q.ok q.okb q.m.me t) (.nd x ks) v) :
  ∃b off us kv,v=.pointer (some ⟨b,off,none⟩)/\q.ok b/\xc w b off (us++[kv])/\RT w q.ok q.okb q.m.me t x us/\SlR w q.ok (Ty.tr t).size (RT w q.ok q.okb q.m.me (.tr t)) ks kv:=by
 cases h with
 | @nd _ _ b off us a cap b' off' vals hb hl hc hx hcap ha hv hk =>
  exact ⟨b,off,us,_,rfl,hb,hc,hx,a,cap,rfl,hcap,fun hn=>⟨b',off',(ha hn).1,(ha hn).2,fun i hi=>⟨[vals i],rfl,⟨by simpa [Ty.size] using hv i hi,trivial⟩,vals i,rfl,hk i hi⟩⟩⟩
theorem tr_mk {w:World} {q:Q} {t:Ty} {x:t.T} {ks:List (LTr t.T)} {b off:Nat} {us:List Value} {kv:Value} (hb:q.ok b) (hc:xc w b off (us++[kv])) (hx:RT w q.ok q.okb q.m.me t x us) (hk:SlR w q.ok (Ty.tr t).size (RT w q.ok q.okb q.m.me (.tr t)) ks kv) :
  TrR w q.ok t.size (RT w q.ok q.okb q.m.me t) (.nd x ks) (.pointer (some ⟨b,off,none⟩)):=by
 obtain ⟨a,cap,e,hcap,h⟩:=hk;subst e;by_cases hn:ks=[]
 ·subst hn
  exact .nd (b':=0) (off':=0) (fun _=>.bool true) hb (RT.len t x us hx) hc hx hcap (fun h=>absurd rfl h) (fun i hi=>absurd hi (Nat.not_lt_zero _)) (fun i hi=>absurd hi (Nat.not_lt_zero _))
 ·obtain ⟨b',off',ea,hb',hi⟩:=h hn
  have ex:∀i:Nat,∃v,∀h:i<ks.length,w.cell? ⟨b',off'+i,none⟩=some v/\TrR w q.ok t.size (RT w q.ok q.okb q.m.me t) ks[i] v:=by
   intro i;by_cases h:i<ks.length
   ·obtain ⟨us',u1,u2,v,u3,u4⟩:=hi i h
    subst u3;exact ⟨v,fun _=>⟨by simpa [Ty.size] using u2.1,u4⟩⟩
   ·exact ⟨.bool true,fun h'=>absurd h' h⟩
  exact .nd (b':=b') (off':=off') (fun i=>(ex i).choose) hb (RT.len t x us hx) hc hx hcap (fun _=>⟨ea,hb'⟩) (fun i hi=>((ex i).choose_spec hi).1) (fun i hi=>((ex i).choose_spec hi).2)
theorem WY (hG:xU cx) (h:Rel cx m σ a w) {x:Operand} (ho:o.op=.nilCheck x)
  (he:(match σ.ev cx.G x with
  | .loc s off=>ent (.loc s off)
  | .adr l=>ent (.adr l)
  | .d (.c (.pt t y))=>ent (.adr (t.enc y []))
  | .d (.c (.tr t y))=>some (y.isNd,⟨.adr (t.enc (y.lab t.dflt) [.sl (.tr t) y.kids]),.none⟩)
  | _=>none)=some (true,eff)):Done cx σ a w o eff:=by
 have hx:=wn hG h x;generalize σ.ev cx.G x=ex at he hx;split at he<;>try simp at he
 ·obtain ⟨_,rfl⟩:=vu he
  obtain ⟨b,hb,e⟩:=hx;exact Done.pure h (by simp[execOp,ho,e]) ⟨b,hb,rfl⟩
 ·obtain ⟨_,rfl⟩:=vu he
  obtain ⟨b,off,vs,e,r⟩:=hx;exact Done.pure h (by simp[execOp,ho,e]) ⟨b,off,vs,rfl,r⟩
 ·obtain ⟨_,rfl⟩:=vu he
  obtain ⟨b,off,us,e,e2,e3,e4,e5⟩:=hx;exact Done.pure h (by simp[execOp,ho,e]) ⟨b,off,us,rfl,cx.q_ok σ m w b e2,e4,xJ e5,wM _ _ _ (by simp)⟩
 ·rename_i t y
  cases y with
  | nil=>simp[LTr.isNd] at he
  | nd y ks =>
   simp only[LTr.lab,LTr.kids,Prod.mk.injEq] at he;obtain ⟨_,rfl⟩:=he;obtain ⟨b,off,us,kv,e,e2,e3,e4,e5⟩:=tr_kids (q:=cx.q σ m w) hx;exact Done.pure h (by simp[execOp,ho,e]) ⟨b,off,us++[kv],rfl,cx.q_ok σ m w b e2,e3,Un t y _ us [kv] e4 ⟨e5,trivial⟩,wM _ _ _ (by simp[wJ])⟩
end
end Go.VS
namespace Go.VS
open Go IntKind
def Elems {α:Type} (R:α->List Value->Prop) (sz:Nat):List α->List Value->Prop
 | [],_=>True
 | x::L,cs=>∃us r,cs=us++r/\us.length=sz/\R x us/\Elems R sz L r
section u7
variable {α:Type} {R S:α->List Value->Prop} {sz:Nat}
theorem Elems.get:∀{L:List α} {cs:List Value} {i:Nat} (h:i<L.length),Elems R sz L cs->∃us r,cs.drop (i*sz)=us++r/\us.length=sz/\R L[i] us
 | _::_,_,0,_,⟨us,r,e,h1,h2,_⟩=>⟨us,r,by simpa using e,h1,h2⟩
 | _::L,_,i+1,h,⟨us,r,e,h1,_,h3⟩=>by
  obtain ⟨us',r',e',k1,k2⟩:=Elems.get (i:=i) (by simpa using h) h3;refine ⟨us',r',?_,k1,by simpa using k2⟩;rw[<-e',e,Nat.succ_mul,Nat.add_comm,<-List.drop_drop,<-h1,List.drop_left]
theorem Elems.mono (h:∀x us,R x us->S x us):∀{L:List α} {cs:List Value},Elems R sz L cs->Elems S sz L cs
 | [],_,_=>trivial
 | _::_,_,⟨us,r,e,h1,h2,h3⟩=>⟨us,r,e,h1,h _ _ h2,Elems.mono h h3⟩
theorem Elems.app:∀{L:List α} {cs:List Value} {M:List α} {ds:List Value},Elems R sz L cs->cs.length=L.length*sz->Elems R sz M ds->Elems R sz (L++M) (cs++ds)
 | [],cs,M,ds,_,hl,h=>by
  have:cs=[]:=List.eq_nil_of_length_eq_zero (by simpa using hl);subst this; simpa using h
 | _::L,_,M,ds,⟨us,r,e,h1,h2,h3⟩,hl,h=>by
  subst e;have:r.length=L.length*sz:=by simp[Nat.succ_mul] at hl; omega
  exact ⟨us,r++ds,by simp,h1,h2,Elems.app h3 this h⟩
theorem Elems.more:∀{L:List α} {cs ds:List Value},Elems R sz L cs->Elems R sz L (cs++ds)
 | [],_,_,_=>trivial
 | _::_,_,ds,⟨us,r,e,h1,h2,h3⟩=>⟨us,r++ds,by simp[e],h1,h2,Elems.more h3⟩
theorem Elems.set:∀{L:List α} {cs:List Value} {i:Nat} {x:α} {us:List Value},Elems R sz L cs->i<L.length->us.length=sz->R x us->
  Elems R sz (L.set i x) (cs.take (i*sz)++us++cs.drop (i*sz+us.length))
 | _::_,_,0,x,us,⟨us0,r,e,h1,_,h3⟩,_,h4,h5=>by
  subst e;refine ⟨us,r,?_,h4,h5,h3⟩;simp[h4,<-h1]
 | _::L,_,i+1,x,us,⟨us0,r,e,h1,h2,h3⟩,h,h4,h5=>by
  subst e;refine ⟨us0,r.take (i*sz)++us++r.drop (i*sz+us.length),?_,h1,h2,Elems.set h3 (by simpa using h) h4 h5⟩;rw[show (i+1)*sz=us0.length+i*sz by rw[h1,Nat.succ_mul,Nat.add_comm]];rw[List.take_append,List.drop_append];have e1:us0.take (us0.length+i*sz)=us0:=List.take_of_length_le (by omega);have e2:us0.drop (us0.length+i*sz+us.length)=[]:=List.drop_eq_nil_of_le (by omega);rw[e1,e2];simp only[List.nil_append,List.append_assoc];congr 2
  ·congr 1; omega
  ·congr 2; omega
theorem Elems.of {w:World} {b:Nat}:∀{L:List α} {off:Nat},(∀i (h:i<L.length),∃us,us.length=sz/\xc w b (off+i*sz) us/\R L[i] us)->
  ∃cs,cs.length=L.length*sz/\xc w b off cs/\Elems R sz L cs
 | [],_,_=>⟨[],by simp,trivial,trivial⟩
 | x::L,off,h=>by
  obtain ⟨us,u1,u2,u3⟩:=h 0 (by simp);obtain ⟨cs,c1,c2,c3⟩:=Elems.of (L:=L) (off:=off+sz) (fun i hi=>by
   obtain ⟨us,u1,u2,u3⟩:=h (i+1) (by simpa using hi);exact ⟨us,u1,by rwa [Nat.add_mul,Nat.one_mul,Nat.add_comm (i*sz),<-Nat.add_assoc] at u2,by simpa using u3⟩)
  refine ⟨us++cs,by simp[u1,c1,Nat.succ_mul,Nat.add_comm],?_,⟨us,cs,rfl,u1,by simpa using u3,c3⟩⟩;refine wT fun j v hj=>?_
  rw[List.getElem?_append] at hj;split at hj
  ·have:=xR u2 hj; simpa using this
  ·have:=xR c2 hj
   rwa [show off+sz+(j-us.length)=off+j by omega] at this
theorem Elems.at {w:World} {b off:Nat} {L:List α} {cs:List Value} (h:Elems R sz L cs) (hc:xc w b off cs) (i:Nat) (hi:i<L.length) :
  ∃us,us.length=sz/\xc w b (off+i*sz) us/\R L[i] us:=by
 obtain ⟨us,r,e,h1,h2⟩:=h.get hi;refine ⟨us,h1,?_,h2⟩;have:=vB (i*sz) hc;rw[e] at this;have:=qt us.length this;simpa using this
theorem TY (z:Array Value) (n:Nat):(List.range ((n+1)*z.size)).map (fun k=>z[k%z.size]!)=z.toList++(List.range (n*z.size)).map (fun k=>z[k%z.size]!):=by
 rw[Nat.succ_mul,Nat.add_comm,List.range_add,List.map_append,List.map_map];congr 1
 ·apply List.ext_getElem?
  intro j;by_cases hj:j<z.size
  ·simp[hj,Nat.mod_eq_of_lt hj]
  ·simp[hj]
 ·apply List.map_congr_left
  intro k _;simp
theorem Elems.zeros {z:Array Value} {x:α} (hz:z.size=sz) (hx:R x z.toList):∀(n m:Nat),n<=m->Elems R sz (List.replicate n x) ((List.range (m*sz)).map (fun k=>z[k%z.size]!)):=by
 subst hz;intro n;induction n with
 | zero=>intro m _; trivial
 | succ n ih =>
  intro m h;cases m with
  | zero=>omega
  | succ m=>exact ⟨z.toList,_,TY z m,by simp,hx,ih m (by omega)⟩
end u7
section
variable {cx:Cx} {Hh:Hn} {m:Gh} {σ:St} {a:Act} {w:World} {o:Oper} {eff:Eff}
theorem Rel.same (h:Rel cx m σ a w) {w':World} (hsz:w.heap.size<=w'.heap.size) (hold:∀b,b<w.heap.size->w'.heap[b]?=w.heap[b]?)
  (h1:w'.os=w.os) (h2:w'.tape=w.tape) (h3:w'.output=w.output):Rel cx m σ a w'/\Le w w' (cx.q σ m w) (cx.q σ m w'):=by
 have hq:QLe w w' (cx.q σ m w) (cx.q σ m w'):=Cx.qle hsz (fun _ _ h=>h) (fun b hb _ _=>hold b hb);have hle:Le w w' (cx.q σ m w) (cx.q σ m w'):={toQLe:=hq,hd:=fun _ _ h=>h,blk:=fun _ _ h=>h,sz:=fun b cs T hb=>⟨cs,by rw[hold b (h.lt hb)]; exact hb,rfl⟩,mp:=fun b es c hb=>by rw[hold b (h.lt hb)]; exact hb};refine ⟨?_,hle⟩;exact {
  size:=h.size
  defers:=h.defers
  env:=fun t=>RE.mono hle (h.env t)
  box:=fun x d hx=>by
   obtain ⟨b,cs,T,e1,e2,e3⟩:=h.box x d hx;exact ⟨b,cs,T,e1,by rw[hold b (h.lt e2)]; exact e2,RB.mono hle.toQLeH e3⟩
  nobox:=h.nobox
  own:=fun x o2 hx=>by
   obtain ⟨hh',e',l⟩:=h.own x o2 hx;refine ⟨hh',e',l.mono hq fun b off e1 hc=>?_⟩;obtain ⟨b2,off2,cs,T,e3,e4,_⟩:=l.2.2.2 hc;rw[e1] at e3;simp at e3;obtain ⟨rfl,rfl⟩:=e3;exact hold b (h.lt e4)
  noown:=h.noown
  dom:=fun p k hp=>⟨Nat.lt_of_lt_of_le (h.dom p k hp).1 hsz,(h.dom p k hp).2⟩
  inj:=h.inj
  mem:=fun b hb hi hm=>by rw[hold b (Nat.lt_of_lt_of_le hb h.grown)]; exact h.mem b hb hi hm
  grown:=Nat.le_trans h.grown hsz
  oldX:=h.oldX
  argna:=h.argna
  arg:=h.arg
  argp:=h.argp
  argh:=h.argh
  iosz:=fun b cs T hi h0=>let ⟨cs1,h1,s1⟩:=h.iosz b cs T hi h0; let ⟨cs2,h2,s2⟩:=hle.sz b cs1 T h1; ⟨cs2,h2,s2.trans s1⟩
  os:=h1.trans h.os
  tape:=h2.trans h.tape
  output:=h3.trans h.output
  me:=h.me
  melt:=h.melt
  mebox:=h.mebox}
theorem Rel.fresh (h:Rel cx m σ a w):¬qz σ m w.heap.size:=fun ⟨p,hp⟩=>by have:=(h.dom p _ hp).1; omega
theorem RD.box {q:Q}:∀{d:DV} {v:Value},RD w q d v->RB w q d v.cells.toList
 | .c c,v,h=>by
  refine ⟨v,?_,h⟩;have:=RC.scalar h;cases v<;>simp_all [scalar,Value.cells]
 | .g l,_,⟨cs,e,h⟩=>by subst e; exact h
 | .a k l,_,h=>by simp only[RD] at h; subst h; simp[RB,Value.cells]
theorem RB.cells {q:Q}:∀{d:DV} {vs:List Value},RB w q d vs->All2 (RC w q) (cellsOf d) vs
 | .c c,_,⟨v,e,h⟩=>by subst e; exact ⟨h,trivial⟩
 | .g l,_,h=>h
 | .a k l,_,h=>by
  simp only[RB] at h;subst h;induction l with
  | nil=>trivial
  | cons n l ih=>exact ⟨⟨rfl,rfl⟩,ih⟩
theorem RD.cells {q:Q} {d:DV} {v:Value} (h:RD w q d v):All2 (RC w q) (cellsOf d) v.cells.toList:=h.box.cells
theorem TF {s:Nat} {d:DV} {cs:Array Value} {T:TypeId} (h:Rel cx m σ a w) (hd:o.dst=some s) (hna:cx.na<=s)
  (hr:(execOp a.eval o).run cx.P w=.ok (.value (.pointer (some ⟨w.heap.size,0,none⟩))) (w.alloc (.cells cs T)))
  (hb:RB w (cx.q σ m w) d cs.toList):Done cx σ a w o ⟨.loc s 0,.newBox d⟩:=by
 refine ⟨_,_,{m with blk:=upd m.blk s (some w.heap.size),me:=uT cx m s w.heap.size},.inl hr,fun σ1 h1=>?_⟩;simp only[vL,hd] at h1;split at h1<;>simp at h1;rename_i hs;subst h1;exact ⟨(h.newBox (w':=w.alloc (.cells cs T)) hs hna rfl rfl rfl rfl hb).1,w.heap.size,by simp[Cx.q,yp],rfl⟩
theorem za7 (hna:cx.na=Hh.na) (hG:xU cx) (h:Rel cx m σ a w) {t:TypeId} {x:Operand} (ho:o.op=.box t x)
  (he:(match σ.ev cx.G x,o.dst with
   | .d y,some s=>match Hh.BT s with
    | some t=>match (Ty.pair t (.sl (.tr t))).decA (cellsOf y) with
     | some z=>ZD (.tr t (.nd z.1 z.2))
     | none=>none
    | none=>bif Nat.ble Hh.na s then some (true,(⟨.loc s 0,.newBox y⟩:Eff)) else none
   | _,_=>none)=some (true,eff)):Done cx σ a w o eff:=by
 have hx:=wn hG h x;generalize σ.ev cx.G x=ex at he hx;split at he<;>try simp at he
 rename_i y s hd;split at he
 ·rename_i t0 hbt
  split at he<;>try simp at he
  rename_i z hz;obtain ⟨_,rfl⟩:=Zq he;have hrun:(execOp a.eval o).run cx.P w=.ok (.value (.pointer (some ⟨w.heap.size,0,none⟩))) (w.alloc (.cells (a.eval x).cells t)):=by simp[execOp,ho,Instr.box,newVar,newRow]
  obtain ⟨r1,r2⟩:=h.same (w':=w.alloc (.cells (a.eval x).cells t)) (by simp) (fun b hb=>heap_alloc_old w _ b hb) rfl rfl rfl;refine ⟨_,_,m,.inl hrun,fun σ1 hm=>?_⟩;simp only[vL,Option.some.injEq] at hm;subst hm;refine ⟨r1,?_⟩;obtain ⟨us,ws,e,h1,v,hv,hsl⟩:=RT.mono r2.ok r2.okb r2.me _ _ _ (wh (cx.q_ok σ m w) hz (RB.cells (RD.box hx)));subst hv;have hc:=xH (heap_alloc_new w (.cells (a.eval x).cells t));rw[e] at hc;exact tr_mk (q:=cx.q σ m (w.alloc (.cells (a.eval x).cells t))) ⟨by simp,h.fresh,fun hx=>by have:=h.oldX _ (.inl hx); have:=h.grown; omega,fun hx=>by have:=h.oldX _ (.inr hx); have:=h.grown; omega⟩ hc h1 hsl
 ·cases hb:Nat.ble Hh.na s with
  | false=>simp[hb] at he
  | true =>
  simp[hb] at he;subst he;exact TF (T:=t) (cs:=(a.eval x).cells) h hd (by rw[hna]; exact Nat.le_of_ble_eq_true hb) (by simp[execOp,ho,Instr.box,newVar,newRow]) (RD.box hx)
theorem All2.consts {q:Q}:∀{zs:List Value},(∀v∈zs,scalar v=true)->All2 (RC w q) (zs.map C.v) zs
 | [],_=>trivial
 | v::zs,h=>⟨⟨rfl,h v (by simp)⟩,All2.consts fun u hu=>h u (by simp[hu])⟩
theorem zero_ok {q:Q} {t:TypeId} (hT:vo cx.P t (cx.TI t)) (hz:(cx.TI t).zs.isEmpty=false):∃i z,cx.P.info? t=some i/\i.zero=some z/\RB w q (VJ (cx.TI t)) z.cells.toList:=by
 unfold VJ;split
 ·rename_i k n harr
  obtain ⟨ha,hzs,_⟩:=hT.arr _ _ harr;obtain ⟨i,d,zc,h1,h2,h3,_⟩:=hT.ag ha;exact ⟨i,_,h1,h2,by simp[RB,Value.cells,h3,hzs]⟩
 ·rename_i harr
  split
  ·rename_i v ha hv
   obtain ⟨i,d,h1,h2,_,_,_,h3⟩:=hT.sc _ hv ha;refine ⟨i,v,h1,h2,v,?_,rfl,h3⟩;cases v<;>simp_all [scalar,Value.cells]
  ·rename_i hno
   cases ha:(cx.TI t).agg with
   | true =>
    obtain ⟨i,d,zc,h1,h2,h3,_,_,_,h4⟩:=hT.ag ha;refine ⟨i,_,h1,h2,?_⟩;simp only[RB,Value.cells,h3];exact All2.consts h4
   | false =>
    obtain ⟨z,h1⟩:=hT.one ha (by intro h0; simp[h0] at hz);exact absurd h1 (hno z ha)
theorem SE (hna:cx.na=Hh.na) (hT:∀t,vo cx.P t (cx.TI t)) (h:Rel cx m σ a w) {t:TypeId} (ho:o.op=.alloc t)
  (he:(match o.dst with
   | some s=>bif (cx.TI t).zs.isEmpty||!(Nat.ble Hh.na s) then none else some (true,(⟨.loc s 0,.newBox (VJ (cx.TI t))⟩:Eff))
   | none=>none)=some (true,eff)):Done cx σ a w o eff:=by
 split at he<;>try simp at he
 rename_i s hd;cases hz:(cx.TI t).zs.isEmpty with
 | true=>simp[hz] at he
 | false =>
  cases hb:Nat.ble Hh.na s with
  | false=>simp[hz,hb] at he
  | true =>
  simp[hz,hb] at he;subst he;obtain ⟨i,z,h1,h2,h3⟩:=zero_ok (w:=w) (q:=cx.q σ m w) (hT t) hz;exact TF (T:=t) (cs:=z.cells) h hd (by rw[hna]; exact Nat.le_of_ble_eq_true hb) (by simp[execOp,ho,Instr.alloc,zeroValue,typeInfo,h1,h2,newVar,newRow]) h3
end
end Go.VS
namespace Go.VS
open Go IntKind
section
variable {cx:Cx} {Hh:Hn} {m:Gh} {σ:St} {a:Act} {w:World} {o:Oper} {eff:Eff}
theorem uc {l vs:List Value} {n:Nat} (h:n+vs.length<=l.length) (k:Nat) :
  (l.take n++vs++l.drop (n+vs.length))[k]?=if n<=k/\k<n+vs.length then vs[k-n]? else l[k]?:=by
 have hn:(l.take n).length=n:=by simp; omega
 rw[List.append_assoc,List.getElem?_append,hn];by_cases h1:k<n
 ·rw[if_pos h1,if_neg (by omega),List.getElem?_take,if_pos h1]
 ·rw[if_neg h1,List.getElem?_append]
  by_cases h2:k-n<vs.length
  ·rw[if_pos h2,if_pos (by omega)]
  ·rw[if_neg h2,if_neg (by omega),List.getElem?_drop]
   congr 1; omega
theorem ZX (v:Value) (off:Nat) (cs:Array Value) (h:off+v.cells.size<=cs.size) :
  (v.cells.zipIdx.foldl (fun cs (x:Value×Nat)=>cs.setIfInBounds (off+x.2) x.1) cs).toList=cs.toList.take off++v.cells.toList++cs.toList.drop (off+v.cells.toList.length):=by
 rw[<-Array.foldl_toList,Array.toList_zipIdx];obtain ⟨h1,h2⟩:=Great.foldl_set off v.cells.toList 0 cs;apply List.ext_getElem?;intro k;rw[uc (by simpa using h)];have:=h2 k;simp only[Nat.add_zero] at this;rw[Array.getElem?_toList,this];simp only[Array.getElem?_toList];by_cases hk:off<=k/\k<off+v.cells.toList.length
 ·rw[if_pos hk,if_pos ⟨hk.1,hk.2,by have:=hk.2; simp at this; omega⟩]
 ·rw[if_neg hk,if_neg (by intro h; exact hk ⟨h.1,h.2.1⟩)]
def RK (w:World) (q:Q) (x:Nat×DV) (y:Nat×Value):Prop:=x.1=y.1/\RD w q x.2 y.2
theorem X0 (hG:xU cx) (h:Rel cx m σ a w):∀{ps:List (Nat×Operand)} {l:List (Nat×DV)},vA cx.G σ ps=some l->
  All2 (RK w (cx.q σ m w)) l (ps.map fun x=>(x.1,a.eval x.2))
 | [],l,e=>by simp[vA] at e; subst e; trivial
 | (i,x)::r,l,e=>by
  have hx:=wn hG h x;unfold vA at e;generalize σ.ev cx.G x=ex at e hx;split at e<;>try simp at e
  split at e<;>simp at e;rename_i hr;subst e;exact ⟨⟨rfl,hx⟩,X0 hG h hr⟩
theorem YK {q:Q} {cells:List C} {vs us:List Value} {off:Nat} {mm:List C} (h:All2 (RC w q) cells vs) (hm:All2 (RC w q) mm us) :
  All2 (RC w q) (XT cells off mm) (vs.take off++us++vs.drop (off+us.length)):=by
 unfold XT;rw[hm.len];exact ((h.take off).app hm).app (h.drop _)
theorem Wq {q:Q} {fs:List (Nat×Nat×Bool)} {place:Nat->Option (Nat×Nat)} (hp:∀(j off sz:Nat) (ag:Bool),fs[j]?=some (off,sz,ag)->place j=some (off,sz)) :
  ∀{l:List (Nat×DV)} {ps:List (Nat×Value)} {cells cells':List C} {vs:Array Value},Vu fs cells l=some cells'->All2 (RK w q) l ps->All2 (RC w q) cells vs.toList->
  ∃vs',Instr.fill place vs ps=some vs'/\All2 (RC w q) cells' vs'.toList
 | [],[],cells,cells',vs,e,_,h=>by simp[Vu] at e; subst e; exact ⟨vs,rfl,h⟩
 | (i,d)::r,(i',v)::ps,cells,cells',vs,e,⟨⟨e1,hd⟩,hr⟩,h=>by
  simp only at e1;subst e1;unfold Vu at e;split at e<;>try simp at e
  rename_i off sz ag hf;cases hb:Nat.beq (cellsOf d).length sz&&Nat.ble (off+sz) cells.length with
  | false=>simp[hb] at e
  | true =>
   simp[hb] at e;simp only[Bool.and_eq_true] at hb;have h1:=yx hb.1;have h2:=Nat.le_of_ble_eq_true hb.2;have hl:=hd.cells.len;have hlen:=h.len;simp only[Array.length_toList] at hl hlen;have hle:off+v.cells.size<=vs.size:=by omega
   have hs:=ZX v off vs hle;obtain ⟨vs',k1,k2⟩:=Wq hp (vs:=v.cells.zipIdx.foldl (fun cs (x:Value×Nat)=>cs.setIfInBounds (off+x.2) x.1) vs) e hr (by
    rw[hs]; exact YK h hd.cells)
   refine ⟨vs',?_,k2⟩;simp only[Instr.fill,hp _ _ _ _ hf];rw[if_neg (by simp; omega)];exact k1
 | [],_::_,_,_,_,_,h,_=>h.elim
 | _::_,[],_,_,_,_,h,_=>h.elim
theorem Vo {q:Q} {k:IntKind} {place:Nat->Option (Nat×Nat)} (hp:∀j,place j=some (j*1,1)) :
  ∀{l:List (Nat×DV)} {ps:List (Nat×Value)} {is is':List Int} {vs:Array Value},qj k is l=some is'->All2 (RK w q) l ps->vs.toList=is.map (Value.int k)->
  ∃vs',Instr.fill place vs ps=some vs'/\vs'.toList=is'.map (Value.int k)
 | [],[],is,is',vs,e,_,h=>by simp[qj] at e; subst e; exact ⟨vs,rfl,h⟩
 | (i,d)::r,(i',v)::ps,is,is',vs,e,⟨⟨e1,hd⟩,hr⟩,h=>by
  simp only at e1;subst e1;cases d with
  | c c =>
   cases c with
   | v x =>
    cases x with
    | int k' n =>
     simp only[qj] at e;split at e<;>try simp at e
     rename_i hk;subst hk;cases hb:Nat.blt i is.length with
     | false=>simp[hb] at e
     | true =>
      simp[hb] at e;have hi:i<is.length:=by have:=Nat.le_of_ble_eq_true hb; omega
      obtain ⟨rfl,_⟩:=hd;have hlen:vs.size=is.length:=by have:=congrArg List.length h; simpa using this
      have hs:=ZX (.int k' n) i vs (by simp[Value.cells]; omega);obtain ⟨vs',k1,k2⟩:=Vo hp (vs:=(Value.int k' n).cells.zipIdx.foldl (fun cs (x:Value×Nat)=>cs.setIfInBounds (i+x.2) x.1) vs) e hr (by
       rw[hs,h];apply List.ext_getElem?;intro j;rw[uc (by simp[Value.cells]; omega),List.map_set,List.getElem?_set];by_cases hj:i=j
       ·subst hj; rw[if_pos ⟨Nat.le_refl _,by simp[Value.cells]⟩]; simp[Value.cells,hi]
       ·rw[if_neg (by simp[Value.cells]; omega)]; simp[hj])
      refine ⟨vs',?_,k2⟩;simp only[Instr.fill,hp];rw[if_neg (by simp[Value.cells]; omega),Nat.mul_one];exact k1
    | _=>simp[qj] at e
   | _=>simp[qj] at e
  | _=>simp[qj] at e
 | [],_::_,_,_,_,_,h,_=>h.elim
 | _::_,[],_,_,_,_,h,_=>h.elim
theorem TC {q:Q} (hok:∀b,q.ok b->q.okb b) {t:Ty} {place:Nat->Option (Nat×Nat)} (hp:∀j,place j=some (j*t.size,t.size)) :
  ∀{l:List (Nat×DV)} {ps:List (Nat×Value)} {xs xs':List t.T} {vs:Array Value},u7 t xs l=some xs'->All2 (RK w q) l ps->vs.size=xs.length*t.size->
  Elems (RT w q.ok q.okb q.m.me t) t.size xs vs.toList->
  ∃vs',Instr.fill place vs ps=some vs'/\Elems (RT w q.ok q.okb q.m.me t) t.size xs' vs'.toList/\vs'.size=vs.size/\xs'.length=xs.length
 | [],[],is,is',vs,e,_,_,h=>by simp[u7] at e; subst e; exact ⟨vs,rfl,h,rfl,rfl⟩
 | (i,d)::r,(i',v)::ps,xs,xs',vs,e,⟨⟨e1,hd⟩,hr⟩,hz,h=>by
  simp only at e1;subst e1;unfold u7 at e;split at e<;>try simp at e
  rename_i x hx;cases hb:Nat.blt i xs.length with
  | false=>simp[hb] at e
  | true =>
   simp[hb] at e;have hi:i<xs.length:=by have:=Nat.le_of_ble_eq_true hb; omega
   have hrt:=wh hok hx hd.cells;have hl:=RT.len _ _ _ hrt;have hle:i*t.size+v.cells.size<=vs.size:=by
    simp only[Array.length_toList] at hl;rw[hl,hz];have:=Nat.mul_le_mul_right t.size hi;simp only[Nat.succ_mul] at this;exact this
   have hs:=ZX v (i*t.size) vs hle;have hsz:(v.cells.zipIdx.foldl (fun cs (x:Value×Nat)=>cs.setIfInBounds (i*t.size+x.2) x.1) vs).size=vs.size:=by
    have:=congrArg List.length hs;simp at this;simp;omega
   obtain ⟨vs',k1,k2,k3,k4⟩:=TC hok hp (vs:=v.cells.zipIdx.foldl (fun cs (x:Value×Nat)=>cs.setIfInBounds (i*t.size+x.2) x.1) vs) e hr (by
    rw[hsz,hz]; simp) (by rw[hs]; exact h.set hi hl hrt)
   refine ⟨vs',?_,k2,k3.trans hsz,by simpa using k4⟩;simp only[Instr.fill,hp];simp only[Array.length_toList] at hl;rw[if_neg (by simp; omega)];exact k1
 | [],_::_,_,_,_,_,h,_,_=>h.elim
 | _::_,[],_,_,_,_,h,_,_=>h.elim
theorem Xc {P:Program}:∀(fs:List Field),(∀f∈fs,∃i,P.info? f.type=some i)->∃places,fs.mapM (fun f=>(P.info? f.type).map fun i=>(f.offset,i.size))=some places /\
  ∀(j:Nat) f i,fs[j]?=some f->P.info? f.type=some i->places[j]?=some (f.offset,i.size)
 | [],_=>⟨[],rfl,fun _ _ _ h=>by simp at h⟩
 | f::fs,h=>by
  obtain ⟨i,hi⟩:=h f (by simp);obtain ⟨pl,p1,p2⟩:=Xc fs fun g hg=>h g (by simp[hg])
  refine ⟨(f.offset,i.size)::pl,by simp[hi,p1],fun j g i' hj hi'=>?_⟩;cases j with
  | zero=>simp at hj; subst hj; rw[hi] at hi'; simp at hi'; subst hi'; rfl
  | succ j=>simp at hj ⊢; exact p2 j g i' hj hi'
theorem SD (hT:∀t,vo cx.P t (cx.TI t)) (hG:xU cx) (h:Rel cx m σ a w) {t:TypeId} {ps:Array (Nat×Operand)} (ho:o.op=.build t ps)
  (he:(match vA cx.G σ ps.toList with
   | some l=>match (cx.TI t).arr with
    | some (k,n)=>match qj k (List.replicate n 0) l with
     | some is=>ent (.d (.a k is))
     | none=>none
    | none=>bif (cx.TI t).agg then (match Vu (tJ (cx.TI t)) ((cx.TI t).zs.map .v) l with
     | some cs=>ent (.d (.g cs))
     | none=>none) else none
   | none=>none)=some (true,eff)):Done cx σ a w o eff:=by
 split at he<;>try simp at he
 rename_i l hl;have hp:=X0 hG h hl;have fin:∀{cells:Array Value} {d:DV},cx.P.built t (ps.map fun x=>(x.1,a.eval x.2)).toList=some cells->RD w (cx.q σ m w) d (.agg cells)->Done cx σ a w o ⟨.d d,.none⟩:=by
  intro cells d hb hr;refine Done.pure h (v:=.agg cells) ?_ hr;have:=run_build w t _ cells hb;simp only[execOp,ho];simp only[Sem.run_bind];rw[show (Array.map (fun (x:Nat×Operand)=>match x with | (i,x)=>(i,a.eval x)) ps)=ps.map fun x=>(x.1,a.eval x.2) from rfl,this]
  rfl
 split at he
 ·rename_i k n harr
  split at he<;>try simp at he
  rename_i is his;obtain ⟨_,rfl⟩:=vu he;obtain ⟨ha,hzs,et,ie,h1,h2,h3,h4⟩:=(hT t).arr _ _ harr;obtain ⟨i,d,zc,g1,g2,g3,g4,g5,_⟩:=(hT t).ag ha;obtain ⟨cells,c1,c2⟩:=Vo (w:=w) (q:=cx.q σ m w) (place:=fun i=>some (i*ie.size,ie.size)) (by intro j; rw[h3]) (vs:=zc) his hp (by rw[g3,hzs]; simp);refine fin (cells:=cells) ?_ ?_
  ·unfold Program.built
   simp only[g1,h1,g2,h2,Value.cells];simpa using c1
  ·simp only[RD]
   congr 1
   apply Array.ext';simp[c2]
 ·rename_i harr
  cases ha:(cx.TI t).agg with
  | false=>simp[ha] at he
  | true =>
   simp only[ha,cond_true] at he;split at he<;>try simp at he
   rename_i cs hcs;obtain ⟨_,rfl⟩:=vu he;obtain ⟨i,d,zc,g1,g2,g3,g4,g5,_,g6⟩:=(hT t).ag ha;cases hal:(cx.TI t).alen with
   | some p =>
    obtain ⟨mm,sz⟩:=p;obtain ⟨et,ie,h1,h2,h3⟩:=(hT t).alen _ _ hal;have hpl:tJ (cx.TI t)=(List.range mm).map fun j=>(j*sz,sz,true):=by unfold tJ; rw[hal]
    rw[hpl] at hcs;obtain ⟨cells,c1,c2⟩:=Wq (w:=w) (q:=cx.q σ m w) (place:=fun i=>some (i*ie.size,ie.size)) (fun j off sz' ag hj=>by
     simp only[List.getElem?_map,Option.map_eq_some_iff] at hj;obtain ⟨j',hj1,hj2⟩:=hj;have:j'=j:=by
      rw[List.getElem?_range] at hj1<;>first | (simpa using hj1.symm) | skip
      have:=List.getElem?_eq_some_iff.1 hj1;obtain ⟨hlt,_⟩:=this;simpa using hlt
     subst this;simp only[Prod.mk.injEq] at hj2;rw[h3,hj2.1,hj2.2.1]) (vs:=zc) hcs hp (by rw[g3]; exact All2.consts g6)
    refine fin (cells:=cells) ?_ ⟨cells,rfl,c2⟩;unfold Program.built;simp only[g1,h1,g2,h2,Value.cells];simpa using c1
   | none =>
   rw[show tJ (cx.TI t)=(cx.TI t).fields by unfold tJ; rw[hal]] at hcs;obtain ⟨fs,f1,f2⟩:=(hT t).struct ha harr hal;have hfi:∀f∈fs.toList,∃i,cx.P.info? f.type=some i:=by
    intro f hf;obtain ⟨j,hj⟩:=List.getElem?_of_mem hf;obtain ⟨off,sz,ag,e⟩:=f2 j f (by simpa using hj);obtain ⟨_,fs',f',i',_,k1,k2,_,k3,_⟩:=(hT t).field _ _ _ _ e;rw[f1] at k1;simp at k1;subst k1;have:f'=f:=by rw[show fs[j]?=some f by simpa using hj] at k2; simpa using k2.symm
    subst this;exact ⟨i',k3⟩
   obtain ⟨places,p1,p2⟩:=Xc fs.toList hfi;obtain ⟨cells,c1,c2⟩:=Wq (w:=w) (q:=cx.q σ m w) (place:=(places.toArray[·]?)) (fun j off sz ag hj=>by
    obtain ⟨_,fs',f',i',_,k1,k2,k3,k4,k5,_⟩:=(hT t).field _ _ _ _ hj;rw[f1] at k1;simp at k1;subst k1;have:=p2 j f' i' (by simpa using k2) k4;simp[this,k3,k5]) (vs:=zc) hcs hp (by rw[g3]; exact All2.consts g6)
   refine fin (cells:=cells) ?_ ⟨cells,rfl,c2⟩;unfold Program.built;simp only[g1,f1,g2,p1,Value.cells];simpa using c1
theorem Yj (n:Nat) (f:Nat->Value):((Array.range n).map f).toList=(List.range n).map f:=by simp
theorem VY (f:Nat->Value):(Array.range 0).map f=#[]:=by apply Array.ext'; simp
theorem Yy {ts:TS} {t:Ty} {P:Program} {ty:Nat} (hT:vo P ty ts) (h:ts.el=some t):∃et i z,P.underlying ty=some (.slice et)/\P.info? et=some i/\i.zero=some z/\z.cells.size=t.size/\i.size=t.size/\0<t.size/\i.bytes<=128 /\
  ∀w ok okb me,RT w ok okb me t t.dflt z.cells.toList:=hT.el t h
theorem tw {s:Nat} {t:Ty} {l:List t.T} {cs:Array Value} {T:TypeId} {cap:Nat} {w':World} (h:Rel cx m σ a w) (hd:o.dst=some s)
  (hr:(execOp a.eval o).run cx.P w=.ok (.value (.slice (some ⟨w.heap.size,0,none⟩) l.length cap)) w') (hh:w'.heap=w.heap.push (.cells cs T (0,0)))
  (h1:w'.os=w.os) (h2:w'.tape=w.tape) (h3:w'.output=w.output) (hc:l.length<=cap) (hs:cap*t.size<=cs.size)
  (he:Elems (RT w (cx.q σ m w).ok (cx.q σ m w).okb m.me t) t.size l cs.toList):Done cx σ a w o ⟨.d (.c (.own s)),.newOwn t l⟩:=by
 let hdr:Hd:=⟨some ⟨w.heap.size,0,none⟩,l.length,cap,t.size⟩
 refine ⟨_,w',{m with hd:=upd m.hd s (some hdr)},.inl hr,fun σ1 hm=>?_⟩;simp only[vL,hd] at hm;split at hm<;>try simp at hm
 rename_i hs';cases hp':uF s with
 | true=>simp[hp'] at hm
 | false =>
 simp[hp'] at hm;subst hm;have hnew:=qM hh;obtain ⟨r1,r2⟩:=h.newOwn (w':=w') (s:=s) (o:=⟨t,l⟩) (hd:=hdr) hs' hp' (by rw[hh]; simp) (fun b hb=>uk hh hb) h1 h2 h3
  (fun b off e _=>by simp only[hdr,Option.some.injEq,Addr.mk.injEq] at e; rw[<-e.1,hh]; simp)
  (fun hq=>by
   refine ⟨rfl,rfl,hc,fun _=>⟨w.heap.size,0,cs,T,rfl,hnew,by simpa [hdr] using hs,fun i hi=>?_⟩⟩;obtain ⟨us,u1,u2,u3⟩:=(Elems.mono (fun x us h=>RT.mono hq.ok hq.okb hq.me t x us h) he).at (xH hnew) i hi;exact ⟨us,u1,u2,u3⟩)
 exact ⟨r1,hdr,by simp[Cx.q,yp],rfl⟩
theorem qY (hT:∀t,vo cx.P t (cx.TI t)) (hG:xU cx) (h:Rel cx m σ a w) {t:TypeId} {n:Nat} {ps:Array (Nat×Operand)} (ho:o.op=.buildSlice t n ps) {e:Ty} {l:List (Nat×DV)} {xs:List e.T}
  (hel:(cx.TI t).el=some e) (hl:vA cx.G σ ps.toList=some l) (hxs:u7 e (qE e n) l=some xs) (hb:n*e.size<=16777216) :
  ∃et cells,cx.P.underlying t=some (.slice et)/\xs.length=n/\cells.size=n*e.size/\(execOp a.eval o).run cx.P w=.ok (.value (.slice (some ⟨w.heap.size,0,none⟩) xs.length n)) (w.alloc (.cells cells et))/\Elems (RT w (cx.q σ m w).ok (cx.q σ m w).okb m.me e) e.size xs cells.toList:=by
 have hp:=X0 hG h hl;obtain ⟨et,i,z,h1,h2,h3,h4,h5,h6,_,h7⟩:=Yy (hT t) hel;have hz:(qE e n).length=n:=by simp[qE]
 obtain ⟨cells,c1,c2,c3,c4⟩:=TC (w:=w) (cx.q_ok σ m w) (place:=fun j=>some (j*i.size,i.size)) (fun j=>by rw[h5])
  (vs:=(Array.range (n*i.size)).map (fun k=>z.cells[k%z.cells.size]!)) hxs hp (by simp[hz,h5]) (by
   rw[Yj,h5];exact Elems.zeros h4 (h7 _ _ _ _) n n (Nat.le_refl _))
 have hlen:xs.length=n:=by rw[c4,hz]
 have hcs:cells.size=n*e.size:=by rw[c3]; simp[h5]
 refine ⟨et,cells,h1,hlen,hcs,?_,c2⟩;rw[hlen];have hsmall:¬n*i.size>2^24:=by rw[h5]; omega
 have key:(Instr.buildSlice t n (ps.map fun x=>(x.1,a.eval x.2))).run cx.P w=.ok (.slice (some ⟨w.heap.size,0,none⟩) n n) (w.alloc (.cells cells et)):=by
  by_cases h0:n*i.size=0
  ·have c1':=c1
   rw[h0,VY] at c1';have c1'':Instr.fill (fun i_1=>some (i_1*i.size,i.size)) #[] (List.map (fun x=>(x.fst,a.eval x.snd)) ps.toList)=some cells:=c1';simp[Instr.buildSlice,run_underlying h1,sizeOf,typeInfo,h2,h0,newRow];rw[VY,c1''];simp
  ·exact run_buildSlice w t et n _ cells i z h1 h2 h3 hsmall h0 (by simpa using c1)
 simp only[execOp,ho];simp only[Sem.run_bind];rw[show (Array.map (fun (x:Nat×Operand)=>match x with | (i,x)=>(i,a.eval x)) ps)=ps.map fun x=>(x.1,a.eval x.2) from rfl,key]
 rfl
theorem Xt (hT:∀t,vo cx.P t (cx.TI t)) (hG:xU cx) (h:Rel cx m σ a w) {t:TypeId} {n:Nat} {ps:Array (Nat×Operand)} (ho:o.op=.buildSlice t n ps)
  (he:(match (cx.TI t).el,o.dst,vA cx.G σ ps.toList with
   | some e,some s,some l=>match u7 e (qE e n) l with
    | some xs=>bif Nat.ble (n*e.size) 16777216 then (bif Hh.MU s then some (true,(⟨.d (.c (.own s)),.newOwn e xs⟩:Eff)) else ZD (.sl e xs)) else none
    | none=>none
   | _,_,_=>none)=some (true,eff)):Done cx σ a w o eff:=by
 split at he<;>try simp at he
 rename_i e s l hel hd hl;split at he<;>try simp at he
 rename_i xs hxs;cases hb:Nat.ble (n*e.size) 16777216 with
 | false=>simp[hb] at he
 | true =>
  simp only[hb,cond_true] at he;have hb:=Nat.le_of_ble_eq_true hb;obtain ⟨et,cells,h1,hlen,hcs,hrun,c2⟩:=qY hT hG h ho hel hl hxs hb;cases hmu:Hh.MU s with
  | true =>
   simp[hmu] at he;subst he;exact tw h hd hrun rfl rfl rfl rfl (by omega) (by omega) c2
  | false =>
   simp only[hmu,cond_false] at he;obtain ⟨_,rfl⟩:=Zq he;obtain ⟨r1,r2⟩:=h.same (w':=w.alloc (.cells cells et)) (by simp) (fun b hb=>heap_alloc_old w _ b hb) rfl rfl rfl;refine ⟨_,_,m,.inl hrun,fun σ1 hm=>?_⟩;simp only[vL,Option.some.injEq] at hm;subst hm;refine ⟨r1,⟨_,_,rfl,by omega,fun _=>⟨w.heap.size,0,rfl,?_,fun j hj=>?_⟩⟩⟩
   ·exact ⟨by simp,h.fresh,fun hx=>by have:=h.oldX _ (.inl hx); have:=h.grown; omega,fun hx=>by have:=h.oldX _ (.inr hx); have:=h.grown; omega⟩
   ·exact (Elems.mono (fun x us h=>RT.mono r2.ok r2.okb r2.me e x us h) c2).at (xH (heap_alloc_new w _)) j hj
theorem WB (hT:∀t,vo cx.P t (cx.TI t)) (hG:xU cx) (h:Rel cx m σ a w) {t:TypeId} {n c:Operand} (ho:o.op=.makeSlice t n c)
  (he:Q0 (cx.TI t) o.dst (σ.ev cx.G n) (σ.ev cx.G c)=some (true,eff)):Done cx σ a w o eff:=by
 have hn:=wn hG h n;have hc:=wn hG h c;generalize σ.ev cx.G n=en at he hn;generalize σ.ev cx.G c=ec at he hc;unfold Q0 at he;split at he<;>simp at he;rename_i e s k l k' cap hel hd;obtain ⟨⟨⟨h0,h1⟩,h2⟩,rfl⟩:=he;obtain ⟨hn,_⟩:=hn.v_eq;obtain ⟨hc,_⟩:=hc.v_eq;obtain ⟨et,i,z,g1,g2,g3,g4,g5,g6,g7,g8⟩:=Yy (hT t) hel;have h2':cap<=1099511627776:=by simpa [xp] using h2
 have hzl:(qE e l.toNat).length=l.toNat:=by simp[qE]
 refine tw (cap:=cap.toNat) (cs:=(Array.range (cap.toNat*i.size)).map (fun k=>z.cells[k%z.cells.size]!)) (T:=et) (w':=w.alloc (.cells ((Array.range (cap.toNat*i.size)).map (fun k=>z.cells[k%z.cells.size]!)) et)) h hd ?_ rfl rfl rfl rfl (by rw[hzl]; omega) (by simp[g5]) ?_
 ·have wl:i64.wrap l=l:=by rw[IntKind.wrap_i64]; omega
  have wc:i64.wrap cap=cap:=by rw[IntKind.wrap_i64]; omega
  have n1:¬cap<0:=by omega
  have n2:¬(281474976710656<(i.bytes:Int)*cap):=by
   have:(i.bytes:Int)*cap<=128*1099511627776:=by
    have a1:(i.bytes:Int)*cap<=128*cap:=Int.mul_le_mul_of_nonneg_right (by omega) (by omega);omega
   omega
  have n3:¬l<0:=by omega
  have n4:¬cap<l:=by omega
  rw[hzl];by_cases h00:cap.toNat*i.size=0
  ·simp[execOp,ho,hn,hc,Instr.makeSlice,run_underlying g1,asInt,asIntOf,typeInfo,g2,sizeOf,wl,wc,n1,n2,n3,n4,h00,newRow]
   rw[VY,VY]
  ·simp[execOp,ho,hn,hc,Instr.makeSlice,run_underlying g1,asInt,asIntOf,typeInfo,g2,sizeOf,zeroValue,g3,wl,wc,n1,n2,n3,n4,h00,newRow]
 ·rw[Yj,g5]
  exact Elems.zeros g4 (g8 _ _ _ _) _ _ (by omega)
end
end Go.VS
