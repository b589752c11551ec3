import Derived.Test.YtiliboioeieeoaaGreatDoorQVd
set_option maxRecDepth 100000
namespace Go.VS
open Go
abbrev sP_ (s:Sig):=TA s.args->Option s.R
theorem pS_ {a b:Nat} (h:a<b):∃k,b=k+1:=⟨b-1,by omega⟩
theorem pT_ {α:Type} {x:α} {l:List α} {n:Nat} (h:(x::l).length<n+1):l.length<n:=by simp at h; omega
abbrev xB:Ty:=.pair .str (.int .i64)
abbrev yp:Ty:=.pair (.int .i64) (.int .i64)
abbrev za:Ty:=.pair (.int .i64) (.pair (.int .i64) (.pair (.int .i64) (.pair (.int .i64) (.pair (.sl yp) (.int .i64)))))
abbrev zO:Ty:=.pair .str (.pair (.sl xB) (.pair (.int .i64) (.sl za)))
abbrev zd:Ty:=.pair (.int .i64) (.int .u64)
abbrev zg:Ty:=.pair zd .bool
abbrev xD:Ty:=.pair za (.pair (.bsl (.int .i64)) (.bsl .bool))
abbrev wt:Ty:=.pair (.int .i64) (.pair (.int .i64) (.pair .bool .bool))
def vJ:Nat:=53
def vI:Nat:=50
def uv:Nat:=51
def vP:Nat:=55
def ut:Nat:=52
def uo:Nat:=56
def vO:Nat:=54
def Yd:Nat:=96
def qM:Nat:=94
def tT:Nat:=175
def tE:Nat:=173
def Xn:Nat:=132
def yH:Nat:=149
def vM:Nat:=148
def wy:Nat:=151
def um:Nat:=146
def uc:Nat:=145
def uh:Nat:=153
def wE:Nat:=152
def vE:Nat:=150
def vq:Nat:=147
def v6:Nat:=154
def vT:Nat:=130
def wP:Nat:=95
def uF:Nat:=131
def uK:List wt.T:=[(0,0,false,false),(0,1000000000000,false,false),(0,1000000000000,false,false),(0,-1,false,false),(0,-1,false,false),(1,0,false,false),(2,0,false,false),(2,0,false,false),(2,0,false,false),(-1,0,false,false),(-1,0,false,false),(1,1000000000000,false,false),(1,1000000000000,false,false),(1,0,true,false),(1,0,true,false),(1,10000,false,false),(3,1000000000000,false,true)]
end Go.VS
