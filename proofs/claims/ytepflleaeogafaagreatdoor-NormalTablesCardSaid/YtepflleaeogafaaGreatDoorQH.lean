import Derived.Test.YtepflleaeogafaaGreatDoorQVc
set_option linter.unusedVariables false
set_option linter.unusedSimpArgs false
set_option linter.unusedSectionVars false
set_option linter.unusedVariables false
set_option maxRecDepth 100000
namespace Go.VS
open Go
@[reducible] def wV:Ty:=.pair .str (.int .i64)
@[reducible] def yp:Ty:=.pair (.int .i64) (.int .i64)
@[reducible] def zx:Ty:=.pair (.int .i64) (.pair (.int .i64) (.pair (.int .i64) (.pair (.int .i64) (.pair (.sl yp) (.int .i64)))))
@[reducible] def yr:Ty:=.pair .str (.pair (.sl wV) (.pair (.int .i64) (.sl zx)))
@[reducible] def zh:Ty:=.pair (.int .i64) (.int .u64)
@[reducible] def zf:Ty:=.pair zh (.pair zh zh)
@[reducible] def zo:Ty:=.pair (.int .i64) zf
@[reducible] def wY:Ty:=.pair (.int .i64) (.pair (.int .i64) (.sl zo))
@[reducible] def za:Ty:=.pair zx (.pair zh (.int .i64))
@[reducible] def zj:Ty:=.pair zh .bool
@[reducible] def xM:Ty:=.pair zx (.pair (.bsl (.int .i64)) (.bsl .bool))
@[reducible] def vg:Ty:=.pair (.int .i64) (.pair (.int .i64) (.pair .bool .bool))
def Yd:Nat:=35
def uQ:Nat:=50
def vR:Nat:=57
def uz:Nat:=53
def uH:Nat:=54
def uP:Nat:=52
def uO:Nat:=49
def uN:Nat:=59
def qE:Nat:=95
def uG:Nat:=55
def uM:Nat:=51
def uF:Nat:=60
def qy:Nat:=148
def uE:Nat:=56
def ut:Nat:=58
def qM:Nat:=185
def qx:Nat:=183
def X3:Nat:=141
def yI:Nat:=134
def uD:Nat:=133
def w9:Nat:=136
def ta:Nat:=131
def uW:Nat:=130
def uZ:Nat:=138
def vf:Nat:=137
def uy:Nat:=135
def ur:Nat:=132
def uU:Nat:=139
def vF:Nat:=94
def vP:Nat:=147
def tD:Nat:=140
def qu:List vg.T:=[(0,0,false,false),(0,1000000000000,false,false),(0,1000000000000,false,false),(0,-1,false,false),(0,-1,false,false),(1,0,false,false),(2,0,false,false),(2,0,false,false),(2,0,false,false),(-1,0,false,false),(-1,0,false,false),(1,1000000000000,false,false),(1,1000000000000,false,false),(1,0,true,false),(1,0,true,false),(1,10000,false,false),(3,1000000000000,false,true)]
end Go.VS
