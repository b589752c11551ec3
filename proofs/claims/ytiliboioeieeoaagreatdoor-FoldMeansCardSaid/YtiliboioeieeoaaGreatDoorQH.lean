import Derived.Test.YtiliboioeieeoaaGreatDoorQVd
set_option linter.unusedVariables false
set_option linter.unusedSimpArgs false
set_option linter.unusedSectionVars false
set_option linter.unusedVariables false
set_option maxRecDepth 100000
namespace Go.VS
open Go
@[reducible] def yy:Ty:=.pair .str (.int .i64)
@[reducible] def zN:Ty:=.pair (.int .i64) (.int .i64)
@[reducible] def zb:Ty:=.pair (.int .i64) (.pair (.int .i64) (.pair (.int .i64) (.pair (.int .i64) (.pair (.sl zN) (.int .i64)))))
@[reducible] def zL:Ty:=.pair .str (.pair (.sl yy) (.pair (.int .i64) (.sl zb)))
@[reducible] def zd:Ty:=.pair (.int .i64) (.int .u64)
@[reducible] def zU:Ty:=.pair zd .bool
@[reducible] def yt:Ty:=.pair zb (.pair (.bsl (.int .i64)) (.bsl .bool))
@[reducible] def yW:Ty:=.pair (.int .i64) (.pair (.int .i64) (.pair .bool .bool))
def wg:Nat:=53
def we:Nat:=50
def wR:Nat:=51
def wn:Nat:=55
def wQ:Nat:=52
def wI:Nat:=56
def wm:Nat:=54
def qt:Nat:=96
def uU:Nat:=94
def v6:Nat:=175
def vO:Nat:=173
def ZI:Nat:=132
def zO:Nat:=149
def wj:Nat:=148
def y6:Nat:=151
def wH:Nat:=146
def wA:Nat:=145
def wF:Nat:=153
def xc:Nat:=152
def wa:Nat:=150
def xY:Nat:=147
def wy:Nat:=154
def xS:Nat:=130
def xx:Nat:=95
def wZ:Nat:=131
def vn:List yW.T:=[(0,0,false,false),(0,1000000000000,false,false),(0,1000000000000,false,false),(0,-1,false,false),(0,-1,false,false),(1,0,false,false),(2,0,false,false),(2,0,false,false),(2,0,false,false),(-1,0,false,false),(-1,0,false,false),(1,1000000000000,false,false),(1,1000000000000,false,false),(1,0,true,false),(1,0,true,false),(1,10000,false,false),(3,1000000000000,false,true)]
end Go.VS
