import Derived.Test.YtiliboioeieeoaaGreatDoorQVd
set_option linter.unusedVariables false
set_option linter.unusedSimpArgs false
set_option linter.unusedSectionVars false
set_option linter.unusedVariables false
set_option maxRecDepth 100000
namespace Go.VS
open Go
@[reducible] def yr:Ty:=.pair .str (.int .i64)
@[reducible] def zN:Ty:=.pair (.int .i64) (.int .i64)
@[reducible] def zb:Ty:=.pair (.int .i64) (.pair (.int .i64) (.pair (.int .i64) (.pair (.int .i64) (.pair (.sl zN) (.int .i64)))))
@[reducible] def zZ:Ty:=.pair .str (.pair (.sl yr) (.pair (.int .i64) (.sl zb)))
@[reducible] def zd:Ty:=.pair (.int .i64) (.int .u64)
@[reducible] def zQ:Ty:=.pair zd .bool
@[reducible] def yt:Ty:=.pair zb (.pair (.bsl (.int .i64)) (.bsl .bool))
@[reducible] def yS:Ty:=.pair (.int .i64) (.pair (.int .i64) (.pair .bool .bool))
def xY:Nat:=53
def xX:Nat:=50
def wG:Nat:=51
def wa:Nat:=55
def wF:Nat:=52
def wy:Nat:=56
def x9:Nat:=54
def qk:Nat:=96
def uQ:Nat:=94
def vS:Nat:=175
def vF:Nat:=173
def vR:Nat:=31
def Zy:Nat:=132
def zM:Nat:=149
def x5:Nat:=148
def yX:Nat:=151
def wx:Nat:=146
def wm:Nat:=145
def wv:Nat:=153
def y6:Nat:=152
def xU:Nat:=150
def xP:Nat:=147
def wi:Nat:=154
def xJ:Nat:=130
def xn:Nat:=95
def wP:Nat:=131
def vc:List yS.T:=[(0,0,false,false),(0,1000000000000,false,false),(0,1000000000000,false,false),(0,-1,false,false),(0,-1,false,false),(1,0,false,false),(2,0,false,false),(2,0,false,false),(2,0,false,false),(-1,0,false,false),(-1,0,false,false),(1,1000000000000,false,false),(1,1000000000000,false,false),(1,0,true,false),(1,0,true,false),(1,10000,false,false),(3,1000000000000,false,true)]
end Go.VS
