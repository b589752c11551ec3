import Derived.Test.YtiliboioeieeoaaGreatDoorQVd
set_option linter.unusedVariables false
set_option linter.unusedSimpArgs false
set_option linter.unusedSectionVars false
set_option linter.unusedVariables false
set_option maxRecDepth 100000
namespace Go.VS
open Go
@[reducible] def yv:Ty:=.pair .str (.int .i64)
@[reducible] def zL:Ty:=.pair (.int .i64) (.int .i64)
@[reducible] def zb:Ty:=.pair (.int .i64) (.pair (.int .i64) (.pair (.int .i64) (.pair (.int .i64) (.pair (.sl zL) (.int .i64)))))
@[reducible] def zQ:Ty:=.pair .str (.pair (.sl yv) (.pair (.int .i64) (.sl zb)))
@[reducible] def zd:Ty:=.pair (.int .i64) (.int .u64)
@[reducible] def zO:Ty:=.pair zd .bool
@[reducible] def yo:Ty:=.pair zb (.pair (.bsl (.int .i64)) (.bsl .bool))
@[reducible] def yQ:Ty:=.pair (.int .i64) (.pair (.int .i64) (.pair .bool .bool))
def xV:Nat:=53
def xU:Nat:=50
def wF:Nat:=51
def x5:Nat:=55
def wE:Nat:=52
def ww:Nat:=56
def xZ:Nat:=54
def qa:Nat:=96
def uI:Nat:=94
def vL:Nat:=175
def vA:Nat:=173
def Zk:Nat:=132
def zK:Nat:=149
def xX:Nat:=148
def yU:Nat:=151
def wv:Nat:=146
def wj:Nat:=145
def wt:Nat:=153
def yY:Nat:=152
def xR:Nat:=150
def xM:Nat:=147
def we:Nat:=154
def xH:Nat:=130
def xl:Nat:=95
def wO:Nat:=131
def w9:List yQ.T:=[(0,0,false,false),(0,1000000000000,false,false),(0,1000000000000,false,false),(0,-1,false,false),(0,-1,false,false),(1,0,false,false),(2,0,false,false),(2,0,false,false),(2,0,false,false),(-1,0,false,false),(-1,0,false,false),(1,1000000000000,false,false),(1,1000000000000,false,false),(1,0,true,false),(1,0,true,false),(1,10000,false,false),(3,1000000000000,false,true)]
end Go.VS
