import Derived.Test.YteppclpeidfhgaaGreatDoorQVc
set_option linter.unusedVariables false
set_option linter.unusedSimpArgs false
set_option linter.unusedSectionVars false
set_option linter.unusedVariables false
set_option maxRecDepth 100000
namespace Go.VS
open Go
@[reducible] def zg:Ty:=.pair (.int .i64) (.int .u64)
@[reducible] def zo:Ty:=.pair zg (.pair zg zg)
@[reducible] def zj:Ty:=.pair (.int .i64) zo
@[reducible] def zN:Ty:=.pair (.int .i64) (.pair (.int .i64) (.sl zj))
@[reducible] def xG:Ty:=.pair (.int .i64) (.pair (.sl (.int .i64)) (.sl (.int .i64)))
@[reducible] def wK:Ty:=.pair .str (.int .i64)
@[reducible] def xH:Ty:=.pair (.int .i64) (.int .i64)
@[reducible] def zT:Ty:=.pair (.int .i64) (.pair (.int .i64) (.pair (.int .i64) (.pair (.int .i64) (.pair (.sl xH) (.int .i64)))))
@[reducible] def xZ:Ty:=.pair .str (.pair (.sl wK) (.pair (.int .i64) (.sl zT)))
@[reducible] def za:Ty:=.pair zT (.pair zg (.int .i64))
@[reducible] def xq:Ty:=.pair zg .bool
@[reducible] def yJ:Ty:=.pair zT (.pair (.bsl (.int .i64)) (.bsl .bool))
@[reducible] def wn:Ty:=.pair (.int .i64) (.pair (.int .i64) (.pair .bool .bool))
def wM:Nat:=20
def vi:Nat:=73
def wz:Nat:=80
def wQ:Nat:=76
def wY:Nat:=77
def vg:Nat:=75
def vf:Nat:=72
def ve:Nat:=82
def vM:Nat:=130
def wX:Nat:=78
def vd:Nat:=74
def wW:Nat:=83
def vI:Nat:=161
def wV:Nat:=79
def wH:Nat:=81
def qL:Nat:=181
def qo:Nat:=179
def Ym:Nat:=149
def yv:Nat:=111
def wU:Nat:=110
def xX:Nat:=113
def vc:Nat:=108
def wT:Nat:=107
def vz:Nat:=115
def wa:Nat:=114
def wP:Nat:=112
def wG:Nat:=109
def vq:Nat:=116
def vN:Nat:=129
def tz:Nat:=160
def Yp:Nat:=148
def uW:List wn.T:=[(0,0,false,false),(0,1000000000000,false,false),(0,1000000000000,false,false),(0,-1,false,false),(0,-1,false,false),(1,0,false,false),(2,0,false,false),(2,0,false,false),(2,0,false,false),(-1,0,false,false),(-1,0,false,false),(1,1000000000000,false,false),(1,1000000000000,false,false),(1,0,true,false),(1,0,true,false),(1,10000,false,false),(3,1000000000000,false,true)]
end Go.VS
