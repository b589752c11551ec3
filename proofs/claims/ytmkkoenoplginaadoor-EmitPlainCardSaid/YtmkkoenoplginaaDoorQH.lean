import Derived.Test.YtmkkoenoplginaaDoorQVd
set_option linter.unusedVariables false
set_option linter.unusedSimpArgs false
set_option linter.unusedSectionVars false
set_option linter.unusedVariables false
set_option maxRecDepth 100000
namespace Go.VS
open Go
@[reducible] def yZ:Ty:=.pair .str (.int .i64)
@[reducible] def zy:Ty:=.pair (.int .i64) (.int .i64)
@[reducible] def zo:Ty:=.pair (.int .i64) (.pair (.int .i64) (.pair (.int .i64) (.pair (.int .i64) (.pair (.sl zy) (.int .i64)))))
@[reducible] def zI:Ty:=.pair .str (.pair (.sl yZ) (.pair (.int .i64) (.sl zo)))
@[reducible] def zg:Ty:=.pair (.int .i64) (.int .u64)
@[reducible] def zK:Ty:=.pair (.int .i64) zy
@[reducible] def zD:Ty:=.pair (.int .i64) (.pair (.int .i64) (.pair (.sl (.int .i64)) (.pair (.sl zg) (.pair (.sl (.sl zy)) (.sl zK)))))
@[reducible] def yq:Ty:=.pair zg .bool
@[reducible] def ym:Ty:=.pair zo (.pair (.bsl (.int .i64)) (.bsl .bool))
@[reducible] def yE:Ty:=.pair (.int .i64) (.pair (.int .i64) (.pair .bool .bool))
def xi:Nat:=27
def xF:Nat:=26
def xV:Nat:=22
def xR:Nat:=21
def we:Nat:=28
def y9:Nat:=23
def tk:Nat:=73
def xg:Nat:=25
def yB:Nat:=24
def x9:Nat:=29
def va:Nat:=88
def wR:Nat:=86
def qp:Nat:=69
def zH:Nat:=50
def xJ:Nat:=49
def yN:Nat:=52
def xU:Nat:=47
def xO:Nat:=46
def xQ:Nat:=54
def yP:Nat:=53
def xG:Nat:=51
def xA:Nat:=48
def xN:Nat:=55
def xM:Nat:=72
def wd:Nat:=68
def x6:List yE.T:=[(0,0,false,false),(0,1000000000000,false,false),(0,1000000000000,false,false),(0,-1,false,false),(0,-1,false,false),(1,0,false,false),(2,0,false,false),(2,0,false,false),(2,0,false,false),(-1,0,false,false),(-1,0,false,false),(1,1000000000000,false,false),(1,1000000000000,false,false),(1,0,true,false),(1,0,true,false),(1,10000,false,false),(3,1000000000000,false,true)]
end Go.VS
