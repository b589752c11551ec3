import Derived.Test.YtmkkoenoplginaaGreatDoorQVd
set_option linter.unusedVariables false
set_option linter.unusedSimpArgs false
set_option linter.unusedSectionVars false
set_option linter.unusedVariables false
set_option maxRecDepth 100000
namespace Go.VS
open Go
@[reducible] def xd:Ty:=.pair .str (.int .i64)
@[reducible] def zo:Ty:=.pair (.int .i64) (.int .i64)
@[reducible] def zr:Ty:=.pair (.int .i64) (.pair (.int .i64) (.pair (.int .i64) (.pair (.int .i64) (.pair (.sl zo) (.int .i64)))))
@[reducible] def zI:Ty:=.pair .str (.pair (.sl xd) (.pair (.int .i64) (.sl zr)))
@[reducible] def zf:Ty:=.pair (.int .i64) (.int .u64)
@[reducible] def zM:Ty:=.pair (.int .i64) zo
@[reducible] def zi:Ty:=.pair (.int .i64) (.pair (.int .i64) (.pair (.sl (.int .i64)) (.pair (.sl zf) (.pair (.sl (.sl zo)) (.sl zM)))))
@[reducible] def yv:Ty:=.pair zf .bool
@[reducible] def yq:Ty:=.pair zr (.pair (.bsl (.int .i64)) (.bsl .bool))
@[reducible] def yG:Ty:=.pair (.int .i64) (.pair (.int .i64) (.pair .bool .bool))
def xq:Nat:=31
def xL:Nat:=30
def wd:Nat:=26
def x5:Nat:=25
def wq:Nat:=32
def xi:Nat:=27
def tG:Nat:=76
def xn:Nat:=29
def yH:Nat:=28
def wk:Nat:=33
def vm:Nat:=87
def vc:Nat:=85
def qB:Nat:=57
def zK:Nat:=64
def xQ:Nat:=63
def yS:Nat:=66
def x9:Nat:=61
def xX:Nat:=60
def xZ:Nat:=68
def yU:Nat:=67
def xM:Nat:=65
def xG:Nat:=62
def xW:Nat:=69
def xV:Nat:=75
def wo:Nat:=56
def we:List yG.T:=[(0,0,false,false),(0,1000000000000,false,false),(0,1000000000000,false,false),(0,-1,false,false),(0,-1,false,false),(1,0,false,false),(2,0,false,false),(2,0,false,false),(2,0,false,false),(-1,0,false,false),(-1,0,false,false),(1,1000000000000,false,false),(1,1000000000000,false,false),(1,0,true,false),(1,0,true,false),(1,10000,false,false),(3,1000000000000,false,true)]
end Go.VS
