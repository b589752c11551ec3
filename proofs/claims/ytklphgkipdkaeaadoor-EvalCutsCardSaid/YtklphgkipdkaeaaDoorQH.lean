import Derived.Test.YtklphgkipdkaeaaDoorQVc
set_option linter.unusedVariables false
set_option linter.unusedSimpArgs false
set_option linter.unusedSectionVars false
set_option linter.unusedVariables false
set_option maxRecDepth 100000
namespace Go.VS
open Go
@[reducible] def zO:Ty:=.pair (.int .i64) (.int .i64)
@[reducible] def zm:Ty:=.pair (.int .i64) (.pair (.int .i64) (.pair (.int .i64) (.pair (.int .i64) (.pair (.sl zO) (.int .i64)))))
@[reducible] def yK:Ty:=.pair .str (.int .i64)
@[reducible] def ya:Ty:=.pair .str (.pair (.sl yK) (.pair (.int .i64) (.sl zm)))
@[reducible] def za:Ty:=.pair (.int .i64) (.int .u64)
@[reducible] def yd:Ty:=.pair za .bool
@[reducible] def zZ:Ty:=.pair zm (.pair (.bsl (.int .i64)) (.bsl .bool))
@[reducible] def yC:Ty:=.pair (.int .i64) (.pair (.int .i64) (.pair .bool .bool))
def wP:Nat:=84
def wK:Nat:=82
def qf:Nat:=74
def zB:Nat:=61
def xB:Nat:=60
def yu:Nat:=63
def xO:Nat:=58
def xI:Nat:=57
def xL:Nat:=65
def yw:Nat:=64
def xu:Nat:=62
def xm:Nat:=59
def xG:Nat:=66
def xt:Nat:=12
def xV:Nat:=73
def wM:List yC.T:=[(0,0,false,false),(0,1000000000000,false,false),(0,1000000000000,false,false),(0,-1,false,false),(0,-1,false,false),(1,0,false,false),(2,0,false,false),(2,0,false,false),(2,0,false,false),(-1,0,false,false),(-1,0,false,false),(1,1000000000000,false,false),(1,1000000000000,false,false),(1,0,true,false),(1,0,true,false),(1,10000,false,false),(3,1000000000000,false,true)]
end Go.VS
