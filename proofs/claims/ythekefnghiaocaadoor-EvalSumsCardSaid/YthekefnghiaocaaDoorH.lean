import Derived.Test.YthekefnghiaocaaDoorVb
set_option linter.unusedVariables false
set_option linter.unusedSimpArgs false
set_option linter.unusedSectionVars false
set_option linter.unusedVariables false
set_option maxRecDepth 100000
namespace Go.VS
open Go
@[reducible] def tDim:Ty:=.pair .str (.int .i64)
@[reducible] def tTier:Ty:=.pair (.int .i64) (.int .i64)
@[reducible] def tNode:Ty:=.pair (.int .i64) (.pair (.int .i64) (.pair (.int .i64) (.pair (.int .i64) (.pair (.sl tTier) (.int .i64)))))
@[reducible] def tPlan:Ty:=.pair .str (.pair (.sl tDim) (.pair (.int .i64) (.sl tNode)))
@[reducible] def tWide:Ty:=.pair (.int .i64) (.int .u64)
@[reducible] def tBound_meter:Ty:=.pair tWide .bool
@[reducible] def tUnits_node:Ty:=.pair tNode (.pair (.bsl (.int .i64)) (.bsl .bool))
@[reducible] def tTree_asks:Ty:=.pair (.int .i64) (.pair (.int .i64) (.pair .bool .bool))
def fn_scan_inner:Nat:=87
def fn_scan_letter:Nat:=85
def fn_tree_head_c1:Nat:=77
def fn_units_node_alike:Nat:=63
def fn_units_node_blocks:Nat:=62
def fn_units_node_counted:Nat:=65
def fn_units_node_money:Nat:=60
def fn_units_node_number:Nat:=59
def fn_units_node_off:Nat:=67
def fn_units_node_priced:Nat:=66
def fn_units_node_product:Nat:=64
def fn_units_node_quantity:Nat:=61
def fn_units_node_test:Nat:=68
def fn_wide_Cmp:Nat:=13
def cl_tree_head_c1:Nat:=76
def kindsL:List tTree_asks.T:=[(0,0,false,false),(0,1000000000000,false,false),(0,1000000000000,false,false),(0,-1,false,false),(0,-1,false,false),(1,0,false,false),(2,0,false,false),(2,0,false,false),(2,0,false,false),(-1,0,false,false),(-1,0,false,false),(1,1000000000000,false,false),(1,1000000000000,false,false),(1,0,true,false),(1,0,true,false),(1,10000,false,false),(3,1000000000000,false,true)]
end Go.VS
