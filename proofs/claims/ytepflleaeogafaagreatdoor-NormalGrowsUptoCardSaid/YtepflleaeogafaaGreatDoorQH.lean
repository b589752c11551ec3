import Derived.Test.YtepflleaeogafaaGreatDoorQVc
set_option linter.unusedVariables false
set_option linter.unusedSimpArgs false
set_option linter.unusedSectionVars false
set_option linter.unusedVariables false
set_option maxRecDepth 100000
namespace Go.VS
open Go
@[reducible] def tDim:Ty:=.pair .str (.int .i64)
@[reducible] def tTier:Ty:=.pair (.int .i64) (.int .i64)
@[reducible] def tNode:Ty:=.pair (.int .i64) (.pair (.int .i64) (.pair (.int .i64) (.pair (.int .i64) (.pair (.sl tTier) (.int .i64)))))
@[reducible] def tPlan:Ty:=.pair .str (.pair (.sl tDim) (.pair (.int .i64) (.sl tNode)))
@[reducible] def tWide:Ty:=.pair (.int .i64) (.int .u64)
@[reducible] def tLine:Ty:=.pair tWide (.pair tWide tWide)
@[reducible] def tPiece:Ty:=.pair (.int .i64) tLine
@[reducible] def tTable:Ty:=.pair (.int .i64) (.pair (.int .i64) (.sl tPiece))
@[reducible] def tNormal_maker:Ty:=.pair tNode (.pair tWide (.int .i64))
@[reducible] def tBound_meter:Ty:=.pair tWide .bool
@[reducible] def tUnits_node:Ty:=.pair tNode (.pair (.bsl (.int .i64)) (.bsl .bool))
@[reducible] def tTree_asks:Ty:=.pair (.int .i64) (.pair (.int .i64) (.pair .bool .bool))
def fn_normal_At_c1:Nat:=35
def fn_normal_maker_add:Nat:=50
def fn_normal_maker_graduated:Nat:=57
def fn_normal_maker_least:Nat:=53
def fn_normal_maker_most:Nat:=54
def fn_normal_maker_mul:Nat:=52
def fn_normal_maker_neg:Nat:=49
def fn_normal_maker_off:Nat:=59
def fn_normal_maker_off_c1:Nat:=95
def fn_normal_maker_over:Nat:=55
def fn_normal_maker_sub:Nat:=51
def fn_normal_maker_test:Nat:=60
def fn_normal_maker_tier_c1:Nat:=148
def fn_normal_maker_upto:Nat:=56
def fn_normal_maker_volume:Nat:=58
def fn_scan_inner:Nat:=185
def fn_scan_letter:Nat:=183
def fn_tree_head_c1:Nat:=141
def fn_units_node_alike:Nat:=134
def fn_units_node_blocks:Nat:=133
def fn_units_node_counted:Nat:=136
def fn_units_node_money:Nat:=131
def fn_units_node_number:Nat:=130
def fn_units_node_off:Nat:=138
def fn_units_node_priced:Nat:=137
def fn_units_node_product:Nat:=135
def fn_units_node_quantity:Nat:=132
def fn_units_node_test:Nat:=139
def cl_normal_maker_off_c1:Nat:=94
def cl_normal_maker_tier_c1:Nat:=147
def cl_tree_head_c1:Nat:=140
def kindsL:List tTree_asks.T:=[(0,0,false,false),(0,1000000000000,false,false),(0,1000000000000,false,false),(0,-1,false,false),(0,-1,false,false),(1,0,false,false),(2,0,false,false),(2,0,false,false),(2,0,false,false),(-1,0,false,false),(-1,0,false,false),(1,1000000000000,false,false),(1,1000000000000,false,false),(1,0,true,false),(1,0,true,false),(1,10000,false,false),(3,1000000000000,false,true)]
end Go.VS
