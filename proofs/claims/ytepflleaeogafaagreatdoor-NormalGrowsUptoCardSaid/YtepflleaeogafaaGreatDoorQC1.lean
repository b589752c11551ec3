import Derived.Test.YtepflleaeogafaaGreatDoorQT
set_option linter.unusedVariables false
set_option linter.unusedSimpArgs false
set_option linter.unusedSectionVars false
set_option linter.unusedVariables false
set_option maxRecDepth 100000
namespace Go.VS
open Go
def octroilaw12_one.te:List (Nat×KS):=[(0,.c (.sl tNode)),(2,.loc 2)]
def octroilaw12_one.tb:List (Nat×KS):=[(2,.g tPlan)]
def octroilaw12_one.h:Nat→Shape:=shN octroilaw12_one.te octroilaw12_one.tb [] [(0,3,1,0),(1,2,1,0)]
def octroilaw12_one.X (m:Int) (F:Nat):FX TI (G m) Sg:={hn:={na:=1},N:=7,H:=octroilaw12_one.h}
theorem octroilaw12_one.ok (m:Int) (F:Nat):OK Go.Proofs.Tryz.prog (G m) 20 octroilaw12_one.sg (octroilaw12_one.sp F) :=
 func_x (octroilaw12_one.X m F) mixed tsOK trivial trivial Go.Proofs.Tryz.func20 0 0 (by kernel_rfl) at_nil at_nil (fun _=>by kernel_rfl)
def scan_letter.te:List (Nat×KS):=[(0,.c (.int .u8)),(2,.c .bool)]
def scan_letter.h:Nat→Shape:=shN scan_letter.te [] [] [(0,1,0,0),(1,2,0,0)]
def scan_letter.X (m:Int) (F:Nat):FX TI (G m) Sg:={hn:={na:=1},N:=9,H:=scan_letter.h}
theorem scan_letter.ok (m:Int) (F:Nat):OK Go.Proofs.Tryz.prog (G m) 182 scan_letter.sg (scan_letter.sp F) :=
 func_x (scan_letter.X m F) mixed tsOK trivial trivial Go.Proofs.Tryz.func182 0 0 (by kernel_rfl) at_nil at_nil (fun _=>by kernel_rfl)
def scan_digit.te:List (Nat×KS):=[(0,.c (.int .u8)),(2,.c .bool)]
def scan_digit.h:Nat→Shape:=shN scan_digit.te [] [] [(0,1,0,0),(1,2,0,0)]
def scan_digit.X (m:Int) (F:Nat):FX TI (G m) Sg:={hn:={na:=1},N:=9,H:=scan_digit.h}
theorem scan_digit.ok (m:Int) (F:Nat):OK Go.Proofs.Tryz.prog (G m) 204 scan_digit.sg (scan_digit.sp F) :=
 func_x (scan_digit.X m F) mixed tsOK trivial trivial Go.Proofs.Tryz.func204 0 0 (by kernel_rfl) at_nil at_nil (fun _=>by kernel_rfl)
def scan_inner.te:List (Nat×KS):=[(0,.c (.int .u8)),(2,.c .bool)]
def scan_inner.h:Nat→Shape:=shN scan_inner.te [] [] [(0,1,0,0),(1,2,0,0)]
def scan_inner.X (m:Int) (F:Nat):FX TI (G m) Sg:={hn:={na:=1},lv:=[⟨182,scan_letter.sp F⟩,⟨204,scan_digit.sp F⟩],N:=13,H:=scan_inner.h}
theorem scan_inner.ok (m:Int) (F:Nat):OK Go.Proofs.Tryz.prog (G m) 184 scan_inner.sg (scan_inner.sp F) :=
 func_x (scan_inner.X m F) mixed tsOK ⟨scan_letter.ok m F,scan_digit.ok m F,trivial⟩ trivial Go.Proofs.Tryz.func184 0 0 (by kernel_rfl) at_nil at_nil (fun _=>by kernel_rfl)
def scan_run.te:List (Nat×KS):=[(0,.c .str),(1,.c .fn),(4,.c (.int .i64)),(5,.c (.int .i64)),(16,.c .bool)]
def scan_run.h:Nat→Shape:=shN scan_run.te [] [] [(0,3,0,0),(1,11,0,0),(2,27,0,0),(3,11,0,0),(4,4,0,0)]
def scan_run.hl:Nat→Shape:=shN scan_run.te [] [] [(2,11,0,0)]
def scan_run.L2 (F:Nat) (R:Type) (K:Ex→St→Option R) (n:Nat) (x:(ByteArray×Nat×Int×Unit)×(Unit)×(Unit)):Option R :=
 scan_run.l2 F (fun s of n t16=>K (.exit 0) (encS (scan_run.h 2) ((s,of,n,t16,()),(),()))) n x.1.1 x.1.2.1 x.1.2.2.1
def scan_run.X (m:Int) (F:Nat):FX TI (G m) Sg:={hn:={DS:=fun d=>lk none d [(15,some scan_run.ds15)],na:=2},ld:=[⟨15,scan_run.d15 F⟩],N:=20,H:=scan_run.h,HL:=scan_run.hl,L:=mkL scan_run.hl [⟨2,fun x R K=>scan_run.L2 F R K F x⟩]}
theorem scan_run.a0 (m:Int) (F:Nat):(scan_run.X m F).lp (loopsOf (bd Go.Proofs.Tryz.f183)) 0:=FX.loop _ _ 0 2 F (by kernel_rfl) (scan_run.L2 F) (fun _ _ _=>by kernel_rfl) (fun _ _ _ _=>by kernel_rfl) (fun _ _ _=>by kernel_rfl)
theorem scan_run.ok (m:Int) (F:Nat):OK Go.Proofs.Tryz.prog (G m) 183 scan_run.sg (scan_run.sp F) :=
 func_x (scan_run.X m F) mixed tsOK trivial ⟨mkT_ok ⟨⟨184,by kernel_rfl,scan_inner.ok m F⟩,⟨182,by kernel_rfl,scan_letter.ok m F⟩,trivial⟩,trivial⟩ Go.Proofs.Tryz.func183 1 0 (by kernel_rfl) (at_cons (scan_run.a0 m F) at_nil) at_nil (fun _=>by kernel_rfl)
theorem strings_Contains.ok (m:Int) (F:Nat):OK Go.Proofs.Tryz.prog (G m) 205 strings_Contains.sg (strings_Contains.sp F):=strings_Contains.ok' F Go.Proofs.Tryz.func205 (by kernel_rfl) (g:=3) (by kernel_rfl) (fun s sub w h1 h2=>Go.Proofs.Tryz.strings_Contains s sub m w h1 h2)
def scan_Word.te:List (Nat×KS):=[(0,.c .str),(2,.c .bool)]
def scan_Word.h:Nat→Shape:=shN scan_Word.te [] [] [(0,1,0,0),(1,2,0,0)]
def scan_Word.X (m:Int) (F:Nat):FX TI (G m) Sg:={hn:={na:=1},lv:=[⟨183,scan_run.sp F⟩,⟨205,strings_Contains.sp F⟩],N:=18,H:=scan_Word.h}
theorem scan_Word.ok (m:Int) (F:Nat):OK Go.Proofs.Tryz.prog (G m) 185 scan_Word.sg (scan_Word.sp F) :=
 func_x (scan_Word.X m F) mixed tsOK ⟨scan_run.ok m F,strings_Contains.ok m F,trivial⟩ trivial Go.Proofs.Tryz.func185 0 0 (by kernel_rfl) at_nil at_nil (fun _=>by kernel_rfl)
def scan_Name.te:List (Nat×KS):=[(0,.c .str),(2,.c .bool)]
def scan_Name.h:Nat→Shape:=shN scan_Name.te [] [] [(0,1,0,0),(1,2,0,0)]
def scan_Name.X (m:Int) (F:Nat):FX TI (G m) Sg:={hn:={na:=1},lv:=[⟨182,scan_letter.sp F⟩,⟨183,scan_run.sp F⟩,⟨185,scan_Word.sp F⟩],N:=27,H:=scan_Name.h}
theorem scan_Name.ok (m:Int) (F:Nat):OK Go.Proofs.Tryz.prog (G m) 139 scan_Name.sg (scan_Name.sp F) :=
 func_x (scan_Name.X m F) mixed tsOK ⟨scan_letter.ok m F,scan_run.ok m F,scan_Word.ok m F,trivial⟩ trivial Go.Proofs.Tryz.func139 0 0 (by kernel_rfl) at_nil at_nil (fun _=>by kernel_rfl)
def tree_head_c1.te:List (Nat×KS):=[(1,.p tDim),(2,.loc 2),(3,.c .bool)]
def tree_head_c1.tb:List (Nat×KS):=[(2,.g tDim)]
def tree_head_c1.h:Nat→Shape:=shN tree_head_c1.te tree_head_c1.tb [] [(0,3,1,0),(1,4,0,0)]
def tree_head_c1.X (m:Int) (F:Nat):FX TI (G m) Sg:={hn:={na:=2},N:=9,H:=tree_head_c1.h}
theorem tree_head_c1.ok (m:Int) (F:Nat):OK Go.Proofs.Tryz.prog (G m) 140 tree_head_c1.sg (tree_head_c1.sp F) :=
 func_x (tree_head_c1.X m F) mixed tsOK trivial trivial Go.Proofs.Tryz.func140 0 0 (by kernel_rfl) at_nil at_nil (fun _=>by kernel_rfl)
def slices_IndexFunc_Dim.te:List (Nat×KS):=[(0,.b tDim),(1,.cl tDim),(4,.c (.int .i64)),(5,.c (.int .i64)),(7,.c (.int .i64)),(8,.c (.int .i64)),(9,.c .bool),(16,.c .bool)]
def slices_IndexFunc_Dim.h:Nat→Shape:=shN slices_IndexFunc_Dim.te [] [] [(0,3,0,0),(1,51,0,0),(2,115,0,0),(3,59,0,0),(4,187,0,0),(5,4,0,0),(6,51,0,0),(7,4,0,0)]
def slices_IndexFunc_Dim.hl:Nat→Shape:=shN slices_IndexFunc_Dim.te [] [] [(2,51,0,0)]
def slices_IndexFunc_Dim.L2 (F:Nat) (R:Type) (K:Ex→St→Option R) (n:Nat) (x:((List tDim.T)×(Nat×tDim.T)×Int×Int×Unit)×(Unit)×(Unit)):Option R :=
 slices_IndexFunc_Dim.l2 F (fun r4=>K .ret (encS (slices_IndexFunc_Dim.h 5) ((r4,()),(),()))) (fun s f t7 t8 t9=>K (.exit 0) (encS (slices_IndexFunc_Dim.h 2) ((s,f,t7,t8,t9,()),(),()))) n x.1.1 x.1.2.1 x.1.2.2.1 x.1.2.2.2.1
def slices_IndexFunc_Dim.X (m:Int) (F:Nat):FX TI (G m) Sg:={hn:={DS:=fun d=>lk none d [(16,some slices_IndexFunc_Dim.ds16)],na:=2},ld:=[⟨16,slices_IndexFunc_Dim.d16 F⟩],N:=19,H:=slices_IndexFunc_Dim.h,HL:=slices_IndexFunc_Dim.hl,L:=mkL slices_IndexFunc_Dim.hl [⟨2,fun x R K=>slices_IndexFunc_Dim.L2 F R K F x⟩]}
theorem slices_IndexFunc_Dim.a0 (m:Int) (F:Nat):(slices_IndexFunc_Dim.X m F).lp (loopsOf (bd Go.Proofs.Tryz.f186)) 0:=FX.loop _ _ 0 2 F (by kernel_rfl) (slices_IndexFunc_Dim.L2 F) (fun _ _ _=>by kernel_rfl) (fun _ _ _ _=>by kernel_rfl) (fun _ _ _=>by kernel_rfl)
theorem slices_IndexFunc_Dim.ok (m:Int) (F:Nat):OK Go.Proofs.Tryz.prog (G m) 186 slices_IndexFunc_Dim.sg (slices_IndexFunc_Dim.sp F) :=
 func_x (slices_IndexFunc_Dim.X m F) mixed tsOK trivial ⟨mkT_ok ⟨⟨140,by kernel_rfl,tree_head_c1.ok m F⟩,trivial⟩,trivial⟩ Go.Proofs.Tryz.func186 1 0 (by kernel_rfl) (at_cons (slices_IndexFunc_Dim.a0 m F) at_nil) at_nil (fun _=>by kernel_rfl)
def slices_ContainsFunc_Dim.te:List (Nat×KS):=[(0,.b tDim),(1,.cl tDim),(4,.c .bool)]
def slices_ContainsFunc_Dim.h:Nat→Shape:=shN slices_ContainsFunc_Dim.te [] [] [(0,3,0,0),(1,4,0,0)]
def slices_ContainsFunc_Dim.X (m:Int) (F:Nat):FX TI (G m) Sg:={hn:={na:=2},lv:=[⟨186,slices_IndexFunc_Dim.sp F⟩],N:=9,H:=slices_ContainsFunc_Dim.h}
theorem slices_ContainsFunc_Dim.ok (m:Int) (F:Nat):OK Go.Proofs.Tryz.prog (G m) 141 slices_ContainsFunc_Dim.sg (slices_ContainsFunc_Dim.sp F) :=
 func_x (slices_ContainsFunc_Dim.X m F) mixed tsOK ⟨slices_IndexFunc_Dim.ok m F,trivial⟩ trivial Go.Proofs.Tryz.func141 0 0 (by kernel_rfl) at_nil at_nil (fun _=>by kernel_rfl)
def tree_head.te:List (Nat×KS):=[(1,.loc 1),(2,.c (.int .i64)),(3,.c (.int .i64)),(4,.loc 4),(4,.p tDim),(5,.cl tDim),(9,.c .bool),(19,.c .bool),(21,.c (.sl tDim)),(22,.c (.int .i64)),(23,.c (.int .i64)),(24,.c .bool),(40,.c .bool),(48,.c .bool),(57,.c .bool)]
def tree_head.tb:List (Nat×KS):=[(1,.g tPlan),(4,.g tDim)]
def tree_head.h:Nat→Shape:=shN tree_head.te tree_head.tb [] [(0,1,1,0),(1,65,1,0),(2,2,0,0),(3,129,1,0),(4,2,0,0),(5,1793,1,0),(6,3841,1,0),(7,1805,3,0),(8,1845,1,0),(9,5905,1,0),(10,2,0,0),(11,9985,1,0),(12,2,0,0),(13,1793,1,0),(14,16384,0,0),(15,2,0,0),(16,2,0,0)]
def tree_head.hl:Nat→Shape:=shN tree_head.te tree_head.tb [] [(6,1793,1,0)]
def tree_head.L6 (F:Nat) (R:Type) (K:Ex→St→Option R) (n:Nat) (x:(Unit×(List tDim.T)×Int×Int×Unit)×(tPlan.T×Unit)×(Unit)):Option R :=
 tree_head.l6 F (fun r2=>K .ret (encS (tree_head.h 10) ((r2,()),(),()))) (fun r2=>K .ret (encS (tree_head.h 12) ((r2,()),(),()))) (fun t21 t22 t23 t24 p=>K (.exit 0) (encS (tree_head.h 6) (((),t21,t22,t23,t24,()),(p,()),()))) n x.1.2.1 x.1.2.2.1 x.1.2.2.2.1 x.2.1.1
def tree_head.X (m:Int) (F:Nat):FX TI (G m) Sg:={hn:={CT:=fun d=>lk .unit d [(28,tDim)],na:=1},lv:=[⟨139,scan_Name.sp F⟩,⟨141,slices_ContainsFunc_Dim.sp F⟩],N:=58,H:=tree_head.h,HL:=tree_head.hl,L:=mkL tree_head.hl [⟨6,fun x R K=>tree_head.L6 F R K F x⟩]}
theorem tree_head.a0 (m:Int) (F:Nat):(tree_head.X m F).lp (loopsOf (bd Go.Proofs.Tryz.f81)) 0:=FX.loop _ _ 0 6 F (by kernel_rfl) (tree_head.L6 F) (fun _ _ _=>by kernel_rfl) (fun _ _ _ _=>by kernel_rfl) (fun _ _ _=>by kernel_rfl)
theorem tree_head.ok (m:Int) (F:Nat):OK Go.Proofs.Tryz.prog (G m) 81 tree_head.sg (tree_head.sp F) :=
 func_x (tree_head.X m F) mixed tsOK ⟨scan_Name.ok m F,slices_ContainsFunc_Dim.ok m F,trivial⟩ trivial Go.Proofs.Tryz.func81 1 0 (by kernel_rfl) (at_cons (tree_head.a0 m F) at_nil) at_nil (fun _=>by kernel_rfl)
def tree_takes.te:List (Nat×KS):=[(1,.loc 1),(2,.c (.int .i64)),(3,.c (.int .i64)),(10,.c .bool)]
def tree_takes.tb:List (Nat×KS):=[(1,.g tNode)]
def tree_takes.h:Nat→Shape:=shN tree_takes.te tree_takes.tb [] [(0,1,1,0),(1,5,1,0),(2,13,1,0),(3,2,0,0),(4,2,0,0)]
def tree_takes.X (m:Int) (F:Nat):FX TI (G m) Sg:={hn:={na:=1},N:=14,H:=tree_takes.h}
theorem tree_takes.ok (m:Int) (F:Nat):OK Go.Proofs.Tryz.prog (G m) 45 tree_takes.sg (tree_takes.sp F) :=
 func_x (tree_takes.X m F) mixed tsOK trivial trivial Go.Proofs.Tryz.func45 0 0 (by kernel_rfl) at_nil at_nil (fun _=>by kernel_rfl)
def tree_rising.te:List (Nat×KS):=[(0,.b tTier),(2,.c .bool),(3,.c (.int .i64)),(4,.loc 4),(19,.c .bool),(20,.b tTier),(21,.c (.int .i64)),(22,.c (.int .i64)),(23,.c .bool),(54,.c .bool)]
def tree_rising.tb:List (Nat×KS):=[(4,.g tTier)]
def tree_rising.h:Nat→Shape:=shN tree_rising.te tree_rising.tb [] [(0,1,0,0),(1,17,0,0),(2,2,0,0),(3,225,0,0),(4,481,0,0),(5,237,1,0),(6,737,0,0),(7,2,0,0),(8,225,0,0),(9,2,0,0)]
def tree_rising.hl:Nat→Shape:=shN tree_rising.te tree_rising.tb [] [(4,225,0,0)]
def tree_rising.L4 (F:Nat) (R:Type) (K:Ex→St→Option R) (n:Nat) (x:((List tTier.T)×(List tTier.T)×Int×Int×Unit)×(Unit)×(Unit)):Option R :=
 tree_rising.l4 F (fun r2=>K .ret (encS (tree_rising.h 7) ((r2,()),(),()))) (fun tiers t20 t21 t22 t23=>K (.exit 0) (encS (tree_rising.h 4) ((tiers,t20,t21,t22,t23,()),(),()))) n x.1.1 x.1.2.1 x.1.2.2.1 x.1.2.2.2.1
def tree_rising.X (m:Int) (F:Nat):FX TI (G m) Sg:={hn:={na:=1},N:=56,H:=tree_rising.h,HL:=tree_rising.hl,L:=mkL tree_rising.hl [⟨4,fun x R K=>tree_rising.L4 F R K F x⟩]}
theorem tree_rising.a0 (m:Int) (F:Nat):(tree_rising.X m F).lp (loopsOf (bd Go.Proofs.Tryz.f142)) 0:=FX.loop _ _ 0 4 F (by kernel_rfl) (tree_rising.L4 F) (fun _ _ _=>by kernel_rfl) (fun _ _ _ _=>by kernel_rfl) (fun _ _ _=>by kernel_rfl)
theorem tree_rising.ok (m:Int) (F:Nat):OK Go.Proofs.Tryz.prog (G m) 142 tree_rising.sg (tree_rising.sp F) :=
 func_x (tree_rising.X m F) mixed tsOK trivial trivial Go.Proofs.Tryz.func142 1 0 (by kernel_rfl) (at_cons (tree_rising.a0 m F) at_nil) at_nil (fun _=>by kernel_rfl)
def tree_node.te:List (Nat×KS):=[(1,.c (.int .i64)),(2,.c (.int .i64)),(3,.loc 3),(6,.c (.int .i64)),(7,.loc 7),(8,.c (.int .i64)),(9,.c .bool),(10,.c .bool),(18,.c .bool),(26,.c .bool),(34,.c .bool),(47,.c .bool),(89,.c .bool),(97,.c .bool)]
def tree_node.tb:List (Nat×KS):=[(3,.g tNode),(7,.g tTree_asks)]
def tree_node.h:Nat→Shape:=shN tree_node.te tree_node.tb [] [(0,7,1,0),(1,263,1,0),(2,8,0,0),(3,23,3,0),(4,55,3,0),(5,567,3,0),(6,54,3,0),(7,118,3,0),(8,1142,3,0),(9,118,3,0),(10,246,3,0),(11,2294,3,0),(12,246,3,0),(13,4116,3,0),(14,8,0,0),(15,8192,0,0),(16,8,0,0),(17,8,0,0)]
def tree_node.hj:Nat→Option Shape:=shO tree_node.te tree_node.tb [] [(7,54,3,0),(10,118,3,0),(13,246,3,0)]
def tree_node.J13 (F:Nat) (R:Type) (K:Ex→St→Option R) (x:(Int×Unit×Unit×Int×Bool×Bool×Unit)×(tNode.T×tTree_asks.T×Unit)×(Unit)):Option R :=
 tree_node.j13 F (fun r6=>K .ret (encS (tree_node.h 14) ((r6,()),(),()))) (fun r6=>K .ret (encS (tree_node.h 16) ((r6,()),(),()))) (fun r6=>K .ret (encS (tree_node.h 17) ((r6,()),(),()))) x.1.1 x.1.2.2.2.1 x.1.2.2.2.2.1 x.1.2.2.2.2.2.1 x.2.1.1 x.2.1.2.1
def tree_node.J10 (F:Nat) (R:Type) (K:Ex→St→Option R) (x:(Int×Unit×Unit×Int×Bool×Unit)×(tNode.T×tTree_asks.T×Unit)×(Unit)):Option R :=
 tree_node.j10 F (fun r6=>K .ret (encS (tree_node.h 14) ((r6,()),(),()))) (fun r6=>K .ret (encS (tree_node.h 16) ((r6,()),(),()))) (fun r6=>K .ret (encS (tree_node.h 17) ((r6,()),(),()))) x.1.1 x.1.2.2.2.1 x.1.2.2.2.2.1 x.2.1.1 x.2.1.2.1
def tree_node.J7 (F:Nat) (R:Type) (K:Ex→St→Option R) (x:(Int×Unit×Unit×Int×Unit)×(tNode.T×tTree_asks.T×Unit)×(Unit)):Option R :=
 tree_node.j7 F (fun r6=>K .ret (encS (tree_node.h 14) ((r6,()),(),()))) (fun r6=>K .ret (encS (tree_node.h 16) ((r6,()),(),()))) (fun r6=>K .ret (encS (tree_node.h 17) ((r6,()),(),()))) x.1.1 x.1.2.2.2.1 x.2.1.1 x.2.1.2.1
def tree_node.X (m:Int) (F:Nat):FX TI (G m) Sg:={hn:={na:=3},lv:=[⟨45,tree_takes.sp F⟩,⟨142,tree_rising.sp F⟩],N:=98,H:=tree_node.h,HJ:=tree_node.hj,J:=mkJ tree_node.hj [⟨13,fun x R K=>tree_node.J13 F R K x⟩,⟨10,fun x R K=>tree_node.J10 F R K x⟩,⟨7,fun x R K=>tree_node.J7 F R K x⟩]}
theorem tree_node.c0 (m:Int) (F:Nat):(tree_node.X m F).ct (cutsOf (tree_node.X m F).HJ (bd Go.Proofs.Tryz.f82)) 0:=FX.cut _ _ 0 7 (by kernel_rfl) (fun _ _ _=>by kernel_rfl)
theorem tree_node.c1 (m:Int) (F:Nat):(tree_node.X m F).ct (cutsOf (tree_node.X m F).HJ (bd Go.Proofs.Tryz.f82)) 1:=FX.cut _ _ 1 10 (by kernel_rfl) (fun _ _ _=>by kernel_rfl)
theorem tree_node.c2 (m:Int) (F:Nat):(tree_node.X m F).ct (cutsOf (tree_node.X m F).HJ (bd Go.Proofs.Tryz.f82)) 2:=FX.cut _ _ 2 13 (by kernel_rfl) (fun _ _ _=>by kernel_rfl)
theorem tree_node.ok (m:Int) (F:Nat):OK Go.Proofs.Tryz.prog (G m) 82 tree_node.sg (tree_node.sp F) :=
 func_x (tree_node.X m F) mixed tsOK ⟨tree_takes.ok m F,tree_rising.ok m F,trivial⟩ trivial Go.Proofs.Tryz.func82 0 3 (by kernel_rfl) at_nil (at_cons (tree_node.c2 m F) (at_cons (tree_node.c1 m F) (at_cons (tree_node.c0 m F) at_nil))) (fun _=>by kernel_rfl)
def tree_Check.te:List (Nat×KS):=[(1,.loc 1),(2,.c (.int .i64)),(3,.c (.int .i64)),(4,.c (.int .i64)),(5,.c (.int .i64)),(6,.c (.int .i64)),(7,.loc 7),(8,.c (.int .i64)),(12,.c .bool),(17,.c .bool),(19,.c (.sl tNode)),(20,.c (.int .i64)),(21,.c (.int .i64)),(22,.c .bool),(33,.c .bool),(43,.c .bool)]
def tree_Check.tb:List (Nat×KS):=[(1,.g tPlan),(7,.g tNode)]
def tree_Check.h:Nat→Shape:=shN tree_Check.te tree_Check.tb [] [(0,1,1,0),(1,9,1,0),(2,265,1,0),(3,6,0,0),(4,513,1,0),(5,6,0,0),(6,17,1,0),(7,7185,1,0),(8,15377,1,0),(9,7281,3,0),(10,7409,3,0),(11,23793,3,0),(12,6,0,0),(13,7185,1,0),(14,7185,1,0),(15,32769,1,0),(16,6,0,0),(17,6,0,0)]
def tree_Check.hl:Nat→Shape:=shN tree_Check.te tree_Check.tb [] [(8,7185,1,0)]
def tree_Check.L8 (F:Nat) (R:Type) (K:Ex→St→Option R) (n:Nat) (x:(Unit×Int×(List tNode.T)×Int×Int×Unit)×(tPlan.T×Unit)×(Unit)):Option R :=
 tree_Check.l8 F (fun r2 r3=>K .ret (encS (tree_Check.h 12) ((r2,r3,()),(),()))) (fun pile t19 t20 t21 t22 p=>K (.exit 0) (encS (tree_Check.h 8) (((),pile,t19,t20,t21,t22,()),(p,()),()))) n x.1.2.1 x.1.2.2.1 x.1.2.2.2.1 x.1.2.2.2.2.1 x.2.1.1
def tree_Check.X (m:Int) (F:Nat):FX TI (G m) Sg:={hn:={na:=1},lv:=[⟨81,tree_head.sp F⟩,⟨82,tree_node.sp F⟩,⟨45,tree_takes.sp F⟩],N:=47,H:=tree_Check.h,HL:=tree_Check.hl,L:=mkL tree_Check.hl [⟨8,fun x R K=>tree_Check.L8 F R K F x⟩]}
theorem tree_Check.a0 (m:Int) (F:Nat):(tree_Check.X m F).lp (loopsOf (bd Go.Proofs.Tryz.f44)) 0:=FX.loop _ _ 0 8 F (by kernel_rfl) (tree_Check.L8 F) (fun _ _ _=>by kernel_rfl) (fun _ _ _ _=>by kernel_rfl) (fun _ _ _=>by kernel_rfl)
theorem tree_Check.ok (m:Int) (F:Nat):OK Go.Proofs.Tryz.prog (G m) 44 tree_Check.sg (tree_Check.sp F) :=
 func_x (tree_Check.X m F) mixed tsOK ⟨tree_head.ok m F,tree_node.ok m F,tree_takes.ok m F,trivial⟩ trivial Go.Proofs.Tryz.func44 1 0 (by kernel_rfl) (at_cons (tree_Check.a0 m F) at_nil) at_nil (fun _=>by kernel_rfl)
def tree_firsts.te:List (Nat×KS):=[(1,.loc 1),(2,.c (.sl (.int .i64))),(3,.c (.sl (.int .i64))),(3,.ow 3),(4,.ow 4),(5,.c (.int .i64)),(6,.loc 6),(7,.c (.int .i64)),(8,.c (.int .i64)),(10,.c (.sl tNode)),(11,.c (.int .i64)),(12,.c (.int .i64)),(13,.c .bool),(21,.c .bool)]
def tree_firsts.tb:List (Nat×KS):=[(1,.g tPlan),(6,.g tNode)]
def tree_firsts.tp:List OwnE:=[⟨3,.env 3,(.int .i64)⟩,⟨4,.env 4,(.int .i64)⟩]
def tree_firsts.h:Nat→Shape:=shN tree_firsts.te tree_firsts.tb tree_firsts.tp [(0,1,1,0),(1,25,1,3),(2,3608,0,3),(3,7704,0,3),(4,3704,2,3),(5,3800,2,3),(6,3992,0,3),(7,12184,0,3),(8,3992,0,3),(9,3736,0,3),(10,3736,0,3),(11,3608,0,3),(12,3608,0,3),(13,2,0,0)]
def tree_firsts.hl:Nat→Shape:=shN tree_firsts.te tree_firsts.tb tree_firsts.tp [(3,3608,0,3)]
def tree_firsts.hj:Nat→Option Shape:=shO tree_firsts.te tree_firsts.tb tree_firsts.tp [(13,4,0,0)]
def tree_firsts.L3 (F:Nat) (R:Type) (K:Ex→St→Option R) (n:Nat) (x:(Unit×Unit×(List tNode.T)×Int×Int×Unit)×(Unit)×((List Int)×(List Int)×Unit)):Option R :=
 tree_firsts.l3 F (fun t10 t11 t12 t13 list pile=>K (.exit 0) (encS (tree_firsts.h 3) (((),(),t10,t11,t12,t13,()),(),(list,pile,())))) n x.1.2.2.1 x.1.2.2.2.1 x.1.2.2.2.2.1 x.2.2.1 x.2.2.2.1
def tree_firsts.J13 (F:Nat) (R:Type) (K:Ex→St→Option R) (x:((List Int)×Unit)×(Unit)×(Unit)):Option R :=
 tree_firsts.j13 F (fun r2=>K .ret (encS (tree_firsts.h 13) ((r2,()),(),()))) x.1.1
def tree_firsts.X (m:Int) (F:Nat):FX TI (G m) Sg:={hn:={MU:=fun s=>lk false s [(38,true),(42,true)],na:=1,fzJ:=fun r=>lk [] r [(13,[3])]},lv:=[⟨45,tree_takes.sp F⟩],N:=45,H:=tree_firsts.h,HL:=tree_firsts.hl,HJ:=tree_firsts.hj,L:=mkL tree_firsts.hl [⟨3,fun x R K=>tree_firsts.L3 F R K F x⟩],J:=mkJ tree_firsts.hj [⟨13,fun x R K=>tree_firsts.J13 F R K x⟩]}
theorem tree_firsts.a0 (m:Int) (F:Nat):(tree_firsts.X m F).lp (loopsOf (bd Go.Proofs.Tryz.f179)) 0:=FX.loop _ _ 0 3 F (by kernel_rfl) (tree_firsts.L3 F) (fun _ _ _=>by kernel_rfl) (fun _ _ _ _=>by kernel_rfl) (fun _ _ _=>by kernel_rfl)
theorem tree_firsts.c0 (m:Int) (F:Nat):(tree_firsts.X m F).ct (cutsOf (tree_firsts.X m F).HJ (bd Go.Proofs.Tryz.f179)) 0:=FX.cut _ _ 0 13 (by kernel_rfl) (fun _ _ _=>by kernel_rfl)
theorem tree_firsts.ok (m:Int) (F:Nat):OK Go.Proofs.Tryz.prog (G m) 179 tree_firsts.sg (tree_firsts.sp F) :=
 func_x (tree_firsts.X m F) mixed tsOK ⟨tree_takes.ok m F,trivial⟩ trivial Go.Proofs.Tryz.func179 1 1 (by kernel_rfl) (at_cons (tree_firsts.a0 m F) at_nil) (at_cons (tree_firsts.c0 m F) at_nil) (fun _=>by kernel_rfl)
def tree_Firsts.te:List (Nat×KS):=[(1,.loc 1),(2,.c (.sl (.int .i64))),(3,.c (.int .i64)),(5,.c (.int .i64)),(12,.c .bool)]
def tree_Firsts.tb:List (Nat×KS):=[(1,.g tPlan)]
def tree_Firsts.h:Nat→Shape:=shN tree_Firsts.te tree_Firsts.tb [] [(0,1,1,0),(1,9,1,0),(2,25,1,0),(3,6,0,0),(4,6,0,0)]
def tree_Firsts.X (m:Int) (F:Nat):FX TI (G m) Sg:={hn:={na:=1},lv:=[⟨44,tree_Check.sp F⟩,⟨179,tree_firsts.sp F⟩],N:=16,H:=tree_Firsts.h}
theorem tree_Firsts.ok (m:Int) (F:Nat):OK Go.Proofs.Tryz.prog (G m) 128 tree_Firsts.sg (tree_Firsts.sp F) :=
 func_x (tree_Firsts.X m F) mixed tsOK ⟨tree_Check.ok m F,tree_firsts.ok m F,trivial⟩ trivial Go.Proofs.Tryz.func128 0 0 (by kernel_rfl) at_nil at_nil (fun _=>by kernel_rfl)
def tree_Constant.te:List (Nat×KS):=[(1,.loc 1),(2,.c (.sl .bool)),(3,.c (.int .i64)),(4,.c (.sl (.int .i64))),(5,.c (.int .i64)),(6,.c (.int .i64)),(7,.c (.sl .bool)),(7,.ow 7),(8,.c (.int .i64)),(9,.loc 9),(16,.c .bool),(22,.c (.sl tNode)),(23,.c (.int .i64)),(24,.c (.int .i64)),(25,.c .bool),(36,.c .bool)]
def tree_Constant.tb:List (Nat×KS):=[(1,.g tPlan),(9,.g tNode)]
def tree_Constant.tp:List OwnE:=[⟨7,.env 7,.bool⟩]
def tree_Constant.h:Nat→Shape:=shN tree_Constant.te tree_Constant.tb tree_Constant.tp [(0,1,1,0),(1,25,1,0),(2,1049,1,0),(3,6,0,0),(4,41,1,0),(5,169,1,1),(6,14504,0,1),(7,30888,0,1),(8,15272,2,1),(9,47528,0,1),(10,14760,0,1),(11,14504,0,1),(12,14504,0,1),(13,6,0,0)]
def tree_Constant.hl:Nat→Shape:=shN tree_Constant.te tree_Constant.tb tree_Constant.tp [(7,14504,0,1)]
def tree_Constant.hj:Nat→Option Shape:=shO tree_Constant.te tree_Constant.tb tree_Constant.tp [(13,64,0,0)]
def tree_Constant.L7 (F:Nat) (R:Type) (K:Ex→St→Option R) (n:Nat) (x:((List Int)×Int×Unit×(List tNode.T)×Int×Int×Unit)×(Unit)×((List Bool)×Unit)):Option R :=
 tree_Constant.l7 F (fun list last t22 t23 t24 t25 out=>K (.exit 0) (encS (tree_Constant.h 7) ((list,last,(),t22,t23,t24,t25,()),(),(out,())))) n x.1.1 x.1.2.1 x.1.2.2.2.1 x.1.2.2.2.2.1 x.1.2.2.2.2.2.1 x.2.2.1
def tree_Constant.J13 (F:Nat) (R:Type) (K:Ex→St→Option R) (x:((List Bool)×Unit)×(Unit)×(Unit)):Option R :=
 tree_Constant.j13 F (fun r2 r3=>K .ret (encS (tree_Constant.h 13) ((r2,r3,()),(),()))) x.1.1
def tree_Constant.X (m:Int) (F:Nat):FX TI (G m) Sg:={hn:={MU:=fun s=>lk false s [(20,true)],na:=1,fzJ:=fun r=>lk [] r [(13,[7])]},lv:=[⟨128,tree_Firsts.sp F⟩],N:=49,H:=tree_Constant.h,HL:=tree_Constant.hl,HJ:=tree_Constant.hj,L:=mkL tree_Constant.hl [⟨7,fun x R K=>tree_Constant.L7 F R K F x⟩],J:=mkJ tree_Constant.hj [⟨13,fun x R K=>tree_Constant.J13 F R K x⟩]}
theorem tree_Constant.a0 (m:Int) (F:Nat):(tree_Constant.X m F).lp (loopsOf (bd Go.Proofs.Tryz.f79)) 0:=FX.loop _ _ 0 7 F (by kernel_rfl) (tree_Constant.L7 F) (fun _ _ _=>by kernel_rfl) (fun _ _ _ _=>by kernel_rfl) (fun _ _ _=>by kernel_rfl)
theorem tree_Constant.c0 (m:Int) (F:Nat):(tree_Constant.X m F).ct (cutsOf (tree_Constant.X m F).HJ (bd Go.Proofs.Tryz.f79)) 0:=FX.cut _ _ 0 13 (by kernel_rfl) (fun _ _ _=>by kernel_rfl)
theorem tree_Constant.ok (m:Int) (F:Nat):OK Go.Proofs.Tryz.prog (G m) 79 tree_Constant.sg (tree_Constant.sp F) :=
 func_x (tree_Constant.X m F) mixed tsOK ⟨tree_Firsts.ok m F,trivial⟩ trivial Go.Proofs.Tryz.func79 1 1 (by kernel_rfl) (at_cons (tree_Constant.a0 m F) at_nil) (at_cons (tree_Constant.c0 m F) at_nil) (fun _=>by kernel_rfl)
def units_rules.te:List (Nat×KS):=[(0,.c (.int .i64)),(2,.c .fn),(3,.c (.int .i64)),(4,.c (.sl (.pair .fn (.int .i64))))]
def units_rules.h:Nat→Shape:=shN units_rules.te [] [] [(0,1,0,0),(1,9,0,0),(2,6,0,0)]
def units_rules.X (m:Int) (F:Nat):FX TI (G m) Sg:={hn:={na:=1},N:=32,H:=units_rules.h}
theorem units_rules.ok (m:Int) (F:Nat):OK Go.Proofs.Tryz.prog (G m) 80 units_rules.sg (units_rules.sp F) :=
 func_x (units_rules.X m F) mixed tsOK trivial trivial Go.Proofs.Tryz.func80 0 0 (by kernel_rfl) at_nil at_nil (fun _=>by kernel_rfl)
def units_node_one.te:List (Nat×KS):=[(1,.c (.int .i64)),(2,.loc 2),(4,.c (.int .i64)),(6,.c (.int .i64)),(10,.b (.int .i64)),(11,.c (.int .i64)),(12,.c (.int .i64)),(13,.c .bool),(22,.c .bool)]
def units_node_one.tb:List (Nat×KS):=[(2,.g tUnits_node)]
def units_node_one.h:Nat→Shape:=shN units_node_one.te units_node_one.tb [] [(0,3,1,0),(1,115,1,0),(2,243,1,0),(3,123,1,0),(4,371,1,0),(5,4,0,0),(6,115,1,0),(7,4,0,0)]
def units_node_one.hl:Nat→Shape:=shN units_node_one.te units_node_one.tb [] [(2,115,1,0)]
def units_node_one.L2 (F:Nat) (R:Type) (K:Ex→St→Option R) (n:Nat) (x:(Int×Unit×(List Int)×Int×Int×Unit)×(tUnits_node.T×Unit)×(Unit)):Option R :=
 units_node_one.l2 F (fun r4=>K .ret (encS (units_node_one.h 5) ((r4,()),(),()))) (fun from_ t10 t11 t12 t13 n=>K (.exit 0) (encS (units_node_one.h 2) ((from_,(),t10,t11,t12,t13,()),(n,()),()))) n x.1.1 x.1.2.2.1 x.1.2.2.2.1 x.1.2.2.2.2.1 x.2.1.1
def units_node_one.X (m:Int) (F:Nat):FX TI (G m) Sg:={hn:={na:=2},N:=29,H:=units_node_one.h,HL:=units_node_one.hl,L:=mkL units_node_one.hl [⟨2,fun x R K=>units_node_one.L2 F R K F x⟩]}
theorem units_node_one.a0 (m:Int) (F:Nat):(units_node_one.X m F).lp (loopsOf (bd Go.Proofs.Tryz.f180)) 0:=FX.loop _ _ 0 2 F (by kernel_rfl) (units_node_one.L2 F) (fun _ _ _=>by kernel_rfl) (fun _ _ _ _=>by kernel_rfl) (fun _ _ _=>by kernel_rfl)
theorem units_node_one.ok (m:Int) (F:Nat):OK Go.Proofs.Tryz.prog (G m) 180 units_node_one.sg (units_node_one.sp F) :=
 func_x (units_node_one.X m F) mixed tsOK trivial trivial Go.Proofs.Tryz.func180 1 0 (by kernel_rfl) (at_cons (units_node_one.a0 m F) at_nil) at_nil (fun _=>by kernel_rfl)
def units_node_alike.te:List (Nat×KS):=[(1,.loc 1),(2,.c (.int .i64))]
def units_node_alike.tb:List (Nat×KS):=[(1,.g tUnits_node)]
def units_node_alike.h:Nat→Shape:=shN units_node_alike.te units_node_alike.tb [] [(0,1,1,0),(1,2,0,0)]
def units_node_alike.X (m:Int) (F:Nat):FX TI (G m) Sg:={hn:={na:=1},lv:=[⟨180,units_node_one.sp F⟩],N:=5,H:=units_node_alike.h}
theorem units_node_alike.ok (m:Int) (F:Nat):OK Go.Proofs.Tryz.prog (G m) 133 units_node_alike.sg (units_node_alike.sp F) :=
 func_x (units_node_alike.X m F) mixed tsOK ⟨units_node_one.ok m F,trivial⟩ trivial Go.Proofs.Tryz.func133 0 0 (by kernel_rfl) at_nil at_nil (fun _=>by kernel_rfl)
def units_node_blocks.te:List (Nat×KS):=[(1,.loc 1),(2,.c (.int .i64))]
def units_node_blocks.tb:List (Nat×KS):=[(1,.g tUnits_node)]
def units_node_blocks.h:Nat→Shape:=shN units_node_blocks.te units_node_blocks.tb [] [(0,1,1,0),(1,2,0,0)]
def units_node_blocks.X (m:Int) (F:Nat):FX TI (G m) Sg:={hn:={na:=1},N:=8,H:=units_node_blocks.h}
theorem units_node_blocks.ok (m:Int) (F:Nat):OK Go.Proofs.Tryz.prog (G m) 132 units_node_blocks.sg (units_node_blocks.sp F) :=
 func_x (units_node_blocks.X m F) mixed tsOK trivial trivial Go.Proofs.Tryz.func132 0 0 (by kernel_rfl) at_nil at_nil (fun _=>by kernel_rfl)
def units_count.te:List (Nat×KS):=[(0,.c (.int .i64)),(2,.c .bool)]
def units_count.h:Nat→Shape:=shN units_count.te [] [] [(0,1,0,0),(1,2,0,0)]
def units_count.X (m:Int) (F:Nat):FX TI (G m) Sg:={hn:={na:=1},N:=5,H:=units_count.h}
theorem units_count.ok (m:Int) (F:Nat):OK Go.Proofs.Tryz.prog (G m) 181 units_count.sg (units_count.sp F) :=
 func_x (units_count.X m F) mixed tsOK trivial trivial Go.Proofs.Tryz.func181 0 0 (by kernel_rfl) at_nil at_nil (fun _=>by kernel_rfl)
def units_node_counted.te:List (Nat×KS):=[(1,.loc 1),(2,.c (.int .i64)),(7,.c .bool)]
def units_node_counted.tb:List (Nat×KS):=[(1,.g tUnits_node)]
def units_node_counted.h:Nat→Shape:=shN units_node_counted.te units_node_counted.tb [] [(0,1,1,0),(1,5,1,0),(2,2,0,0),(3,2,0,0)]
def units_node_counted.X (m:Int) (F:Nat):FX TI (G m) Sg:={hn:={na:=1},lv:=[⟨181,units_count.sp F⟩],N:=12,H:=units_node_counted.h}
theorem units_node_counted.ok (m:Int) (F:Nat):OK Go.Proofs.Tryz.prog (G m) 135 units_node_counted.sg (units_node_counted.sp F) :=
 func_x (units_node_counted.X m F) mixed tsOK ⟨units_count.ok m F,trivial⟩ trivial Go.Proofs.Tryz.func135 0 0 (by kernel_rfl) at_nil at_nil (fun _=>by kernel_rfl)
def units_node_money.te:List (Nat×KS):=[(2,.c (.int .i64))]
def units_node_money.h:Nat→Shape:=shN units_node_money.te [] [] [(1,1,0,0)]
def units_node_money.X (m:Int) (F:Nat):FX TI (G m) Sg:={hn:={na:=1},N:=3,H:=units_node_money.h}
theorem units_node_money.ok (m:Int) (F:Nat):OK Go.Proofs.Tryz.prog (G m) 130 units_node_money.sg (units_node_money.sp F) :=
 func_x (units_node_money.X m F) mixed tsOK trivial trivial Go.Proofs.Tryz.func130 0 0 (by kernel_rfl) at_nil at_nil (fun _=>by kernel_rfl)
def units_node_number.te:List (Nat×KS):=[(2,.c (.int .i64))]
def units_node_number.h:Nat→Shape:=shN units_node_number.te [] [] [(1,1,0,0)]
def units_node_number.X (m:Int) (F:Nat):FX TI (G m) Sg:={hn:={na:=1},N:=3,H:=units_node_number.h}
theorem units_node_number.ok (m:Int) (F:Nat):OK Go.Proofs.Tryz.prog (G m) 129 units_node_number.sg (units_node_number.sp F) :=
 func_x (units_node_number.X m F) mixed tsOK trivial trivial Go.Proofs.Tryz.func129 0 0 (by kernel_rfl) at_nil at_nil (fun _=>by kernel_rfl)
def units_node_off.te:List (Nat×KS):=[(1,.loc 1),(2,.c (.int .i64)),(7,.c .bool)]
def units_node_off.tb:List (Nat×KS):=[(1,.g tUnits_node)]
def units_node_off.h:Nat→Shape:=shN units_node_off.te units_node_off.tb [] [(0,1,1,0),(1,4,0,0),(2,2,0,0),(3,2,0,0)]
def units_node_off.X (m:Int) (F:Nat):FX TI (G m) Sg:={hn:={na:=1},N:=8,H:=units_node_off.h}
theorem units_node_off.ok (m:Int) (F:Nat):OK Go.Proofs.Tryz.prog (G m) 137 units_node_off.sg (units_node_off.sp F) :=
 func_x (units_node_off.X m F) mixed tsOK trivial trivial Go.Proofs.Tryz.func137 0 0 (by kernel_rfl) at_nil at_nil (fun _=>by kernel_rfl)
def units_node_priced.te:List (Nat×KS):=[(1,.loc 1),(2,.c (.int .i64)),(7,.c .bool)]
def units_node_priced.tb:List (Nat×KS):=[(1,.g tUnits_node)]
def units_node_priced.h:Nat→Shape:=shN units_node_priced.te units_node_priced.tb [] [(0,1,1,0),(1,4,0,0),(2,2,0,0),(3,2,0,0)]
def units_node_priced.X (m:Int) (F:Nat):FX TI (G m) Sg:={hn:={na:=1},lv:=[⟨181,units_count.sp F⟩],N:=8,H:=units_node_priced.h}
theorem units_node_priced.ok (m:Int) (F:Nat):OK Go.Proofs.Tryz.prog (G m) 136 units_node_priced.sg (units_node_priced.sp F) :=
 func_x (units_node_priced.X m F) mixed tsOK ⟨units_count.ok m F,trivial⟩ trivial Go.Proofs.Tryz.func136 0 0 (by kernel_rfl) at_nil at_nil (fun _=>by kernel_rfl)
def units_node_product.te:List (Nat×KS):=[(1,.loc 1),(2,.c (.int .i64)),(3,.c (.int .i64)),(4,.c (.int .i64)),(13,.c .bool),(17,.c .bool),(21,.c .bool)]
def units_node_product.tb:List (Nat×KS):=[(1,.g tUnits_node)]
def units_node_product.h:Nat→Shape:=shN units_node_product.te units_node_product.tb [] [(0,1,1,0),(1,12,0,0),(2,28,0,0),(3,2,0,0),(4,44,0,0),(5,2,0,0),(6,76,0,0),(7,64,0,0),(8,2,0,0),(9,2,0,0)]
def units_node_product.X (m:Int) (F:Nat):FX TI (G m) Sg:={hn:={na:=1},lv:=[⟨181,units_count.sp F⟩],N:=34,H:=units_node_product.h}
theorem units_node_product.ok (m:Int) (F:Nat):OK Go.Proofs.Tryz.prog (G m) 134 units_node_product.sg (units_node_product.sp F) :=
 func_x (units_node_product.X m F) mixed tsOK ⟨units_count.ok m F,trivial⟩ trivial Go.Proofs.Tryz.func134 0 0 (by kernel_rfl) at_nil at_nil (fun _=>by kernel_rfl)
def units_node_quantity.te:List (Nat×KS):=[(1,.loc 1),(2,.c (.int .i64))]
def units_node_quantity.tb:List (Nat×KS):=[(1,.g tUnits_node)]
def units_node_quantity.h:Nat→Shape:=shN units_node_quantity.te units_node_quantity.tb [] [(0,1,1,0),(1,2,0,0)]
def units_node_quantity.X (m:Int) (F:Nat):FX TI (G m) Sg:={hn:={na:=1},N:=8,H:=units_node_quantity.h}
theorem units_node_quantity.ok (m:Int) (F:Nat):OK Go.Proofs.Tryz.prog (G m) 131 units_node_quantity.sg (units_node_quantity.sp F) :=
 func_x (units_node_quantity.X m F) mixed tsOK trivial trivial Go.Proofs.Tryz.func131 0 0 (by kernel_rfl) at_nil at_nil (fun _=>by kernel_rfl)
def units_node_test.te:List (Nat×KS):=[(1,.loc 1),(2,.c (.int .i64)),(7,.c .bool)]
def units_node_test.tb:List (Nat×KS):=[(1,.g tUnits_node)]
def units_node_test.h:Nat→Shape:=shN units_node_test.te units_node_test.tb [] [(0,1,1,0),(1,5,1,0),(2,2,0,0),(3,2,0,0)]
def units_node_test.X (m:Int) (F:Nat):FX TI (G m) Sg:={hn:={na:=1},lv:=[⟨181,units_count.sp F⟩,⟨180,units_node_one.sp F⟩],N:=10,H:=units_node_test.h}
theorem units_node_test.ok (m:Int) (F:Nat):OK Go.Proofs.Tryz.prog (G m) 138 units_node_test.sg (units_node_test.sp F) :=
 func_x (units_node_test.X m F) mixed tsOK ⟨units_count.ok m F,units_node_one.ok m F,trivial⟩ trivial Go.Proofs.Tryz.func138 0 0 (by kernel_rfl) at_nil at_nil (fun _=>by kernel_rfl)
def units_Types.te:List (Nat×KS):=[(1,.loc 1),(2,.c (.sl (.int .i64))),(3,.c (.int .i64)),(4,.c (.int .i64)),(5,.c (.int .i64)),(6,.c (.int .i64)),(7,.c (.sl .bool)),(9,.c (.sl (.int .i64))),(9,.ow 9),(10,.c (.sl (.int .i64))),(10,.ow 10),(11,.ow 11),(12,.c (.int .i64)),(13,.loc 13),(14,.c .fn),(15,.c (.int .i64)),(16,.c (.int .i64)),(17,.c (.int .i64)),(24,.c .bool),(33,.c (.sl tNode)),(34,.c (.int .i64)),(35,.c (.int .i64)),(36,.c .bool),(47,.c .bool),(65,.c .bool),(84,.c .bool),(109,.c .bool)]
def units_Types.tb:List (Nat×KS):=[(1,.g tPlan),(13,.g tNode)]
def units_Types.tp:List OwnE:=[⟨9,.env 9,(.int .i64)⟩,⟨10,.env 10,(.int .i64)⟩,⟨11,.env 11,.bool⟩]
def units_Types.h:Nat→Shape:=shN units_Types.te units_Types.tb units_Types.tp [(0,1,1,0),(1,49,1,0),(2,262193,1,0),(3,14,0,0),(4,65,1,0),(5,1345,1,3),(6,3393,1,7),(7,3673408,0,7),(8,7867712,0,7),(9,3685696,2,7),(10,3734848,2,7),(11,12123456,2,7),(12,3734848,2,7),(13,3767616,2,7),(14,3882304,2,7),(15,20659520,2,7),(16,14,0,0),(17,37428544,0,7),(18,14,0,0),(19,3874112,0,7),(20,3743040,0,7),(21,3673408,0,7),(22,3673408,0,7),(23,67108992,0,0),(24,14,0,0),(25,14,0,0)]
def units_Types.hl:Nat→Shape:=shN units_Types.te units_Types.tb units_Types.tp [(8,3673408,0,7)]
def units_Types.hj:Nat→Option Shape:=shO units_Types.te units_Types.tb units_Types.tp [(23,640,0,0)]
def units_Types.L8 (F:Nat) (R:Type) (K:Ex→St→Option R) (n:Nat) (x:((List Bool)×Unit×Unit×Unit×(List tNode.T)×Int×Int×Unit)×(Unit)×((List Int)×(List Int)×(List Bool)×Unit)):Option R :=
 units_Types.l8 F (fun r2 r3 r4=>K .ret (encS (units_Types.h 16) ((r2,r3,r4,()),(),()))) (fun r2 r3 r4=>K .ret (encS (units_Types.h 18) ((r2,r3,r4,()),(),()))) (fun fixed t33 t34 t35 t36 types pile fix=>K (.exit 0) (encS (units_Types.h 8) ((fixed,(),(),(),t33,t34,t35,t36,()),(),(types,pile,fix,())))) n x.1.1 x.1.2.2.2.2.1 x.1.2.2.2.2.2.1 x.1.2.2.2.2.2.2.1 x.2.2.1 x.2.2.2.1 x.2.2.2.2.1
def units_Types.J23 (F:Nat) (R:Type) (K:Ex→St→Option R) (x:((List Int)×(List Int)×Unit)×(Unit)×(Unit)):Option R :=
 units_Types.j23 F (fun r2 r3 r4=>K .ret (encS (units_Types.h 24) ((r2,r3,r4,()),(),()))) (fun r2 r3 r4=>K .ret (encS (units_Types.h 25) ((r2,r3,r4,()),(),()))) x.1.1 x.1.2.1
def units_Types.X (m:Int) (F:Nat):FX TI (G m) Sg:={hn:={MU:=fun s=>lk false s [(89,true),(95,true),(104,true)],DS:=fun d=>lk none d [(63,some units_Types.ds63)],na:=1,fzJ:=fun r=>lk [] r [(23,[9,10])]},lv:=[⟨44,tree_Check.sp F⟩,⟨79,tree_Constant.sp F⟩,⟨80,units_rules.sp F⟩],ld:=[⟨63,units_Types.d63 F⟩],N:=114,H:=units_Types.h,HL:=units_Types.hl,HJ:=units_Types.hj,L:=mkL units_Types.hl [⟨8,fun x R K=>units_Types.L8 F R K F x⟩],J:=mkJ units_Types.hj [⟨23,fun x R K=>units_Types.J23 F R K x⟩]}
theorem units_Types.a0 (m:Int) (F:Nat):(units_Types.X m F).lp (loopsOf (bd Go.Proofs.Tryz.f42)) 0:=FX.loop _ _ 0 8 F (by kernel_rfl) (units_Types.L8 F) (fun _ _ _=>by kernel_rfl) (fun _ _ _ _=>by kernel_rfl) (fun _ _ _=>by kernel_rfl)
theorem units_Types.c0 (m:Int) (F:Nat):(units_Types.X m F).ct (cutsOf (units_Types.X m F).HJ (bd Go.Proofs.Tryz.f42)) 0:=FX.cut _ _ 0 23 (by kernel_rfl) (fun _ _ _=>by kernel_rfl)
theorem units_Types.ok (m:Int) (F:Nat):OK Go.Proofs.Tryz.prog (G m) 42 units_Types.sg (units_Types.sp F) :=
 func_x (units_Types.X m F) mixed tsOK ⟨tree_Check.ok m F,tree_Constant.ok m F,units_rules.ok m F,trivial⟩ ⟨mkT_ok ⟨⟨133,by kernel_rfl,units_node_alike.ok m F⟩,⟨132,by kernel_rfl,units_node_blocks.ok m F⟩,⟨135,by kernel_rfl,units_node_counted.ok m F⟩,⟨130,by kernel_rfl,units_node_money.ok m F⟩,⟨129,by kernel_rfl,units_node_number.ok m F⟩,⟨137,by kernel_rfl,units_node_off.ok m F⟩,⟨136,by kernel_rfl,units_node_priced.ok m F⟩,⟨134,by kernel_rfl,units_node_product.ok m F⟩,⟨131,by kernel_rfl,units_node_quantity.ok m F⟩,⟨138,by kernel_rfl,units_node_test.ok m F⟩,trivial⟩,trivial⟩ Go.Proofs.Tryz.func42 1 1 (by kernel_rfl) (at_cons (units_Types.a0 m F) at_nil) (at_cons (units_Types.c0 m F) at_nil) (fun _=>by kernel_rfl)
def slices_Max_int.te:List (Nat×KS):=[(0,.b (.int .i64)),(2,.c (.int .i64)),(3,.c (.int .i64)),(4,.c (.int .i64)),(7,.c .bool),(15,.c .bool)]
def slices_Max_int.h:Nat→Shape:=shN slices_Max_int.te [] [] [(0,1,0,0),(1,17,0,0),(3,5,0,0),(4,13,0,0),(5,45,0,0),(6,13,0,0),(7,13,0,0),(8,2,0,0)]
def slices_Max_int.hl:Nat→Shape:=shN slices_Max_int.te [] [] [(5,13,0,0)]
def slices_Max_int.L5 (F:Nat) (R:Type) (K:Ex→St→Option R) (n:Nat) (x:((List Int)×Int×Int×Unit)×(Unit)×(Unit)):Option R :=
 slices_Max_int.l5 F (fun x m i t15=>K (.exit 0) (encS (slices_Max_int.h 5) ((x,m,i,t15,()),(),()))) n x.1.1 x.1.2.1 x.1.2.2.1
def slices_Max_int.X (m:Int) (F:Nat):FX TI (G m) Sg:={hn:={na:=1},N:=25,H:=slices_Max_int.h,HL:=slices_Max_int.hl,L:=mkL slices_Max_int.hl [⟨5,fun x R K=>slices_Max_int.L5 F R K F x⟩]}
theorem slices_Max_int.a0 (m:Int) (F:Nat):(slices_Max_int.X m F).lp (loopsOf (bd Go.Proofs.Tryz.f46)) 0:=FX.loop _ _ 0 5 F (by kernel_rfl) (slices_Max_int.L5 F) (fun _ _ _=>by kernel_rfl) (fun _ _ _ _=>by kernel_rfl) (fun _ _ _=>by kernel_rfl)
theorem slices_Max_int.ok (m:Int) (F:Nat):OK Go.Proofs.Tryz.prog (G m) 46 slices_Max_int.sg (slices_Max_int.sp F) :=
 func_x (slices_Max_int.X m F) mixed tsOK trivial trivial Go.Proofs.Tryz.func46 1 0 (by kernel_rfl) (at_cons (slices_Max_int.a0 m F) at_nil) at_nil (fun _=>by kernel_rfl)
def tree_Scale.te:List (Nat×KS):=[(1,.loc 1),(2,.c (.int .i64)),(3,.c (.int .i64)),(5,.c (.int .i64)),(6,.c (.sl (.int .i64))),(6,.ow 6),(8,.loc 8),(9,.c (.int .i64)),(10,.c (.int .i64)),(17,.c .bool),(20,.c (.sl tNode)),(21,.c (.int .i64)),(22,.c (.int .i64)),(23,.c .bool),(29,.c .bool),(45,.c .bool)]
def tree_Scale.tb:List (Nat×KS):=[(1,.g tPlan),(8,.g tNode)]
def tree_Scale.tp:List OwnE:=[⟨6,.env 6,(.int .i64)⟩]
def tree_Scale.h:Nat→Shape:=shN tree_Scale.te tree_Scale.tb tree_Scale.tp [(0,1,1,0),(1,9,1,0),(2,521,1,0),(3,6,0,0),(4,33,1,1),(5,7200,0,1),(6,15392,0,1),(7,7264,2,1),(8,7392,2,1),(9,7648,2,1),(10,24032,2,1),(11,7648,2,1),(12,7392,2,1),(13,40096,0,1),(14,7328,0,1),(15,7200,0,1),(16,7200,0,1),(17,6,0,0)]
def tree_Scale.hl:Nat→Shape:=shN tree_Scale.te tree_Scale.tb tree_Scale.tp [(6,7200,0,1)]
def tree_Scale.hj:Nat→Option Shape:=shO tree_Scale.te tree_Scale.tb tree_Scale.tp [(17,16,0,0)]
def tree_Scale.L6 (F:Nat) (R:Type) (K:Ex→St→Option R) (n:Nat) (x:(Unit×(List tNode.T)×Int×Int×Unit)×(Unit)×((List Int)×Unit)):Option R :=
 tree_Scale.l6 F (fun t20 t21 t22 t23 pile=>K (.exit 0) (encS (tree_Scale.h 6) (((),t20,t21,t22,t23,()),(),(pile,())))) n x.1.2.1 x.1.2.2.1 x.1.2.2.2.1 x.2.2.1
def tree_Scale.J17 (F:Nat) (R:Type) (K:Ex→St→Option R) (x:((List Int)×Unit)×(Unit)×(Unit)):Option R :=
 tree_Scale.j17 F (fun r2 r3=>K .ret (encS (tree_Scale.h 17) ((r2,r3,()),(),()))) x.1.1
def tree_Scale.X (m:Int) (F:Nat):FX TI (G m) Sg:={hn:={MU:=fun s=>lk false s [(51,true)],na:=1,fzJ:=fun r=>lk [] r [(17,[6])]},lv:=[⟨44,tree_Check.sp F⟩,⟨45,tree_takes.sp F⟩,⟨46,slices_Max_int.sp F⟩],N:=56,H:=tree_Scale.h,HL:=tree_Scale.hl,HJ:=tree_Scale.hj,L:=mkL tree_Scale.hl [⟨6,fun x R K=>tree_Scale.L6 F R K F x⟩],J:=mkJ tree_Scale.hj [⟨17,fun x R K=>tree_Scale.J17 F R K x⟩]}
theorem tree_Scale.a0 (m:Int) (F:Nat):(tree_Scale.X m F).lp (loopsOf (bd Go.Proofs.Tryz.f24)) 0:=FX.loop _ _ 0 6 F (by kernel_rfl) (tree_Scale.L6 F) (fun _ _ _=>by kernel_rfl) (fun _ _ _ _=>by kernel_rfl) (fun _ _ _=>by kernel_rfl)
theorem tree_Scale.c0 (m:Int) (F:Nat):(tree_Scale.X m F).ct (cutsOf (tree_Scale.X m F).HJ (bd Go.Proofs.Tryz.f24)) 0:=FX.cut _ _ 0 17 (by kernel_rfl) (fun _ _ _=>by kernel_rfl)
theorem tree_Scale.ok (m:Int) (F:Nat):OK Go.Proofs.Tryz.prog (G m) 24 tree_Scale.sg (tree_Scale.sp F) :=
 func_x (tree_Scale.X m F) mixed tsOK ⟨tree_Check.ok m F,tree_takes.ok m F,slices_Max_int.ok m F,trivial⟩ trivial Go.Proofs.Tryz.func24 1 1 (by kernel_rfl) (at_cons (tree_Scale.a0 m F) at_nil) (at_cons (tree_Scale.c0 m F) at_nil) (fun _=>by kernel_rfl)
def wide_Of.te:List (Nat×KS):=[(0,.c (.int .i64)),(2,.loc 2)]
def wide_Of.tb:List (Nat×KS):=[(2,.g tWide)]
def wide_Of.h:Nat→Shape:=shN wide_Of.te wide_Of.tb [] [(0,3,1,0),(1,2,1,0)]
def wide_Of.X (m:Int) (F:Nat):FX TI (G m) Sg:={hn:={na:=1},N:=8,H:=wide_Of.h}
theorem wide_Of.ok (m:Int) (F:Nat):OK Go.Proofs.Tryz.prog (G m) 22 wide_Of.sg (wide_Of.sp F) :=
 func_x (wide_Of.X m F) mixed tsOK trivial trivial Go.Proofs.Tryz.func22 0 0 (by kernel_rfl) at_nil at_nil (fun _=>by kernel_rfl)
theorem math_bits_Sub64.ok (m:Int) (F:Nat):OK Go.Proofs.Tryz.prog (G m) 39 math_bits_Sub64.sg (math_bits_Sub64.sp F):=math_bits_Sub64.ok' F Go.Proofs.Tryz.func39 (by kernel_rfl) (by kernel_rfl) (by kernel_rfl)
def wide_Abs.te:List (Nat×KS):=[(1,.loc 1),(2,.c (.int .u64)),(3,.c (.int .u64)),(4,.c (.int .u64)),(5,.c (.int .u64)),(6,.c (.int .u64)),(10,.c .bool)]
def wide_Abs.tb:List (Nat×KS):=[(1,.g tWide)]
def wide_Abs.h:Nat→Shape:=shN wide_Abs.te wide_Abs.tb [] [(0,1,1,0),(1,65,1,0),(2,6,0,0),(3,25,1,0),(4,40,0,0),(5,6,0,0)]
def wide_Abs.X (m:Int) (F:Nat):FX TI (G m) Sg:={hn:={na:=1},lv:=[⟨39,math_bits_Sub64.sp F⟩],N:=32,H:=wide_Abs.h}
theorem wide_Abs.ok (m:Int) (F:Nat):OK Go.Proofs.Tryz.prog (G m) 83 wide_Abs.sg (wide_Abs.sp F) :=
 func_x (wide_Abs.X m F) mixed tsOK ⟨math_bits_Sub64.ok m F,trivial⟩ trivial Go.Proofs.Tryz.func83 0 0 (by kernel_rfl) at_nil at_nil (fun _=>by kernel_rfl)
def math_bits_Mul64.te:List (Nat×KS):=[(0,.c (.int .u64)),(1,.c (.int .u64)),(4,.c (.int .u64)),(5,.c (.int .u64)),(6,.c (.int .u64)),(7,.c (.int .u64)),(8,.c (.int .u64)),(9,.c (.int .u64)),(10,.c (.int .u64)),(11,.c (.int .u64)),(12,.c (.int .u64)),(13,.c (.int .u64))]
def math_bits_Mul64.h:Nat→Shape:=shN math_bits_Mul64.te [] [] [(0,3,0,0),(1,19,0,0),(2,51,0,0),(3,115,0,0),(4,243,0,0),(5,499,0,0),(6,691,0,0),(7,1715,0,0),(8,3251,0,0),(9,3235,0,0),(10,7,0,0),(11,12,0,0)]
def math_bits_Mul64.X (m:Int) (F:Nat):FX TI (G m) Sg:={hn:={na:=2},N:=51,H:=math_bits_Mul64.h}
theorem math_bits_Mul64.ok (m:Int) (F:Nat):OK Go.Proofs.Tryz.prog (G m) 84 math_bits_Mul64.sg (math_bits_Mul64.sp F) :=
 func_x (math_bits_Mul64.X m F) mixed tsOK trivial trivial Go.Proofs.Tryz.func84 0 0 (by kernel_rfl) at_nil at_nil (fun _=>by kernel_rfl)
def times_pick.te:List (Nat×KS):=[(0,.c .bool),(1,.c (.int .u64)),(2,.c (.int .u64)),(6,.c (.int .u64)),(7,.c .bool)]
def times_pick.h:Nat→Shape:=shN times_pick.te [] [] [(0,7,0,0),(1,22,0,0),(2,8,0,0),(3,8,0,0)]
def times_pick.X (m:Int) (F:Nat):FX TI (G m) Sg:={hn:={na:=3},N:=10,H:=times_pick.h}
theorem times_pick.ok (m:Int) (F:Nat):OK Go.Proofs.Tryz.prog (G m) 85 times_pick.sg (times_pick.sp F) :=
 func_x (times_pick.X m F) mixed tsOK trivial trivial Go.Proofs.Tryz.func85 0 0 (by kernel_rfl) at_nil at_nil (fun _=>by kernel_rfl)
theorem math_bits_Add64.ok (m:Int) (F:Nat):OK Go.Proofs.Tryz.prog (G m) 38 math_bits_Add64.sg (math_bits_Add64.sp F):=math_bits_Add64.ok' F Go.Proofs.Tryz.func38 (by kernel_rfl) (by kernel_rfl) (by kernel_rfl)
def wide_Sub.te:List (Nat×KS):=[(2,.loc 2),(3,.loc 3),(4,.loc 4),(5,.c (.int .i64)),(6,.c (.int .u64)),(7,.c (.int .u64)),(8,.c (.int .u64)),(10,.loc 10),(49,.c .bool)]
def wide_Sub.tb:List (Nat×KS):=[(2,.g tWide),(3,.g tWide),(4,.g tWide),(10,.g tWide)]
def wide_Sub.h:Nat→Shape:=shN wide_Sub.te wide_Sub.tb [] [(0,7,7,0),(1,55,7,0),(2,87,7,0),(3,135,15,0),(4,388,12,0),(5,12,4,0),(6,12,4,0)]
def wide_Sub.X (m:Int) (F:Nat):FX TI (G m) Sg:={hn:={na:=2},lv:=[⟨39,math_bits_Sub64.sp F⟩],N:=52,H:=wide_Sub.h}
theorem wide_Sub.ok (m:Int) (F:Nat):OK Go.Proofs.Tryz.prog (G m) 16 wide_Sub.sg (wide_Sub.sp F) :=
 func_x (wide_Sub.X m F) mixed tsOK ⟨math_bits_Sub64.ok m F,trivial⟩ trivial Go.Proofs.Tryz.func16 0 0 (by kernel_rfl) at_nil at_nil (fun _=>by kernel_rfl)
def wide_Neg.te:List (Nat×KS):=[(1,.loc 1),(2,.loc 2),(3,.c (.int .i64))]
def wide_Neg.tb:List (Nat×KS):=[(1,.g tWide),(2,.g tWide)]
def wide_Neg.h:Nat→Shape:=shN wide_Neg.te wide_Neg.tb [] [(0,3,3,0),(1,6,2,0)]
def wide_Neg.X (m:Int) (F:Nat):FX TI (G m) Sg:={hn:={na:=1},lv:=[⟨16,wide_Sub.sp F⟩],N:=9,H:=wide_Neg.h}
theorem wide_Neg.ok (m:Int) (F:Nat):OK Go.Proofs.Tryz.prog (G m) 143 wide_Neg.sg (wide_Neg.sp F) :=
 func_x (wide_Neg.X m F) mixed tsOK ⟨wide_Sub.ok m F,trivial⟩ trivial Go.Proofs.Tryz.func143 0 0 (by kernel_rfl) at_nil at_nil (fun _=>by kernel_rfl)
def wide_Join.te:List (Nat×KS):=[(0,.c .bool),(1,.c (.int .u64)),(2,.c (.int .u64)),(6,.loc 6),(7,.c (.int .i64)),(8,.loc 8),(11,.c .bool),(16,.c .bool),(30,.c .bool)]
def wide_Join.tb:List (Nat×KS):=[(6,.g tWide),(8,.g tWide)]
def wide_Join.h:Nat→Shape:=shN wide_Join.te wide_Join.tb [] [(0,15,1,0),(1,79,1,0),(2,41,3,0),(3,168,3,0),(4,24,1,0),(5,24,1,0),(6,264,1,0),(7,24,1,0),(8,24,1,0)]
def wide_Join.X (m:Int) (F:Nat):FX TI (G m) Sg:={hn:={na:=3},lv:=[⟨143,wide_Neg.sp F⟩],N:=33,H:=wide_Join.h}
theorem wide_Join.ok (m:Int) (F:Nat):OK Go.Proofs.Tryz.prog (G m) 86 wide_Join.sg (wide_Join.sp F) :=
 func_x (wide_Join.X m F) mixed tsOK ⟨wide_Neg.ok m F,trivial⟩ trivial Go.Proofs.Tryz.func86 0 0 (by kernel_rfl) at_nil at_nil (fun _=>by kernel_rfl)
def times_Mul.te:List (Nat×KS):=[(2,.loc 2),(3,.loc 3),(4,.loc 4),(5,.c (.int .i64)),(6,.c (.int .u64)),(7,.c (.int .u64)),(8,.c (.int .u64)),(9,.c (.int .u64)),(10,.c (.int .u64)),(11,.c (.int .u64)),(12,.c (.int .u64)),(13,.c (.int .u64)),(14,.c (.int .u64)),(30,.c .bool),(61,.c .bool)]
def times_Mul.tb:List (Nat×KS):=[(2,.g tWide),(3,.g tWide),(4,.g tWide)]
def times_Mul.h:Nat→Shape:=shN times_Mul.te times_Mul.tb [] [(0,7,7,0),(1,55,7,0),(2,247,7,0),(3,8439,7,0),(4,12,4,0),(5,1015,7,0),(6,3847,7,0),(7,5895,7,0),(8,17159,7,0),(9,12,4,0),(10,12,4,0)]
def times_Mul.hj:Nat→Option Shape:=shO times_Mul.te times_Mul.tb [] [(5,247,7,0)]
def times_Mul.J5 (F:Nat) (R:Type) (K:Ex→St→Option R) (x:(Unit×Unit×Unit×Int×Int×Int×Int×Unit)×(tWide.T×tWide.T×tWide.T×Unit)×(Unit)):Option R :=
 times_Mul.j5 F (fun r5 r4=>K .ret (encS (times_Mul.h 9) (((),r5,()),(r4,()),()))) (fun r5 r4=>K .ret (encS (times_Mul.h 10) (((),r5,()),(r4,()),()))) x.1.2.2.2.1 x.1.2.2.2.2.1 x.1.2.2.2.2.2.1 x.1.2.2.2.2.2.2.1 x.2.1.1 x.2.1.2.1 x.2.1.2.2.1
def times_Mul.X (m:Int) (F:Nat):FX TI (G m) Sg:={hn:={na:=2},lv:=[⟨83,wide_Abs.sp F⟩,⟨84,math_bits_Mul64.sp F⟩,⟨85,times_pick.sp F⟩,⟨38,math_bits_Add64.sp F⟩,⟨86,wide_Join.sp F⟩],N:=75,H:=times_Mul.h,HJ:=times_Mul.hj,J:=mkJ times_Mul.hj [⟨5,fun x R K=>times_Mul.J5 F R K x⟩]}
theorem times_Mul.c0 (m:Int) (F:Nat):(times_Mul.X m F).ct (cutsOf (times_Mul.X m F).HJ (bd Go.Proofs.Tryz.f47)) 0:=FX.cut _ _ 0 5 (by kernel_rfl) (fun _ _ _=>by kernel_rfl)
theorem times_Mul.ok (m:Int) (F:Nat):OK Go.Proofs.Tryz.prog (G m) 47 times_Mul.sg (times_Mul.sp F) :=
 func_x (times_Mul.X m F) mixed tsOK ⟨wide_Abs.ok m F,math_bits_Mul64.ok m F,times_pick.ok m F,math_bits_Add64.ok m F,wide_Join.ok m F,trivial⟩ trivial Go.Proofs.Tryz.func47 0 1 (by kernel_rfl) at_nil (at_cons (times_Mul.c0 m F) at_nil) (fun _=>by kernel_rfl)
def times_Power.te:List (Nat×KS):=[(0,.c (.int .i64)),(2,.loc 2),(3,.c (.int .i64)),(4,.loc 4),(6,.c .bool),(9,.c .bool),(12,.c (.int .i64)),(13,.c (.int .i64)),(14,.c .bool)]
def times_Power.tb:List (Nat×KS):=[(2,.g tWide),(4,.g tWide)]
def times_Power.h:Nat→Shape:=shN times_Power.te times_Power.tb [] [(0,3,1,0),(1,19,1,0),(2,6,1,0),(3,35,1,0),(4,6,1,0),(5,11,3,0),(6,202,3,0),(7,458,3,0),(8,202,3,0),(9,202,3,0),(10,6,1,0)]
def times_Power.hl:Nat→Shape:=shN times_Power.te times_Power.tb [] [(7,202,3,0)]
def times_Power.L7 (F:Nat) (R:Type) (K:Ex→St→Option R) (n:Nat) (x:(Unit×Unit×Int×Int×Unit)×(tWide.T×tWide.T×Unit)×(Unit)):Option R :=
 times_Power.l7 F (fun t12 t13 t14 r2 p=>K (.exit 0) (encS (times_Power.h 7) (((),(),t12,t13,t14,()),(r2,p,()),()))) n x.1.2.2.1 x.1.2.2.2.1 x.2.1.1 x.2.1.2.1
def times_Power.X (m:Int) (F:Nat):FX TI (G m) Sg:={hn:={na:=1},lv:=[⟨22,wide_Of.sp F⟩,⟨47,times_Mul.sp F⟩],N:=23,H:=times_Power.h,HL:=times_Power.hl,L:=mkL times_Power.hl [⟨7,fun x R K=>times_Power.L7 F R K F x⟩]}
theorem times_Power.a0 (m:Int) (F:Nat):(times_Power.X m F).lp (loopsOf (bd Go.Proofs.Tryz.f43)) 0:=FX.loop _ _ 0 7 F (by kernel_rfl) (times_Power.L7 F) (fun _ _ _=>by kernel_rfl) (fun _ _ _ _=>by kernel_rfl) (fun _ _ _=>by kernel_rfl)
theorem times_Power.ok (m:Int) (F:Nat):OK Go.Proofs.Tryz.prog (G m) 43 times_Power.sg (times_Power.sp F) :=
 func_x (times_Power.X m F) mixed tsOK ⟨wide_Of.ok m F,times_Mul.ok m F,trivial⟩ trivial Go.Proofs.Tryz.func43 1 0 (by kernel_rfl) (at_cons (times_Power.a0 m F) at_nil) at_nil (fun _=>by kernel_rfl)
def bound_takes.te:List (Nat×KS):=[(1,.loc 1),(2,.c (.int .i64)),(4,.c (.int .i64)),(5,.c .bool),(10,.c .bool),(14,.c .bool),(19,.c .bool)]
def bound_takes.tb:List (Nat×KS):=[(1,.g tNode)]
def bound_takes.h:Nat→Shape:=shN bound_takes.te bound_takes.tb [] [(0,1,1,0),(1,5,1,0),(2,13,1,0),(3,13,1,0),(4,13,1,0),(5,13,1,0),(6,2,0,0),(7,21,1,0),(8,21,1,0),(9,21,1,0),(10,2,0,0),(11,37,1,0),(12,37,1,0),(13,2,0,0),(14,64,0,0),(15,2,0,0),(16,2,0,0)]
def bound_takes.hj:Nat→Option Shape:=shO bound_takes.te bound_takes.tb [] [(6,13,1,0),(10,21,1,0)]
def bound_takes.J10 (F:Nat) (R:Type) (K:Ex→St→Option R) (x:(Unit×Int×Bool×Unit)×(tNode.T×Unit)×(Unit)):Option R :=
 bound_takes.j10 F (fun r2=>K .ret (encS (bound_takes.h 10) ((r2,()),(),()))) (fun r2=>K .ret (encS (bound_takes.h 13) ((r2,()),(),()))) (fun r2=>K .ret (encS (bound_takes.h 15) ((r2,()),(),()))) (fun t19=>K .normal (encS (bound_takes.h 14) ((t19,()),(),()))) x.1.2.1 x.1.2.2.1 x.2.1.1
def bound_takes.J6 (F:Nat) (R:Type) (K:Ex→St→Option R) (x:(Unit×Int×Bool×Unit)×(tNode.T×Unit)×(Unit)):Option R :=
 bound_takes.j6 F (fun r2=>K .ret (encS (bound_takes.h 6) ((r2,()),(),()))) (fun r2=>K .ret (encS (bound_takes.h 10) ((r2,()),(),()))) (fun r2=>K .ret (encS (bound_takes.h 13) ((r2,()),(),()))) (fun r2=>K .ret (encS (bound_takes.h 15) ((r2,()),(),()))) (fun t19=>K .normal (encS (bound_takes.h 14) ((t19,()),(),()))) x.1.2.1 x.1.2.2.1 x.2.1.1
def bound_takes.X (m:Int) (F:Nat):FX TI (G m) Sg:={hn:={na:=1},N:=21,H:=bound_takes.h,HJ:=bound_takes.hj,J:=mkJ bound_takes.hj [⟨10,fun x R K=>bound_takes.J10 F R K x⟩,⟨6,fun x R K=>bound_takes.J6 F R K x⟩]}
theorem bound_takes.c0 (m:Int) (F:Nat):(bound_takes.X m F).ct (cutsOf (bound_takes.X m F).HJ (bd Go.Proofs.Tryz.f73)) 0:=FX.cut _ _ 0 6 (by kernel_rfl) (fun _ _ _=>by kernel_rfl)
theorem bound_takes.c1 (m:Int) (F:Nat):(bound_takes.X m F).ct (cutsOf (bound_takes.X m F).HJ (bd Go.Proofs.Tryz.f73)) 1:=FX.cut _ _ 1 10 (by kernel_rfl) (fun _ _ _=>by kernel_rfl)
theorem bound_takes.ok (m:Int) (F:Nat):OK Go.Proofs.Tryz.prog (G m) 73 bound_takes.sg (bound_takes.sp F) :=
 func_x (bound_takes.X m F) mixed tsOK trivial trivial Go.Proofs.Tryz.func73 0 2 (by kernel_rfl) at_nil (at_cons (bound_takes.c1 m F) (at_cons (bound_takes.c0 m F) at_nil)) (fun _=>by kernel_rfl)
def bound_meter_keep.te:List (Nat×KS):=[(0,.loc 0),(2,.c (.int .i64)),(4,.loc 4),(6,.loc 6)]
def bound_meter_keep.tb:List (Nat×KS):=[(0,.g tBound_meter),(4,.g tWide),(6,.g tWide)]
def bound_meter_keep.h:Nat→Shape:=shN bound_meter_keep.te bound_meter_keep.tb [] [(0,15,7,0),(1,12,7,0),(2,8,5,0)]
def bound_meter_keep.X (m:Int) (F:Nat):FX TI (G m) Sg:={hn:={na:=3},N:=19,H:=bound_meter_keep.h}
theorem bound_meter_keep.ok (m:Int) (F:Nat):OK Go.Proofs.Tryz.prog (G m) 115 bound_meter_keep.sg (bound_meter_keep.sp F) :=
 func_x (bound_meter_keep.X m F) mixed tsOK trivial trivial Go.Proofs.Tryz.func115 0 0 (by kernel_rfl) at_nil at_nil (fun _=>by kernel_rfl)
def bound_meter_mul.te:List (Nat×KS):=[(0,.loc 0),(4,.loc 4),(5,.loc 5),(6,.loc 6)]
def bound_meter_mul.tb:List (Nat×KS):=[(0,.g tBound_meter),(4,.g tWide),(5,.g tWide),(6,.g tWide)]
def bound_meter_mul.h:Nat→Shape:=shN bound_meter_mul.te bound_meter_mul.tb [] [(0,15,15,0),(1,8,9,0)]
def bound_meter_mul.X (m:Int) (F:Nat):FX TI (G m) Sg:={hn:={na:=3},lv:=[⟨47,times_Mul.sp F⟩,⟨115,bound_meter_keep.sp F⟩],N:=14,H:=bound_meter_mul.h}
theorem bound_meter_mul.ok (m:Int) (F:Nat):OK Go.Proofs.Tryz.prog (G m) 114 bound_meter_mul.sg (bound_meter_mul.sp F) :=
 func_x (bound_meter_mul.X m F) mixed tsOK ⟨times_Mul.ok m F,bound_meter_keep.ok m F,trivial⟩ trivial Go.Proofs.Tryz.func114 0 0 (by kernel_rfl) at_nil at_nil (fun _=>by kernel_rfl)
def math_bits_Len64.te:List (Nat×KS):=[(0,.c (.int .u64)),(2,.c (.int .i64)),(4,.c .bool),(8,.c .bool),(14,.c .bool)]
def math_bits_Len64.h:Nat→Shape:=shN math_bits_Len64.te [] [] [(0,3,0,0),(1,7,0,0),(2,1,0,0),(3,3,0,0),(4,11,0,0),(5,3,0,0),(6,3,0,0),(7,19,0,0),(8,3,0,0),(9,3,0,0),(10,2,0,0)]
def math_bits_Len64.hj:Nat→Option Shape:=shO math_bits_Len64.te [] [] [(4,3,0,0),(7,3,0,0)]
def math_bits_Len64.J7 (F:Nat) (R:Type) (K:Ex→St→Option R) (x:(Int×Int×Unit)×(Unit)×(Unit)):Option R :=
 math_bits_Len64.j7 F (fun n=>K .ret (encS (math_bits_Len64.h 10) ((n,()),(),()))) x.1.1 x.1.2.1
def math_bits_Len64.J4 (F:Nat) (R:Type) (K:Ex→St→Option R) (x:(Int×Int×Unit)×(Unit)×(Unit)):Option R :=
 math_bits_Len64.j4 F (fun n=>K .ret (encS (math_bits_Len64.h 10) ((n,()),(),()))) x.1.1 x.1.2.1
def math_bits_Len64.X (m:Int) (F:Nat):FX TI (G m) Sg:={hn:={na:=1},N:=25,H:=math_bits_Len64.h,HJ:=math_bits_Len64.hj,J:=mkJ math_bits_Len64.hj [⟨7,fun x R K=>math_bits_Len64.J7 F R K x⟩,⟨4,fun x R K=>math_bits_Len64.J4 F R K x⟩]}
theorem math_bits_Len64.c0 (m:Int) (F:Nat):(math_bits_Len64.X m F).ct (cutsOf (math_bits_Len64.X m F).HJ (bd Go.Proofs.Tryz.f218)) 0:=FX.cut _ _ 0 4 (by kernel_rfl) (fun _ _ _=>by kernel_rfl)
theorem math_bits_Len64.c1 (m:Int) (F:Nat):(math_bits_Len64.X m F).ct (cutsOf (math_bits_Len64.X m F).HJ (bd Go.Proofs.Tryz.f218)) 1:=FX.cut _ _ 1 7 (by kernel_rfl) (fun _ _ _=>by kernel_rfl)
theorem math_bits_Len64.ok (m:Int) (F:Nat):OK Go.Proofs.Tryz.prog (G m) 218 math_bits_Len64.sg (math_bits_Len64.sp F) :=
 func_x (math_bits_Len64.X m F) mixed tsOK trivial trivial Go.Proofs.Tryz.func218 0 2 (by kernel_rfl) at_nil (at_cons (math_bits_Len64.c1 m F) (at_cons (math_bits_Len64.c0 m F) at_nil)) (fun _=>by kernel_rfl)
def math_bits_LeadingZeros64.te:List (Nat×KS):=[(0,.c (.int .u64)),(2,.c (.int .i64))]
def math_bits_LeadingZeros64.h:Nat→Shape:=shN math_bits_LeadingZeros64.te [] [] [(0,1,0,0),(1,2,0,0)]
def math_bits_LeadingZeros64.X (m:Int) (F:Nat):FX TI (G m) Sg:={hn:={na:=1},lv:=[⟨218,math_bits_Len64.sp F⟩],N:=6,H:=math_bits_LeadingZeros64.h}
theorem math_bits_LeadingZeros64.ok (m:Int) (F:Nat):OK Go.Proofs.Tryz.prog (G m) 213 math_bits_LeadingZeros64.sg (math_bits_LeadingZeros64.sp F) :=
 func_x (math_bits_LeadingZeros64.X m F) mixed tsOK ⟨math_bits_Len64.ok m F,trivial⟩ trivial Go.Proofs.Tryz.func213 0 0 (by kernel_rfl) at_nil at_nil (fun _=>by kernel_rfl)
def math_bits_Div64.te:List (Nat×KS):=[(0,.c (.int .u64)),(1,.c (.int .u64)),(2,.c (.int .u64)),(6,.c (.int .u64)),(7,.c (.int .u64)),(8,.c (.int .u64)),(9,.c (.int .u64)),(10,.c (.int .u64)),(11,.c (.int .u64)),(12,.c (.int .u64)),(13,.c (.int .u64)),(14,.c (.int .u64)),(15,.c (.int .u64)),(16,.c (.int .u64)),(17,.c (.int .u64)),(18,.c (.int .u64)),(20,.c .bool),(24,.c .bool),(27,.c .bool),(78,.c .bool),(85,.c .bool),(113,.c .bool),(120,.c .bool)]
def math_bits_Div64.h:Nat→Shape:=shN math_bits_Div64.te [] [] [(0,7,0,0),(1,65543,0,0),(3,131079,0,0),(5,262151,0,0),(6,24,0,0),(7,39,0,0),(8,39,0,0),(9,103,0,0),(10,231,0,0),(11,486,0,0),(12,996,0,0),(13,2020,0,0),(14,3556,0,0),(15,7652,0,0),(16,15844,0,0),(17,540132,0,0),(18,15844,0,0),(19,15844,0,0),(20,1064420,0,0),(21,22756,0,0),(22,55524,0,0),(23,63716,0,0),(24,2160868,0,0),(25,63716,0,0),(26,63716,0,0),(27,4258020,0,0),(28,24,0,0)]
def math_bits_Div64.hl:Nat→Shape:=shN math_bits_Div64.te [] [] [(17,15844,0,0),(24,63716,0,0)]
def math_bits_Div64.hj:Nat→Option Shape:=shO math_bits_Div64.te [] [] [(21,7652,0,0),(28,55332,0,0)]
def math_bits_Div64.L17 (F:Nat) (R:Type) (K:Ex→St→Option R) (n:Nat) (x:(Int×Int×Int×Int×Int×Int×Int×Int×Int×Unit)×(Unit)×(Unit)):Option R :=
 math_bits_Div64.l17 F (fun y s yn1 yn0 un32 un1 un0 q1 rhat t85=>K (.exit 0) (encS (math_bits_Div64.h 20) ((y,s,yn1,yn0,un32,un1,un0,q1,rhat,t85,()),(),()))) (fun y s yn1 yn0 un32 un1 un0 q1 rhat t78=>K (.exit 0) (encS (math_bits_Div64.h 17) ((y,s,yn1,yn0,un32,un1,un0,q1,rhat,t78,()),(),()))) n x.1.1 x.1.2.1 x.1.2.2.1 x.1.2.2.2.1 x.1.2.2.2.2.1 x.1.2.2.2.2.2.1 x.1.2.2.2.2.2.2.1 x.1.2.2.2.2.2.2.2.1 x.1.2.2.2.2.2.2.2.2.1
def math_bits_Div64.L24 (F:Nat) (R:Type) (K:Ex→St→Option R) (n:Nat) (x:(Int×Int×Int×Int×Int×Int×Int×Int×Int×Unit)×(Unit)×(Unit)):Option R :=
 math_bits_Div64.l24 F (fun y s yn1 yn0 un0 q1 rhat un21 q0 t120=>K (.exit 2) (encS (math_bits_Div64.h 27) ((y,s,yn1,yn0,un0,q1,rhat,un21,q0,t120,()),(),()))) (fun y s yn1 yn0 un0 q1 rhat un21 q0 t113=>K (.exit 2) (encS (math_bits_Div64.h 24) ((y,s,yn1,yn0,un0,q1,rhat,un21,q0,t113,()),(),()))) n x.1.1 x.1.2.1 x.1.2.2.1 x.1.2.2.2.1 x.1.2.2.2.2.1 x.1.2.2.2.2.2.1 x.1.2.2.2.2.2.2.1 x.1.2.2.2.2.2.2.2.1 x.1.2.2.2.2.2.2.2.2.1
def math_bits_Div64.J28 (F:Nat) (R:Type) (K:Ex→St→Option R) (x:(Int×Int×Int×Int×Int×Int×Unit)×(Unit)×(Unit)):Option R :=
 math_bits_Div64.j28 F (fun quo rem=>K .ret (encS (math_bits_Div64.h 28) ((quo,rem,()),(),()))) x.1.1 x.1.2.1 x.1.2.2.1 x.1.2.2.2.1 x.1.2.2.2.2.1 x.1.2.2.2.2.2.1
def math_bits_Div64.J21 (F:Nat) (R:Type) (K:Ex→St→Option R) (x:(Int×Int×Int×Int×Int×Int×Int×Int×Unit)×(Unit)×(Unit)):Option R :=
 math_bits_Div64.j21 F (fun quo rem=>K .ret (encS (math_bits_Div64.h 28) ((quo,rem,()),(),()))) x.1.1 x.1.2.1 x.1.2.2.1 x.1.2.2.2.1 x.1.2.2.2.2.1 x.1.2.2.2.2.2.1 x.1.2.2.2.2.2.2.1 x.1.2.2.2.2.2.2.2.1
def math_bits_Div64.X (m:Int) (F:Nat):FX TI (G m) Sg:={hn:={na:=3},lv:=[⟨213,math_bits_LeadingZeros64.sp F⟩],N:=135,H:=math_bits_Div64.h,HL:=math_bits_Div64.hl,HJ:=math_bits_Div64.hj,L:=mkL math_bits_Div64.hl [⟨17,fun x R K=>math_bits_Div64.L17 F R K F x⟩,⟨24,fun x R K=>math_bits_Div64.L24 F R K F x⟩],J:=mkJ math_bits_Div64.hj [⟨28,fun x R K=>math_bits_Div64.J28 F R K x⟩,⟨21,fun x R K=>math_bits_Div64.J21 F R K x⟩]}
theorem math_bits_Div64.a0 (m:Int) (F:Nat):(math_bits_Div64.X m F).lp (loopsOf (bd Go.Proofs.Tryz.f206)) 0:=FX.loop _ _ 0 17 F (by kernel_rfl) (math_bits_Div64.L17 F) (fun _ _ _=>by kernel_rfl) (fun _ _ _ _=>by kernel_rfl) (fun _ _ _=>by kernel_rfl)
theorem math_bits_Div64.a1 (m:Int) (F:Nat):(math_bits_Div64.X m F).lp (loopsOf (bd Go.Proofs.Tryz.f206)) 1:=FX.loop _ _ 1 24 F (by kernel_rfl) (math_bits_Div64.L24 F) (fun _ _ _=>by kernel_rfl) (fun _ _ _ _=>by kernel_rfl) (fun _ _ _=>by kernel_rfl)
theorem math_bits_Div64.c0 (m:Int) (F:Nat):(math_bits_Div64.X m F).ct (cutsOf (math_bits_Div64.X m F).HJ (bd Go.Proofs.Tryz.f206)) 0:=FX.cut _ _ 0 21 (by kernel_rfl) (fun _ _ _=>by kernel_rfl)
theorem math_bits_Div64.c1 (m:Int) (F:Nat):(math_bits_Div64.X m F).ct (cutsOf (math_bits_Div64.X m F).HJ (bd Go.Proofs.Tryz.f206)) 1:=FX.cut _ _ 1 28 (by kernel_rfl) (fun _ _ _=>by kernel_rfl)
theorem math_bits_Div64.ok (m:Int) (F:Nat):OK Go.Proofs.Tryz.prog (G m) 206 math_bits_Div64.sg (math_bits_Div64.sp F) :=
 func_x (math_bits_Div64.X m F) mixed tsOK ⟨math_bits_LeadingZeros64.ok m F,trivial⟩ trivial Go.Proofs.Tryz.func206 2 2 (by kernel_rfl) (at_cons (math_bits_Div64.a1 m F) (at_cons (math_bits_Div64.a0 m F) at_nil)) (at_cons (math_bits_Div64.c1 m F) (at_cons (math_bits_Div64.c0 m F) at_nil)) (fun _=>by kernel_rfl)
def times_quoRem.te:List (Nat×KS):=[(0,.c (.int .u64)),(1,.c (.int .u64)),(2,.c (.int .u64)),(3,.c (.int .u64)),(8,.c (.int .u64)),(9,.c (.int .u64)),(10,.c (.int .u64)),(11,.c (.int .u64)),(12,.c (.int .i64)),(13,.c (.int .u64)),(15,.c .bool),(34,.c .bool),(61,.c .bool)]
def times_quoRem.h:Nat→Shape:=shN times_quoRem.te [] [] [(0,47,0,0),(1,1071,0,0),(2,154,0,0),(3,176,0,0),(4,240,0,0),(5,238,0,0),(6,494,0,0),(7,2542,0,0),(8,494,0,0),(9,494,0,0),(10,494,0,0),(11,4590,0,0),(12,494,0,0),(13,1006,0,0),(14,494,0,0),(15,494,0,0),(16,240,0,0)]
def times_quoRem.hl:Nat→Shape:=shN times_quoRem.te [] [] [(7,494,0,0)]
def times_quoRem.L7 (F:Nat) (R:Type) (K:Ex→St→Option R) (n:Nat) (x:(Int×Int×Int×Int×Int×Int×Int×Unit)×(Unit)×(Unit)):Option R :=
 times_quoRem.l7 F (fun al bh bl ql rh rl i t34=>K (.exit 0) (encS (times_quoRem.h 7) ((al,bh,bl,ql,rh,rl,i,t34,()),(),()))) n x.1.1 x.1.2.1 x.1.2.2.1 x.1.2.2.2.1 x.1.2.2.2.2.1 x.1.2.2.2.2.2.1 x.1.2.2.2.2.2.2.1
def times_quoRem.X (m:Int) (F:Nat):FX TI (G m) Sg:={hn:={na:=4},lv:=[⟨206,math_bits_Div64.sp F⟩,⟨39,math_bits_Sub64.sp F⟩],N:=82,H:=times_quoRem.h,HL:=times_quoRem.hl,L:=mkL times_quoRem.hl [⟨7,fun x R K=>times_quoRem.L7 F R K F x⟩]}
theorem times_quoRem.a0 (m:Int) (F:Nat):(times_quoRem.X m F).lp (loopsOf (bd Go.Proofs.Tryz.f188)) 0:=FX.loop _ _ 0 7 F (by kernel_rfl) (times_quoRem.L7 F) (fun _ _ _=>by kernel_rfl) (fun _ _ _ _=>by kernel_rfl) (fun _ _ _=>by kernel_rfl)
theorem times_quoRem.ok (m:Int) (F:Nat):OK Go.Proofs.Tryz.prog (G m) 188 times_quoRem.sg (times_quoRem.sp F) :=
 func_x (times_quoRem.X m F) mixed tsOK ⟨math_bits_Div64.ok m F,math_bits_Sub64.ok m F,trivial⟩ trivial Go.Proofs.Tryz.func188 1 0 (by kernel_rfl) (at_cons (times_quoRem.a0 m F) at_nil) at_nil (fun _=>by kernel_rfl)
def times_QuoRem.te:List (Nat×KS):=[(2,.loc 2),(3,.loc 3),(4,.loc 4),(5,.loc 5),(6,.c (.int .i64)),(7,.c (.int .u64)),(8,.c (.int .u64)),(9,.c (.int .u64)),(10,.c (.int .u64)),(11,.c (.int .u64)),(12,.c (.int .u64)),(13,.c (.int .u64)),(14,.c (.int .u64)),(15,.loc 15),(16,.c (.int .i64)),(17,.loc 17),(20,.c .bool),(57,.c .bool)]
def times_QuoRem.tb:List (Nat×KS):=[(2,.g tWide),(3,.g tWide),(4,.g tWide),(5,.g tWide),(15,.g tWide),(17,.g tWide)]
def times_QuoRem.h:Nat→Shape:=shN times_QuoRem.te times_QuoRem.tb [] [(0,15,15,0),(1,65551,15,0),(2,28,12,0),(3,111,15,0),(4,495,15,0),(5,7695,15,0),(6,30733,29,0),(7,161805,29,0),(8,28,12,0),(9,57356,60,0),(10,28,12,0)]
def times_QuoRem.X (m:Int) (F:Nat):FX TI (G m) Sg:={hn:={na:=2},lv:=[⟨83,wide_Abs.sp F⟩,⟨188,times_quoRem.sp F⟩,⟨86,wide_Join.sp F⟩],N:=73,H:=times_QuoRem.h}
theorem times_QuoRem.ok (m:Int) (F:Nat):OK Go.Proofs.Tryz.prog (G m) 148 times_QuoRem.sg (times_QuoRem.sp F) :=
 func_x (times_QuoRem.X m F) mixed tsOK ⟨wide_Abs.ok m F,times_quoRem.ok m F,wide_Join.ok m F,trivial⟩ trivial Go.Proofs.Tryz.func148 0 0 (by kernel_rfl) at_nil at_nil (fun _=>by kernel_rfl)
def times_away.te:List (Nat×KS):=[(3,.c (.int .i64)),(4,.loc 4),(5,.loc 5),(6,.loc 6),(8,.c .bool),(9,.c .bool),(10,.c (.int .u64)),(11,.c (.int .u64)),(12,.c (.int .u64)),(13,.c (.int .u64)),(14,.c (.int .u64)),(15,.c (.int .u64)),(16,.c (.int .u64)),(25,.c (.int .i64)),(26,.c .bool),(29,.c .bool),(33,.c .bool),(58,.c .bool),(72,.c .bool)]
def times_away.tb:List (Nat×KS):=[(4,.g tWide),(5,.g tWide),(6,.g tWide)]
def times_away.h:Nat→Shape:=shN times_away.te times_away.tb [] [(0,15,7,0),(1,47,7,0),(2,8239,7,0),(3,24623,7,0),(4,16,0,0),(5,41007,7,0),(6,16,0,0),(7,65551,7,0),(8,16,0,0),(9,203,5,0),(10,963,1,0),(11,3523,1,0),(12,5315,1,0),(13,136387,1,0),(14,16,0,0),(15,262147,1,0),(16,16,0,0),(17,16,0,0)]
def times_away.X (m:Int) (F:Nat):FX TI (G m) Sg:={hn:={na:=4},lv:=[⟨83,wide_Abs.sp F⟩,⟨39,math_bits_Sub64.sp F⟩],N:=89,H:=times_away.h}
theorem times_away.ok (m:Int) (F:Nat):OK Go.Proofs.Tryz.prog (G m) 149 times_away.sg (times_away.sp F) :=
 func_x (times_away.X m F) mixed tsOK ⟨wide_Abs.ok m F,math_bits_Sub64.ok m F,trivial⟩ trivial Go.Proofs.Tryz.func149 0 0 (by kernel_rfl) at_nil at_nil (fun _=>by kernel_rfl)
def wide_Add.te:List (Nat×KS):=[(2,.loc 2),(3,.loc 3),(4,.loc 4),(5,.c (.int .i64)),(6,.c (.int .u64)),(7,.c (.int .u64)),(8,.c (.int .u64)),(10,.loc 10),(49,.c .bool)]
def wide_Add.tb:List (Nat×KS):=[(2,.g tWide),(3,.g tWide),(4,.g tWide),(10,.g tWide)]
def wide_Add.h:Nat→Shape:=shN wide_Add.te wide_Add.tb [] [(0,7,7,0),(1,55,7,0),(2,87,7,0),(3,135,15,0),(4,388,12,0),(5,12,4,0),(6,12,4,0)]
def wide_Add.X (m:Int) (F:Nat):FX TI (G m) Sg:={hn:={na:=2},lv:=[⟨38,math_bits_Add64.sp F⟩],N:=52,H:=wide_Add.h}
theorem wide_Add.ok (m:Int) (F:Nat):OK Go.Proofs.Tryz.prog (G m) 15 wide_Add.sg (wide_Add.sp F) :=
 func_x (wide_Add.X m F) mixed tsOK ⟨math_bits_Add64.ok m F,trivial⟩ trivial Go.Proofs.Tryz.func15 0 0 (by kernel_rfl) at_nil at_nil (fun _=>by kernel_rfl)
def times_Div.te:List (Nat×KS):=[(2,.c (.int .i64)),(3,.loc 3),(4,.loc 4),(6,.loc 6),(7,.c (.int .i64)),(8,.loc 8),(9,.loc 9),(10,.c (.int .i64)),(16,.c .bool),(39,.c .bool),(48,.c .bool)]
def times_Div.tb:List (Nat×KS):=[(3,.g tWide),(4,.g tWide),(6,.g tWide),(8,.g tWide),(9,.g tWide)]
def times_Div.h:Nat→Shape:=shN times_Div.te times_Div.tb [] [(0,15,7,0),(1,271,7,0),(2,24,4,0),(3,239,31,0),(4,686,15,0),(5,24,4,0),(6,1064,12,0),(7,24,4,0),(8,24,4,0)]
def times_Div.X (m:Int) (F:Nat):FX TI (G m) Sg:={hn:={na:=3},lv:=[⟨148,times_QuoRem.sp F⟩,⟨149,times_away.sp F⟩,⟨22,wide_Of.sp F⟩,⟨16,wide_Sub.sp F⟩,⟨15,wide_Add.sp F⟩],N:=59,H:=times_Div.h}
theorem times_Div.ok (m:Int) (F:Nat):OK Go.Proofs.Tryz.prog (G m) 95 times_Div.sg (times_Div.sp F) :=
 func_x (times_Div.X m F) mixed tsOK ⟨times_QuoRem.ok m F,times_away.ok m F,wide_Of.ok m F,wide_Sub.ok m F,wide_Add.ok m F,trivial⟩ trivial Go.Proofs.Tryz.func95 0 0 (by kernel_rfl) at_nil at_nil (fun _=>by kernel_rfl)
def bound_far.te:List (Nat×KS):=[(0,.c (.int .i64)),(2,.c (.int .i64))]
def bound_far.h:Nat→Shape:=shN bound_far.te [] [] [(0,1,0,0),(1,2,0,0)]
def bound_far.X (m:Int) (F:Nat):FX TI (G m) Sg:={hn:={na:=1},N:=7,H:=bound_far.h}
theorem bound_far.ok (m:Int) (F:Nat):OK Go.Proofs.Tryz.prog (G m) 177 bound_far.sg (bound_far.sp F) :=
 func_x (bound_far.X m F) mixed tsOK trivial trivial Go.Proofs.Tryz.func177 0 0 (by kernel_rfl) at_nil at_nil (fun _=>by kernel_rfl)
def bound_meter_add.te:List (Nat×KS):=[(0,.loc 0),(4,.loc 4),(5,.loc 5),(6,.loc 6)]
def bound_meter_add.tb:List (Nat×KS):=[(0,.g tBound_meter),(4,.g tWide),(5,.g tWide),(6,.g tWide)]
def bound_meter_add.h:Nat→Shape:=shN bound_meter_add.te bound_meter_add.tb [] [(0,15,15,0),(1,8,9,0)]
def bound_meter_add.X (m:Int) (F:Nat):FX TI (G m) Sg:={hn:={na:=3},lv:=[⟨15,wide_Add.sp F⟩,⟨115,bound_meter_keep.sp F⟩],N:=14,H:=bound_meter_add.h}
theorem bound_meter_add.ok (m:Int) (F:Nat):OK Go.Proofs.Tryz.prog (G m) 118 bound_meter_add.sg (bound_meter_add.sp F) :=
 func_x (bound_meter_add.X m F) mixed tsOK ⟨wide_Add.ok m F,bound_meter_keep.ok m F,trivial⟩ trivial Go.Proofs.Tryz.func118 0 0 (by kernel_rfl) at_nil at_nil (fun _=>by kernel_rfl)
def bound_meter_scale.te:List (Nat×KS):=[(0,.loc 0),(2,.b tTier),(4,.loc 4),(6,.loc 6),(7,.c (.int .i64)),(8,.loc 8),(9,.c (.int .i64)),(10,.loc 10),(11,.loc 11),(13,.b tTier),(14,.c (.int .i64)),(15,.c (.int .i64)),(16,.c .bool),(29,.c .bool)]
def bound_meter_scale.tb:List (Nat×KS):=[(0,.g tBound_meter),(4,.g tWide),(6,.g tWide),(8,.g tWide),(10,.g tTier),(11,.g tWide)]
def bound_meter_scale.h:Nat→Shape:=shN bound_meter_scale.te bound_meter_scale.tb [] [(0,15,7,0),(1,63,15,0),(2,3647,15,0),(3,7743,15,0),(4,3839,31,0),(5,3839,31,0),(6,12031,31,0),(7,3647,15,0),(8,3647,15,0),(9,313,45,0),(10,8,5,0)]
def bound_meter_scale.hl:Nat→Shape:=shN bound_meter_scale.te bound_meter_scale.tb [] [(3,3647,15,0)]
def bound_meter_scale.L3 (F:Nat) (R:Type) (K:Ex→St→Option R) (n:Nat) (x:(Unit×(List tTier.T)×Unit×Unit×Int×Unit×(List tTier.T)×Int×Int×Unit)×(tBound_meter.T×tWide.T×tWide.T×tWide.T×Unit)×(Unit)):Option R :=
 bound_meter_scale.l3 F (fun tiers rate t13 t14 t15 t16 m x r6 ways=>K (.exit 0) (encS (bound_meter_scale.h 3) (((),tiers,(),(),rate,(),t13,t14,t15,t16,()),(m,x,r6,ways,()),()))) n x.1.2.1 x.1.2.2.2.2.1 x.1.2.2.2.2.2.2.1 x.1.2.2.2.2.2.2.2.1 x.1.2.2.2.2.2.2.2.2.1 x.2.1.1 x.2.1.2.1 x.2.1.2.2.1 x.2.1.2.2.2.1
def bound_meter_scale.X (m:Int) (F:Nat):FX TI (G m) Sg:={hn:={na:=3,sp:=fun s=>lk 0 s [(0,2)]},lv:=[⟨177,bound_far.sp F⟩,⟨22,wide_Of.sp F⟩,⟨114,bound_meter_mul.sp F⟩,⟨118,bound_meter_add.sp F⟩],N:=75,H:=bound_meter_scale.h,HL:=bound_meter_scale.hl,L:=mkL bound_meter_scale.hl [⟨3,fun x R K=>bound_meter_scale.L3 F R K F x⟩]}
theorem bound_meter_scale.a0 (m:Int) (F:Nat):(bound_meter_scale.X m F).lp (loopsOf (bd Go.Proofs.Tryz.f116)) 0:=FX.loop _ _ 0 3 F (by kernel_rfl) (bound_meter_scale.L3 F) (fun _ _ _=>by kernel_rfl) (fun _ _ _ _=>by kernel_rfl) (fun _ _ _=>by kernel_rfl)
theorem bound_meter_scale.ok (m:Int) (F:Nat):OK Go.Proofs.Tryz.prog (G m) 116 bound_meter_scale.sg (bound_meter_scale.sp F) :=
 func_x (bound_meter_scale.X m F) mixed tsOK ⟨bound_far.ok m F,wide_Of.ok m F,bound_meter_mul.ok m F,bound_meter_add.ok m F,trivial⟩ trivial Go.Proofs.Tryz.func116 1 0 (by kernel_rfl) (at_cons (bound_meter_scale.a0 m F) at_nil) at_nil (fun _=>by kernel_rfl)
def wide_Sum.te:List (Nat×KS):=[(0,.b tWide),(2,.loc 2),(3,.c (.int .i64)),(4,.c (.int .u64)),(5,.c (.int .u64)),(6,.c (.int .i64)),(8,.loc 8),(9,.c (.int .u64)),(10,.loc 10),(11,.b tWide),(12,.c (.int .i64)),(13,.c (.int .i64)),(14,.c .bool),(50,.c .bool)]
def wide_Sum.tb:List (Nat×KS):=[(2,.g tWide),(8,.g tWide),(10,.g tWide)]
def wide_Sum.h:Nat→Shape:=shN wide_Sum.te wide_Sum.tb [] [(0,3,1,0),(1,27,1,0),(2,59,1,0),(3,3642,1,0),(4,7738,1,0),(5,3706,3,0),(6,3706,3,0),(7,3834,3,0),(8,3834,3,0),(9,3642,1,0),(10,3642,1,0),(11,290,5,0),(12,8450,5,0),(13,6,1,0),(14,6,1,0)]
def wide_Sum.hl:Nat→Shape:=shN wide_Sum.te wide_Sum.tb [] [(4,3642,1,0)]
def wide_Sum.L4 (F:Nat) (R:Type) (K:Ex→St→Option R) (n:Nat) (x:(Unit×Int×Int×Int×(List tWide.T)×Int×Int×Unit)×(tWide.T×Unit)×(Unit)):Option R :=
 wide_Sum.l4 F (fun lo hi top t11 t12 t13 t14 r2=>K (.exit 0) (encS (wide_Sum.h 4) (((),lo,hi,top,t11,t12,t13,t14,()),(r2,()),()))) n x.1.2.1 x.1.2.2.1 x.1.2.2.2.1 x.1.2.2.2.2.1 x.1.2.2.2.2.2.1 x.1.2.2.2.2.2.2.1 x.2.1.1
def wide_Sum.X (m:Int) (F:Nat):FX TI (G m) Sg:={hn:={na:=1},lv:=[⟨38,math_bits_Add64.sp F⟩],N:=53,H:=wide_Sum.h,HL:=wide_Sum.hl,L:=mkL wide_Sum.hl [⟨4,fun x R K=>wide_Sum.L4 F R K F x⟩]}
theorem wide_Sum.a0 (m:Int) (F:Nat):(wide_Sum.X m F).lp (loopsOf (bd Go.Proofs.Tryz.f117)) 0:=FX.loop _ _ 0 4 F (by kernel_rfl) (wide_Sum.L4 F) (fun _ _ _=>by kernel_rfl) (fun _ _ _ _=>by kernel_rfl) (fun _ _ _=>by kernel_rfl)
theorem wide_Sum.ok (m:Int) (F:Nat):OK Go.Proofs.Tryz.prog (G m) 117 wide_Sum.sg (wide_Sum.sp F) :=
 func_x (wide_Sum.X m F) mixed tsOK ⟨math_bits_Add64.ok m F,trivial⟩ trivial Go.Proofs.Tryz.func117 1 0 (by kernel_rfl) (at_cons (wide_Sum.a0 m F) at_nil) at_nil (fun _=>by kernel_rfl)
def bound_meter_node.te:List (Nat×KS):=[(0,.loc 0),(3,.b tWide),(5,.loc 5),(6,.loc 6),(8,.loc 8),(9,.loc 9),(11,.c (.int .i64)),(12,.c .bool),(17,.c .bool),(28,.c .bool),(31,.c .bool),(47,.c .bool),(57,.c .bool),(67,.c .bool),(96,.c .bool)]
def bound_meter_node.tb:List (Nat×KS):=[(0,.g tBound_meter),(5,.g tPlan),(6,.g tNode),(8,.g tWide),(9,.g tWide)]
def bound_meter_node.h:Nat→Shape:=shN bound_meter_node.te bound_meter_node.tb [] [(0,31,15,0),(1,95,15,0),(2,223,15,0),(3,16,9,0),(4,351,15,0),(5,16,9,0),(6,607,15,0),(7,16,9,0),(8,1119,15,0),(9,16,9,0),(10,2139,13,0),(11,16,9,0),(12,4187,13,0),(13,4187,13,0),(14,16,9,0),(15,8219,13,0),(16,18,9,0),(17,16,9,0),(18,57,29,0),(19,16441,29,0),(20,48,25,0),(21,16,9,0)]
def bound_meter_node.hj:Nat→Option Shape:=shO bound_meter_node.te bound_meter_node.tb [] [(18,27,13,0)]
def bound_meter_node.J18 (F:Nat) (R:Type) (K:Ex→St→Option R) (x:(Unit×(List tWide.T)×Unit×Unit×Unit)×(tBound_meter.T×tNode.T×tWide.T×Unit)×(Unit)):Option R :=
 bound_meter_node.j18 F (fun m r8=>K .ret (encS (bound_meter_node.h 21) (((),()),(m,r8,()),()))) x.1.2.1 x.2.1.1 x.2.1.2.1 x.2.1.2.2.1
def bound_meter_node.X (m:Int) (F:Nat):FX TI (G m) Sg:={hn:={na:=4},lv:=[⟨22,wide_Of.sp F⟩,⟨114,bound_meter_mul.sp F⟩,⟨95,times_Div.sp F⟩,⟨115,bound_meter_keep.sp F⟩,⟨116,bound_meter_scale.sp F⟩,⟨117,wide_Sum.sp F⟩,⟨118,bound_meter_add.sp F⟩],N:=104,H:=bound_meter_node.h,HJ:=bound_meter_node.hj,J:=mkJ bound_meter_node.hj [⟨18,fun x R K=>bound_meter_node.J18 F R K x⟩]}
theorem bound_meter_node.c0 (m:Int) (F:Nat):(bound_meter_node.X m F).ct (cutsOf (bound_meter_node.X m F).HJ (bd Go.Proofs.Tryz.f74)) 0:=FX.cut _ _ 0 18 (by kernel_rfl) (fun _ _ _=>by kernel_rfl)
theorem bound_meter_node.ok (m:Int) (F:Nat):OK Go.Proofs.Tryz.prog (G m) 74 bound_meter_node.sg (bound_meter_node.sp F) :=
 func_x (bound_meter_node.X m F) mixed tsOK ⟨wide_Of.ok m F,bound_meter_mul.ok m F,times_Div.ok m F,bound_meter_keep.ok m F,bound_meter_scale.ok m F,wide_Sum.ok m F,bound_meter_add.ok m F,trivial⟩ trivial Go.Proofs.Tryz.func74 0 1 (by kernel_rfl) at_nil (at_cons (bound_meter_node.c0 m F) at_nil) (fun _=>by kernel_rfl)
def wide_Cmp.te:List (Nat×KS):=[(2,.loc 2),(3,.loc 3),(4,.c (.int .i64)),(5,.c .bool),(9,.c .bool)]
def wide_Cmp.tb:List (Nat×KS):=[(2,.g tWide),(3,.g tWide)]
def wide_Cmp.h:Nat→Shape:=shN wide_Cmp.te wide_Cmp.tb [] [(0,3,3,0),(1,11,3,0),(2,4,0,0),(3,19,3,0),(4,16,0,0),(5,4,0,0),(6,4,0,0)]
def wide_Cmp.X (m:Int) (F:Nat):FX TI (G m) Sg:={hn:={na:=2},N:=27,H:=wide_Cmp.h}
theorem wide_Cmp.ok (m:Int) (F:Nat):OK Go.Proofs.Tryz.prog (G m) 119 wide_Cmp.sg (wide_Cmp.sp F) :=
 func_x (wide_Cmp.X m F) mixed tsOK trivial trivial Go.Proofs.Tryz.func119 0 0 (by kernel_rfl) at_nil at_nil (fun _=>by kernel_rfl)
def bound_above.te:List (Nat×KS):=[(2,.loc 2),(3,.loc 3),(4,.c .bool),(5,.loc 5),(9,.c .bool)]
def bound_above.tb:List (Nat×KS):=[(2,.g tNode),(3,.g tWide),(5,.g tWide)]
def bound_above.h:Nat→Shape:=shN bound_above.te bound_above.tb [] [(0,3,3,0),(1,11,7,0),(2,26,6,0),(3,10,6,0),(4,4,0,0)]
def bound_above.X (m:Int) (F:Nat):FX TI (G m) Sg:={hn:={na:=2},lv:=[⟨22,wide_Of.sp F⟩,⟨47,times_Mul.sp F⟩,⟨119,wide_Cmp.sp F⟩],N:=20,H:=bound_above.h}
theorem bound_above.ok (m:Int) (F:Nat):OK Go.Proofs.Tryz.prog (G m) 75 bound_above.sg (bound_above.sp F) :=
 func_x (bound_above.X m F) mixed tsOK ⟨wide_Of.ok m F,times_Mul.ok m F,wide_Cmp.ok m F,trivial⟩ trivial Go.Proofs.Tryz.func75 0 0 (by kernel_rfl) at_nil at_nil (fun _=>by kernel_rfl)
def bound_measured.te:List (Nat×KS):=[(2,.loc 2),(3,.loc 3),(4,.c (.sl tWide)),(5,.c (.int .i64)),(6,.c (.sl tWide)),(6,.ow 6),(7,.ow 7),(8,.loc 15),(9,.c (.int .i64)),(10,.loc 10),(11,.c (.int .i64)),(12,.loc 12),(17,.c (.sl tNode)),(18,.c (.int .i64)),(19,.c (.int .i64)),(20,.c .bool),(44,.c .bool)]
def bound_measured.tb:List (Nat×KS):=[(2,.g tPlan),(3,.g tWide),(10,.g tNode),(12,.g tWide),(15,.g tBound_meter)]
def bound_measured.tp:List OwnE:=[⟨6,.env 6,tWide⟩,⟨7,.env 7,tWide⟩]
def bound_measured.h:Nat→Shape:=shN bound_measured.te bound_measured.tb bound_measured.tp [(0,3,3,0),(1,99,3,3),(2,225,17,3),(3,28897,17,3),(4,61665,17,3),(5,29665,21,3),(6,30689,21,3),(7,32737,29,3),(8,97761,25,3),(9,12,0,0),(10,31969,25,3),(11,28897,17,3),(12,28897,17,3),(13,12,0,0)]
def bound_measured.hl:Nat→Shape:=shN bound_measured.te bound_measured.tb bound_measured.tp [(4,28897,17,3)]
def bound_measured.hj:Nat→Option Shape:=shO bound_measured.te bound_measured.tb bound_measured.tp [(13,16,0,0)]
def bound_measured.L4 (F:Nat) (R:Type) (K:Ex→St→Option R) (n:Nat) (x:(Unit×Unit×Unit×Unit×(List tNode.T)×Int×Int×Unit)×(tPlan.T×tBound_meter.T×Unit)×((List tWide.T)×(List tWide.T)×Unit)):Option R :=
 bound_measured.l4 F (fun r4 r5=>K .ret (encS (bound_measured.h 9) ((r4,r5,()),(),()))) (fun t17 t18 t19 t20 p m mags pile=>K (.exit 0) (encS (bound_measured.h 4) (((),(),(),(),t17,t18,t19,t20,()),(p,m,()),(mags,pile,())))) n x.1.2.2.2.2.1 x.1.2.2.2.2.2.1 x.1.2.2.2.2.2.2.1 x.2.1.1 x.2.1.2.1 x.2.2.1 x.2.2.2.1
def bound_measured.J13 (F:Nat) (R:Type) (K:Ex→St→Option R) (x:((List tWide.T)×Unit)×(Unit)×(Unit)):Option R :=
 bound_measured.j13 F (fun r4 r5=>K .ret (encS (bound_measured.h 13) ((r4,r5,()),(),()))) x.1.1
def bound_measured.X (m:Int) (F:Nat):FX TI (G m) Sg:={hn:={MU:=fun s=>lk false s [(49,true),(55,true)],na:=2,fzJ:=fun r=>lk [] r [(13,[6])]},lv:=[⟨73,bound_takes.sp F⟩,⟨74,bound_meter_node.sp F⟩,⟨75,bound_above.sp F⟩],N:=58,H:=bound_measured.h,HL:=bound_measured.hl,HJ:=bound_measured.hj,L:=mkL bound_measured.hl [⟨4,fun x R K=>bound_measured.L4 F R K F x⟩],J:=mkJ bound_measured.hj [⟨13,fun x R K=>bound_measured.J13 F R K x⟩]}
theorem bound_measured.a0 (m:Int) (F:Nat):(bound_measured.X m F).lp (loopsOf (bd Go.Proofs.Tryz.f40)) 0:=FX.loop _ _ 0 4 F (by kernel_rfl) (bound_measured.L4 F) (fun _ _ _=>by kernel_rfl) (fun _ _ _ _=>by kernel_rfl) (fun _ _ _=>by kernel_rfl)
theorem bound_measured.c0 (m:Int) (F:Nat):(bound_measured.X m F).ct (cutsOf (bound_measured.X m F).HJ (bd Go.Proofs.Tryz.f40)) 0:=FX.cut _ _ 0 13 (by kernel_rfl) (fun _ _ _=>by kernel_rfl)
theorem bound_measured.ok (m:Int) (F:Nat):OK Go.Proofs.Tryz.prog (G m) 40 bound_measured.sg (bound_measured.sp F) :=
 func_x (bound_measured.X m F) mixed tsOK ⟨bound_takes.ok m F,bound_meter_node.ok m F,bound_above.ok m F,trivial⟩ trivial Go.Proofs.Tryz.func40 1 1 (by kernel_rfl) (at_cons (bound_measured.a0 m F) at_nil) (at_cons (bound_measured.c0 m F) at_nil) (fun _=>by kernel_rfl)
def bound_Unit.te:List (Nat×KS):=[(1,.loc 1),(2,.loc 2),(3,.c (.int .i64)),(4,.c (.int .i64)),(6,.c (.int .i64)),(7,.c (.int .i64)),(8,.c (.int .i64)),(10,.loc 10),(11,.c (.int .i64)),(13,.c (.int .i64)),(21,.c .bool),(31,.c .bool),(49,.c .bool)]
def bound_Unit.tb:List (Nat×KS):=[(1,.g tPlan),(2,.g tWide),(10,.g tWide)]
def bound_Unit.h:Nat→Shape:=shN bound_Unit.te bound_Unit.tb [] [(0,3,3,0),(1,51,3,0),(2,1075,3,0),(3,14,2,0),(4,67,3,0),(5,2115,3,0),(6,14,2,0),(7,387,7,0),(8,898,6,0),(9,4994,6,0),(10,14,2,0),(11,14,2,0)]
def bound_Unit.X (m:Int) (F:Nat):FX TI (G m) Sg:={hn:={na:=1},lv:=[⟨42,units_Types.sp F⟩,⟨24,tree_Scale.sp F⟩,⟨43,times_Power.sp F⟩,⟨40,bound_measured.sp F⟩],N:=54,H:=bound_Unit.h}
theorem bound_Unit.ok (m:Int) (F:Nat):OK Go.Proofs.Tryz.prog (G m) 23 bound_Unit.sg (bound_Unit.sp F) :=
 func_x (bound_Unit.X m F) mixed tsOK ⟨units_Types.ok m F,tree_Scale.ok m F,times_Power.ok m F,bound_measured.ok m F,trivial⟩ trivial Go.Proofs.Tryz.func23 0 0 (by kernel_rfl) at_nil at_nil (fun _=>by kernel_rfl)
def normal_maker_leaf.te:List (Nat×KS):=[(1,.loc 1),(2,.c (.sl tPiece)),(3,.loc 3),(7,.c (.int .i64)),(8,.c .bool),(15,.c .bool),(28,.c .bool),(32,.c .bool)]
def normal_maker_leaf.tb:List (Nat×KS):=[(1,.g tNormal_maker),(3,.g tLine)]
def normal_maker_leaf.h:Nat→Shape:=shN normal_maker_leaf.te normal_maker_leaf.tb [] [(0,1,1,0),(1,5,3,0),(2,13,3,0),(3,29,3,0),(4,4,2,0),(5,45,3,0),(6,4,2,0),(7,76,2,0),(8,4,2,0),(9,132,2,0),(10,4,2,0),(11,2,0,0)]
def normal_maker_leaf.X (m:Int) (F:Nat):FX TI (G m) Sg:={hn:={na:=1},lv:=[⟨22,wide_Of.sp F⟩,⟨47,times_Mul.sp F⟩],N:=39,H:=normal_maker_leaf.h}
theorem normal_maker_leaf.ok (m:Int) (F:Nat):OK Go.Proofs.Tryz.prog (G m) 25 normal_maker_leaf.sg (normal_maker_leaf.sp F) :=
 func_x (normal_maker_leaf.X m F) mixed tsOK ⟨wide_Of.ok m F,times_Mul.ok m F,trivial⟩ trivial Go.Proofs.Tryz.func25 0 0 (by kernel_rfl) at_nil at_nil (fun _=>by kernel_rfl)
def normal_maker_choices.te:List (Nat×KS):=[(1,.loc 1),(2,.c (.bnd tNormal_maker)),(3,.c (.int .i64)),(4,.c (.sl (.pair (.bnd tNormal_maker) (.int .i64))))]
def normal_maker_choices.tb:List (Nat×KS):=[(1,.g tNormal_maker)]
def normal_maker_choices.h:Nat→Shape:=shN normal_maker_choices.te normal_maker_choices.tb [] [(0,1,1,0),(1,9,1,0),(2,6,0,0)]
def normal_maker_choices.X (m:Int) (F:Nat):FX TI (G m) Sg:={hn:={CT:=fun d=>lk .unit d [(6,tNormal_maker),(9,tNormal_maker),(12,tNormal_maker),(15,tNormal_maker),(18,tNormal_maker),(24,tNormal_maker),(30,tNormal_maker),(33,tNormal_maker),(36,tNormal_maker),(39,tNormal_maker),(42,tNormal_maker),(45,tNormal_maker)],na:=1},N:=62,H:=normal_maker_choices.h}
theorem normal_maker_choices.ok (m:Int) (F:Nat):OK Go.Proofs.Tryz.prog (G m) 26 normal_maker_choices.sg (normal_maker_choices.sp F) :=
 func_x (normal_maker_choices.X m F) mixed tsOK trivial trivial Go.Proofs.Tryz.func26 0 0 (by kernel_rfl) at_nil at_nil (fun _=>by kernel_rfl)
def line_each.te:List (Nat×KS):=[(3,.c (.int .i64)),(4,.c (.int .i64)),(5,.c (.int .i64)),(6,.loc 6),(7,.loc 7),(8,.loc 8),(12,.loc 12),(13,.c (.int .i64)),(23,.c .bool)]
def line_each.tb:List (Nat×KS):=[(6,.g tWide),(7,.g tWide),(8,.g tWide),(12,.g tLine)]
def line_each.h:Nat→Shape:=shN line_each.te line_each.tb [] [(0,127,15,0),(1,376,15,0),(2,192,8,0),(3,192,8,0)]
def line_each.X (m:Int) (F:Nat):FX TI (G m) Sg:={hn:={na:=6},N:=29,H:=line_each.h}
theorem line_each.ok (m:Int) (F:Nat):OK Go.Proofs.Tryz.prog (G m) 187 line_each.sg (line_each.sp F) :=
 func_x (line_each.X m F) mixed tsOK trivial trivial Go.Proofs.Tryz.func187 0 0 (by kernel_rfl) at_nil at_nil (fun _=>by kernel_rfl)
def line_Add.te:List (Nat×KS):=[(2,.loc 2),(3,.loc 3),(4,.loc 4),(5,.c (.int .i64)),(6,.loc 6),(7,.c (.int .i64)),(8,.loc 8),(9,.c (.int .i64)),(10,.loc 10),(11,.c (.int .i64))]
def line_Add.tb:List (Nat×KS):=[(2,.g tLine),(3,.g tLine),(4,.g tLine),(6,.g tWide),(8,.g tWide),(10,.g tWide)]
def line_Add.h:Nat→Shape:=shN line_Add.te line_Add.tb [] [(0,7,7,0),(1,55,15,0),(2,247,31,0),(3,1012,60,0),(4,12,4,0)]
def line_Add.X (m:Int) (F:Nat):FX TI (G m) Sg:={hn:={na:=2},lv:=[⟨15,wide_Add.sp F⟩,⟨187,line_each.sp F⟩],N:=45,H:=line_Add.h}
theorem line_Add.ok (m:Int) (F:Nat):OK Go.Proofs.Tryz.prog (G m) 145 line_Add.sg (line_Add.sp F) :=
 func_x (line_Add.X m F) mixed tsOK ⟨wide_Add.ok m F,line_each.ok m F,trivial⟩ trivial Go.Proofs.Tryz.func145 0 0 (by kernel_rfl) at_nil at_nil (fun _=>by kernel_rfl)
def normal_add.te:List (Nat×KS):=[(2,.loc 2),(3,.loc 3),(4,.loc 4),(5,.loc 5)]
def normal_add.tb:List (Nat×KS):=[(2,.g tLine),(3,.g tLine),(4,.g tLine),(5,.g tLine)]
def normal_add.h:Nat→Shape:=shN normal_add.te normal_add.tb [] [(0,7,7,0),(1,12,12,0),(2,4,4,0)]
def normal_add.X (m:Int) (F:Nat):FX TI (G m) Sg:={hn:={na:=2},lv:=[⟨145,line_Add.sp F⟩],N:=14,H:=normal_add.h}
theorem normal_add.ok (m:Int) (F:Nat):OK Go.Proofs.Tryz.prog (G m) 88 normal_add.sg (normal_add.sp F) :=
 func_x (normal_add.X m F) mixed tsOK ⟨line_Add.ok m F,trivial⟩ trivial Go.Proofs.Tryz.func88 0 0 (by kernel_rfl) at_nil at_nil (fun _=>by kernel_rfl)
def normal_maker_add.te:List (Nat×KS):=[(1,.b tLine),(6,.loc 6),(7,.c (.sl tLine))]
def normal_maker_add.tb:List (Nat×KS):=[(6,.g tLine)]
def normal_maker_add.h:Nat→Shape:=shN normal_maker_add.te normal_maker_add.tb [] [(0,3,1,0),(1,6,1,0)]
def normal_maker_add.X (m:Int) (F:Nat):FX TI (G m) Sg:={hn:={na:=3},lv:=[⟨88,normal_add.sp F⟩],N:=15,H:=normal_maker_add.h}
theorem normal_maker_add.ok (m:Int) (F:Nat):OK Go.Proofs.Tryz.prog (G m) 49 normal_maker_add.sg (normal_maker_add.sp F) :=
 func_x (normal_maker_add.X m F) mixed tsOK ⟨normal_add.ok m F,trivial⟩ trivial Go.Proofs.Tryz.func49 0 0 (by kernel_rfl) at_nil at_nil (fun _=>by kernel_rfl)
def normal_constant.te:List (Nat×KS):=[(1,.loc 1),(2,.loc 2)]
def normal_constant.tb:List (Nat×KS):=[(1,.g tWide),(2,.g tLine)]
def normal_constant.h:Nat→Shape:=shN normal_constant.te normal_constant.tb [] [(0,3,3,0),(1,2,2,0)]
def normal_constant.X (m:Int) (F:Nat):FX TI (G m) Sg:={hn:={na:=1},N:=5,H:=normal_constant.h}
theorem normal_constant.ok (m:Int) (F:Nat):OK Go.Proofs.Tryz.prog (G m) 89 normal_constant.sg (normal_constant.sp F) :=
 func_x (normal_constant.X m F) mixed tsOK trivial trivial Go.Proofs.Tryz.func89 0 0 (by kernel_rfl) at_nil at_nil (fun _=>by kernel_rfl)
def line_Sub.te:List (Nat×KS):=[(2,.loc 2),(3,.loc 3),(4,.loc 4),(5,.c (.int .i64)),(6,.loc 6),(7,.c (.int .i64)),(8,.loc 8),(9,.c (.int .i64)),(10,.loc 10),(11,.c (.int .i64))]
def line_Sub.tb:List (Nat×KS):=[(2,.g tLine),(3,.g tLine),(4,.g tLine),(6,.g tWide),(8,.g tWide),(10,.g tWide)]
def line_Sub.h:Nat→Shape:=shN line_Sub.te line_Sub.tb [] [(0,7,7,0),(1,55,15,0),(2,247,31,0),(3,1012,60,0),(4,12,4,0)]
def line_Sub.X (m:Int) (F:Nat):FX TI (G m) Sg:={hn:={na:=2},lv:=[⟨16,wide_Sub.sp F⟩,⟨187,line_each.sp F⟩],N:=45,H:=line_Sub.h}
theorem line_Sub.ok (m:Int) (F:Nat):OK Go.Proofs.Tryz.prog (G m) 144 line_Sub.sg (line_Sub.sp F) :=
 func_x (line_Sub.X m F) mixed tsOK ⟨wide_Sub.ok m F,line_each.ok m F,trivial⟩ trivial Go.Proofs.Tryz.func144 0 0 (by kernel_rfl) at_nil at_nil (fun _=>by kernel_rfl)
def normal_sub.te:List (Nat×KS):=[(2,.loc 2),(3,.loc 3),(4,.loc 4),(5,.loc 5)]
def normal_sub.tb:List (Nat×KS):=[(2,.g tLine),(3,.g tLine),(4,.g tLine),(5,.g tLine)]
def normal_sub.h:Nat→Shape:=shN normal_sub.te normal_sub.tb [] [(0,7,7,0),(1,12,12,0),(2,4,4,0)]
def normal_sub.X (m:Int) (F:Nat):FX TI (G m) Sg:={hn:={na:=2},lv:=[⟨144,line_Sub.sp F⟩],N:=14,H:=normal_sub.h}
theorem normal_sub.ok (m:Int) (F:Nat):OK Go.Proofs.Tryz.prog (G m) 87 normal_sub.sg (normal_sub.sp F) :=
 func_x (normal_sub.X m F) mixed tsOK ⟨line_Sub.ok m F,trivial⟩ trivial Go.Proofs.Tryz.func87 0 0 (by kernel_rfl) at_nil at_nil (fun _=>by kernel_rfl)
def normal_maker_tier_c1.te:List (Nat×KS):=[(0,.c (.int .i64)),(1,.p tLine),(2,.p tNormal_maker),(4,.loc 4)]
def normal_maker_tier_c1.tb:List (Nat×KS):=[(4,.g tLine)]
def normal_maker_tier_c1.h:Nat→Shape:=shN normal_maker_tier_c1.te normal_maker_tier_c1.tb [] [(0,15,1,0),(1,8,1,0)]
def normal_maker_tier_c1.X (m:Int) (F:Nat):FX TI (G m) Sg:={hn:={na:=3},lv:=[⟨22,wide_Of.sp F⟩,⟨89,normal_constant.sp F⟩,⟨87,normal_sub.sp F⟩],N:=16,H:=normal_maker_tier_c1.h}
theorem normal_maker_tier_c1.ok (m:Int) (F:Nat):OK Go.Proofs.Tryz.prog (G m) 147 normal_maker_tier_c1.sg (normal_maker_tier_c1.sp F) :=
 func_x (normal_maker_tier_c1.X m F) mixed tsOK ⟨wide_Of.ok m F,normal_constant.ok m F,normal_sub.ok m F,trivial⟩ trivial Go.Proofs.Tryz.func147 0 0 (by kernel_rfl) at_nil at_nil (fun _=>by kernel_rfl)
def line_fit.te:List (Nat×KS):=[(0,.c (.int .i64)),(1,.c (.int .i64)),(4,.c .bool)]
def line_fit.h:Nat→Shape:=shN line_fit.te [] [] [(0,3,0,0),(1,4,0,0)]
def line_fit.X (m:Int) (F:Nat):FX TI (G m) Sg:={hn:={na:=2},N:=19,H:=line_fit.h}
theorem line_fit.ok (m:Int) (F:Nat):OK Go.Proofs.Tryz.prog (G m) 68 line_fit.sg (line_fit.sp F) :=
 func_x (line_fit.X m F) mixed tsOK trivial trivial Go.Proofs.Tryz.func68 0 0 (by kernel_rfl) at_nil at_nil (fun _=>by kernel_rfl)
def line_blocks.te:List (Nat×KS):=[(0,.c (.int .i64)),(1,.c (.int .i64)),(4,.c (.int .i64))]
def line_blocks.h:Nat→Shape:=shN line_blocks.te [] [] [(0,3,0,0),(1,4,0,0)]
def line_blocks.X (m:Int) (F:Nat):FX TI (G m) Sg:={hn:={na:=2},N:=13,H:=line_blocks.h}
theorem line_blocks.ok (m:Int) (F:Nat):OK Go.Proofs.Tryz.prog (G m) 69 line_blocks.sg (line_blocks.sp F) :=
 func_x (line_blocks.X m F) mixed tsOK trivial trivial Go.Proofs.Tryz.func69 0 0 (by kernel_rfl) at_nil at_nil (fun _=>by kernel_rfl)
def line_Value.te:List (Nat×KS):=[(1,.c (.int .i64)),(2,.c (.int .i64)),(3,.loc 3),(6,.loc 6),(7,.c (.int .i64)),(8,.loc 8),(9,.c (.int .i64)),(10,.loc 10),(11,.loc 11),(15,.c .bool),(26,.c .bool),(40,.c .bool),(51,.c .bool)]
def line_Value.tb:List (Nat×KS):=[(3,.g tLine),(6,.g tWide),(8,.g tWide),(10,.g tWide),(11,.g tWide)]
def line_Value.h:Nat→Shape:=shN line_Value.te line_Value.tb [] [(0,15,3,0),(1,527,3,0),(2,24,2,0),(3,111,7,0),(4,1135,7,0),(5,24,2,0),(6,236,15,0),(7,2284,15,0),(8,24,2,0),(9,456,26,0),(10,4552,26,0),(11,24,2,0),(12,24,2,0)]
def line_Value.X (m:Int) (F:Nat):FX TI (G m) Sg:={hn:={na:=3},lv:=[⟨68,line_fit.sp F⟩,⟨22,wide_Of.sp F⟩,⟨47,times_Mul.sp F⟩,⟨69,line_blocks.sp F⟩,⟨15,wide_Add.sp F⟩],N:=59,H:=line_Value.h}
theorem line_Value.ok (m:Int) (F:Nat):OK Go.Proofs.Tryz.prog (G m) 35 line_Value.sg (line_Value.sp F) :=
 func_x (line_Value.X m F) mixed tsOK ⟨line_fit.ok m F,wide_Of.ok m F,times_Mul.ok m F,line_blocks.ok m F,wide_Add.ok m F,trivial⟩ trivial Go.Proofs.Tryz.func35 0 0 (by kernel_rfl) at_nil at_nil (fun _=>by kernel_rfl)
def wide_Sign.te:List (Nat×KS):=[(1,.loc 1),(2,.c (.int .i64)),(3,.c .bool),(7,.c .bool)]
def wide_Sign.tb:List (Nat×KS):=[(1,.g tWide)]
def wide_Sign.h:Nat→Shape:=shN wide_Sign.te wide_Sign.tb [] [(0,1,1,0),(1,5,1,0),(2,2,0,0),(3,8,0,0),(4,2,0,0),(5,2,0,0)]
def wide_Sign.X (m:Int) (F:Nat):FX TI (G m) Sg:={hn:={na:=1},N:=11,H:=wide_Sign.h}
theorem wide_Sign.ok (m:Int) (F:Nat):OK Go.Proofs.Tryz.prog (G m) 17 wide_Sign.sg (wide_Sign.sp F) :=
 func_x (wide_Sign.X m F) mixed tsOK trivial trivial Go.Proofs.Tryz.func17 0 0 (by kernel_rfl) at_nil at_nil (fun _=>by kernel_rfl)
def normal_maker_above.te:List (Nat×KS):=[(2,.c (.int .i64)),(3,.loc 3),(4,.loc 4),(6,.c .bool),(7,.loc 7)]
def normal_maker_above.tb:List (Nat×KS):=[(3,.g tNormal_maker),(4,.g tLine),(7,.g tWide)]
def normal_maker_above.h:Nat→Shape:=shN normal_maker_above.te normal_maker_above.tb [] [(0,7,3,0),(1,16,4,0),(2,8,0,0)]
def normal_maker_above.X (m:Int) (F:Nat):FX TI (G m) Sg:={hn:={na:=3},lv:=[⟨35,line_Value.sp F⟩,⟨17,wide_Sign.sp F⟩],N:=20,H:=normal_maker_above.h}
theorem normal_maker_above.ok (m:Int) (F:Nat):OK Go.Proofs.Tryz.prog (G m) 91 normal_maker_above.sg (normal_maker_above.sp F) :=
 func_x (normal_maker_above.X m F) mixed tsOK ⟨line_Value.ok m F,wide_Sign.ok m F,trivial⟩ trivial Go.Proofs.Tryz.func91 0 0 (by kernel_rfl) at_nil at_nil (fun _=>by kernel_rfl)
def normal_maker_tier.te:List (Nat×KS):=[(2,.c (.int .i64)),(3,.loc 3),(3,.p tNormal_maker),(4,.loc 4),(6,.c (.int .i64)),(7,.c (.sl tLine)),(8,.cl2 tLine tNormal_maker),(9,.c (.int .i64)),(10,.c (.sl tLine)),(10,.ow 10),(25,.c .bool),(29,.c .bool),(42,.c .bool)]
def normal_maker_tier.tb:List (Nat×KS):=[(3,.g tNormal_maker),(4,.g tLine)]
def normal_maker_tier.tp:List OwnE:=[⟨10,.env 10,tLine⟩]
def normal_maker_tier.h:Nat→Shape:=shN normal_maker_tier.te normal_maker_tier.tb normal_maker_tier.tp [(0,11,3,0),(1,69,0,0),(2,197,0,0),(3,1221,0,0),(4,197,0,0),(5,708,0,1),(6,2756,0,1),(7,708,0,1),(8,4800,0,1),(9,384,0,0),(10,48,0,0)]
def normal_maker_tier.hl:Nat→Shape:=shN normal_maker_tier.te normal_maker_tier.tb normal_maker_tier.tp [(3,197,0,0)]
def normal_maker_tier.hj:Nat→Option Shape:=shO normal_maker_tier.te normal_maker_tier.tb normal_maker_tier.tp [(8,708,0,1),(10,384,0,0)]
def normal_maker_tier.L3 (F:Nat) (R:Type) (K:Ex→St→Option R) (n:Nat) (x:(Int×tNormal_maker.T×(Nat×tLine.T×tNormal_maker.T)×Int×Unit)×(Unit)×(Unit)):Option R :=
 normal_maker_tier.l3 F (fun q m from_ n t25=>K (.exit 0) (encS (normal_maker_tier.h 3) ((q,m,from_,n,t25,()),(),()))) n x.1.1 x.1.2.1 x.1.2.2.1 x.1.2.2.2.1
def normal_maker_tier.J10 (F:Nat) (R:Type) (K:Ex→St→Option R) (x:(Int×(List tLine.T)×Unit)×(Unit)×(Unit)):Option R :=
 normal_maker_tier.j10 F (fun r6 r7=>K .ret (encS (normal_maker_tier.h 10) ((r6,r7,()),(),()))) x.1.1 x.1.2.1
def normal_maker_tier.J8 (F:Nat) (R:Type) (K:Ex→St→Option R) (x:(tNormal_maker.T×(Nat×tLine.T×tNormal_maker.T)×Int×Unit×Unit)×(Unit)×((List tLine.T)×Unit)):Option R :=
 normal_maker_tier.j8 F (fun r6 r7=>K .ret (encS (normal_maker_tier.h 10) ((r6,r7,()),(),()))) x.1.1 x.1.2.1 x.1.2.2.1 x.2.2.1
def normal_maker_tier.X (m:Int) (F:Nat):FX TI (G m) Sg:={hn:={MU:=fun s=>lk false s [(36,true),(48,true)],DS:=fun d=>lk none d [(22,some normal_maker_tier.ds22),(34,some normal_maker_tier.ds34),(46,some normal_maker_tier.ds46)],CT:=fun d=>lk .unit d [(11,(.pair tLine tNormal_maker))],na:=3,fz:=fun r=>lk [] r [(9,[48])],fzJ:=fun r=>lk [] r [(10,[10])]},lv:=[⟨91,normal_maker_above.sp F⟩],ld:=[⟨22,normal_maker_tier.d22 F⟩,⟨34,normal_maker_tier.d34 F⟩,⟨46,normal_maker_tier.d46 F⟩],N:=51,H:=normal_maker_tier.h,HL:=normal_maker_tier.hl,HJ:=normal_maker_tier.hj,L:=mkL normal_maker_tier.hl [⟨3,fun x R K=>normal_maker_tier.L3 F R K F x⟩],J:=mkJ normal_maker_tier.hj [⟨10,fun x R K=>normal_maker_tier.J10 F R K x⟩,⟨8,fun x R K=>normal_maker_tier.J8 F R K x⟩]}
theorem normal_maker_tier.a0 (m:Int) (F:Nat):(normal_maker_tier.X m F).lp (loopsOf (bd Go.Proofs.Tryz.f93)) 0:=FX.loop _ _ 0 3 F (by kernel_rfl) (normal_maker_tier.L3 F) (fun _ _ _=>by kernel_rfl) (fun _ _ _ _=>by kernel_rfl) (fun _ _ _=>by kernel_rfl)
theorem normal_maker_tier.c0 (m:Int) (F:Nat):(normal_maker_tier.X m F).ct (cutsOf (normal_maker_tier.X m F).HJ (bd Go.Proofs.Tryz.f93)) 0:=FX.cut _ _ 0 8 (by kernel_rfl) (fun _ _ _=>by kernel_rfl)
theorem normal_maker_tier.c1 (m:Int) (F:Nat):(normal_maker_tier.X m F).ct (cutsOf (normal_maker_tier.X m F).HJ (bd Go.Proofs.Tryz.f93)) 1:=FX.cut _ _ 1 10 (by kernel_rfl) (fun _ _ _=>by kernel_rfl)
theorem normal_maker_tier.ok (m:Int) (F:Nat):OK Go.Proofs.Tryz.prog (G m) 93 normal_maker_tier.sg (normal_maker_tier.sp F) :=
 func_x (normal_maker_tier.X m F) mixed tsOK ⟨normal_maker_above.ok m F,trivial⟩ ⟨mkT_ok ⟨⟨147,by kernel_rfl,normal_maker_tier_c1.ok m F⟩,trivial⟩,mkT_ok ⟨⟨147,by kernel_rfl,normal_maker_tier_c1.ok m F⟩,trivial⟩,mkT_ok ⟨⟨147,by kernel_rfl,normal_maker_tier_c1.ok m F⟩,trivial⟩,trivial⟩ Go.Proofs.Tryz.func93 1 2 (by kernel_rfl) (at_cons (normal_maker_tier.a0 m F) at_nil) (at_cons (normal_maker_tier.c1 m F) (at_cons (normal_maker_tier.c0 m F) at_nil)) (fun _=>by kernel_rfl)
def line_Scale.te:List (Nat×KS):=[(2,.loc 2),(3,.loc 3),(4,.loc 4),(5,.c (.int .i64)),(6,.loc 6),(7,.c (.int .i64)),(8,.loc 8),(9,.c (.int .i64)),(10,.loc 10),(11,.c (.int .i64))]
def line_Scale.tb:List (Nat×KS):=[(2,.g tLine),(3,.g tWide),(4,.g tLine),(6,.g tWide),(8,.g tWide),(10,.g tWide)]
def line_Scale.h:Nat→Shape:=shN line_Scale.te line_Scale.tb [] [(0,7,7,0),(1,55,15,0),(2,247,31,0),(3,1012,60,0),(4,12,4,0)]
def line_Scale.X (m:Int) (F:Nat):FX TI (G m) Sg:={hn:={na:=2},lv:=[⟨47,times_Mul.sp F⟩,⟨187,line_each.sp F⟩],N:=42,H:=line_Scale.h}
theorem line_Scale.ok (m:Int) (F:Nat):OK Go.Proofs.Tryz.prog (G m) 146 line_Scale.sg (line_Scale.sp F) :=
 func_x (line_Scale.X m F) mixed tsOK ⟨times_Mul.ok m F,line_each.ok m F,trivial⟩ trivial Go.Proofs.Tryz.func146 0 0 (by kernel_rfl) at_nil at_nil (fun _=>by kernel_rfl)
def normal_by.te:List (Nat×KS):=[(2,.loc 2),(3,.loc 3),(4,.loc 4),(5,.loc 5)]
def normal_by.tb:List (Nat×KS):=[(2,.g tLine),(3,.g tWide),(4,.g tLine),(5,.g tLine)]
def normal_by.h:Nat→Shape:=shN normal_by.te normal_by.tb [] [(0,7,7,0),(1,12,12,0),(2,4,4,0)]
def normal_by.X (m:Int) (F:Nat):FX TI (G m) Sg:={hn:={na:=2},lv:=[⟨146,line_Scale.sp F⟩],N:=14,H:=normal_by.h}
theorem normal_by.ok (m:Int) (F:Nat):OK Go.Proofs.Tryz.prog (G m) 90 normal_by.sg (normal_by.sp F) :=
 func_x (normal_by.X m F) mixed tsOK ⟨line_Scale.ok m F,trivial⟩ trivial Go.Proofs.Tryz.func90 0 0 (by kernel_rfl) at_nil at_nil (fun _=>by kernel_rfl)
def normal_maker_graduated.te:List (Nat×KS):=[(1,.b tLine),(2,.c (.int .i64)),(3,.loc 3),(6,.loc 6),(7,.c (.sl tLine)),(8,.c (.int .i64)),(9,.c (.sl tLine)),(10,.loc 10),(11,.c (.sl tTier)),(12,.c (.int .i64)),(13,.loc 13),(15,.loc 15),(26,.c .bool),(34,.c (.int .i64)),(35,.c (.int .i64)),(36,.c .bool)]
def normal_maker_graduated.tb:List (Nat×KS):=[(3,.g tNormal_maker),(6,.g tLine),(10,.g tWide),(13,.g tWide),(15,.g tLine)]
def normal_maker_graduated.h:Nat→Shape:=shN normal_maker_graduated.te normal_maker_graduated.tb [] [(0,15,3,0),(1,109,3,0),(2,4205,3,0),(3,24,2,0),(4,237,7,0),(5,493,7,0),(6,25069,7,0),(7,57837,7,0),(8,25581,7,0),(9,26093,15,0),(10,25069,7,0),(11,25069,7,0),(12,2252,23,0),(13,24,2,0)]
def normal_maker_graduated.hl:Nat→Shape:=shN normal_maker_graduated.te normal_maker_graduated.tb [] [(7,25069,7,0)]
def normal_maker_graduated.L7 (F:Nat) (R:Type) (K:Ex→St→Option R) (n:Nat) (x:((List tLine.T)×Unit×Unit×Int×(List tLine.T)×Unit×(List tTier.T)×Int×Int×Unit)×(tNormal_maker.T×tLine.T×tWide.T×Unit)×(Unit)):Option R :=
 normal_maker_graduated.l7 F (fun k n turn t t34 t35 t36 m r6 base=>K (.exit 0) (encS (normal_maker_graduated.h 7) ((k,(),(),n,turn,(),t,t34,t35,t36,()),(m,r6,base,()),()))) n x.1.1 x.1.2.2.2.1 x.1.2.2.2.2.1 x.1.2.2.2.2.2.2.1 x.1.2.2.2.2.2.2.2.1 x.1.2.2.2.2.2.2.2.2.1 x.2.1.1 x.2.1.2.1 x.2.1.2.2.1
def normal_maker_graduated.X (m:Int) (F:Nat):FX TI (G m) Sg:={hn:={na:=3},lv:=[⟨93,normal_maker_tier.sp F⟩,⟨22,wide_Of.sp F⟩,⟨47,times_Mul.sp F⟩,⟨15,wide_Add.sp F⟩,⟨89,normal_constant.sp F⟩,⟨87,normal_sub.sp F⟩,⟨90,normal_by.sp F⟩,⟨88,normal_add.sp F⟩],N:=96,H:=normal_maker_graduated.h,HL:=normal_maker_graduated.hl,L:=mkL normal_maker_graduated.hl [⟨7,fun x R K=>normal_maker_graduated.L7 F R K F x⟩]}
theorem normal_maker_graduated.a0 (m:Int) (F:Nat):(normal_maker_graduated.X m F).lp (loopsOf (bd Go.Proofs.Tryz.f56)) 0:=FX.loop _ _ 0 7 F (by kernel_rfl) (normal_maker_graduated.L7 F) (fun _ _ _=>by kernel_rfl) (fun _ _ _ _=>by kernel_rfl) (fun _ _ _=>by kernel_rfl)
theorem normal_maker_graduated.ok (m:Int) (F:Nat):OK Go.Proofs.Tryz.prog (G m) 56 normal_maker_graduated.sg (normal_maker_graduated.sp F) :=
 func_x (normal_maker_graduated.X m F) mixed tsOK ⟨normal_maker_tier.ok m F,wide_Of.ok m F,times_Mul.ok m F,wide_Add.ok m F,normal_constant.ok m F,normal_sub.ok m F,normal_by.ok m F,normal_add.ok m F,trivial⟩ trivial Go.Proofs.Tryz.func56 1 0 (by kernel_rfl) (at_cons (normal_maker_graduated.a0 m F) at_nil) at_nil (fun _=>by kernel_rfl)
def normal_maker_least.te:List (Nat×KS):=[(1,.b tLine),(2,.c (.int .i64)),(3,.loc 3),(6,.loc 6),(7,.c (.sl tLine)),(8,.loc 8),(19,.c .bool)]
def normal_maker_least.tb:List (Nat×KS):=[(3,.g tNormal_maker),(6,.g tLine),(8,.g tLine)]
def normal_maker_least.h:Nat→Shape:=shN normal_maker_least.te normal_maker_least.tb [] [(0,15,3,0),(1,47,7,0),(2,105,6,0),(3,24,2,0),(4,24,2,0)]
def normal_maker_least.X (m:Int) (F:Nat):FX TI (G m) Sg:={hn:={na:=3},lv:=[⟨87,normal_sub.sp F⟩,⟨91,normal_maker_above.sp F⟩],N:=30,H:=normal_maker_least.h}
theorem normal_maker_least.ok (m:Int) (F:Nat):OK Go.Proofs.Tryz.prog (G m) 52 normal_maker_least.sg (normal_maker_least.sp F) :=
 func_x (normal_maker_least.X m F) mixed tsOK ⟨normal_sub.ok m F,normal_maker_above.ok m F,trivial⟩ trivial Go.Proofs.Tryz.func52 0 0 (by kernel_rfl) at_nil at_nil (fun _=>by kernel_rfl)
def normal_maker_most.te:List (Nat×KS):=[(1,.b tLine),(2,.c (.int .i64)),(3,.loc 3),(6,.loc 6),(7,.c (.sl tLine)),(8,.loc 8),(19,.c .bool)]
def normal_maker_most.tb:List (Nat×KS):=[(3,.g tNormal_maker),(6,.g tLine),(8,.g tLine)]
def normal_maker_most.h:Nat→Shape:=shN normal_maker_most.te normal_maker_most.tb [] [(0,15,3,0),(1,47,7,0),(2,105,6,0),(3,24,2,0),(4,24,2,0)]
def normal_maker_most.X (m:Int) (F:Nat):FX TI (G m) Sg:={hn:={na:=3},lv:=[⟨87,normal_sub.sp F⟩,⟨91,normal_maker_above.sp F⟩],N:=30,H:=normal_maker_most.h}
theorem normal_maker_most.ok (m:Int) (F:Nat):OK Go.Proofs.Tryz.prog (G m) 53 normal_maker_most.sg (normal_maker_most.sp F) :=
 func_x (normal_maker_most.X m F) mixed tsOK ⟨normal_sub.ok m F,normal_maker_above.ok m F,trivial⟩ trivial Go.Proofs.Tryz.func53 0 0 (by kernel_rfl) at_nil at_nil (fun _=>by kernel_rfl)
def normal_maker_mul.te:List (Nat×KS):=[(1,.b tLine),(6,.loc 6),(7,.c (.sl tLine)),(16,.c .bool)]
def normal_maker_mul.tb:List (Nat×KS):=[(6,.g tLine)]
def normal_maker_mul.h:Nat→Shape:=shN normal_maker_mul.te normal_maker_mul.tb [] [(0,3,1,0),(1,11,1,0),(2,6,1,0),(3,6,1,0)]
def normal_maker_mul.X (m:Int) (F:Nat):FX TI (G m) Sg:={hn:={na:=3},lv:=[⟨89,normal_constant.sp F⟩,⟨90,normal_by.sp F⟩],N:=33,H:=normal_maker_mul.h}
theorem normal_maker_mul.ok (m:Int) (F:Nat):OK Go.Proofs.Tryz.prog (G m) 51 normal_maker_mul.sg (normal_maker_mul.sp F) :=
 func_x (normal_maker_mul.X m F) mixed tsOK ⟨normal_constant.ok m F,normal_by.ok m F,trivial⟩ trivial Go.Proofs.Tryz.func51 0 0 (by kernel_rfl) at_nil at_nil (fun _=>by kernel_rfl)
def normal_maker_neg.te:List (Nat×KS):=[(1,.b tLine),(6,.loc 6),(7,.c (.sl tLine))]
def normal_maker_neg.tb:List (Nat×KS):=[(6,.g tLine)]
def normal_maker_neg.h:Nat→Shape:=shN normal_maker_neg.te normal_maker_neg.tb [] [(0,3,1,0),(1,6,1,0)]
def normal_maker_neg.X (m:Int) (F:Nat):FX TI (G m) Sg:={hn:={na:=3},lv:=[⟨87,normal_sub.sp F⟩],N:=13,H:=normal_maker_neg.h}
theorem normal_maker_neg.ok (m:Int) (F:Nat):OK Go.Proofs.Tryz.prog (G m) 48 normal_maker_neg.sg (normal_maker_neg.sp F) :=
 func_x (normal_maker_neg.X m F) mixed tsOK ⟨normal_sub.ok m F,trivial⟩ trivial Go.Proofs.Tryz.func48 0 0 (by kernel_rfl) at_nil at_nil (fun _=>by kernel_rfl)
def normal_maker_off_c1.te:List (Nat×KS):=[(1,.p tNormal_maker),(2,.loc 2),(3,.loc 3)]
def normal_maker_off_c1.tb:List (Nat×KS):=[(2,.g tWide),(3,.g tWide)]
def normal_maker_off_c1.h:Nat→Shape:=shN normal_maker_off_c1.te normal_maker_off_c1.tb [] [(0,7,3,0),(1,6,3,0),(2,6,3,0),(3,4,2,0)]
def normal_maker_off_c1.X (m:Int) (F:Nat):FX TI (G m) Sg:={hn:={na:=2},lv:=[⟨22,wide_Of.sp F⟩,⟨47,times_Mul.sp F⟩,⟨95,times_Div.sp F⟩],N:=21,H:=normal_maker_off_c1.h}
theorem normal_maker_off_c1.ok (m:Int) (F:Nat):OK Go.Proofs.Tryz.prog (G m) 94 normal_maker_off_c1.sg (normal_maker_off_c1.sp F) :=
 func_x (normal_maker_off_c1.X m F) mixed tsOK ⟨wide_Of.ok m F,times_Mul.ok m F,times_Div.ok m F,trivial⟩ trivial Go.Proofs.Tryz.func94 0 0 (by kernel_rfl) at_nil at_nil (fun _=>by kernel_rfl)
def normal_maker_off.te:List (Nat×KS):=[(1,.b tLine),(3,.loc 3),(6,.loc 6),(7,.c (.sl tLine)),(8,.cl tNormal_maker)]
def normal_maker_off.tb:List (Nat×KS):=[(3,.g tNormal_maker),(6,.g tLine)]
def normal_maker_off.h:Nat→Shape:=shN normal_maker_off.te normal_maker_off.tb [] [(0,7,3,0),(1,21,2,0),(2,12,2,0)]
def normal_maker_off.X (m:Int) (F:Nat):FX TI (G m) Sg:={hn:={DS:=fun d=>lk none d [(15,some normal_maker_off.ds15),(21,some normal_maker_off.ds21),(27,some normal_maker_off.ds27)],CT:=fun d=>lk .unit d [(9,tNormal_maker)],na:=3},ld:=[⟨15,normal_maker_off.d15 F⟩,⟨21,normal_maker_off.d21 F⟩,⟨27,normal_maker_off.d27 F⟩],N:=29,H:=normal_maker_off.h}
theorem normal_maker_off.ok (m:Int) (F:Nat):OK Go.Proofs.Tryz.prog (G m) 58 normal_maker_off.sg (normal_maker_off.sp F) :=
 func_x (normal_maker_off.X m F) mixed tsOK trivial ⟨mkT_ok ⟨⟨94,by kernel_rfl,normal_maker_off_c1.ok m F⟩,trivial⟩,mkT_ok ⟨⟨94,by kernel_rfl,normal_maker_off_c1.ok m F⟩,trivial⟩,mkT_ok ⟨⟨94,by kernel_rfl,normal_maker_off_c1.ok m F⟩,trivial⟩,trivial⟩ Go.Proofs.Tryz.func58 0 0 (by kernel_rfl) at_nil at_nil (fun _=>by kernel_rfl)
def normal_maker_less.te:List (Nat×KS):=[(2,.c (.int .i64)),(3,.loc 3),(4,.loc 4),(6,.loc 6)]
def normal_maker_less.tb:List (Nat×KS):=[(3,.g tNormal_maker),(4,.g tLine),(6,.g tLine)]
def normal_maker_less.h:Nat→Shape:=shN normal_maker_less.te normal_maker_less.tb [] [(0,15,7,0),(1,8,4,0)]
def normal_maker_less.X (m:Int) (F:Nat):FX TI (G m) Sg:={hn:={na:=3},lv:=[⟨22,wide_Of.sp F⟩,⟨89,normal_constant.sp F⟩,⟨87,normal_sub.sp F⟩],N:=16,H:=normal_maker_less.h}
theorem normal_maker_less.ok (m:Int) (F:Nat):OK Go.Proofs.Tryz.prog (G m) 92 normal_maker_less.sg (normal_maker_less.sp F) :=
 func_x (normal_maker_less.X m F) mixed tsOK ⟨wide_Of.ok m F,normal_constant.ok m F,normal_sub.ok m F,trivial⟩ trivial Go.Proofs.Tryz.func92 0 0 (by kernel_rfl) at_nil at_nil (fun _=>by kernel_rfl)
def normal_maker_over.te:List (Nat×KS):=[(1,.b tLine),(2,.c (.int .i64)),(3,.loc 3),(6,.loc 6),(7,.c (.sl tLine)),(8,.loc 8),(17,.c .bool)]
def normal_maker_over.tb:List (Nat×KS):=[(3,.g tNormal_maker),(6,.g tLine),(8,.g tLine)]
def normal_maker_over.h:Nat→Shape:=shN normal_maker_over.te normal_maker_over.tb [] [(0,15,3,0),(1,46,7,0),(2,104,6,0),(3,24,2,0),(4,24,2,0)]
def normal_maker_over.X (m:Int) (F:Nat):FX TI (G m) Sg:={hn:={na:=3},lv:=[⟨92,normal_maker_less.sp F⟩,⟨91,normal_maker_above.sp F⟩],N:=24,H:=normal_maker_over.h}
theorem normal_maker_over.ok (m:Int) (F:Nat):OK Go.Proofs.Tryz.prog (G m) 54 normal_maker_over.sg (normal_maker_over.sp F) :=
 func_x (normal_maker_over.X m F) mixed tsOK ⟨normal_maker_less.ok m F,normal_maker_above.ok m F,trivial⟩ trivial Go.Proofs.Tryz.func54 0 0 (by kernel_rfl) at_nil at_nil (fun _=>by kernel_rfl)
def normal_maker_sub.te:List (Nat×KS):=[(1,.b tLine),(6,.loc 6),(7,.c (.sl tLine))]
def normal_maker_sub.tb:List (Nat×KS):=[(6,.g tLine)]
def normal_maker_sub.h:Nat→Shape:=shN normal_maker_sub.te normal_maker_sub.tb [] [(0,3,1,0),(1,6,1,0)]
def normal_maker_sub.X (m:Int) (F:Nat):FX TI (G m) Sg:={hn:={na:=3},lv:=[⟨87,normal_sub.sp F⟩],N:=15,H:=normal_maker_sub.h}
theorem normal_maker_sub.ok (m:Int) (F:Nat):OK Go.Proofs.Tryz.prog (G m) 50 normal_maker_sub.sg (normal_maker_sub.sp F) :=
 func_x (normal_maker_sub.X m F) mixed tsOK ⟨normal_sub.ok m F,trivial⟩ trivial Go.Proofs.Tryz.func50 0 0 (by kernel_rfl) at_nil at_nil (fun _=>by kernel_rfl)
def normal_maker_test.te:List (Nat×KS):=[(1,.b tLine),(2,.c (.int .i64)),(3,.loc 3),(6,.loc 6),(7,.c (.sl tLine)),(8,.loc 8),(9,.loc 9),(10,.c .bool),(11,.c .bool),(12,.c .bool),(53,.c .bool)]
def normal_maker_test.tb:List (Nat×KS):=[(3,.g tNormal_maker),(6,.g tLine),(8,.g tLine),(9,.g tLine)]
def normal_maker_test.h:Nat→Shape:=shN normal_maker_test.te normal_maker_test.tb [] [(0,15,3,0),(1,111,15,0),(2,493,15,0),(3,617,14,0),(4,1129,14,0),(5,24,2,0),(6,24,2,0)]
def normal_maker_test.X (m:Int) (F:Nat):FX TI (G m) Sg:={hn:={na:=3},lv:=[⟨92,normal_maker_less.sp F⟩,⟨91,normal_maker_above.sp F⟩],N:=66,H:=normal_maker_test.h}
theorem normal_maker_test.ok (m:Int) (F:Nat):OK Go.Proofs.Tryz.prog (G m) 59 normal_maker_test.sg (normal_maker_test.sp F) :=
 func_x (normal_maker_test.X m F) mixed tsOK ⟨normal_maker_less.ok m F,normal_maker_above.ok m F,trivial⟩ trivial Go.Proofs.Tryz.func59 0 0 (by kernel_rfl) at_nil at_nil (fun _=>by kernel_rfl)
def normal_maker_upto.te:List (Nat×KS):=[(1,.b tLine),(2,.c (.int .i64)),(3,.loc 3),(6,.loc 6),(7,.c (.sl tLine)),(8,.loc 8),(17,.c .bool)]
def normal_maker_upto.tb:List (Nat×KS):=[(3,.g tNormal_maker),(6,.g tLine),(8,.g tLine)]
def normal_maker_upto.h:Nat→Shape:=shN normal_maker_upto.te normal_maker_upto.tb [] [(0,15,3,0),(1,47,7,0),(2,109,7,0),(3,24,2,0),(4,24,2,0)]
def normal_maker_upto.X (m:Int) (F:Nat):FX TI (G m) Sg:={hn:={na:=3},lv:=[⟨92,normal_maker_less.sp F⟩,⟨91,normal_maker_above.sp F⟩,⟨22,wide_Of.sp F⟩,⟨89,normal_constant.sp F⟩],N:=30,H:=normal_maker_upto.h}
theorem normal_maker_upto.ok (m:Int) (F:Nat):OK Go.Proofs.Tryz.prog (G m) 55 normal_maker_upto.sg (normal_maker_upto.sp F) :=
 func_x (normal_maker_upto.X m F) mixed tsOK ⟨normal_maker_less.ok m F,normal_maker_above.ok m F,wide_Of.ok m F,normal_constant.ok m F,trivial⟩ trivial Go.Proofs.Tryz.func55 0 0 (by kernel_rfl) at_nil at_nil (fun _=>by kernel_rfl)
def normal_maker_volume.te:List (Nat×KS):=[(1,.b tLine),(2,.c (.int .i64)),(3,.loc 3),(6,.loc 6),(7,.c (.sl tLine)),(8,.c (.int .i64)),(9,.c (.sl tLine)),(20,.c .bool)]
def normal_maker_volume.tb:List (Nat×KS):=[(3,.g tNormal_maker),(6,.g tLine)]
def normal_maker_volume.h:Nat→Shape:=shN normal_maker_volume.te normal_maker_volume.tb [] [(0,15,3,0),(1,109,3,0),(2,237,3,0),(3,24,2,0),(4,24,2,0)]
def normal_maker_volume.X (m:Int) (F:Nat):FX TI (G m) Sg:={hn:={na:=3},lv:=[⟨93,normal_maker_tier.sp F⟩,⟨22,wide_Of.sp F⟩,⟨90,normal_by.sp F⟩],N:=40,H:=normal_maker_volume.h}
theorem normal_maker_volume.ok (m:Int) (F:Nat):OK Go.Proofs.Tryz.prog (G m) 57 normal_maker_volume.sg (normal_maker_volume.sp F) :=
 func_x (normal_maker_volume.X m F) mixed tsOK ⟨normal_maker_tier.ok m F,wide_Of.ok m F,normal_by.ok m F,trivial⟩ trivial Go.Proofs.Tryz.func57 0 0 (by kernel_rfl) at_nil at_nil (fun _=>by kernel_rfl)
def line_far.te:List (Nat×KS):=[(1,.loc 1),(2,.loc 2),(3,.c (.int .i64)),(6,.c .bool)]
def line_far.tb:List (Nat×KS):=[(1,.g tWide),(2,.g tWide)]
def line_far.h:Nat→Shape:=shN line_far.te line_far.tb [] [(0,3,3,0),(1,11,3,0),(2,6,2,0),(3,6,2,0)]
def line_far.X (m:Int) (F:Nat):FX TI (G m) Sg:={hn:={na:=1},lv:=[⟨143,wide_Neg.sp F⟩],N:=12,H:=line_far.h}
theorem line_far.ok (m:Int) (F:Nat):OK Go.Proofs.Tryz.prog (G m) 189 line_far.sg (line_far.sp F) :=
 func_x (line_far.X m F) mixed tsOK ⟨wide_Neg.ok m F,trivial⟩ trivial Go.Proofs.Tryz.func189 0 0 (by kernel_rfl) at_nil at_nil (fun _=>by kernel_rfl)
def line_Span.te:List (Nat×KS):=[(1,.c (.int .i64)),(2,.loc 2),(4,.loc 4),(5,.c (.int .i64)),(6,.loc 6),(7,.c (.int .i64)),(8,.loc 8),(9,.c (.int .i64)),(10,.loc 10),(11,.c (.int .i64)),(14,.c .bool),(43,.c .bool)]
def line_Span.tb:List (Nat×KS):=[(2,.g tLine),(4,.g tWide),(6,.g tWide),(8,.g tWide),(10,.g tWide)]
def line_Span.h:Nat→Shape:=shN line_Span.te line_Span.tb [] [(0,7,3,0),(1,1031,3,0),(2,12,2,0),(3,55,7,0),(4,247,15,0),(5,1013,30,0),(6,2389,30,0),(7,12,2,0),(8,12,2,0)]
def line_Span.X (m:Int) (F:Nat):FX TI (G m) Sg:={hn:={na:=2},lv:=[⟨68,line_fit.sp F⟩,⟨189,line_far.sp F⟩,⟨35,line_Value.sp F⟩],N:=53,H:=line_Span.h}
theorem line_Span.ok (m:Int) (F:Nat):OK Go.Proofs.Tryz.prog (G m) 150 line_Span.sg (line_Span.sp F) :=
 func_x (line_Span.X m F) mixed tsOK ⟨line_fit.ok m F,line_far.ok m F,line_Value.ok m F,trivial⟩ trivial Go.Proofs.Tryz.func150 0 0 (by kernel_rfl) at_nil at_nil (fun _=>by kernel_rfl)
def line_walk_at.te:List (Nat×KS):=[(1,.c (.int .i64)),(2,.loc 2),(4,.loc 4),(5,.loc 5)]
def line_walk_at.tb:List (Nat×KS):=[(2,.g (.pair tLine (.pair (.int .i64) .bool))),(4,.g tWide),(5,.g tWide)]
def line_walk_at.h:Nat→Shape:=shN line_walk_at.te line_walk_at.tb [] [(0,7,3,0),(1,12,6,0),(2,4,2,0)]
def line_walk_at.X (m:Int) (F:Nat):FX TI (G m) Sg:={hn:={na:=2},lv:=[⟨35,line_Value.sp F⟩],N:=17,H:=line_walk_at.h}
theorem line_walk_at.ok (m:Int) (F:Nat):OK Go.Proofs.Tryz.prog (G m) 151 line_walk_at.sg (line_walk_at.sp F) :=
 func_x (line_walk_at.X m F) mixed tsOK ⟨line_Value.ok m F,trivial⟩ trivial Go.Proofs.Tryz.func151 0 0 (by kernel_rfl) at_nil at_nil (fun _=>by kernel_rfl)
def wide_Int.te:List (Nat×KS):=[(1,.loc 1),(2,.c (.int .i64)),(3,.c .bool),(4,.c (.int .i64)),(12,.c .bool)]
def wide_Int.tb:List (Nat×KS):=[(1,.g tWide)]
def wide_Int.h:Nat→Shape:=shN wide_Int.te wide_Int.tb [] [(0,1,1,0),(1,9,1,0),(2,24,0,0),(3,6,0,0),(4,6,0,0)]
def wide_Int.X (m:Int) (F:Nat):FX TI (G m) Sg:={hn:={na:=1},N:=14,H:=wide_Int.h}
theorem wide_Int.ok (m:Int) (F:Nat):OK Go.Proofs.Tryz.prog (G m) 207 wide_Int.sg (wide_Int.sp F) :=
 func_x (wide_Int.X m F) mixed tsOK trivial trivial Go.Proofs.Tryz.func207 0 0 (by kernel_rfl) at_nil at_nil (fun _=>by kernel_rfl)
def line_walk_steps.te:List (Nat×KS):=[(3,.c (.int .i64)),(4,.loc 4),(5,.loc 5),(6,.loc 6),(8,.c (.int .i64)),(9,.c .bool),(10,.loc 10),(12,.loc 12),(14,.c (.int .i64)),(15,.c .bool),(21,.c .bool),(38,.c .bool),(51,.c .bool)]
def line_walk_steps.tb:List (Nat×KS):=[(4,.g (.pair tLine (.pair (.int .i64) .bool))),(5,.g tWide),(6,.g tWide),(10,.g tWide),(12,.g tWide)]
def line_walk_steps.h:Nat→Shape:=shN line_walk_steps.te line_walk_steps.tb [] [(0,15,7,0),(1,1039,7,0),(2,48,0,0),(3,2063,7,0),(4,48,0,0),(5,75,13,0),(6,203,29,0),(7,4297,28,0),(8,129,16,0),(9,129,16,0),(10,769,0,0),(11,48,0,0)]
def line_walk_steps.hj:Nat→Option Shape:=shO line_walk_steps.te line_walk_steps.tb [] [(5,15,7,0),(10,129,16,0)]
def line_walk_steps.J10 (F:Nat) (R:Type) (K:Ex→St→Option R) (x:(Int×Unit×Unit)×(tWide.T×Unit)×(Unit)):Option R :=
 line_walk_steps.j10 F (fun r8 r9=>K .ret (encS (line_walk_steps.h 11) ((r8,r9,()),(),()))) x.1.1 x.2.1.1
def line_walk_steps.J5 (F:Nat) (R:Type) (K:Ex→St→Option R) (x:(Int×Unit×Unit×Unit×Unit)×((tLine.T×Int×Bool)×tWide.T×tWide.T×Unit)×(Unit)):Option R :=
 line_walk_steps.j5 F (fun r8 r9=>K .ret (encS (line_walk_steps.h 11) ((r8,r9,()),(),()))) x.1.1 x.2.1.1 x.2.1.2.1 x.2.1.2.2.1
def line_walk_steps.X (m:Int) (F:Nat):FX TI (G m) Sg:={hn:={na:=4},lv:=[⟨17,wide_Sign.sp F⟩,⟨143,wide_Neg.sp F⟩,⟨95,times_Div.sp F⟩,⟨207,wide_Int.sp F⟩,⟨22,wide_Of.sp F⟩,⟨15,wide_Add.sp F⟩],N:=76,H:=line_walk_steps.h,HJ:=line_walk_steps.hj,J:=mkJ line_walk_steps.hj [⟨10,fun x R K=>line_walk_steps.J10 F R K x⟩,⟨5,fun x R K=>line_walk_steps.J5 F R K x⟩]}
theorem line_walk_steps.c0 (m:Int) (F:Nat):(line_walk_steps.X m F).ct (cutsOf (line_walk_steps.X m F).HJ (bd Go.Proofs.Tryz.f190)) 0:=FX.cut _ _ 0 5 (by kernel_rfl) (fun _ _ _=>by kernel_rfl)
theorem line_walk_steps.c1 (m:Int) (F:Nat):(line_walk_steps.X m F).ct (cutsOf (line_walk_steps.X m F).HJ (bd Go.Proofs.Tryz.f190)) 1:=FX.cut _ _ 1 10 (by kernel_rfl) (fun _ _ _=>by kernel_rfl)
theorem line_walk_steps.ok (m:Int) (F:Nat):OK Go.Proofs.Tryz.prog (G m) 190 line_walk_steps.sg (line_walk_steps.sp F) :=
 func_x (line_walk_steps.X m F) mixed tsOK ⟨wide_Sign.ok m F,wide_Neg.ok m F,times_Div.ok m F,wide_Int.ok m F,wide_Of.ok m F,wide_Add.ok m F,trivial⟩ trivial Go.Proofs.Tryz.func190 0 2 (by kernel_rfl) at_nil (at_cons (line_walk_steps.c1 m F) (at_cons (line_walk_steps.c0 m F) at_nil)) (fun _=>by kernel_rfl)
def line_walk_within.te:List (Nat×KS):=[(1,.c (.int .i64)),(2,.c (.int .i64)),(3,.loc 3),(6,.c (.int .i64)),(7,.c .bool),(8,.c (.int .i64)),(9,.c .bool),(12,.c .bool)]
def line_walk_within.tb:List (Nat×KS):=[(3,.g (.pair tLine (.pair (.int .i64) .bool)))]
def line_walk_within.h:Nat→Shape:=shN line_walk_within.te line_walk_within.tb [] [(0,7,1,0),(1,135,1,0),(2,24,0,0),(3,97,0,0),(4,24,0,0)]
def line_walk_within.X (m:Int) (F:Nat):FX TI (G m) Sg:={hn:={na:=3},lv:=[⟨151,line_walk_at.sp F⟩,⟨190,line_walk_steps.sp F⟩],N:=31,H:=line_walk_within.h}
theorem line_walk_within.ok (m:Int) (F:Nat):OK Go.Proofs.Tryz.prog (G m) 152 line_walk_within.sg (line_walk_within.sp F) :=
 func_x (line_walk_within.X m F) mixed tsOK ⟨line_walk_at.ok m F,line_walk_steps.ok m F,trivial⟩ trivial Go.Proofs.Tryz.func152 0 0 (by kernel_rfl) at_nil at_nil (fun _=>by kernel_rfl)
def line_walk_block.te:List (Nat×KS):=[(1,.c (.int .i64)),(2,.loc 2),(4,.c (.int .i64)),(5,.c (.int .i64))]
def line_walk_block.tb:List (Nat×KS):=[(2,.g (.pair tLine (.pair (.int .i64) .bool)))]
def line_walk_block.h:Nat→Shape:=shN line_walk_block.te line_walk_block.tb [] [(0,3,1,0),(1,12,0,0)]
def line_walk_block.X (m:Int) (F:Nat):FX TI (G m) Sg:={hn:={na:=2},N:=17,H:=line_walk_block.h}
theorem line_walk_block.ok (m:Int) (F:Nat):OK Go.Proofs.Tryz.prog (G m) 154 line_walk_block.sg (line_walk_block.sp F) :=
 func_x (line_walk_block.X m F) mixed tsOK trivial trivial Go.Proofs.Tryz.func154 0 0 (by kernel_rfl) at_nil at_nil (fun _=>by kernel_rfl)
def line_walk_ahead.te:List (Nat×KS):=[(1,.c (.int .i64)),(2,.c (.int .i64)),(3,.loc 3),(6,.c (.int .i64)),(7,.c .bool),(8,.loc 8),(10,.c (.int .i64)),(11,.c (.int .i64)),(12,.c (.int .i64)),(13,.c .bool),(14,.c (.int .i64)),(15,.c .bool),(18,.c .bool),(67,.c .bool),(77,.c .bool)]
def line_walk_ahead.tb:List (Nat×KS):=[(3,.g (.pair tLine (.pair (.int .i64) .bool))),(8,.g tWide)]
def line_walk_ahead.h:Nat→Shape:=shN line_walk_ahead.te line_walk_ahead.tb [] [(0,7,1,0),(1,4103,1,0),(2,24,0,0),(3,39,3,0),(4,39,3,0),(5,231,3,0),(6,935,3,0),(7,3841,0,0),(8,12033,0,0),(9,24,0,0),(10,19713,0,0),(11,24,0,0),(12,24,0,0)]
def line_walk_ahead.X (m:Int) (F:Nat):FX TI (G m) Sg:={hn:={na:=3},lv:=[⟨22,wide_Of.sp F⟩,⟨47,times_Mul.sp F⟩,⟨15,wide_Add.sp F⟩,⟨154,line_walk_block.sp F⟩,⟨151,line_walk_at.sp F⟩,⟨190,line_walk_steps.sp F⟩],N:=86,H:=line_walk_ahead.h}
theorem line_walk_ahead.ok (m:Int) (F:Nat):OK Go.Proofs.Tryz.prog (G m) 153 line_walk_ahead.sg (line_walk_ahead.sp F) :=
 func_x (line_walk_ahead.X m F) mixed tsOK ⟨wide_Of.ok m F,times_Mul.ok m F,wide_Add.ok m F,line_walk_block.ok m F,line_walk_at.ok m F,line_walk_steps.ok m F,trivial⟩ trivial Go.Proofs.Tryz.func153 0 0 (by kernel_rfl) at_nil at_nil (fun _=>by kernel_rfl)
def line_Flip.te:List (Nat×KS):=[(1,.c (.int .i64)),(2,.c (.int .i64)),(3,.loc 3),(6,.c (.int .i64)),(7,.c (.int .i64)),(8,.loc 8),(9,.c (.int .i64)),(10,.loc 10),(11,.c (.int .i64)),(12,.c (.int .i64)),(13,.c (.int .i64)),(14,.c .bool),(15,.c (.int .i64)),(16,.c .bool),(17,.c (.int .i64)),(18,.c (.int .i64)),(19,.c (.int .i64)),(20,.c .bool),(24,.c .bool),(38,.c .bool),(64,.c .bool),(76,.c .bool),(83,.c .bool),(97,.c .bool)]
def line_Flip.tb:List (Nat×KS):=[(3,.g tLine),(8,.g tWide),(10,.g (.pair tLine (.pair (.int .i64) .bool)))]
def line_Flip.h:Nat→Shape:=shN line_Flip.te line_Flip.tb [] [(0,7,1,0),(1,262151,1,0),(2,24,0,0),(3,103,3,0),(4,524295,1,0),(5,24,0,0),(6,131,4,0),(7,131,4,0),(8,899,4,0),(9,3968,4,0),(10,1050496,4,0),(11,24,0,0),(12,13184,4,0),(13,2102144,4,0),(14,4736,4,0),(15,4198528,4,0),(16,24,0,0),(17,49280,4,0),(18,196608,0,0),(19,8454144,0,0),(20,24,0,0),(21,24,0,0)]
def line_Flip.hj:Nat→Option Shape:=shO line_Flip.te line_Flip.tb [] [(15,4736,4,0)]
def line_Flip.J15 (F:Nat) (R:Type) (K:Ex→St→Option R) (x:(Unit×Int×Int×Unit)×((tLine.T×Int×Bool)×Unit)×(Unit)):Option R :=
 line_Flip.j15 F (fun r6 r7=>K .ret (encS (line_Flip.h 16) ((r6,r7,()),(),()))) (fun r6 r7=>K .ret (encS (line_Flip.h 20) ((r6,r7,()),(),()))) (fun r6 r7=>K .ret (encS (line_Flip.h 21) ((r6,r7,()),(),()))) x.1.2.1 x.1.2.2.1 x.2.1.1
def line_Flip.X (m:Int) (F:Nat):FX TI (G m) Sg:={hn:={na:=3},lv:=[⟨68,line_fit.sp F⟩,⟨150,line_Span.sp F⟩,⟨119,wide_Cmp.sp F⟩,⟨151,line_walk_at.sp F⟩,⟨17,wide_Sign.sp F⟩,⟨69,line_blocks.sp F⟩,⟨152,line_walk_within.sp F⟩,⟨153,line_walk_ahead.sp F⟩,⟨154,line_walk_block.sp F⟩],N:=99,H:=line_Flip.h,HJ:=line_Flip.hj,J:=mkJ line_Flip.hj [⟨15,fun x R K=>line_Flip.J15 F R K x⟩]}
theorem line_Flip.c0 (m:Int) (F:Nat):(line_Flip.X m F).ct (cutsOf (line_Flip.X m F).HJ (bd Go.Proofs.Tryz.f96)) 0:=FX.cut _ _ 0 15 (by kernel_rfl) (fun _ _ _=>by kernel_rfl)
theorem line_Flip.ok (m:Int) (F:Nat):OK Go.Proofs.Tryz.prog (G m) 96 line_Flip.sg (line_Flip.sp F) :=
 func_x (line_Flip.X m F) mixed tsOK ⟨line_fit.ok m F,line_Span.ok m F,wide_Cmp.ok m F,line_walk_at.ok m F,wide_Sign.ok m F,line_blocks.ok m F,line_walk_within.ok m F,line_walk_ahead.ok m F,line_walk_block.ok m F,trivial⟩ trivial Go.Proofs.Tryz.func96 0 1 (by kernel_rfl) at_nil (at_cons (line_Flip.c0 m F) at_nil) (fun _=>by kernel_rfl)
def normal_maker_made.te:List (Nat×KS):=[(1,.c (.bnd tNormal_maker)),(2,.b (.sl tPiece)),(3,.loc 3),(6,.c (.sl tPiece)),(7,.c .bool),(8,.c (.sl tPiece)),(8,.ow 8),(9,.ow 9),(10,.ow 10),(11,.c (.int .i64)),(12,.c (.int .i64)),(13,.c (.int .i64)),(14,.c (.int .i64)),(15,.c (.sl tPiece)),(16,.loc 16),(17,.c (.sl tLine)),(19,.loc 19),(20,.c (.int .i64)),(29,.c .bool),(30,.b (.sl tPiece)),(31,.c (.int .i64)),(32,.c (.int .i64)),(33,.c .bool),(57,.c .bool),(71,.c .bool),(102,.c (.sl tLine)),(103,.c (.int .i64)),(104,.c (.int .i64)),(105,.c .bool),(133,.c .bool),(148,.c .bool)]
def normal_maker_made.tb:List (Nat×KS):=[(3,.g tNormal_maker),(16,.g tLine),(19,.g tLine)]
def normal_maker_made.tp:List OwnE:=[⟨8,.env 8,tPiece⟩,⟨9,.env 9,(.int .i64)⟩,⟨10,.env 10,tLine⟩]
def normal_maker_made.h:Nat→Shape:=shN normal_maker_made.te normal_maker_made.tb normal_maker_made.tp [(0,7,1,0),(1,71,1,1),(2,199,1,3),(3,455,1,7),(4,967,1,7),(5,1991,1,7),(6,264135,1,7),(7,4039,1,7),(8,3674055,1,7),(9,7868359,1,7),(10,3686343,1,7),(11,12074951,1,7),(12,3686343,1,7),(13,20463559,1,7),(14,3686343,1,7),(15,3674055,1,7),(16,3674055,1,7),(17,53191,3,7),(18,234901447,3,7),(19,503336903,3,7),(20,234966983,7,7),(21,235032519,3,7),(22,234901447,3,7),(23,234901447,3,7),(24,536891335,3,7),(25,3015,1,7),(26,3015,1,7),(27,1073744839,1,7),(28,24,0,0),(29,1991,1,7),(30,24,0,0)]
def normal_maker_made.hl:Nat→Shape:=shN normal_maker_made.te normal_maker_made.tb normal_maker_made.tp [(6,1991,1,7),(9,3674055,1,7),(11,3686343,1,7),(19,234901447,3,7)]
def normal_maker_made.hj:Nat→Option Shape:=shO normal_maker_made.te normal_maker_made.tb normal_maker_made.tp [(30,32,0,0)]
def normal_maker_made.L11 (F:Nat) (R:Type) (K:Ex→St→Option R) (n:Nat) (x:((Nat×tNormal_maker.T)×(List (List tPiece.T))×Unit×Unit×Unit×Unit×Int×Int×Int×Int×(List tPiece.T)×(List (List tPiece.T))×Int×Int×Unit)×(tNormal_maker.T×Unit)×((List tPiece.T)×(List Int)×(List tLine.T)×Unit)):Option R :=
 normal_maker_made.l11 F (fun of kids runs q next i k t30 t31 t32 t57 m out at_ lines=>K (.exit 4) (encS (normal_maker_made.h 11) ((of,kids,(),(),(),(),runs,q,next,i,k,t30,t31,t32,t57,()),(m,()),(out,at_,lines,())))) n x.1.1 x.1.2.1 x.1.2.2.2.2.2.2.1 x.1.2.2.2.2.2.2.2.1 x.1.2.2.2.2.2.2.2.2.1 x.1.2.2.2.2.2.2.2.2.2.1 x.1.2.2.2.2.2.2.2.2.2.2.1 x.1.2.2.2.2.2.2.2.2.2.2.2.1 x.1.2.2.2.2.2.2.2.2.2.2.2.2.1 x.1.2.2.2.2.2.2.2.2.2.2.2.2.2.1 x.2.1.1 x.2.2.1 x.2.2.2.1 x.2.2.2.2.1
def normal_maker_made.L9 (F:Nat) (R:Type) (K:Ex→St→Option R) (n:Nat) (x:((Nat×tNormal_maker.T)×(List (List tPiece.T))×Unit×Unit×Unit×Unit×Int×Int×Int×(List (List tPiece.T))×Int×Int×Unit)×(tNormal_maker.T×Unit)×((List tPiece.T)×(List Int)×(List tLine.T)×Unit)):Option R :=
 normal_maker_made.l9 F (fun of kids runs q next t30 t31 t32 t33 m out at_ lines=>K (.exit 2) (encS (normal_maker_made.h 9) ((of,kids,(),(),(),(),runs,q,next,t30,t31,t32,t33,()),(m,()),(out,at_,lines,())))) n x.1.1 x.1.2.1 x.1.2.2.2.2.2.2.1 x.1.2.2.2.2.2.2.2.1 x.1.2.2.2.2.2.2.2.2.1 x.1.2.2.2.2.2.2.2.2.2.1 x.1.2.2.2.2.2.2.2.2.2.2.1 x.1.2.2.2.2.2.2.2.2.2.2.2.1 x.2.1.1 x.2.2.1 x.2.2.2.1 x.2.2.2.2.1
def normal_maker_made.L19 (F:Nat) (R:Type) (K:Ex→St→Option R) (n:Nat) (x:((Nat×tNormal_maker.T)×(List (List tPiece.T))×Unit×Unit×Unit×Unit×Int×Int×Int×Unit×(List tLine.T)×Int×Int×Unit)×(tNormal_maker.T×tLine.T×Unit)×((List tPiece.T)×(List Int)×(List tLine.T)×Unit)):Option R :=
 normal_maker_made.l19 F (fun of kids runs q next t102 t103 t104 t105 m l out at_ lines=>K (.exit 6) (encS (normal_maker_made.h 19) ((of,kids,(),(),(),(),runs,q,next,(),t102,t103,t104,t105,()),(m,l,()),(out,at_,lines,())))) n x.1.1 x.1.2.1 x.1.2.2.2.2.2.2.1 x.1.2.2.2.2.2.2.2.1 x.1.2.2.2.2.2.2.2.2.1 x.1.2.2.2.2.2.2.2.2.2.2.1 x.1.2.2.2.2.2.2.2.2.2.2.2.1 x.1.2.2.2.2.2.2.2.2.2.2.2.2.1 x.2.1.1 x.2.1.2.1 x.2.2.1 x.2.2.2.1 x.2.2.2.2.1
def normal_maker_made.L6 (F:Nat) (R:Type) (K:Ex→St→Option R) (n:Nat) (x:((Nat×tNormal_maker.T)×(List (List tPiece.T))×Unit×Unit×Unit×Unit×Int×Int×Unit)×(tNormal_maker.T×Unit)×((List tPiece.T)×(List Int)×(List tLine.T)×Unit)):Option R :=
 normal_maker_made.l6 F (fun r6 r7=>K .ret (encS (normal_maker_made.h 28) ((r6,r7,()),(),()))) (fun of kids runs q t29 m out at_ lines=>K (.exit 0) (encS (normal_maker_made.h 6) ((of,kids,(),(),(),(),runs,q,t29,()),(m,()),(out,at_,lines,())))) n x.1.1 x.1.2.1 x.1.2.2.2.2.2.2.1 x.1.2.2.2.2.2.2.2.1 x.2.1.1 x.2.2.1 x.2.2.2.1 x.2.2.2.2.1
def normal_maker_made.J30 (F:Nat) (R:Type) (K:Ex→St→Option R) (x:((List tPiece.T)×Unit)×(Unit)×(Unit)):Option R :=
 normal_maker_made.j30 F (fun r6 r7=>K .ret (encS (normal_maker_made.h 30) ((r6,r7,()),(),()))) x.1.1
def normal_maker_made.X (m:Int) (F:Nat):FX TI (G m) Sg:={hn:={MU:=fun s=>lk false s [(24,true),(27,true),(139,true)],DS:=fun d=>lk none d [(99,some normal_maker_made.ds99)],na:=3,fzJ:=fun r=>lk [] r [(30,[8])]},lv:=[⟨96,line_Flip.sp F⟩],ld:=[⟨99,normal_maker_made.d99 F⟩],N:=151,H:=normal_maker_made.h,HL:=normal_maker_made.hl,HJ:=normal_maker_made.hj,L:=mkL normal_maker_made.hl [⟨11,fun x R K=>normal_maker_made.L11 F R K F x⟩,⟨9,fun x R K=>normal_maker_made.L9 F R K F x⟩,⟨19,fun x R K=>normal_maker_made.L19 F R K F x⟩,⟨6,fun x R K=>normal_maker_made.L6 F R K F x⟩],J:=mkJ normal_maker_made.hj [⟨30,fun x R K=>normal_maker_made.J30 F R K x⟩]}
theorem normal_maker_made.a0 (m:Int) (F:Nat):(normal_maker_made.X m F).lp (loopsOf (bd Go.Proofs.Tryz.f60)) 0:=FX.loop _ _ 0 6 F (by kernel_rfl) (normal_maker_made.L6 F) (fun _ _ _=>by kernel_rfl) (fun _ _ _ _=>by kernel_rfl) (fun _ _ _=>by kernel_rfl)
theorem normal_maker_made.a1 (m:Int) (F:Nat):(normal_maker_made.X m F).lp (loopsOf (bd Go.Proofs.Tryz.f60)) 1:=FX.loop _ _ 1 9 F (by kernel_rfl) (normal_maker_made.L9 F) (fun _ _ _=>by kernel_rfl) (fun _ _ _ _=>by kernel_rfl) (fun _ _ _=>by kernel_rfl)
theorem normal_maker_made.a2 (m:Int) (F:Nat):(normal_maker_made.X m F).lp (loopsOf (bd Go.Proofs.Tryz.f60)) 2:=FX.loop _ _ 2 11 F (by kernel_rfl) (normal_maker_made.L11 F) (fun _ _ _=>by kernel_rfl) (fun _ _ _ _=>by kernel_rfl) (fun _ _ _=>by kernel_rfl)
theorem normal_maker_made.a3 (m:Int) (F:Nat):(normal_maker_made.X m F).lp (loopsOf (bd Go.Proofs.Tryz.f60)) 3:=FX.loop _ _ 3 19 F (by kernel_rfl) (normal_maker_made.L19 F) (fun _ _ _=>by kernel_rfl) (fun _ _ _ _=>by kernel_rfl) (fun _ _ _=>by kernel_rfl)
theorem normal_maker_made.c0 (m:Int) (F:Nat):(normal_maker_made.X m F).ct (cutsOf (normal_maker_made.X m F).HJ (bd Go.Proofs.Tryz.f60)) 0:=FX.cut _ _ 0 30 (by kernel_rfl) (fun _ _ _=>by kernel_rfl)
theorem normal_maker_made.ok (m:Int) (F:Nat):OK Go.Proofs.Tryz.prog (G m) 60 normal_maker_made.sg (normal_maker_made.sp F) :=
 func_x (normal_maker_made.X m F) mixed tsOK ⟨line_Flip.ok m F,trivial⟩ ⟨mkT_ok ⟨⟨49,by kernel_rfl,normal_maker_add.ok m F⟩,⟨56,by kernel_rfl,normal_maker_graduated.ok m F⟩,⟨52,by kernel_rfl,normal_maker_least.ok m F⟩,⟨53,by kernel_rfl,normal_maker_most.ok m F⟩,⟨51,by kernel_rfl,normal_maker_mul.ok m F⟩,⟨48,by kernel_rfl,normal_maker_neg.ok m F⟩,⟨58,by kernel_rfl,normal_maker_off.ok m F⟩,⟨54,by kernel_rfl,normal_maker_over.ok m F⟩,⟨50,by kernel_rfl,normal_maker_sub.ok m F⟩,⟨59,by kernel_rfl,normal_maker_test.ok m F⟩,⟨55,by kernel_rfl,normal_maker_upto.ok m F⟩,⟨57,by kernel_rfl,normal_maker_volume.ok m F⟩,trivial⟩,trivial⟩ Go.Proofs.Tryz.func60 4 1 (by kernel_rfl) (at_cons (normal_maker_made.a3 m F) (at_cons (normal_maker_made.a2 m F) (at_cons (normal_maker_made.a1 m F) (at_cons (normal_maker_made.a0 m F) at_nil)))) (at_cons (normal_maker_made.c0 m F) at_nil) (fun _=>by kernel_rfl)
def normal_maker_all.te:List (Nat×KS):=[(1,.c (.bnd tNormal_maker)),(2,.b (.sl tPiece)),(3,.loc 3),(6,.c (.sl tPiece)),(7,.c .bool),(8,.c (.sl tPiece)),(9,.c .bool),(11,.c (.sl tPiece)),(21,.c .bool),(32,.b (.sl tPiece)),(33,.c (.int .i64)),(34,.c (.int .i64)),(35,.c .bool),(48,.c .bool)]
def normal_maker_all.tb:List (Nat×KS):=[(3,.g tNormal_maker)]
def normal_maker_all.h:Nat→Shape:=shN normal_maker_all.te normal_maker_all.tb [] [(0,7,1,0),(1,263,1,0),(2,24,0,0),(3,39,1,0),(4,3621,1,0),(5,7717,1,0),(6,3749,1,0),(7,3685,1,0),(8,11813,1,0),(9,24,0,0),(10,3621,1,0),(11,24,0,0)]
def normal_maker_all.hl:Nat→Shape:=shN normal_maker_all.te normal_maker_all.tb [] [(5,3621,1,0)]
def normal_maker_all.hj:Nat→Option Shape:=shO normal_maker_all.te normal_maker_all.tb [] [(3,7,1,0)]
def normal_maker_all.L5 (F:Nat) (R:Type) (K:Ex→St→Option R) (n:Nat) (x:((Nat×tNormal_maker.T)×Unit×(List tPiece.T)×(List (List tPiece.T))×Int×Int×Unit)×(tNormal_maker.T×Unit)×(Unit)):Option R :=
 normal_maker_all.l5 F (fun r6 r7=>K .ret (encS (normal_maker_all.h 9) ((r6,r7,()),(),()))) (fun of made t32 t33 t34 t35 m=>K (.exit 0) (encS (normal_maker_all.h 5) ((of,(),made,t32,t33,t34,t35,()),(m,()),()))) n x.1.1 x.1.2.2.1 x.1.2.2.2.1 x.1.2.2.2.2.1 x.1.2.2.2.2.2.1 x.2.1.1
def normal_maker_all.J3 (F:Nat) (R:Type) (K:Ex→St→Option R) (x:((Nat×tNormal_maker.T)×(List (List tPiece.T))×Unit×Unit)×(tNormal_maker.T×Unit)×(Unit)):Option R :=
 normal_maker_all.j3 F (fun r6 r7=>K .ret (encS (normal_maker_all.h 9) ((r6,r7,()),(),()))) (fun r6 r7=>K .ret (encS (normal_maker_all.h 11) ((r6,r7,()),(),()))) x.1.1 x.1.2.1 x.2.1.1
def normal_maker_all.X (m:Int) (F:Nat):FX TI (G m) Sg:={hn:={na:=3},lv:=[⟨60,normal_maker_made.sp F⟩],N:=51,H:=normal_maker_all.h,HL:=normal_maker_all.hl,HJ:=normal_maker_all.hj,L:=mkL normal_maker_all.hl [⟨5,fun x R K=>normal_maker_all.L5 F R K F x⟩],J:=mkJ normal_maker_all.hj [⟨3,fun x R K=>normal_maker_all.J3 F R K x⟩]}
theorem normal_maker_all.a0 (m:Int) (F:Nat):(normal_maker_all.X m F).lp (loopsOf (bd Go.Proofs.Tryz.f27)) 0:=FX.loop _ _ 0 5 F (by kernel_rfl) (normal_maker_all.L5 F) (fun _ _ _=>by kernel_rfl) (fun _ _ _ _=>by kernel_rfl) (fun _ _ _=>by kernel_rfl)
theorem normal_maker_all.c0 (m:Int) (F:Nat):(normal_maker_all.X m F).ct (cutsOf (normal_maker_all.X m F).HJ (bd Go.Proofs.Tryz.f27)) 0:=FX.cut _ _ 0 3 (by kernel_rfl) (fun _ _ _=>by kernel_rfl)
theorem normal_maker_all.ok (m:Int) (F:Nat):OK Go.Proofs.Tryz.prog (G m) 27 normal_maker_all.sg (normal_maker_all.sp F) :=
 func_x (normal_maker_all.X m F) mixed tsOK ⟨normal_maker_made.ok m F,trivial⟩ trivial Go.Proofs.Tryz.func27 1 1 (by kernel_rfl) (at_cons (normal_maker_all.a0 m F) at_nil) (at_cons (normal_maker_all.c0 m F) at_nil) (fun _=>by kernel_rfl)
def normal_Table.te:List (Nat×KS):=[(1,.loc 1),(2,.loc 2),(3,.c (.int .i64)),(4,.c (.int .i64)),(5,.loc 5),(6,.c (.int .i64)),(7,.c (.int .i64)),(8,.c (.int .i64)),(10,.c (.sl (.sl tPiece))),(10,.ow 10),(11,.c (.int .i64)),(12,.loc 12),(13,.loc 13),(14,.c (.bnd tNormal_maker)),(15,.c (.int .i64)),(16,.c (.int .i64)),(17,.c (.sl tPiece)),(18,.c .bool),(26,.c .bool),(33,.c .bool),(41,.c (.sl tNode)),(42,.c (.int .i64)),(43,.c (.int .i64)),(44,.c .bool),(58,.c .bool),(83,.c .bool)]
def normal_Table.tb:List (Nat×KS):=[(1,.g tPlan),(2,.g tTable),(5,.g tWide),(12,.g tNode),(13,.g tNormal_maker)]
def normal_Table.tp:List OwnE:=[⟨10,.env 10,(.sl tPiece)⟩]
def normal_Table.h:Nat→Shape:=shN normal_Table.te normal_Table.tb normal_Table.tp [(0,3,3,0),(1,115,7,0),(2,262259,7,0),(3,14,2,0),(4,524307,7,0),(5,14,2,0),(6,147,7,0),(7,659,7,1),(8,7340691,7,1),(9,15729299,7,1),(10,7343763,15,1),(11,7347859,31,1),(12,24123027,23,1),(13,7340691,7,1),(14,7370387,23,1),(15,7386771,23,1),(16,7571091,7,1),(17,40994451,7,1),(18,14,2,0),(19,7340691,7,1),(20,7340691,7,1),(21,14,2,0)]
def normal_Table.hl:Nat→Shape:=shN normal_Table.te normal_Table.tb normal_Table.tp [(9,7340691,7,1)]
def normal_Table.hj:Nat→Option Shape:=shO normal_Table.te normal_Table.tb normal_Table.tp [(21,387,3,0)]
def normal_Table.L9 (F:Nat) (R:Type) (K:Ex→St→Option R) (n:Nat) (x:(Unit×Unit×Unit×Int×Unit×(List tNode.T)×Int×Int×Unit)×(tPlan.T×tTable.T×tWide.T×Unit)×((List (List tPiece.T))×Unit)):Option R :=
 normal_Table.l9 F (fun r3 r4 r2=>K .ret (encS (normal_Table.h 18) (((),r3,r4,()),(r2,()),()))) (fun scale t41 t42 t43 t44 p r2 unit pile=>K (.exit 0) (encS (normal_Table.h 9) (((),(),(),scale,(),t41,t42,t43,t44,()),(p,r2,unit,()),(pile,())))) n x.1.2.2.2.1 x.1.2.2.2.2.2.1 x.1.2.2.2.2.2.2.1 x.1.2.2.2.2.2.2.2.1 x.2.1.1 x.2.1.2.1 x.2.1.2.2.1 x.2.2.1
def normal_Table.J21 (F:Nat) (R:Type) (K:Ex→St→Option R) (x:(Unit×Unit×Int×(List (List tPiece.T))×Unit)×(tPlan.T×tTable.T×Unit)×(Unit)):Option R :=
 normal_Table.j21 F (fun r3 r4 r2=>K .ret (encS (normal_Table.h 21) (((),r3,r4,()),(r2,()),()))) x.1.2.2.1 x.1.2.2.2.1 x.2.1.1 x.2.1.2.1
def normal_Table.X (m:Int) (F:Nat):FX TI (G m) Sg:={hn:={MU:=fun s=>lk false s [(63,true),(91,true)],na:=1,fzJ:=fun r=>lk [] r [(21,[10])]},lv:=[⟨23,bound_Unit.sp F⟩,⟨24,tree_Scale.sp F⟩,⟨25,normal_maker_leaf.sp F⟩,⟨26,normal_maker_choices.sp F⟩,⟨27,normal_maker_all.sp F⟩],N:=103,H:=normal_Table.h,HL:=normal_Table.hl,HJ:=normal_Table.hj,L:=mkL normal_Table.hl [⟨9,fun x R K=>normal_Table.L9 F R K F x⟩],J:=mkJ normal_Table.hj [⟨21,fun x R K=>normal_Table.J21 F R K x⟩]}
theorem normal_Table.a0 (m:Int) (F:Nat):(normal_Table.X m F).lp (loopsOf (bd Go.Proofs.Tryz.f8)) 0:=FX.loop _ _ 0 9 F (by kernel_rfl) (normal_Table.L9 F) (fun _ _ _=>by kernel_rfl) (fun _ _ _ _=>by kernel_rfl) (fun _ _ _=>by kernel_rfl)
theorem normal_Table.c0 (m:Int) (F:Nat):(normal_Table.X m F).ct (cutsOf (normal_Table.X m F).HJ (bd Go.Proofs.Tryz.f8)) 0:=FX.cut _ _ 0 21 (by kernel_rfl) (fun _ _ _=>by kernel_rfl)
theorem normal_Table.ok (m:Int) (F:Nat):OK Go.Proofs.Tryz.prog (G m) 8 normal_Table.sg (normal_Table.sp F) :=
 func_x (normal_Table.X m F) mixed tsOK ⟨bound_Unit.ok m F,tree_Scale.ok m F,normal_maker_leaf.ok m F,normal_maker_choices.ok m F,normal_maker_all.ok m F,trivial⟩ trivial Go.Proofs.Tryz.func8 1 1 (by kernel_rfl) (at_cons (normal_Table.a0 m F) at_nil) (at_cons (normal_Table.c0 m F) at_nil) (fun _=>by kernel_rfl)
def octroilaw12_small.te:List (Nat×KS):=[(0,.c (.int .i64)),(1,.c (.int .i64)),(2,.c (.int .i64)),(6,.loc 6)]
def octroilaw12_small.tb:List (Nat×KS):=[(6,.g tLine)]
def octroilaw12_small.h:Nat→Shape:=shN octroilaw12_small.te octroilaw12_small.tb [] [(0,15,1,0),(1,8,1,0)]
def octroilaw12_small.X (m:Int) (F:Nat):FX TI (G m) Sg:={hn:={na:=3},lv:=[⟨22,wide_Of.sp F⟩],N:=14,H:=octroilaw12_small.h}
theorem octroilaw12_small.ok (m:Int) (F:Nat):OK Go.Proofs.Tryz.prog (G m) 21 octroilaw12_small.sg (octroilaw12_small.sp F) :=
 func_x (octroilaw12_small.X m F) mixed tsOK ⟨wide_Of.ok m F,trivial⟩ trivial Go.Proofs.Tryz.func21 0 0 (by kernel_rfl) at_nil at_nil (fun _=>by kernel_rfl)
def normal_Check.te:List (Nat×KS):=[(1,.loc 1),(2,.c .bool),(3,.c (.int .i64)),(4,.c (.int .i64)),(5,.loc 5),(6,.loc 6),(43,.c .bool),(45,.c (.int .i64)),(46,.c (.int .i64)),(47,.c .bool),(76,.c .bool)]
def normal_Check.tb:List (Nat×KS):=[(1,.g tTable),(5,.g tPiece),(6,.g tPiece)]
def normal_Check.h:Nat→Shape:=shN normal_Check.te normal_Check.tb [] [(0,1,1,0),(1,5,1,0),(2,69,1,0),(3,2,0,0),(4,385,1,0),(5,897,1,0),(6,393,1,0),(7,433,7,0),(8,1409,1,0),(9,2,0,0),(10,385,1,0),(11,2,0,0)]
def normal_Check.hl:Nat→Shape:=shN normal_Check.te normal_Check.tb [] [(5,385,1,0)]
def normal_Check.L5 (F:Nat) (R:Type) (K:Ex→St→Option R) (n:Nat) (x:(Unit×Int×Int×Unit)×(tTable.T×Unit)×(Unit)):Option R :=
 normal_Check.l5 F (fun r2=>K .ret (encS (normal_Check.h 9) ((r2,()),(),()))) (fun t45 t46 t47 t=>K (.exit 0) (encS (normal_Check.h 5) (((),t45,t46,t47,()),(t,()),()))) n x.1.2.1 x.1.2.2.1 x.2.1.1
def normal_Check.X (m:Int) (F:Nat):FX TI (G m) Sg:={hn:={na:=1},N:=78,H:=normal_Check.h,HL:=normal_Check.hl,L:=mkL normal_Check.hl [⟨5,fun x R K=>normal_Check.L5 F R K F x⟩]}
theorem normal_Check.a0 (m:Int) (F:Nat):(normal_Check.X m F).lp (loopsOf (bd Go.Proofs.Tryz.f11)) 0:=FX.loop _ _ 0 5 F (by kernel_rfl) (normal_Check.L5 F) (fun _ _ _=>by kernel_rfl) (fun _ _ _ _=>by kernel_rfl) (fun _ _ _=>by kernel_rfl)
theorem normal_Check.ok (m:Int) (F:Nat):OK Go.Proofs.Tryz.prog (G m) 11 normal_Check.sg (normal_Check.sp F) :=
 func_x (normal_Check.X m F) mixed tsOK trivial trivial Go.Proofs.Tryz.func11 1 0 (by kernel_rfl) (at_cons (normal_Check.a0 m F) at_nil) at_nil (fun _=>by kernel_rfl)
def normal_At_c1.te:List (Nat×KS):=[(1,.c (.int .i64)),(2,.loc 2),(4,.c (.int .i64))]
def normal_At_c1.tb:List (Nat×KS):=[(2,.g tPiece)]
def normal_At_c1.h:Nat→Shape:=shN normal_At_c1.te normal_At_c1.tb [] [(0,3,1,0),(1,4,0,0)]
def normal_At_c1.X (m:Int) (F:Nat):FX TI (G m) Sg:={hn:={na:=2},N:=11,H:=normal_At_c1.h}
theorem normal_At_c1.ok (m:Int) (F:Nat):OK Go.Proofs.Tryz.prog (G m) 34 normal_At_c1.sg (normal_At_c1.sp F) :=
 func_x (normal_At_c1.X m F) mixed tsOK trivial trivial Go.Proofs.Tryz.func34 0 0 (by kernel_rfl) at_nil at_nil (fun _=>by kernel_rfl)
def slices_BinarySearchFunc_int64.te:List (Nat×KS):=[(0,.b tPiece),(1,.c (.int .i64)),(2,.c .fn),(6,.c (.int .i64)),(7,.c .bool),(8,.c (.int .i64)),(9,.c (.int .i64)),(10,.c (.int .i64)),(11,.c (.int .i64)),(17,.c .bool),(31,.c .bool)]
def slices_BinarySearchFunc_int64.h:Nat→Shape:=shN slices_BinarySearchFunc_int64.te [] [] [(0,7,0,0),(1,39,0,0),(2,231,0,0),(3,743,0,0),(4,487,0,0),(5,1511,0,0),(6,231,0,0),(7,231,0,0),(8,24,0,0)]
def slices_BinarySearchFunc_int64.hl:Nat→Shape:=shN slices_BinarySearchFunc_int64.te [] [] [(3,231,0,0)]
def slices_BinarySearchFunc_int64.L3 (F:Nat) (R:Type) (K:Ex→St→Option R) (n:Nat) (x:((List tPiece.T)×Int×Nat×Int×Int×Int×Unit)×(Unit)×(Unit)):Option R :=
 slices_BinarySearchFunc_int64.l3 F (fun x target cmp n i j t17=>K (.exit 0) (encS (slices_BinarySearchFunc_int64.h 3) ((x,target,cmp,n,i,j,t17,()),(),()))) n x.1.1 x.1.2.1 x.1.2.2.1 x.1.2.2.2.1 x.1.2.2.2.2.1 x.1.2.2.2.2.2.1
def slices_BinarySearchFunc_int64.X (m:Int) (F:Nat):FX TI (G m) Sg:={hn:={DS:=fun d=>lk none d [(30,some slices_BinarySearchFunc_int64.ds30),(46,some slices_BinarySearchFunc_int64.ds46)],na:=3},ld:=[⟨30,slices_BinarySearchFunc_int64.d30 F⟩,⟨46,slices_BinarySearchFunc_int64.d46 F⟩],N:=49,H:=slices_BinarySearchFunc_int64.h,HL:=slices_BinarySearchFunc_int64.hl,L:=mkL slices_BinarySearchFunc_int64.hl [⟨3,fun x R K=>slices_BinarySearchFunc_int64.L3 F R K F x⟩]}
theorem slices_BinarySearchFunc_int64.a0 (m:Int) (F:Nat):(slices_BinarySearchFunc_int64.X m F).lp (loopsOf (bd Go.Proofs.Tryz.f33)) 0:=FX.loop _ _ 0 3 F (by kernel_rfl) (slices_BinarySearchFunc_int64.L3 F) (fun _ _ _=>by kernel_rfl) (fun _ _ _ _=>by kernel_rfl) (fun _ _ _=>by kernel_rfl)
theorem slices_BinarySearchFunc_int64.ok (m:Int) (F:Nat):OK Go.Proofs.Tryz.prog (G m) 33 slices_BinarySearchFunc_int64.sg (slices_BinarySearchFunc_int64.sp F) :=
 func_x (slices_BinarySearchFunc_int64.X m F) mixed tsOK trivial ⟨mkT_ok ⟨⟨34,by kernel_rfl,normal_At_c1.ok m F⟩,trivial⟩,mkT_ok ⟨⟨34,by kernel_rfl,normal_At_c1.ok m F⟩,trivial⟩,trivial⟩ Go.Proofs.Tryz.func33 1 0 (by kernel_rfl) (at_cons (slices_BinarySearchFunc_int64.a0 m F) at_nil) at_nil (fun _=>by kernel_rfl)
def normal_At.te:List (Nat×KS):=[(1,.c (.int .i64)),(2,.loc 2),(4,.loc 4),(5,.c (.int .i64)),(6,.c (.int .i64)),(7,.c .bool),(18,.c .bool),(28,.c .bool)]
def normal_At.tb:List (Nat×KS):=[(2,.g tTable),(4,.g tWide)]
def normal_At.h:Nat→Shape:=shN normal_At.te normal_At.tb [] [(0,7,3,0),(1,71,3,0),(2,12,2,0),(3,55,3,0),(4,151,3,0),(5,23,3,0),(6,12,2,0)]
def normal_At.hj:Nat→Option Shape:=shO normal_At.te normal_At.tb [] [(6,23,3,0)]
def normal_At.J6 (F:Nat) (R:Type) (K:Ex→St→Option R) (x:(Int×Unit×Unit×Int×Unit)×(tTable.T×tWide.T×Unit)×(Unit)):Option R :=
 normal_At.j6 F (fun r5 r4=>K .ret (encS (normal_At.h 6) (((),r5,()),(r4,()),()))) x.1.1 x.1.2.2.2.1 x.2.1.1 x.2.1.2.1
def normal_At.X (m:Int) (F:Nat):FX TI (G m) Sg:={hn:={na:=2},lv:=[⟨11,normal_Check.sp F⟩,⟨33,slices_BinarySearchFunc_int64.sp F⟩,⟨35,line_Value.sp F⟩],N:=43,H:=normal_At.h,HJ:=normal_At.hj,J:=mkJ normal_At.hj [⟨6,fun x R K=>normal_At.J6 F R K x⟩]}
theorem normal_At.c0 (m:Int) (F:Nat):(normal_At.X m F).ct (cutsOf (normal_At.X m F).HJ (bd Go.Proofs.Tryz.f13)) 0:=FX.cut _ _ 0 6 (by kernel_rfl) (fun _ _ _=>by kernel_rfl)
theorem normal_At.ok (m:Int) (F:Nat):OK Go.Proofs.Tryz.prog (G m) 13 normal_At.sg (normal_At.sp F) :=
 func_x (normal_At.X m F) mixed tsOK ⟨normal_Check.ok m F,slices_BinarySearchFunc_int64.ok m F,line_Value.ok m F,trivial⟩ trivial Go.Proofs.Tryz.func13 0 1 (by kernel_rfl) at_nil (at_cons (normal_At.c0 m F) at_nil) (fun _=>by kernel_rfl)
def octroiref12_Same.te:List (Nat×KS):=[(2,.loc 2),(3,.loc 3),(4,.c .bool),(5,.c (.int .i64)),(26,.c .bool),(31,.c .bool),(44,.c .bool)]
def octroiref12_Same.tb:List (Nat×KS):=[(2,.g tTable),(3,.g tTable)]
def octroiref12_Same.h:Nat→Shape:=shN octroiref12_Same.te octroiref12_Same.tb [] [(0,3,3,0),(1,19,3,0),(2,4,0,0),(3,11,3,0),(4,43,3,0),(5,11,3,0),(6,75,3,0),(7,4,0,0),(8,4,0,0)]
def octroiref12_Same.hl:Nat→Shape:=shN octroiref12_Same.te octroiref12_Same.tb [] [(4,11,3,0)]
def octroiref12_Same.L4 (F:Nat) (R:Type) (K:Ex→St→Option R) (n:Nat) (x:(Unit×Unit×Int×Unit)×(tTable.T×tTable.T×Unit)×(Unit)):Option R :=
 octroiref12_Same.l4 F (fun r4=>K .ret (encS (octroiref12_Same.h 7) ((r4,()),(),()))) (fun i t31 a b=>K (.exit 0) (encS (octroiref12_Same.h 4) (((),(),i,t31,()),(a,b,()),()))) n x.1.2.2.1 x.2.1.1 x.2.1.2.1
def octroiref12_Same.X (m:Int) (F:Nat):FX TI (G m) Sg:={hn:={na:=2},N:=45,H:=octroiref12_Same.h,HL:=octroiref12_Same.hl,L:=mkL octroiref12_Same.hl [⟨4,fun x R K=>octroiref12_Same.L4 F R K F x⟩]}
theorem octroiref12_Same.a0 (m:Int) (F:Nat):(octroiref12_Same.X m F).lp (loopsOf (bd Go.Proofs.Tryz.f10)) 0:=FX.loop _ _ 0 4 F (by kernel_rfl) (octroiref12_Same.L4 F) (fun _ _ _=>by kernel_rfl) (fun _ _ _ _=>by kernel_rfl) (fun _ _ _=>by kernel_rfl)
theorem octroiref12_Same.ok (m:Int) (F:Nat):OK Go.Proofs.Tryz.prog (G m) 10 octroiref12_Same.sg (octroiref12_Same.sp F) :=
 func_x (octroiref12_Same.X m F) mixed tsOK trivial trivial Go.Proofs.Tryz.func10 1 0 (by kernel_rfl) (at_cons (octroiref12_Same.a0 m F) at_nil) at_nil (fun _=>by kernel_rfl)
def octroilaw12_awake.te:List (Nat×KS):=[(0,.c .bool),(1,.loc 1),(2,.c (.int .i64)),(3,.c (.int .i64)),(4,.loc 4),(5,.loc 5),(6,.c (.int .i64)),(8,.c (.int .i64))]
def octroilaw12_awake.tb:List (Nat×KS):=[(1,.g tTable),(4,.g tTable),(5,.g tWide)]
def octroilaw12_awake.h:Nat→Shape:=shN octroilaw12_awake.te octroilaw12_awake.tb [] [(1,14,1,0),(2,30,3,0),(3,126,7,0),(4,254,7,0),(5,1,0,0)]
def octroilaw12_awake.X (m:Int) (F:Nat):FX TI (G m) Sg:={hn:={na:=0},lv:=[⟨20,octroilaw12_one.sp F⟩,⟨8,normal_Table.sp F⟩,⟨21,octroilaw12_small.sp F⟩,⟨13,normal_At.sp F⟩,⟨10,octroiref12_Same.sp F⟩,⟨22,wide_Of.sp F⟩,⟨11,normal_Check.sp F⟩],N:=68,H:=octroilaw12_awake.h}
theorem octroilaw12_awake.ok (m:Int) (F:Nat):OK Go.Proofs.Tryz.prog (G m) 7 octroilaw12_awake.sg (octroilaw12_awake.sp F) :=
 func_x (octroilaw12_awake.X m F) mixed tsOK ⟨octroilaw12_one.ok m F,normal_Table.ok m F,octroilaw12_small.ok m F,normal_At.ok m F,octroiref12_Same.ok m F,wide_Of.ok m F,normal_Check.ok m F,trivial⟩ trivial Go.Proofs.Tryz.func7 0 0 (by kernel_rfl) at_nil at_nil (fun _=>by kernel_rfl)
end Go.VS
