import Derived.Test.YthekefnghiaocaaDoorT
set_option linter.unusedVariables false
set_option linter.unusedSimpArgs false
set_option linter.unusedSectionVars false
set_option linter.unusedVariables false
set_option maxRecDepth 100000
namespace Go.VS
open Go
def octroilaw10_one.te:List (Nat×KS):=[(0,.c (.sl tNode)),(2,.loc 2)]
def octroilaw10_one.tb:List (Nat×KS):=[(2,.g tPlan)]
def octroilaw10_one.h:Nat→Shape:=shN octroilaw10_one.te octroilaw10_one.tb [] [(0,3,1,0),(1,2,1,0)]
def octroilaw10_one.X (m:Int) (F:Nat):FX TI (G m) Sg:={hn:={na:=1},N:=7,H:=octroilaw10_one.h}
theorem octroilaw10_one.ok (m:Int) (F:Nat):OK Go.Proofs.Tryd.prog (G m) 13 octroilaw10_one.sg (octroilaw10_one.sp F) :=
 func_x (octroilaw10_one.X m F) mixed tsOK trivial trivial Go.Proofs.Tryd.func13 0 0 (by kernel_rfl) at_nil at_nil (fun _=>by kernel_rfl)
def scan_letter.te:List (Nat×KS):=[(0,.c (.int .u8)),(2,.c .bool)]
def scan_letter.h:Nat→Shape:=shN scan_letter.te [] [] [(0,1,0,0),(1,2,0,0)]
def scan_letter.X (m:Int) (F:Nat):FX TI (G m) Sg:={hn:={na:=1},N:=9,H:=scan_letter.h}
theorem scan_letter.ok (m:Int) (F:Nat):OK Go.Proofs.Tryd.prog (G m) 84 scan_letter.sg (scan_letter.sp F) :=
 func_x (scan_letter.X m F) mixed tsOK trivial trivial Go.Proofs.Tryd.func84 0 0 (by kernel_rfl) at_nil at_nil (fun _=>by kernel_rfl)
def scan_digit.te:List (Nat×KS):=[(0,.c (.int .u8)),(2,.c .bool)]
def scan_digit.h:Nat→Shape:=shN scan_digit.te [] [] [(0,1,0,0),(1,2,0,0)]
def scan_digit.X (m:Int) (F:Nat):FX TI (G m) Sg:={hn:={na:=1},N:=9,H:=scan_digit.h}
theorem scan_digit.ok (m:Int) (F:Nat):OK Go.Proofs.Tryd.prog (G m) 90 scan_digit.sg (scan_digit.sp F) :=
 func_x (scan_digit.X m F) mixed tsOK trivial trivial Go.Proofs.Tryd.func90 0 0 (by kernel_rfl) at_nil at_nil (fun _=>by kernel_rfl)
def scan_inner.te:List (Nat×KS):=[(0,.c (.int .u8)),(2,.c .bool)]
def scan_inner.h:Nat→Shape:=shN scan_inner.te [] [] [(0,1,0,0),(1,2,0,0)]
def scan_inner.X (m:Int) (F:Nat):FX TI (G m) Sg:={hn:={na:=1},lv:=[⟨84,scan_letter.sp F⟩,⟨90,scan_digit.sp F⟩],N:=13,H:=scan_inner.h}
theorem scan_inner.ok (m:Int) (F:Nat):OK Go.Proofs.Tryd.prog (G m) 86 scan_inner.sg (scan_inner.sp F) :=
 func_x (scan_inner.X m F) mixed tsOK ⟨scan_letter.ok m F,scan_digit.ok m F,trivial⟩ trivial Go.Proofs.Tryd.func86 0 0 (by kernel_rfl) at_nil at_nil (fun _=>by kernel_rfl)
def scan_run.te:List (Nat×KS):=[(0,.c .str),(1,.c .fn),(4,.c (.int .i64)),(5,.c (.int .i64)),(16,.c .bool)]
def scan_run.h:Nat→Shape:=shN scan_run.te [] [] [(0,3,0,0),(1,11,0,0),(2,27,0,0),(3,11,0,0),(4,4,0,0)]
def scan_run.hl:Nat→Shape:=shN scan_run.te [] [] [(2,11,0,0)]
def scan_run.L2 (F:Nat) (R:Type) (K:Ex→St→Option R) (n:Nat) (x:(ByteArray×Nat×Int×Unit)×(Unit)×(Unit)):Option R :=
 scan_run.l2 F (fun s of n t16=>K (.exit 0) (encS (scan_run.h 2) ((s,of,n,t16,()),(),()))) n x.1.1 x.1.2.1 x.1.2.2.1
def scan_run.X (m:Int) (F:Nat):FX TI (G m) Sg:={hn:={DS:=fun d=>lk none d [(15,some scan_run.ds15)],na:=2},ld:=[⟨15,scan_run.d15 F⟩],N:=20,H:=scan_run.h,HL:=scan_run.hl,L:=mkL scan_run.hl [⟨2,fun x R K=>scan_run.L2 F R K F x⟩]}
theorem scan_run.a0 (m:Int) (F:Nat):(scan_run.X m F).lp (loopsOf (bd Go.Proofs.Tryd.f85)) 0:=FX.loop _ _ 0 2 F (by kernel_rfl) (scan_run.L2 F) (fun _ _ _=>by kernel_rfl) (fun _ _ _ _=>by kernel_rfl) (fun _ _ _=>by kernel_rfl)
theorem scan_run.ok (m:Int) (F:Nat):OK Go.Proofs.Tryd.prog (G m) 85 scan_run.sg (scan_run.sp F) :=
 func_x (scan_run.X m F) mixed tsOK trivial ⟨mkT_ok ⟨⟨86,by kernel_rfl,scan_inner.ok m F⟩,⟨84,by kernel_rfl,scan_letter.ok m F⟩,trivial⟩,trivial⟩ Go.Proofs.Tryd.func85 1 0 (by kernel_rfl) (at_cons (scan_run.a0 m F) at_nil) at_nil (fun _=>by kernel_rfl)
theorem strings_Contains.ok (m:Int) (F:Nat):OK Go.Proofs.Tryd.prog (G m) 91 strings_Contains.sg (strings_Contains.sp F):=strings_Contains.ok' F Go.Proofs.Tryd.func91 (by kernel_rfl) (g:=3) (by kernel_rfl) (fun s sub w h1 h2=>Go.Proofs.Tryd.strings_Contains s sub m w h1 h2)
def scan_Word.te:List (Nat×KS):=[(0,.c .str),(2,.c .bool)]
def scan_Word.h:Nat→Shape:=shN scan_Word.te [] [] [(0,1,0,0),(1,2,0,0)]
def scan_Word.X (m:Int) (F:Nat):FX TI (G m) Sg:={hn:={na:=1},lv:=[⟨85,scan_run.sp F⟩,⟨91,strings_Contains.sp F⟩],N:=18,H:=scan_Word.h}
theorem scan_Word.ok (m:Int) (F:Nat):OK Go.Proofs.Tryd.prog (G m) 87 scan_Word.sg (scan_Word.sp F) :=
 func_x (scan_Word.X m F) mixed tsOK ⟨scan_run.ok m F,strings_Contains.ok m F,trivial⟩ trivial Go.Proofs.Tryd.func87 0 0 (by kernel_rfl) at_nil at_nil (fun _=>by kernel_rfl)
def scan_Name.te:List (Nat×KS):=[(0,.c .str),(2,.c .bool)]
def scan_Name.h:Nat→Shape:=shN scan_Name.te [] [] [(0,1,0,0),(1,2,0,0)]
def scan_Name.X (m:Int) (F:Nat):FX TI (G m) Sg:={hn:={na:=1},lv:=[⟨84,scan_letter.sp F⟩,⟨85,scan_run.sp F⟩,⟨87,scan_Word.sp F⟩],N:=27,H:=scan_Name.h}
theorem scan_Name.ok (m:Int) (F:Nat):OK Go.Proofs.Tryd.prog (G m) 75 scan_Name.sg (scan_Name.sp F) :=
 func_x (scan_Name.X m F) mixed tsOK ⟨scan_letter.ok m F,scan_run.ok m F,scan_Word.ok m F,trivial⟩ trivial Go.Proofs.Tryd.func75 0 0 (by kernel_rfl) at_nil at_nil (fun _=>by kernel_rfl)
def tree_head_c1.te:List (Nat×KS):=[(1,.p tDim),(2,.loc 2),(3,.c .bool)]
def tree_head_c1.tb:List (Nat×KS):=[(2,.g tDim)]
def tree_head_c1.h:Nat→Shape:=shN tree_head_c1.te tree_head_c1.tb [] [(0,3,1,0),(1,4,0,0)]
def tree_head_c1.X (m:Int) (F:Nat):FX TI (G m) Sg:={hn:={na:=2},N:=9,H:=tree_head_c1.h}
theorem tree_head_c1.ok (m:Int) (F:Nat):OK Go.Proofs.Tryd.prog (G m) 76 tree_head_c1.sg (tree_head_c1.sp F) :=
 func_x (tree_head_c1.X m F) mixed tsOK trivial trivial Go.Proofs.Tryd.func76 0 0 (by kernel_rfl) at_nil at_nil (fun _=>by kernel_rfl)
def slices_IndexFunc_Dim.te:List (Nat×KS):=[(0,.b tDim),(1,.cl tDim),(4,.c (.int .i64)),(5,.c (.int .i64)),(7,.c (.int .i64)),(8,.c (.int .i64)),(9,.c .bool),(16,.c .bool)]
def slices_IndexFunc_Dim.h:Nat→Shape:=shN slices_IndexFunc_Dim.te [] [] [(0,3,0,0),(1,51,0,0),(2,115,0,0),(3,59,0,0),(4,187,0,0),(5,4,0,0),(6,51,0,0),(7,4,0,0)]
def slices_IndexFunc_Dim.hl:Nat→Shape:=shN slices_IndexFunc_Dim.te [] [] [(2,51,0,0)]
def slices_IndexFunc_Dim.L2 (F:Nat) (R:Type) (K:Ex→St→Option R) (n:Nat) (x:((List tDim.T)×(Nat×tDim.T)×Int×Int×Unit)×(Unit)×(Unit)):Option R :=
 slices_IndexFunc_Dim.l2 F (fun r4=>K .ret (encS (slices_IndexFunc_Dim.h 5) ((r4,()),(),()))) (fun s f t7 t8 t9=>K (.exit 0) (encS (slices_IndexFunc_Dim.h 2) ((s,f,t7,t8,t9,()),(),()))) n x.1.1 x.1.2.1 x.1.2.2.1 x.1.2.2.2.1
def slices_IndexFunc_Dim.X (m:Int) (F:Nat):FX TI (G m) Sg:={hn:={DS:=fun d=>lk none d [(16,some slices_IndexFunc_Dim.ds16)],na:=2},ld:=[⟨16,slices_IndexFunc_Dim.d16 F⟩],N:=19,H:=slices_IndexFunc_Dim.h,HL:=slices_IndexFunc_Dim.hl,L:=mkL slices_IndexFunc_Dim.hl [⟨2,fun x R K=>slices_IndexFunc_Dim.L2 F R K F x⟩]}
theorem slices_IndexFunc_Dim.a0 (m:Int) (F:Nat):(slices_IndexFunc_Dim.X m F).lp (loopsOf (bd Go.Proofs.Tryd.f88)) 0:=FX.loop _ _ 0 2 F (by kernel_rfl) (slices_IndexFunc_Dim.L2 F) (fun _ _ _=>by kernel_rfl) (fun _ _ _ _=>by kernel_rfl) (fun _ _ _=>by kernel_rfl)
theorem slices_IndexFunc_Dim.ok (m:Int) (F:Nat):OK Go.Proofs.Tryd.prog (G m) 88 slices_IndexFunc_Dim.sg (slices_IndexFunc_Dim.sp F) :=
 func_x (slices_IndexFunc_Dim.X m F) mixed tsOK trivial ⟨mkT_ok ⟨⟨76,by kernel_rfl,tree_head_c1.ok m F⟩,trivial⟩,trivial⟩ Go.Proofs.Tryd.func88 1 0 (by kernel_rfl) (at_cons (slices_IndexFunc_Dim.a0 m F) at_nil) at_nil (fun _=>by kernel_rfl)
def slices_ContainsFunc_Dim.te:List (Nat×KS):=[(0,.b tDim),(1,.cl tDim),(4,.c .bool)]
def slices_ContainsFunc_Dim.h:Nat→Shape:=shN slices_ContainsFunc_Dim.te [] [] [(0,3,0,0),(1,4,0,0)]
def slices_ContainsFunc_Dim.X (m:Int) (F:Nat):FX TI (G m) Sg:={hn:={na:=2},lv:=[⟨88,slices_IndexFunc_Dim.sp F⟩],N:=9,H:=slices_ContainsFunc_Dim.h}
theorem slices_ContainsFunc_Dim.ok (m:Int) (F:Nat):OK Go.Proofs.Tryd.prog (G m) 77 slices_ContainsFunc_Dim.sg (slices_ContainsFunc_Dim.sp F) :=
 func_x (slices_ContainsFunc_Dim.X m F) mixed tsOK ⟨slices_IndexFunc_Dim.ok m F,trivial⟩ trivial Go.Proofs.Tryd.func77 0 0 (by kernel_rfl) at_nil at_nil (fun _=>by kernel_rfl)
def tree_head.te:List (Nat×KS):=[(1,.loc 1),(2,.c (.int .i64)),(3,.c (.int .i64)),(4,.loc 4),(4,.p tDim),(5,.cl tDim),(9,.c .bool),(19,.c .bool),(21,.c (.sl tDim)),(22,.c (.int .i64)),(23,.c (.int .i64)),(24,.c .bool),(40,.c .bool),(48,.c .bool),(57,.c .bool)]
def tree_head.tb:List (Nat×KS):=[(1,.g tPlan),(4,.g tDim)]
def tree_head.h:Nat→Shape:=shN tree_head.te tree_head.tb [] [(0,1,1,0),(1,65,1,0),(2,2,0,0),(3,129,1,0),(4,2,0,0),(5,1793,1,0),(6,3841,1,0),(7,1805,3,0),(8,1845,1,0),(9,5905,1,0),(10,2,0,0),(11,9985,1,0),(12,2,0,0),(13,1793,1,0),(14,16384,0,0),(15,2,0,0),(16,2,0,0)]
def tree_head.hl:Nat→Shape:=shN tree_head.te tree_head.tb [] [(6,1793,1,0)]
def tree_head.L6 (F:Nat) (R:Type) (K:Ex→St→Option R) (n:Nat) (x:(Unit×(List tDim.T)×Int×Int×Unit)×(tPlan.T×Unit)×(Unit)):Option R :=
 tree_head.l6 F (fun r2=>K .ret (encS (tree_head.h 10) ((r2,()),(),()))) (fun r2=>K .ret (encS (tree_head.h 12) ((r2,()),(),()))) (fun t21 t22 t23 t24 p=>K (.exit 0) (encS (tree_head.h 6) (((),t21,t22,t23,t24,()),(p,()),()))) n x.1.2.1 x.1.2.2.1 x.1.2.2.2.1 x.2.1.1
def tree_head.X (m:Int) (F:Nat):FX TI (G m) Sg:={hn:={CT:=fun d=>lk .unit d [(28,tDim)],na:=1},lv:=[⟨75,scan_Name.sp F⟩,⟨77,slices_ContainsFunc_Dim.sp F⟩],N:=58,H:=tree_head.h,HL:=tree_head.hl,L:=mkL tree_head.hl [⟨6,fun x R K=>tree_head.L6 F R K F x⟩]}
theorem tree_head.a0 (m:Int) (F:Nat):(tree_head.X m F).lp (loopsOf (bd Go.Proofs.Tryd.f55)) 0:=FX.loop _ _ 0 6 F (by kernel_rfl) (tree_head.L6 F) (fun _ _ _=>by kernel_rfl) (fun _ _ _ _=>by kernel_rfl) (fun _ _ _=>by kernel_rfl)
theorem tree_head.ok (m:Int) (F:Nat):OK Go.Proofs.Tryd.prog (G m) 55 tree_head.sg (tree_head.sp F) :=
 func_x (tree_head.X m F) mixed tsOK ⟨scan_Name.ok m F,slices_ContainsFunc_Dim.ok m F,trivial⟩ trivial Go.Proofs.Tryd.func55 1 0 (by kernel_rfl) (at_cons (tree_head.a0 m F) at_nil) at_nil (fun _=>by kernel_rfl)
def tree_takes.te:List (Nat×KS):=[(1,.loc 1),(2,.c (.int .i64)),(3,.c (.int .i64)),(10,.c .bool)]
def tree_takes.tb:List (Nat×KS):=[(1,.g tNode)]
def tree_takes.h:Nat→Shape:=shN tree_takes.te tree_takes.tb [] [(0,1,1,0),(1,5,1,0),(2,13,1,0),(3,2,0,0),(4,2,0,0)]
def tree_takes.X (m:Int) (F:Nat):FX TI (G m) Sg:={hn:={na:=1},N:=14,H:=tree_takes.h}
theorem tree_takes.ok (m:Int) (F:Nat):OK Go.Proofs.Tryd.prog (G m) 39 tree_takes.sg (tree_takes.sp F) :=
 func_x (tree_takes.X m F) mixed tsOK trivial trivial Go.Proofs.Tryd.func39 0 0 (by kernel_rfl) at_nil at_nil (fun _=>by kernel_rfl)
def tree_rising.te:List (Nat×KS):=[(0,.b tTier),(2,.c .bool),(3,.c (.int .i64)),(4,.loc 4),(19,.c .bool),(20,.b tTier),(21,.c (.int .i64)),(22,.c (.int .i64)),(23,.c .bool),(54,.c .bool)]
def tree_rising.tb:List (Nat×KS):=[(4,.g tTier)]
def tree_rising.h:Nat→Shape:=shN tree_rising.te tree_rising.tb [] [(0,1,0,0),(1,17,0,0),(2,2,0,0),(3,225,0,0),(4,481,0,0),(5,237,1,0),(6,737,0,0),(7,2,0,0),(8,225,0,0),(9,2,0,0)]
def tree_rising.hl:Nat→Shape:=shN tree_rising.te tree_rising.tb [] [(4,225,0,0)]
def tree_rising.L4 (F:Nat) (R:Type) (K:Ex→St→Option R) (n:Nat) (x:((List tTier.T)×(List tTier.T)×Int×Int×Unit)×(Unit)×(Unit)):Option R :=
 tree_rising.l4 F (fun r2=>K .ret (encS (tree_rising.h 7) ((r2,()),(),()))) (fun tiers t20 t21 t22 t23=>K (.exit 0) (encS (tree_rising.h 4) ((tiers,t20,t21,t22,t23,()),(),()))) n x.1.1 x.1.2.1 x.1.2.2.1 x.1.2.2.2.1
def tree_rising.X (m:Int) (F:Nat):FX TI (G m) Sg:={hn:={na:=1},N:=56,H:=tree_rising.h,HL:=tree_rising.hl,L:=mkL tree_rising.hl [⟨4,fun x R K=>tree_rising.L4 F R K F x⟩]}
theorem tree_rising.a0 (m:Int) (F:Nat):(tree_rising.X m F).lp (loopsOf (bd Go.Proofs.Tryd.f78)) 0:=FX.loop _ _ 0 4 F (by kernel_rfl) (tree_rising.L4 F) (fun _ _ _=>by kernel_rfl) (fun _ _ _ _=>by kernel_rfl) (fun _ _ _=>by kernel_rfl)
theorem tree_rising.ok (m:Int) (F:Nat):OK Go.Proofs.Tryd.prog (G m) 78 tree_rising.sg (tree_rising.sp F) :=
 func_x (tree_rising.X m F) mixed tsOK trivial trivial Go.Proofs.Tryd.func78 1 0 (by kernel_rfl) (at_cons (tree_rising.a0 m F) at_nil) at_nil (fun _=>by kernel_rfl)
def tree_node.te:List (Nat×KS):=[(1,.c (.int .i64)),(2,.c (.int .i64)),(3,.loc 3),(6,.c (.int .i64)),(7,.loc 7),(8,.c (.int .i64)),(9,.c .bool),(10,.c .bool),(18,.c .bool),(26,.c .bool),(34,.c .bool),(47,.c .bool),(89,.c .bool),(97,.c .bool)]
def tree_node.tb:List (Nat×KS):=[(3,.g tNode),(7,.g tTree_asks)]
def tree_node.h:Nat→Shape:=shN tree_node.te tree_node.tb [] [(0,7,1,0),(1,263,1,0),(2,8,0,0),(3,23,3,0),(4,55,3,0),(5,567,3,0),(6,54,3,0),(7,118,3,0),(8,1142,3,0),(9,118,3,0),(10,246,3,0),(11,2294,3,0),(12,246,3,0),(13,4116,3,0),(14,8,0,0),(15,8192,0,0),(16,8,0,0),(17,8,0,0)]
def tree_node.hj:Nat→Option Shape:=shO tree_node.te tree_node.tb [] [(7,54,3,0),(10,118,3,0),(13,246,3,0)]
def tree_node.J13 (F:Nat) (R:Type) (K:Ex→St→Option R) (x:(Int×Unit×Unit×Int×Bool×Bool×Unit)×(tNode.T×tTree_asks.T×Unit)×(Unit)):Option R :=
 tree_node.j13 F (fun r6=>K .ret (encS (tree_node.h 14) ((r6,()),(),()))) (fun r6=>K .ret (encS (tree_node.h 16) ((r6,()),(),()))) (fun r6=>K .ret (encS (tree_node.h 17) ((r6,()),(),()))) x.1.1 x.1.2.2.2.1 x.1.2.2.2.2.1 x.1.2.2.2.2.2.1 x.2.1.1 x.2.1.2.1
def tree_node.J10 (F:Nat) (R:Type) (K:Ex→St→Option R) (x:(Int×Unit×Unit×Int×Bool×Unit)×(tNode.T×tTree_asks.T×Unit)×(Unit)):Option R :=
 tree_node.j10 F (fun r6=>K .ret (encS (tree_node.h 14) ((r6,()),(),()))) (fun r6=>K .ret (encS (tree_node.h 16) ((r6,()),(),()))) (fun r6=>K .ret (encS (tree_node.h 17) ((r6,()),(),()))) x.1.1 x.1.2.2.2.1 x.1.2.2.2.2.1 x.2.1.1 x.2.1.2.1
def tree_node.J7 (F:Nat) (R:Type) (K:Ex→St→Option R) (x:(Int×Unit×Unit×Int×Unit)×(tNode.T×tTree_asks.T×Unit)×(Unit)):Option R :=
 tree_node.j7 F (fun r6=>K .ret (encS (tree_node.h 14) ((r6,()),(),()))) (fun r6=>K .ret (encS (tree_node.h 16) ((r6,()),(),()))) (fun r6=>K .ret (encS (tree_node.h 17) ((r6,()),(),()))) x.1.1 x.1.2.2.2.1 x.2.1.1 x.2.1.2.1
def tree_node.X (m:Int) (F:Nat):FX TI (G m) Sg:={hn:={na:=3},lv:=[⟨39,tree_takes.sp F⟩,⟨78,tree_rising.sp F⟩],N:=98,H:=tree_node.h,HJ:=tree_node.hj,J:=mkJ tree_node.hj [⟨13,fun x R K=>tree_node.J13 F R K x⟩,⟨10,fun x R K=>tree_node.J10 F R K x⟩,⟨7,fun x R K=>tree_node.J7 F R K x⟩]}
theorem tree_node.c0 (m:Int) (F:Nat):(tree_node.X m F).ct (cutsOf (tree_node.X m F).HJ (bd Go.Proofs.Tryd.f56)) 0:=FX.cut _ _ 0 7 (by kernel_rfl) (fun _ _ _=>by kernel_rfl)
theorem tree_node.c1 (m:Int) (F:Nat):(tree_node.X m F).ct (cutsOf (tree_node.X m F).HJ (bd Go.Proofs.Tryd.f56)) 1:=FX.cut _ _ 1 10 (by kernel_rfl) (fun _ _ _=>by kernel_rfl)
theorem tree_node.c2 (m:Int) (F:Nat):(tree_node.X m F).ct (cutsOf (tree_node.X m F).HJ (bd Go.Proofs.Tryd.f56)) 2:=FX.cut _ _ 2 13 (by kernel_rfl) (fun _ _ _=>by kernel_rfl)
theorem tree_node.ok (m:Int) (F:Nat):OK Go.Proofs.Tryd.prog (G m) 56 tree_node.sg (tree_node.sp F) :=
 func_x (tree_node.X m F) mixed tsOK ⟨tree_takes.ok m F,tree_rising.ok m F,trivial⟩ trivial Go.Proofs.Tryd.func56 0 3 (by kernel_rfl) at_nil (at_cons (tree_node.c2 m F) (at_cons (tree_node.c1 m F) (at_cons (tree_node.c0 m F) at_nil))) (fun _=>by kernel_rfl)
def tree_Check.te:List (Nat×KS):=[(1,.loc 1),(2,.c (.int .i64)),(3,.c (.int .i64)),(4,.c (.int .i64)),(5,.c (.int .i64)),(6,.c (.int .i64)),(7,.loc 7),(8,.c (.int .i64)),(12,.c .bool),(17,.c .bool),(19,.c (.sl tNode)),(20,.c (.int .i64)),(21,.c (.int .i64)),(22,.c .bool),(33,.c .bool),(43,.c .bool)]
def tree_Check.tb:List (Nat×KS):=[(1,.g tPlan),(7,.g tNode)]
def tree_Check.h:Nat→Shape:=shN tree_Check.te tree_Check.tb [] [(0,1,1,0),(1,9,1,0),(2,265,1,0),(3,6,0,0),(4,513,1,0),(5,6,0,0),(6,17,1,0),(7,7185,1,0),(8,15377,1,0),(9,7281,3,0),(10,7409,3,0),(11,23793,3,0),(12,6,0,0),(13,7185,1,0),(14,7185,1,0),(15,32769,1,0),(16,6,0,0),(17,6,0,0)]
def tree_Check.hl:Nat→Shape:=shN tree_Check.te tree_Check.tb [] [(8,7185,1,0)]
def tree_Check.L8 (F:Nat) (R:Type) (K:Ex→St→Option R) (n:Nat) (x:(Unit×Int×(List tNode.T)×Int×Int×Unit)×(tPlan.T×Unit)×(Unit)):Option R :=
 tree_Check.l8 F (fun r2 r3=>K .ret (encS (tree_Check.h 12) ((r2,r3,()),(),()))) (fun pile t19 t20 t21 t22 p=>K (.exit 0) (encS (tree_Check.h 8) (((),pile,t19,t20,t21,t22,()),(p,()),()))) n x.1.2.1 x.1.2.2.1 x.1.2.2.2.1 x.1.2.2.2.2.1 x.2.1.1
def tree_Check.X (m:Int) (F:Nat):FX TI (G m) Sg:={hn:={na:=1},lv:=[⟨55,tree_head.sp F⟩,⟨56,tree_node.sp F⟩,⟨39,tree_takes.sp F⟩],N:=47,H:=tree_Check.h,HL:=tree_Check.hl,L:=mkL tree_Check.hl [⟨8,fun x R K=>tree_Check.L8 F R K F x⟩]}
theorem tree_Check.a0 (m:Int) (F:Nat):(tree_Check.X m F).lp (loopsOf (bd Go.Proofs.Tryd.f36)) 0:=FX.loop _ _ 0 8 F (by kernel_rfl) (tree_Check.L8 F) (fun _ _ _=>by kernel_rfl) (fun _ _ _ _=>by kernel_rfl) (fun _ _ _=>by kernel_rfl)
theorem tree_Check.ok (m:Int) (F:Nat):OK Go.Proofs.Tryd.prog (G m) 36 tree_Check.sg (tree_Check.sp F) :=
 func_x (tree_Check.X m F) mixed tsOK ⟨tree_head.ok m F,tree_node.ok m F,tree_takes.ok m F,trivial⟩ trivial Go.Proofs.Tryd.func36 1 0 (by kernel_rfl) (at_cons (tree_Check.a0 m F) at_nil) at_nil (fun _=>by kernel_rfl)
def tree_firsts.te:List (Nat×KS):=[(1,.loc 1),(2,.c (.sl (.int .i64))),(3,.c (.sl (.int .i64))),(3,.ow 3),(4,.ow 4),(5,.c (.int .i64)),(6,.loc 6),(7,.c (.int .i64)),(8,.c (.int .i64)),(10,.c (.sl tNode)),(11,.c (.int .i64)),(12,.c (.int .i64)),(13,.c .bool),(21,.c .bool)]
def tree_firsts.tb:List (Nat×KS):=[(1,.g tPlan),(6,.g tNode)]
def tree_firsts.tp:List OwnE:=[⟨3,.env 3,(.int .i64)⟩,⟨4,.env 4,(.int .i64)⟩]
def tree_firsts.h:Nat→Shape:=shN tree_firsts.te tree_firsts.tb tree_firsts.tp [(0,1,1,0),(1,25,1,3),(2,3608,0,3),(3,7704,0,3),(4,3704,2,3),(5,3800,2,3),(6,3992,0,3),(7,12184,0,3),(8,3992,0,3),(9,3736,0,3),(10,3736,0,3),(11,3608,0,3),(12,3608,0,3),(13,2,0,0)]
def tree_firsts.hl:Nat→Shape:=shN tree_firsts.te tree_firsts.tb tree_firsts.tp [(3,3608,0,3)]
def tree_firsts.hj:Nat→Option Shape:=shO tree_firsts.te tree_firsts.tb tree_firsts.tp [(13,4,0,0)]
def tree_firsts.L3 (F:Nat) (R:Type) (K:Ex→St→Option R) (n:Nat) (x:(Unit×Unit×(List tNode.T)×Int×Int×Unit)×(Unit)×((List Int)×(List Int)×Unit)):Option R :=
 tree_firsts.l3 F (fun t10 t11 t12 t13 list pile=>K (.exit 0) (encS (tree_firsts.h 3) (((),(),t10,t11,t12,t13,()),(),(list,pile,())))) n x.1.2.2.1 x.1.2.2.2.1 x.1.2.2.2.2.1 x.2.2.1 x.2.2.2.1
def tree_firsts.J13 (F:Nat) (R:Type) (K:Ex→St→Option R) (x:((List Int)×Unit)×(Unit)×(Unit)):Option R :=
 tree_firsts.j13 F (fun r2=>K .ret (encS (tree_firsts.h 13) ((r2,()),(),()))) x.1.1
def tree_firsts.X (m:Int) (F:Nat):FX TI (G m) Sg:={hn:={MU:=fun s=>lk false s [(38,true),(42,true)],na:=1,fzJ:=fun r=>lk [] r [(13,[3])]},lv:=[⟨39,tree_takes.sp F⟩],N:=45,H:=tree_firsts.h,HL:=tree_firsts.hl,HJ:=tree_firsts.hj,L:=mkL tree_firsts.hl [⟨3,fun x R K=>tree_firsts.L3 F R K F x⟩],J:=mkJ tree_firsts.hj [⟨13,fun x R K=>tree_firsts.J13 F R K x⟩]}
theorem tree_firsts.a0 (m:Int) (F:Nat):(tree_firsts.X m F).lp (loopsOf (bd Go.Proofs.Tryd.f79)) 0:=FX.loop _ _ 0 3 F (by kernel_rfl) (tree_firsts.L3 F) (fun _ _ _=>by kernel_rfl) (fun _ _ _ _=>by kernel_rfl) (fun _ _ _=>by kernel_rfl)
theorem tree_firsts.c0 (m:Int) (F:Nat):(tree_firsts.X m F).ct (cutsOf (tree_firsts.X m F).HJ (bd Go.Proofs.Tryd.f79)) 0:=FX.cut _ _ 0 13 (by kernel_rfl) (fun _ _ _=>by kernel_rfl)
theorem tree_firsts.ok (m:Int) (F:Nat):OK Go.Proofs.Tryd.prog (G m) 79 tree_firsts.sg (tree_firsts.sp F) :=
 func_x (tree_firsts.X m F) mixed tsOK ⟨tree_takes.ok m F,trivial⟩ trivial Go.Proofs.Tryd.func79 1 1 (by kernel_rfl) (at_cons (tree_firsts.a0 m F) at_nil) (at_cons (tree_firsts.c0 m F) at_nil) (fun _=>by kernel_rfl)
def tree_Firsts.te:List (Nat×KS):=[(1,.loc 1),(2,.c (.sl (.int .i64))),(3,.c (.int .i64)),(5,.c (.int .i64)),(12,.c .bool)]
def tree_Firsts.tb:List (Nat×KS):=[(1,.g tPlan)]
def tree_Firsts.h:Nat→Shape:=shN tree_Firsts.te tree_Firsts.tb [] [(0,1,1,0),(1,9,1,0),(2,25,1,0),(3,6,0,0),(4,6,0,0)]
def tree_Firsts.X (m:Int) (F:Nat):FX TI (G m) Sg:={hn:={na:=1},lv:=[⟨36,tree_Check.sp F⟩,⟨79,tree_firsts.sp F⟩],N:=16,H:=tree_Firsts.h}
theorem tree_Firsts.ok (m:Int) (F:Nat):OK Go.Proofs.Tryd.prog (G m) 57 tree_Firsts.sg (tree_Firsts.sp F) :=
 func_x (tree_Firsts.X m F) mixed tsOK ⟨tree_Check.ok m F,tree_firsts.ok m F,trivial⟩ trivial Go.Proofs.Tryd.func57 0 0 (by kernel_rfl) at_nil at_nil (fun _=>by kernel_rfl)
def tree_Constant.te:List (Nat×KS):=[(1,.loc 1),(2,.c (.sl .bool)),(3,.c (.int .i64)),(4,.c (.sl (.int .i64))),(5,.c (.int .i64)),(6,.c (.int .i64)),(7,.c (.sl .bool)),(7,.ow 7),(8,.c (.int .i64)),(9,.loc 9),(16,.c .bool),(22,.c (.sl tNode)),(23,.c (.int .i64)),(24,.c (.int .i64)),(25,.c .bool),(36,.c .bool)]
def tree_Constant.tb:List (Nat×KS):=[(1,.g tPlan),(9,.g tNode)]
def tree_Constant.tp:List OwnE:=[⟨7,.env 7,.bool⟩]
def tree_Constant.h:Nat→Shape:=shN tree_Constant.te tree_Constant.tb tree_Constant.tp [(0,1,1,0),(1,25,1,0),(2,1049,1,0),(3,6,0,0),(4,41,1,0),(5,169,1,1),(6,14504,0,1),(7,30888,0,1),(8,15272,2,1),(9,47528,0,1),(10,14760,0,1),(11,14504,0,1),(12,14504,0,1),(13,6,0,0)]
def tree_Constant.hl:Nat→Shape:=shN tree_Constant.te tree_Constant.tb tree_Constant.tp [(7,14504,0,1)]
def tree_Constant.hj:Nat→Option Shape:=shO tree_Constant.te tree_Constant.tb tree_Constant.tp [(13,64,0,0)]
def tree_Constant.L7 (F:Nat) (R:Type) (K:Ex→St→Option R) (n:Nat) (x:((List Int)×Int×Unit×(List tNode.T)×Int×Int×Unit)×(Unit)×((List Bool)×Unit)):Option R :=
 tree_Constant.l7 F (fun list last t22 t23 t24 t25 out=>K (.exit 0) (encS (tree_Constant.h 7) ((list,last,(),t22,t23,t24,t25,()),(),(out,())))) n x.1.1 x.1.2.1 x.1.2.2.2.1 x.1.2.2.2.2.1 x.1.2.2.2.2.2.1 x.2.2.1
def tree_Constant.J13 (F:Nat) (R:Type) (K:Ex→St→Option R) (x:((List Bool)×Unit)×(Unit)×(Unit)):Option R :=
 tree_Constant.j13 F (fun r2 r3=>K .ret (encS (tree_Constant.h 13) ((r2,r3,()),(),()))) x.1.1
def tree_Constant.X (m:Int) (F:Nat):FX TI (G m) Sg:={hn:={MU:=fun s=>lk false s [(20,true)],na:=1,fzJ:=fun r=>lk [] r [(13,[7])]},lv:=[⟨57,tree_Firsts.sp F⟩],N:=49,H:=tree_Constant.h,HL:=tree_Constant.hl,HJ:=tree_Constant.hj,L:=mkL tree_Constant.hl [⟨7,fun x R K=>tree_Constant.L7 F R K F x⟩],J:=mkJ tree_Constant.hj [⟨13,fun x R K=>tree_Constant.J13 F R K x⟩]}
theorem tree_Constant.a0 (m:Int) (F:Nat):(tree_Constant.X m F).lp (loopsOf (bd Go.Proofs.Tryd.f37)) 0:=FX.loop _ _ 0 7 F (by kernel_rfl) (tree_Constant.L7 F) (fun _ _ _=>by kernel_rfl) (fun _ _ _ _=>by kernel_rfl) (fun _ _ _=>by kernel_rfl)
theorem tree_Constant.c0 (m:Int) (F:Nat):(tree_Constant.X m F).ct (cutsOf (tree_Constant.X m F).HJ (bd Go.Proofs.Tryd.f37)) 0:=FX.cut _ _ 0 13 (by kernel_rfl) (fun _ _ _=>by kernel_rfl)
theorem tree_Constant.ok (m:Int) (F:Nat):OK Go.Proofs.Tryd.prog (G m) 37 tree_Constant.sg (tree_Constant.sp F) :=
 func_x (tree_Constant.X m F) mixed tsOK ⟨tree_Firsts.ok m F,trivial⟩ trivial Go.Proofs.Tryd.func37 1 1 (by kernel_rfl) (at_cons (tree_Constant.a0 m F) at_nil) (at_cons (tree_Constant.c0 m F) at_nil) (fun _=>by kernel_rfl)
def units_rules.te:List (Nat×KS):=[(0,.c (.int .i64)),(2,.c .fn),(3,.c (.int .i64)),(4,.c (.sl (.pair .fn (.int .i64))))]
def units_rules.h:Nat→Shape:=shN units_rules.te [] [] [(0,1,0,0),(1,9,0,0),(2,6,0,0)]
def units_rules.X (m:Int) (F:Nat):FX TI (G m) Sg:={hn:={na:=1},N:=32,H:=units_rules.h}
theorem units_rules.ok (m:Int) (F:Nat):OK Go.Proofs.Tryd.prog (G m) 38 units_rules.sg (units_rules.sp F) :=
 func_x (units_rules.X m F) mixed tsOK trivial trivial Go.Proofs.Tryd.func38 0 0 (by kernel_rfl) at_nil at_nil (fun _=>by kernel_rfl)
def units_node_one.te:List (Nat×KS):=[(1,.c (.int .i64)),(2,.loc 2),(4,.c (.int .i64)),(6,.c (.int .i64)),(10,.b (.int .i64)),(11,.c (.int .i64)),(12,.c (.int .i64)),(13,.c .bool),(22,.c .bool)]
def units_node_one.tb:List (Nat×KS):=[(2,.g tUnits_node)]
def units_node_one.h:Nat→Shape:=shN units_node_one.te units_node_one.tb [] [(0,3,1,0),(1,115,1,0),(2,243,1,0),(3,123,1,0),(4,371,1,0),(5,4,0,0),(6,115,1,0),(7,4,0,0)]
def units_node_one.hl:Nat→Shape:=shN units_node_one.te units_node_one.tb [] [(2,115,1,0)]
def units_node_one.L2 (F:Nat) (R:Type) (K:Ex→St→Option R) (n:Nat) (x:(Int×Unit×(List Int)×Int×Int×Unit)×(tUnits_node.T×Unit)×(Unit)):Option R :=
 units_node_one.l2 F (fun r4=>K .ret (encS (units_node_one.h 5) ((r4,()),(),()))) (fun from_ t10 t11 t12 t13 n=>K (.exit 0) (encS (units_node_one.h 2) ((from_,(),t10,t11,t12,t13,()),(n,()),()))) n x.1.1 x.1.2.2.1 x.1.2.2.2.1 x.1.2.2.2.2.1 x.2.1.1
def units_node_one.X (m:Int) (F:Nat):FX TI (G m) Sg:={hn:={na:=2},N:=29,H:=units_node_one.h,HL:=units_node_one.hl,L:=mkL units_node_one.hl [⟨2,fun x R K=>units_node_one.L2 F R K F x⟩]}
theorem units_node_one.a0 (m:Int) (F:Nat):(units_node_one.X m F).lp (loopsOf (bd Go.Proofs.Tryd.f80)) 0:=FX.loop _ _ 0 2 F (by kernel_rfl) (units_node_one.L2 F) (fun _ _ _=>by kernel_rfl) (fun _ _ _ _=>by kernel_rfl) (fun _ _ _=>by kernel_rfl)
theorem units_node_one.ok (m:Int) (F:Nat):OK Go.Proofs.Tryd.prog (G m) 80 units_node_one.sg (units_node_one.sp F) :=
 func_x (units_node_one.X m F) mixed tsOK trivial trivial Go.Proofs.Tryd.func80 1 0 (by kernel_rfl) (at_cons (units_node_one.a0 m F) at_nil) at_nil (fun _=>by kernel_rfl)
def units_node_alike.te:List (Nat×KS):=[(1,.loc 1),(2,.c (.int .i64))]
def units_node_alike.tb:List (Nat×KS):=[(1,.g tUnits_node)]
def units_node_alike.h:Nat→Shape:=shN units_node_alike.te units_node_alike.tb [] [(0,1,1,0),(1,2,0,0)]
def units_node_alike.X (m:Int) (F:Nat):FX TI (G m) Sg:={hn:={na:=1},lv:=[⟨80,units_node_one.sp F⟩],N:=5,H:=units_node_alike.h}
theorem units_node_alike.ok (m:Int) (F:Nat):OK Go.Proofs.Tryd.prog (G m) 62 units_node_alike.sg (units_node_alike.sp F) :=
 func_x (units_node_alike.X m F) mixed tsOK ⟨units_node_one.ok m F,trivial⟩ trivial Go.Proofs.Tryd.func62 0 0 (by kernel_rfl) at_nil at_nil (fun _=>by kernel_rfl)
def units_node_blocks.te:List (Nat×KS):=[(1,.loc 1),(2,.c (.int .i64))]
def units_node_blocks.tb:List (Nat×KS):=[(1,.g tUnits_node)]
def units_node_blocks.h:Nat→Shape:=shN units_node_blocks.te units_node_blocks.tb [] [(0,1,1,0),(1,2,0,0)]
def units_node_blocks.X (m:Int) (F:Nat):FX TI (G m) Sg:={hn:={na:=1},N:=8,H:=units_node_blocks.h}
theorem units_node_blocks.ok (m:Int) (F:Nat):OK Go.Proofs.Tryd.prog (G m) 61 units_node_blocks.sg (units_node_blocks.sp F) :=
 func_x (units_node_blocks.X m F) mixed tsOK trivial trivial Go.Proofs.Tryd.func61 0 0 (by kernel_rfl) at_nil at_nil (fun _=>by kernel_rfl)
def units_count.te:List (Nat×KS):=[(0,.c (.int .i64)),(2,.c .bool)]
def units_count.h:Nat→Shape:=shN units_count.te [] [] [(0,1,0,0),(1,2,0,0)]
def units_count.X (m:Int) (F:Nat):FX TI (G m) Sg:={hn:={na:=1},N:=5,H:=units_count.h}
theorem units_count.ok (m:Int) (F:Nat):OK Go.Proofs.Tryd.prog (G m) 81 units_count.sg (units_count.sp F) :=
 func_x (units_count.X m F) mixed tsOK trivial trivial Go.Proofs.Tryd.func81 0 0 (by kernel_rfl) at_nil at_nil (fun _=>by kernel_rfl)
def units_node_counted.te:List (Nat×KS):=[(1,.loc 1),(2,.c (.int .i64)),(7,.c .bool)]
def units_node_counted.tb:List (Nat×KS):=[(1,.g tUnits_node)]
def units_node_counted.h:Nat→Shape:=shN units_node_counted.te units_node_counted.tb [] [(0,1,1,0),(1,5,1,0),(2,2,0,0),(3,2,0,0)]
def units_node_counted.X (m:Int) (F:Nat):FX TI (G m) Sg:={hn:={na:=1},lv:=[⟨81,units_count.sp F⟩],N:=12,H:=units_node_counted.h}
theorem units_node_counted.ok (m:Int) (F:Nat):OK Go.Proofs.Tryd.prog (G m) 64 units_node_counted.sg (units_node_counted.sp F) :=
 func_x (units_node_counted.X m F) mixed tsOK ⟨units_count.ok m F,trivial⟩ trivial Go.Proofs.Tryd.func64 0 0 (by kernel_rfl) at_nil at_nil (fun _=>by kernel_rfl)
def units_node_money.te:List (Nat×KS):=[(2,.c (.int .i64))]
def units_node_money.h:Nat→Shape:=shN units_node_money.te [] [] [(1,1,0,0)]
def units_node_money.X (m:Int) (F:Nat):FX TI (G m) Sg:={hn:={na:=1},N:=3,H:=units_node_money.h}
theorem units_node_money.ok (m:Int) (F:Nat):OK Go.Proofs.Tryd.prog (G m) 59 units_node_money.sg (units_node_money.sp F) :=
 func_x (units_node_money.X m F) mixed tsOK trivial trivial Go.Proofs.Tryd.func59 0 0 (by kernel_rfl) at_nil at_nil (fun _=>by kernel_rfl)
def units_node_number.te:List (Nat×KS):=[(2,.c (.int .i64))]
def units_node_number.h:Nat→Shape:=shN units_node_number.te [] [] [(1,1,0,0)]
def units_node_number.X (m:Int) (F:Nat):FX TI (G m) Sg:={hn:={na:=1},N:=3,H:=units_node_number.h}
theorem units_node_number.ok (m:Int) (F:Nat):OK Go.Proofs.Tryd.prog (G m) 58 units_node_number.sg (units_node_number.sp F) :=
 func_x (units_node_number.X m F) mixed tsOK trivial trivial Go.Proofs.Tryd.func58 0 0 (by kernel_rfl) at_nil at_nil (fun _=>by kernel_rfl)
def units_node_off.te:List (Nat×KS):=[(1,.loc 1),(2,.c (.int .i64)),(7,.c .bool)]
def units_node_off.tb:List (Nat×KS):=[(1,.g tUnits_node)]
def units_node_off.h:Nat→Shape:=shN units_node_off.te units_node_off.tb [] [(0,1,1,0),(1,4,0,0),(2,2,0,0),(3,2,0,0)]
def units_node_off.X (m:Int) (F:Nat):FX TI (G m) Sg:={hn:={na:=1},N:=8,H:=units_node_off.h}
theorem units_node_off.ok (m:Int) (F:Nat):OK Go.Proofs.Tryd.prog (G m) 66 units_node_off.sg (units_node_off.sp F) :=
 func_x (units_node_off.X m F) mixed tsOK trivial trivial Go.Proofs.Tryd.func66 0 0 (by kernel_rfl) at_nil at_nil (fun _=>by kernel_rfl)
def units_node_priced.te:List (Nat×KS):=[(1,.loc 1),(2,.c (.int .i64)),(7,.c .bool)]
def units_node_priced.tb:List (Nat×KS):=[(1,.g tUnits_node)]
def units_node_priced.h:Nat→Shape:=shN units_node_priced.te units_node_priced.tb [] [(0,1,1,0),(1,4,0,0),(2,2,0,0),(3,2,0,0)]
def units_node_priced.X (m:Int) (F:Nat):FX TI (G m) Sg:={hn:={na:=1},lv:=[⟨81,units_count.sp F⟩],N:=8,H:=units_node_priced.h}
theorem units_node_priced.ok (m:Int) (F:Nat):OK Go.Proofs.Tryd.prog (G m) 65 units_node_priced.sg (units_node_priced.sp F) :=
 func_x (units_node_priced.X m F) mixed tsOK ⟨units_count.ok m F,trivial⟩ trivial Go.Proofs.Tryd.func65 0 0 (by kernel_rfl) at_nil at_nil (fun _=>by kernel_rfl)
def units_node_product.te:List (Nat×KS):=[(1,.loc 1),(2,.c (.int .i64)),(3,.c (.int .i64)),(4,.c (.int .i64)),(13,.c .bool),(17,.c .bool),(21,.c .bool)]
def units_node_product.tb:List (Nat×KS):=[(1,.g tUnits_node)]
def units_node_product.h:Nat→Shape:=shN units_node_product.te units_node_product.tb [] [(0,1,1,0),(1,12,0,0),(2,28,0,0),(3,2,0,0),(4,44,0,0),(5,2,0,0),(6,76,0,0),(7,64,0,0),(8,2,0,0),(9,2,0,0)]
def units_node_product.X (m:Int) (F:Nat):FX TI (G m) Sg:={hn:={na:=1},lv:=[⟨81,units_count.sp F⟩],N:=34,H:=units_node_product.h}
theorem units_node_product.ok (m:Int) (F:Nat):OK Go.Proofs.Tryd.prog (G m) 63 units_node_product.sg (units_node_product.sp F) :=
 func_x (units_node_product.X m F) mixed tsOK ⟨units_count.ok m F,trivial⟩ trivial Go.Proofs.Tryd.func63 0 0 (by kernel_rfl) at_nil at_nil (fun _=>by kernel_rfl)
def units_node_quantity.te:List (Nat×KS):=[(1,.loc 1),(2,.c (.int .i64))]
def units_node_quantity.tb:List (Nat×KS):=[(1,.g tUnits_node)]
def units_node_quantity.h:Nat→Shape:=shN units_node_quantity.te units_node_quantity.tb [] [(0,1,1,0),(1,2,0,0)]
def units_node_quantity.X (m:Int) (F:Nat):FX TI (G m) Sg:={hn:={na:=1},N:=8,H:=units_node_quantity.h}
theorem units_node_quantity.ok (m:Int) (F:Nat):OK Go.Proofs.Tryd.prog (G m) 60 units_node_quantity.sg (units_node_quantity.sp F) :=
 func_x (units_node_quantity.X m F) mixed tsOK trivial trivial Go.Proofs.Tryd.func60 0 0 (by kernel_rfl) at_nil at_nil (fun _=>by kernel_rfl)
def units_node_test.te:List (Nat×KS):=[(1,.loc 1),(2,.c (.int .i64)),(7,.c .bool)]
def units_node_test.tb:List (Nat×KS):=[(1,.g tUnits_node)]
def units_node_test.h:Nat→Shape:=shN units_node_test.te units_node_test.tb [] [(0,1,1,0),(1,5,1,0),(2,2,0,0),(3,2,0,0)]
def units_node_test.X (m:Int) (F:Nat):FX TI (G m) Sg:={hn:={na:=1},lv:=[⟨81,units_count.sp F⟩,⟨80,units_node_one.sp F⟩],N:=10,H:=units_node_test.h}
theorem units_node_test.ok (m:Int) (F:Nat):OK Go.Proofs.Tryd.prog (G m) 67 units_node_test.sg (units_node_test.sp F) :=
 func_x (units_node_test.X m F) mixed tsOK ⟨units_count.ok m F,units_node_one.ok m F,trivial⟩ trivial Go.Proofs.Tryd.func67 0 0 (by kernel_rfl) at_nil at_nil (fun _=>by kernel_rfl)
def units_Types.te:List (Nat×KS):=[(1,.loc 1),(2,.c (.sl (.int .i64))),(3,.c (.int .i64)),(4,.c (.int .i64)),(5,.c (.int .i64)),(6,.c (.int .i64)),(7,.c (.sl .bool)),(9,.c (.sl (.int .i64))),(9,.ow 9),(10,.c (.sl (.int .i64))),(10,.ow 10),(11,.ow 11),(12,.c (.int .i64)),(13,.loc 13),(14,.c .fn),(15,.c (.int .i64)),(16,.c (.int .i64)),(17,.c (.int .i64)),(24,.c .bool),(33,.c (.sl tNode)),(34,.c (.int .i64)),(35,.c (.int .i64)),(36,.c .bool),(47,.c .bool),(65,.c .bool),(84,.c .bool),(109,.c .bool)]
def units_Types.tb:List (Nat×KS):=[(1,.g tPlan),(13,.g tNode)]
def units_Types.tp:List OwnE:=[⟨9,.env 9,(.int .i64)⟩,⟨10,.env 10,(.int .i64)⟩,⟨11,.env 11,.bool⟩]
def units_Types.h:Nat→Shape:=shN units_Types.te units_Types.tb units_Types.tp [(0,1,1,0),(1,49,1,0),(2,262193,1,0),(3,14,0,0),(4,65,1,0),(5,1345,1,3),(6,3393,1,7),(7,3673408,0,7),(8,7867712,0,7),(9,3685696,2,7),(10,3734848,2,7),(11,12123456,2,7),(12,3734848,2,7),(13,3767616,2,7),(14,3882304,2,7),(15,20659520,2,7),(16,14,0,0),(17,37428544,0,7),(18,14,0,0),(19,3874112,0,7),(20,3743040,0,7),(21,3673408,0,7),(22,3673408,0,7),(23,67108992,0,0),(24,14,0,0),(25,14,0,0)]
def units_Types.hl:Nat→Shape:=shN units_Types.te units_Types.tb units_Types.tp [(8,3673408,0,7)]
def units_Types.hj:Nat→Option Shape:=shO units_Types.te units_Types.tb units_Types.tp [(23,640,0,0)]
def units_Types.L8 (F:Nat) (R:Type) (K:Ex→St→Option R) (n:Nat) (x:((List Bool)×Unit×Unit×Unit×(List tNode.T)×Int×Int×Unit)×(Unit)×((List Int)×(List Int)×(List Bool)×Unit)):Option R :=
 units_Types.l8 F (fun r2 r3 r4=>K .ret (encS (units_Types.h 16) ((r2,r3,r4,()),(),()))) (fun r2 r3 r4=>K .ret (encS (units_Types.h 18) ((r2,r3,r4,()),(),()))) (fun fixed t33 t34 t35 t36 types pile fix=>K (.exit 0) (encS (units_Types.h 8) ((fixed,(),(),(),t33,t34,t35,t36,()),(),(types,pile,fix,())))) n x.1.1 x.1.2.2.2.2.1 x.1.2.2.2.2.2.1 x.1.2.2.2.2.2.2.1 x.2.2.1 x.2.2.2.1 x.2.2.2.2.1
def units_Types.J23 (F:Nat) (R:Type) (K:Ex→St→Option R) (x:((List Int)×(List Int)×Unit)×(Unit)×(Unit)):Option R :=
 units_Types.j23 F (fun r2 r3 r4=>K .ret (encS (units_Types.h 24) ((r2,r3,r4,()),(),()))) (fun r2 r3 r4=>K .ret (encS (units_Types.h 25) ((r2,r3,r4,()),(),()))) x.1.1 x.1.2.1
def units_Types.X (m:Int) (F:Nat):FX TI (G m) Sg:={hn:={MU:=fun s=>lk false s [(89,true),(95,true),(104,true)],DS:=fun d=>lk none d [(63,some units_Types.ds63)],na:=1,fzJ:=fun r=>lk [] r [(23,[9,10])]},lv:=[⟨36,tree_Check.sp F⟩,⟨37,tree_Constant.sp F⟩,⟨38,units_rules.sp F⟩],ld:=[⟨63,units_Types.d63 F⟩],N:=114,H:=units_Types.h,HL:=units_Types.hl,HJ:=units_Types.hj,L:=mkL units_Types.hl [⟨8,fun x R K=>units_Types.L8 F R K F x⟩],J:=mkJ units_Types.hj [⟨23,fun x R K=>units_Types.J23 F R K x⟩]}
theorem units_Types.a0 (m:Int) (F:Nat):(units_Types.X m F).lp (loopsOf (bd Go.Proofs.Tryd.f21)) 0:=FX.loop _ _ 0 8 F (by kernel_rfl) (units_Types.L8 F) (fun _ _ _=>by kernel_rfl) (fun _ _ _ _=>by kernel_rfl) (fun _ _ _=>by kernel_rfl)
theorem units_Types.c0 (m:Int) (F:Nat):(units_Types.X m F).ct (cutsOf (units_Types.X m F).HJ (bd Go.Proofs.Tryd.f21)) 0:=FX.cut _ _ 0 23 (by kernel_rfl) (fun _ _ _=>by kernel_rfl)
theorem units_Types.ok (m:Int) (F:Nat):OK Go.Proofs.Tryd.prog (G m) 21 units_Types.sg (units_Types.sp F) :=
 func_x (units_Types.X m F) mixed tsOK ⟨tree_Check.ok m F,tree_Constant.ok m F,units_rules.ok m F,trivial⟩ ⟨mkT_ok ⟨⟨62,by kernel_rfl,units_node_alike.ok m F⟩,⟨61,by kernel_rfl,units_node_blocks.ok m F⟩,⟨64,by kernel_rfl,units_node_counted.ok m F⟩,⟨59,by kernel_rfl,units_node_money.ok m F⟩,⟨58,by kernel_rfl,units_node_number.ok m F⟩,⟨66,by kernel_rfl,units_node_off.ok m F⟩,⟨65,by kernel_rfl,units_node_priced.ok m F⟩,⟨63,by kernel_rfl,units_node_product.ok m F⟩,⟨60,by kernel_rfl,units_node_quantity.ok m F⟩,⟨67,by kernel_rfl,units_node_test.ok m F⟩,trivial⟩,trivial⟩ Go.Proofs.Tryd.func21 1 1 (by kernel_rfl) (at_cons (units_Types.a0 m F) at_nil) (at_cons (units_Types.c0 m F) at_nil) (fun _=>by kernel_rfl)
def slices_Max_int.te:List (Nat×KS):=[(0,.b (.int .i64)),(2,.c (.int .i64)),(3,.c (.int .i64)),(4,.c (.int .i64)),(7,.c .bool),(15,.c .bool)]
def slices_Max_int.h:Nat→Shape:=shN slices_Max_int.te [] [] [(0,1,0,0),(1,17,0,0),(3,5,0,0),(4,13,0,0),(5,45,0,0),(6,13,0,0),(7,13,0,0),(8,2,0,0)]
def slices_Max_int.hl:Nat→Shape:=shN slices_Max_int.te [] [] [(5,13,0,0)]
def slices_Max_int.L5 (F:Nat) (R:Type) (K:Ex→St→Option R) (n:Nat) (x:((List Int)×Int×Int×Unit)×(Unit)×(Unit)):Option R :=
 slices_Max_int.l5 F (fun x m i t15=>K (.exit 0) (encS (slices_Max_int.h 5) ((x,m,i,t15,()),(),()))) n x.1.1 x.1.2.1 x.1.2.2.1
def slices_Max_int.X (m:Int) (F:Nat):FX TI (G m) Sg:={hn:={na:=1},N:=25,H:=slices_Max_int.h,HL:=slices_Max_int.hl,L:=mkL slices_Max_int.hl [⟨5,fun x R K=>slices_Max_int.L5 F R K F x⟩]}
theorem slices_Max_int.a0 (m:Int) (F:Nat):(slices_Max_int.X m F).lp (loopsOf (bd Go.Proofs.Tryd.f40)) 0:=FX.loop _ _ 0 5 F (by kernel_rfl) (slices_Max_int.L5 F) (fun _ _ _=>by kernel_rfl) (fun _ _ _ _=>by kernel_rfl) (fun _ _ _=>by kernel_rfl)
theorem slices_Max_int.ok (m:Int) (F:Nat):OK Go.Proofs.Tryd.prog (G m) 40 slices_Max_int.sg (slices_Max_int.sp F) :=
 func_x (slices_Max_int.X m F) mixed tsOK trivial trivial Go.Proofs.Tryd.func40 1 0 (by kernel_rfl) (at_cons (slices_Max_int.a0 m F) at_nil) at_nil (fun _=>by kernel_rfl)
def tree_Scale.te:List (Nat×KS):=[(1,.loc 1),(2,.c (.int .i64)),(3,.c (.int .i64)),(5,.c (.int .i64)),(6,.c (.sl (.int .i64))),(6,.ow 6),(8,.loc 8),(9,.c (.int .i64)),(10,.c (.int .i64)),(17,.c .bool),(20,.c (.sl tNode)),(21,.c (.int .i64)),(22,.c (.int .i64)),(23,.c .bool),(29,.c .bool),(45,.c .bool)]
def tree_Scale.tb:List (Nat×KS):=[(1,.g tPlan),(8,.g tNode)]
def tree_Scale.tp:List OwnE:=[⟨6,.env 6,(.int .i64)⟩]
def tree_Scale.h:Nat→Shape:=shN tree_Scale.te tree_Scale.tb tree_Scale.tp [(0,1,1,0),(1,9,1,0),(2,521,1,0),(3,6,0,0),(4,33,1,1),(5,7200,0,1),(6,15392,0,1),(7,7264,2,1),(8,7392,2,1),(9,7648,2,1),(10,24032,2,1),(11,7648,2,1),(12,7392,2,1),(13,40096,0,1),(14,7328,0,1),(15,7200,0,1),(16,7200,0,1),(17,6,0,0)]
def tree_Scale.hl:Nat→Shape:=shN tree_Scale.te tree_Scale.tb tree_Scale.tp [(6,7200,0,1)]
def tree_Scale.hj:Nat→Option Shape:=shO tree_Scale.te tree_Scale.tb tree_Scale.tp [(17,16,0,0)]
def tree_Scale.L6 (F:Nat) (R:Type) (K:Ex→St→Option R) (n:Nat) (x:(Unit×(List tNode.T)×Int×Int×Unit)×(Unit)×((List Int)×Unit)):Option R :=
 tree_Scale.l6 F (fun t20 t21 t22 t23 pile=>K (.exit 0) (encS (tree_Scale.h 6) (((),t20,t21,t22,t23,()),(),(pile,())))) n x.1.2.1 x.1.2.2.1 x.1.2.2.2.1 x.2.2.1
def tree_Scale.J17 (F:Nat) (R:Type) (K:Ex→St→Option R) (x:((List Int)×Unit)×(Unit)×(Unit)):Option R :=
 tree_Scale.j17 F (fun r2 r3=>K .ret (encS (tree_Scale.h 17) ((r2,r3,()),(),()))) x.1.1
def tree_Scale.X (m:Int) (F:Nat):FX TI (G m) Sg:={hn:={MU:=fun s=>lk false s [(51,true)],na:=1,fzJ:=fun r=>lk [] r [(17,[6])]},lv:=[⟨36,tree_Check.sp F⟩,⟨39,tree_takes.sp F⟩,⟨40,slices_Max_int.sp F⟩],N:=56,H:=tree_Scale.h,HL:=tree_Scale.hl,HJ:=tree_Scale.hj,L:=mkL tree_Scale.hl [⟨6,fun x R K=>tree_Scale.L6 F R K F x⟩],J:=mkJ tree_Scale.hj [⟨17,fun x R K=>tree_Scale.J17 F R K x⟩]}
theorem tree_Scale.a0 (m:Int) (F:Nat):(tree_Scale.X m F).lp (loopsOf (bd Go.Proofs.Tryd.f22)) 0:=FX.loop _ _ 0 6 F (by kernel_rfl) (tree_Scale.L6 F) (fun _ _ _=>by kernel_rfl) (fun _ _ _ _=>by kernel_rfl) (fun _ _ _=>by kernel_rfl)
theorem tree_Scale.c0 (m:Int) (F:Nat):(tree_Scale.X m F).ct (cutsOf (tree_Scale.X m F).HJ (bd Go.Proofs.Tryd.f22)) 0:=FX.cut _ _ 0 17 (by kernel_rfl) (fun _ _ _=>by kernel_rfl)
theorem tree_Scale.ok (m:Int) (F:Nat):OK Go.Proofs.Tryd.prog (G m) 22 tree_Scale.sg (tree_Scale.sp F) :=
 func_x (tree_Scale.X m F) mixed tsOK ⟨tree_Check.ok m F,tree_takes.ok m F,slices_Max_int.ok m F,trivial⟩ trivial Go.Proofs.Tryd.func22 1 1 (by kernel_rfl) (at_cons (tree_Scale.a0 m F) at_nil) (at_cons (tree_Scale.c0 m F) at_nil) (fun _=>by kernel_rfl)
def wide_Of.te:List (Nat×KS):=[(0,.c (.int .i64)),(2,.loc 2)]
def wide_Of.tb:List (Nat×KS):=[(2,.g tWide)]
def wide_Of.h:Nat→Shape:=shN wide_Of.te wide_Of.tb [] [(0,3,1,0),(1,2,1,0)]
def wide_Of.X (m:Int) (F:Nat):FX TI (G m) Sg:={hn:={na:=1},N:=8,H:=wide_Of.h}
theorem wide_Of.ok (m:Int) (F:Nat):OK Go.Proofs.Tryd.prog (G m) 14 wide_Of.sg (wide_Of.sp F) :=
 func_x (wide_Of.X m F) mixed tsOK trivial trivial Go.Proofs.Tryd.func14 0 0 (by kernel_rfl) at_nil at_nil (fun _=>by kernel_rfl)
theorem math_bits_Sub64.ok (m:Int) (F:Nat):OK Go.Proofs.Tryd.prog (G m) 26 math_bits_Sub64.sg (math_bits_Sub64.sp F):=math_bits_Sub64.ok' F Go.Proofs.Tryd.func26 (by kernel_rfl) (by kernel_rfl) (by kernel_rfl)
def wide_Abs.te:List (Nat×KS):=[(1,.loc 1),(2,.c (.int .u64)),(3,.c (.int .u64)),(4,.c (.int .u64)),(5,.c (.int .u64)),(6,.c (.int .u64)),(10,.c .bool)]
def wide_Abs.tb:List (Nat×KS):=[(1,.g tWide)]
def wide_Abs.h:Nat→Shape:=shN wide_Abs.te wide_Abs.tb [] [(0,1,1,0),(1,65,1,0),(2,6,0,0),(3,25,1,0),(4,40,0,0),(5,6,0,0)]
def wide_Abs.X (m:Int) (F:Nat):FX TI (G m) Sg:={hn:={na:=1},lv:=[⟨26,math_bits_Sub64.sp F⟩],N:=32,H:=wide_Abs.h}
theorem wide_Abs.ok (m:Int) (F:Nat):OK Go.Proofs.Tryd.prog (G m) 27 wide_Abs.sg (wide_Abs.sp F) :=
 func_x (wide_Abs.X m F) mixed tsOK ⟨math_bits_Sub64.ok m F,trivial⟩ trivial Go.Proofs.Tryd.func27 0 0 (by kernel_rfl) at_nil at_nil (fun _=>by kernel_rfl)
def math_bits_Mul64.te:List (Nat×KS):=[(0,.c (.int .u64)),(1,.c (.int .u64)),(4,.c (.int .u64)),(5,.c (.int .u64)),(6,.c (.int .u64)),(7,.c (.int .u64)),(8,.c (.int .u64)),(9,.c (.int .u64)),(10,.c (.int .u64)),(11,.c (.int .u64)),(12,.c (.int .u64)),(13,.c (.int .u64))]
def math_bits_Mul64.h:Nat→Shape:=shN math_bits_Mul64.te [] [] [(0,3,0,0),(1,19,0,0),(2,51,0,0),(3,115,0,0),(4,243,0,0),(5,499,0,0),(6,691,0,0),(7,1715,0,0),(8,3251,0,0),(9,3235,0,0),(10,7,0,0),(11,12,0,0)]
def math_bits_Mul64.X (m:Int) (F:Nat):FX TI (G m) Sg:={hn:={na:=2},N:=51,H:=math_bits_Mul64.h}
theorem math_bits_Mul64.ok (m:Int) (F:Nat):OK Go.Proofs.Tryd.prog (G m) 28 math_bits_Mul64.sg (math_bits_Mul64.sp F) :=
 func_x (math_bits_Mul64.X m F) mixed tsOK trivial trivial Go.Proofs.Tryd.func28 0 0 (by kernel_rfl) at_nil at_nil (fun _=>by kernel_rfl)
def times_pick.te:List (Nat×KS):=[(0,.c .bool),(1,.c (.int .u64)),(2,.c (.int .u64)),(6,.c (.int .u64)),(7,.c .bool)]
def times_pick.h:Nat→Shape:=shN times_pick.te [] [] [(0,7,0,0),(1,22,0,0),(2,8,0,0),(3,8,0,0)]
def times_pick.X (m:Int) (F:Nat):FX TI (G m) Sg:={hn:={na:=3},N:=10,H:=times_pick.h}
theorem times_pick.ok (m:Int) (F:Nat):OK Go.Proofs.Tryd.prog (G m) 29 times_pick.sg (times_pick.sp F) :=
 func_x (times_pick.X m F) mixed tsOK trivial trivial Go.Proofs.Tryd.func29 0 0 (by kernel_rfl) at_nil at_nil (fun _=>by kernel_rfl)
theorem math_bits_Add64.ok (m:Int) (F:Nat):OK Go.Proofs.Tryd.prog (G m) 25 math_bits_Add64.sg (math_bits_Add64.sp F):=math_bits_Add64.ok' F Go.Proofs.Tryd.func25 (by kernel_rfl) (by kernel_rfl) (by kernel_rfl)
def wide_Sub.te:List (Nat×KS):=[(2,.loc 2),(3,.loc 3),(4,.loc 4),(5,.c (.int .i64)),(6,.c (.int .u64)),(7,.c (.int .u64)),(8,.c (.int .u64)),(10,.loc 10),(49,.c .bool)]
def wide_Sub.tb:List (Nat×KS):=[(2,.g tWide),(3,.g tWide),(4,.g tWide),(10,.g tWide)]
def wide_Sub.h:Nat→Shape:=shN wide_Sub.te wide_Sub.tb [] [(0,7,7,0),(1,55,7,0),(2,87,7,0),(3,135,15,0),(4,388,12,0),(5,12,4,0),(6,12,4,0)]
def wide_Sub.X (m:Int) (F:Nat):FX TI (G m) Sg:={hn:={na:=2},lv:=[⟨26,math_bits_Sub64.sp F⟩],N:=52,H:=wide_Sub.h}
theorem wide_Sub.ok (m:Int) (F:Nat):OK Go.Proofs.Tryd.prog (G m) 11 wide_Sub.sg (wide_Sub.sp F) :=
 func_x (wide_Sub.X m F) mixed tsOK ⟨math_bits_Sub64.ok m F,trivial⟩ trivial Go.Proofs.Tryd.func11 0 0 (by kernel_rfl) at_nil at_nil (fun _=>by kernel_rfl)
def wide_Neg.te:List (Nat×KS):=[(1,.loc 1),(2,.loc 2),(3,.c (.int .i64))]
def wide_Neg.tb:List (Nat×KS):=[(1,.g tWide),(2,.g tWide)]
def wide_Neg.h:Nat→Shape:=shN wide_Neg.te wide_Neg.tb [] [(0,3,3,0),(1,6,2,0)]
def wide_Neg.X (m:Int) (F:Nat):FX TI (G m) Sg:={hn:={na:=1},lv:=[⟨11,wide_Sub.sp F⟩],N:=9,H:=wide_Neg.h}
theorem wide_Neg.ok (m:Int) (F:Nat):OK Go.Proofs.Tryd.prog (G m) 44 wide_Neg.sg (wide_Neg.sp F) :=
 func_x (wide_Neg.X m F) mixed tsOK ⟨wide_Sub.ok m F,trivial⟩ trivial Go.Proofs.Tryd.func44 0 0 (by kernel_rfl) at_nil at_nil (fun _=>by kernel_rfl)
def wide_Join.te:List (Nat×KS):=[(0,.c .bool),(1,.c (.int .u64)),(2,.c (.int .u64)),(6,.loc 6),(7,.c (.int .i64)),(8,.loc 8),(11,.c .bool),(16,.c .bool),(30,.c .bool)]
def wide_Join.tb:List (Nat×KS):=[(6,.g tWide),(8,.g tWide)]
def wide_Join.h:Nat→Shape:=shN wide_Join.te wide_Join.tb [] [(0,15,1,0),(1,79,1,0),(2,41,3,0),(3,168,3,0),(4,24,1,0),(5,24,1,0),(6,264,1,0),(7,24,1,0),(8,24,1,0)]
def wide_Join.X (m:Int) (F:Nat):FX TI (G m) Sg:={hn:={na:=3},lv:=[⟨44,wide_Neg.sp F⟩],N:=33,H:=wide_Join.h}
theorem wide_Join.ok (m:Int) (F:Nat):OK Go.Proofs.Tryd.prog (G m) 30 wide_Join.sg (wide_Join.sp F) :=
 func_x (wide_Join.X m F) mixed tsOK ⟨wide_Neg.ok m F,trivial⟩ trivial Go.Proofs.Tryd.func30 0 0 (by kernel_rfl) at_nil at_nil (fun _=>by kernel_rfl)
def times_Mul.te:List (Nat×KS):=[(2,.loc 2),(3,.loc 3),(4,.loc 4),(5,.c (.int .i64)),(6,.c (.int .u64)),(7,.c (.int .u64)),(8,.c (.int .u64)),(9,.c (.int .u64)),(10,.c (.int .u64)),(11,.c (.int .u64)),(12,.c (.int .u64)),(13,.c (.int .u64)),(14,.c (.int .u64)),(30,.c .bool),(61,.c .bool)]
def times_Mul.tb:List (Nat×KS):=[(2,.g tWide),(3,.g tWide),(4,.g tWide)]
def times_Mul.h:Nat→Shape:=shN times_Mul.te times_Mul.tb [] [(0,7,7,0),(1,55,7,0),(2,247,7,0),(3,8439,7,0),(4,12,4,0),(5,1015,7,0),(6,3847,7,0),(7,5895,7,0),(8,17159,7,0),(9,12,4,0),(10,12,4,0)]
def times_Mul.hj:Nat→Option Shape:=shO times_Mul.te times_Mul.tb [] [(5,247,7,0)]
def times_Mul.J5 (F:Nat) (R:Type) (K:Ex→St→Option R) (x:(Unit×Unit×Unit×Int×Int×Int×Int×Unit)×(tWide.T×tWide.T×tWide.T×Unit)×(Unit)):Option R :=
 times_Mul.j5 F (fun r5 r4=>K .ret (encS (times_Mul.h 9) (((),r5,()),(r4,()),()))) (fun r5 r4=>K .ret (encS (times_Mul.h 10) (((),r5,()),(r4,()),()))) x.1.2.2.2.1 x.1.2.2.2.2.1 x.1.2.2.2.2.2.1 x.1.2.2.2.2.2.2.1 x.2.1.1 x.2.1.2.1 x.2.1.2.2.1
def times_Mul.X (m:Int) (F:Nat):FX TI (G m) Sg:={hn:={na:=2},lv:=[⟨27,wide_Abs.sp F⟩,⟨28,math_bits_Mul64.sp F⟩,⟨29,times_pick.sp F⟩,⟨25,math_bits_Add64.sp F⟩,⟨30,wide_Join.sp F⟩],N:=75,H:=times_Mul.h,HJ:=times_Mul.hj,J:=mkJ times_Mul.hj [⟨5,fun x R K=>times_Mul.J5 F R K x⟩]}
theorem times_Mul.c0 (m:Int) (F:Nat):(times_Mul.X m F).ct (cutsOf (times_Mul.X m F).HJ (bd Go.Proofs.Tryd.f15)) 0:=FX.cut _ _ 0 5 (by kernel_rfl) (fun _ _ _=>by kernel_rfl)
theorem times_Mul.ok (m:Int) (F:Nat):OK Go.Proofs.Tryd.prog (G m) 15 times_Mul.sg (times_Mul.sp F) :=
 func_x (times_Mul.X m F) mixed tsOK ⟨wide_Abs.ok m F,math_bits_Mul64.ok m F,times_pick.ok m F,math_bits_Add64.ok m F,wide_Join.ok m F,trivial⟩ trivial Go.Proofs.Tryd.func15 0 1 (by kernel_rfl) at_nil (at_cons (times_Mul.c0 m F) at_nil) (fun _=>by kernel_rfl)
def times_Power.te:List (Nat×KS):=[(0,.c (.int .i64)),(2,.loc 2),(3,.c (.int .i64)),(4,.loc 4),(6,.c .bool),(9,.c .bool),(12,.c (.int .i64)),(13,.c (.int .i64)),(14,.c .bool)]
def times_Power.tb:List (Nat×KS):=[(2,.g tWide),(4,.g tWide)]
def times_Power.h:Nat→Shape:=shN times_Power.te times_Power.tb [] [(0,3,1,0),(1,19,1,0),(2,6,1,0),(3,35,1,0),(4,6,1,0),(5,11,3,0),(6,202,3,0),(7,458,3,0),(8,202,3,0),(9,202,3,0),(10,6,1,0)]
def times_Power.hl:Nat→Shape:=shN times_Power.te times_Power.tb [] [(7,202,3,0)]
def times_Power.L7 (F:Nat) (R:Type) (K:Ex→St→Option R) (n:Nat) (x:(Unit×Unit×Int×Int×Unit)×(tWide.T×tWide.T×Unit)×(Unit)):Option R :=
 times_Power.l7 F (fun t12 t13 t14 r2 p=>K (.exit 0) (encS (times_Power.h 7) (((),(),t12,t13,t14,()),(r2,p,()),()))) n x.1.2.2.1 x.1.2.2.2.1 x.2.1.1 x.2.1.2.1
def times_Power.X (m:Int) (F:Nat):FX TI (G m) Sg:={hn:={na:=1},lv:=[⟨14,wide_Of.sp F⟩,⟨15,times_Mul.sp F⟩],N:=23,H:=times_Power.h,HL:=times_Power.hl,L:=mkL times_Power.hl [⟨7,fun x R K=>times_Power.L7 F R K F x⟩]}
theorem times_Power.a0 (m:Int) (F:Nat):(times_Power.X m F).lp (loopsOf (bd Go.Proofs.Tryd.f23)) 0:=FX.loop _ _ 0 7 F (by kernel_rfl) (times_Power.L7 F) (fun _ _ _=>by kernel_rfl) (fun _ _ _ _=>by kernel_rfl) (fun _ _ _=>by kernel_rfl)
theorem times_Power.ok (m:Int) (F:Nat):OK Go.Proofs.Tryd.prog (G m) 23 times_Power.sg (times_Power.sp F) :=
 func_x (times_Power.X m F) mixed tsOK ⟨wide_Of.ok m F,times_Mul.ok m F,trivial⟩ trivial Go.Proofs.Tryd.func23 1 0 (by kernel_rfl) (at_cons (times_Power.a0 m F) at_nil) at_nil (fun _=>by kernel_rfl)
def bound_takes.te:List (Nat×KS):=[(1,.loc 1),(2,.c (.int .i64)),(4,.c (.int .i64)),(5,.c .bool),(10,.c .bool),(14,.c .bool),(19,.c .bool)]
def bound_takes.tb:List (Nat×KS):=[(1,.g tNode)]
def bound_takes.h:Nat→Shape:=shN bound_takes.te bound_takes.tb [] [(0,1,1,0),(1,5,1,0),(2,13,1,0),(3,13,1,0),(4,13,1,0),(5,13,1,0),(6,2,0,0),(7,21,1,0),(8,21,1,0),(9,21,1,0),(10,2,0,0),(11,37,1,0),(12,37,1,0),(13,2,0,0),(14,64,0,0),(15,2,0,0),(16,2,0,0)]
def bound_takes.hj:Nat→Option Shape:=shO bound_takes.te bound_takes.tb [] [(6,13,1,0),(10,21,1,0)]
def bound_takes.J10 (F:Nat) (R:Type) (K:Ex→St→Option R) (x:(Unit×Int×Bool×Unit)×(tNode.T×Unit)×(Unit)):Option R :=
 bound_takes.j10 F (fun r2=>K .ret (encS (bound_takes.h 10) ((r2,()),(),()))) (fun r2=>K .ret (encS (bound_takes.h 13) ((r2,()),(),()))) (fun r2=>K .ret (encS (bound_takes.h 15) ((r2,()),(),()))) (fun t19=>K .normal (encS (bound_takes.h 14) ((t19,()),(),()))) x.1.2.1 x.1.2.2.1 x.2.1.1
def bound_takes.J6 (F:Nat) (R:Type) (K:Ex→St→Option R) (x:(Unit×Int×Bool×Unit)×(tNode.T×Unit)×(Unit)):Option R :=
 bound_takes.j6 F (fun r2=>K .ret (encS (bound_takes.h 6) ((r2,()),(),()))) (fun r2=>K .ret (encS (bound_takes.h 10) ((r2,()),(),()))) (fun r2=>K .ret (encS (bound_takes.h 13) ((r2,()),(),()))) (fun r2=>K .ret (encS (bound_takes.h 15) ((r2,()),(),()))) (fun t19=>K .normal (encS (bound_takes.h 14) ((t19,()),(),()))) x.1.2.1 x.1.2.2.1 x.2.1.1
def bound_takes.X (m:Int) (F:Nat):FX TI (G m) Sg:={hn:={na:=1},N:=21,H:=bound_takes.h,HJ:=bound_takes.hj,J:=mkJ bound_takes.hj [⟨10,fun x R K=>bound_takes.J10 F R K x⟩,⟨6,fun x R K=>bound_takes.J6 F R K x⟩]}
theorem bound_takes.c0 (m:Int) (F:Nat):(bound_takes.X m F).ct (cutsOf (bound_takes.X m F).HJ (bd Go.Proofs.Tryd.f41)) 0:=FX.cut _ _ 0 6 (by kernel_rfl) (fun _ _ _=>by kernel_rfl)
theorem bound_takes.c1 (m:Int) (F:Nat):(bound_takes.X m F).ct (cutsOf (bound_takes.X m F).HJ (bd Go.Proofs.Tryd.f41)) 1:=FX.cut _ _ 1 10 (by kernel_rfl) (fun _ _ _=>by kernel_rfl)
theorem bound_takes.ok (m:Int) (F:Nat):OK Go.Proofs.Tryd.prog (G m) 41 bound_takes.sg (bound_takes.sp F) :=
 func_x (bound_takes.X m F) mixed tsOK trivial trivial Go.Proofs.Tryd.func41 0 2 (by kernel_rfl) at_nil (at_cons (bound_takes.c1 m F) (at_cons (bound_takes.c0 m F) at_nil)) (fun _=>by kernel_rfl)
def bound_meter_keep.te:List (Nat×KS):=[(0,.loc 0),(2,.c (.int .i64)),(4,.loc 4),(6,.loc 6)]
def bound_meter_keep.tb:List (Nat×KS):=[(0,.g tBound_meter),(4,.g tWide),(6,.g tWide)]
def bound_meter_keep.h:Nat→Shape:=shN bound_meter_keep.te bound_meter_keep.tb [] [(0,15,7,0),(1,12,7,0),(2,8,5,0)]
def bound_meter_keep.X (m:Int) (F:Nat):FX TI (G m) Sg:={hn:={na:=3},N:=19,H:=bound_meter_keep.h}
theorem bound_meter_keep.ok (m:Int) (F:Nat):OK Go.Proofs.Tryd.prog (G m) 69 bound_meter_keep.sg (bound_meter_keep.sp F) :=
 func_x (bound_meter_keep.X m F) mixed tsOK trivial trivial Go.Proofs.Tryd.func69 0 0 (by kernel_rfl) at_nil at_nil (fun _=>by kernel_rfl)
def bound_meter_mul.te:List (Nat×KS):=[(0,.loc 0),(4,.loc 4),(5,.loc 5),(6,.loc 6)]
def bound_meter_mul.tb:List (Nat×KS):=[(0,.g tBound_meter),(4,.g tWide),(5,.g tWide),(6,.g tWide)]
def bound_meter_mul.h:Nat→Shape:=shN bound_meter_mul.te bound_meter_mul.tb [] [(0,15,15,0),(1,8,9,0)]
def bound_meter_mul.X (m:Int) (F:Nat):FX TI (G m) Sg:={hn:={na:=3},lv:=[⟨15,times_Mul.sp F⟩,⟨69,bound_meter_keep.sp F⟩],N:=14,H:=bound_meter_mul.h}
theorem bound_meter_mul.ok (m:Int) (F:Nat):OK Go.Proofs.Tryd.prog (G m) 68 bound_meter_mul.sg (bound_meter_mul.sp F) :=
 func_x (bound_meter_mul.X m F) mixed tsOK ⟨times_Mul.ok m F,bound_meter_keep.ok m F,trivial⟩ trivial Go.Proofs.Tryd.func68 0 0 (by kernel_rfl) at_nil at_nil (fun _=>by kernel_rfl)
def math_bits_Len64.te:List (Nat×KS):=[(0,.c (.int .u64)),(2,.c (.int .i64)),(4,.c .bool),(8,.c .bool),(14,.c .bool)]
def math_bits_Len64.h:Nat→Shape:=shN math_bits_Len64.te [] [] [(0,3,0,0),(1,7,0,0),(2,1,0,0),(3,3,0,0),(4,11,0,0),(5,3,0,0),(6,3,0,0),(7,19,0,0),(8,3,0,0),(9,3,0,0),(10,2,0,0)]
def math_bits_Len64.hj:Nat→Option Shape:=shO math_bits_Len64.te [] [] [(4,3,0,0),(7,3,0,0)]
def math_bits_Len64.J7 (F:Nat) (R:Type) (K:Ex→St→Option R) (x:(Int×Int×Unit)×(Unit)×(Unit)):Option R :=
 math_bits_Len64.j7 F (fun n=>K .ret (encS (math_bits_Len64.h 10) ((n,()),(),()))) x.1.1 x.1.2.1
def math_bits_Len64.J4 (F:Nat) (R:Type) (K:Ex→St→Option R) (x:(Int×Int×Unit)×(Unit)×(Unit)):Option R :=
 math_bits_Len64.j4 F (fun n=>K .ret (encS (math_bits_Len64.h 10) ((n,()),(),()))) x.1.1 x.1.2.1
def math_bits_Len64.X (m:Int) (F:Nat):FX TI (G m) Sg:={hn:={na:=1},N:=25,H:=math_bits_Len64.h,HJ:=math_bits_Len64.hj,J:=mkJ math_bits_Len64.hj [⟨7,fun x R K=>math_bits_Len64.J7 F R K x⟩,⟨4,fun x R K=>math_bits_Len64.J4 F R K x⟩]}
theorem math_bits_Len64.c0 (m:Int) (F:Nat):(math_bits_Len64.X m F).ct (cutsOf (math_bits_Len64.X m F).HJ (bd Go.Proofs.Tryd.f92)) 0:=FX.cut _ _ 0 4 (by kernel_rfl) (fun _ _ _=>by kernel_rfl)
theorem math_bits_Len64.c1 (m:Int) (F:Nat):(math_bits_Len64.X m F).ct (cutsOf (math_bits_Len64.X m F).HJ (bd Go.Proofs.Tryd.f92)) 1:=FX.cut _ _ 1 7 (by kernel_rfl) (fun _ _ _=>by kernel_rfl)
theorem math_bits_Len64.ok (m:Int) (F:Nat):OK Go.Proofs.Tryd.prog (G m) 92 math_bits_Len64.sg (math_bits_Len64.sp F) :=
 func_x (math_bits_Len64.X m F) mixed tsOK trivial trivial Go.Proofs.Tryd.func92 0 2 (by kernel_rfl) at_nil (at_cons (math_bits_Len64.c1 m F) (at_cons (math_bits_Len64.c0 m F) at_nil)) (fun _=>by kernel_rfl)
def math_bits_LeadingZeros64.te:List (Nat×KS):=[(0,.c (.int .u64)),(2,.c (.int .i64))]
def math_bits_LeadingZeros64.h:Nat→Shape:=shN math_bits_LeadingZeros64.te [] [] [(0,1,0,0),(1,2,0,0)]
def math_bits_LeadingZeros64.X (m:Int) (F:Nat):FX TI (G m) Sg:={hn:={na:=1},lv:=[⟨92,math_bits_Len64.sp F⟩],N:=6,H:=math_bits_LeadingZeros64.h}
theorem math_bits_LeadingZeros64.ok (m:Int) (F:Nat):OK Go.Proofs.Tryd.prog (G m) 89 math_bits_LeadingZeros64.sg (math_bits_LeadingZeros64.sp F) :=
 func_x (math_bits_LeadingZeros64.X m F) mixed tsOK ⟨math_bits_Len64.ok m F,trivial⟩ trivial Go.Proofs.Tryd.func89 0 0 (by kernel_rfl) at_nil at_nil (fun _=>by kernel_rfl)
def math_bits_Div64.te:List (Nat×KS):=[(0,.c (.int .u64)),(1,.c (.int .u64)),(2,.c (.int .u64)),(6,.c (.int .u64)),(7,.c (.int .u64)),(8,.c (.int .u64)),(9,.c (.int .u64)),(10,.c (.int .u64)),(11,.c (.int .u64)),(12,.c (.int .u64)),(13,.c (.int .u64)),(14,.c (.int .u64)),(15,.c (.int .u64)),(16,.c (.int .u64)),(17,.c (.int .u64)),(18,.c (.int .u64)),(20,.c .bool),(24,.c .bool),(27,.c .bool),(78,.c .bool),(85,.c .bool),(113,.c .bool),(120,.c .bool)]
def math_bits_Div64.h:Nat→Shape:=shN math_bits_Div64.te [] [] [(0,7,0,0),(1,65543,0,0),(3,131079,0,0),(5,262151,0,0),(6,24,0,0),(7,39,0,0),(8,39,0,0),(9,103,0,0),(10,231,0,0),(11,486,0,0),(12,996,0,0),(13,2020,0,0),(14,3556,0,0),(15,7652,0,0),(16,15844,0,0),(17,540132,0,0),(18,15844,0,0),(19,15844,0,0),(20,1064420,0,0),(21,22756,0,0),(22,55524,0,0),(23,63716,0,0),(24,2160868,0,0),(25,63716,0,0),(26,63716,0,0),(27,4258020,0,0),(28,24,0,0)]
def math_bits_Div64.hl:Nat→Shape:=shN math_bits_Div64.te [] [] [(17,15844,0,0),(24,63716,0,0)]
def math_bits_Div64.hj:Nat→Option Shape:=shO math_bits_Div64.te [] [] [(21,7652,0,0),(28,55332,0,0)]
def math_bits_Div64.L17 (F:Nat) (R:Type) (K:Ex→St→Option R) (n:Nat) (x:(Int×Int×Int×Int×Int×Int×Int×Int×Int×Unit)×(Unit)×(Unit)):Option R :=
 math_bits_Div64.l17 F (fun y s yn1 yn0 un32 un1 un0 q1 rhat t85=>K (.exit 0) (encS (math_bits_Div64.h 20) ((y,s,yn1,yn0,un32,un1,un0,q1,rhat,t85,()),(),()))) (fun y s yn1 yn0 un32 un1 un0 q1 rhat t78=>K (.exit 0) (encS (math_bits_Div64.h 17) ((y,s,yn1,yn0,un32,un1,un0,q1,rhat,t78,()),(),()))) n x.1.1 x.1.2.1 x.1.2.2.1 x.1.2.2.2.1 x.1.2.2.2.2.1 x.1.2.2.2.2.2.1 x.1.2.2.2.2.2.2.1 x.1.2.2.2.2.2.2.2.1 x.1.2.2.2.2.2.2.2.2.1
def math_bits_Div64.L24 (F:Nat) (R:Type) (K:Ex→St→Option R) (n:Nat) (x:(Int×Int×Int×Int×Int×Int×Int×Int×Int×Unit)×(Unit)×(Unit)):Option R :=
 math_bits_Div64.l24 F (fun y s yn1 yn0 un0 q1 rhat un21 q0 t120=>K (.exit 2) (encS (math_bits_Div64.h 27) ((y,s,yn1,yn0,un0,q1,rhat,un21,q0,t120,()),(),()))) (fun y s yn1 yn0 un0 q1 rhat un21 q0 t113=>K (.exit 2) (encS (math_bits_Div64.h 24) ((y,s,yn1,yn0,un0,q1,rhat,un21,q0,t113,()),(),()))) n x.1.1 x.1.2.1 x.1.2.2.1 x.1.2.2.2.1 x.1.2.2.2.2.1 x.1.2.2.2.2.2.1 x.1.2.2.2.2.2.2.1 x.1.2.2.2.2.2.2.2.1 x.1.2.2.2.2.2.2.2.2.1
def math_bits_Div64.J28 (F:Nat) (R:Type) (K:Ex→St→Option R) (x:(Int×Int×Int×Int×Int×Int×Unit)×(Unit)×(Unit)):Option R :=
 math_bits_Div64.j28 F (fun quo rem=>K .ret (encS (math_bits_Div64.h 28) ((quo,rem,()),(),()))) x.1.1 x.1.2.1 x.1.2.2.1 x.1.2.2.2.1 x.1.2.2.2.2.1 x.1.2.2.2.2.2.1
def math_bits_Div64.J21 (F:Nat) (R:Type) (K:Ex→St→Option R) (x:(Int×Int×Int×Int×Int×Int×Int×Int×Unit)×(Unit)×(Unit)):Option R :=
 math_bits_Div64.j21 F (fun quo rem=>K .ret (encS (math_bits_Div64.h 28) ((quo,rem,()),(),()))) x.1.1 x.1.2.1 x.1.2.2.1 x.1.2.2.2.1 x.1.2.2.2.2.1 x.1.2.2.2.2.2.1 x.1.2.2.2.2.2.2.1 x.1.2.2.2.2.2.2.2.1
def math_bits_Div64.X (m:Int) (F:Nat):FX TI (G m) Sg:={hn:={na:=3},lv:=[⟨89,math_bits_LeadingZeros64.sp F⟩],N:=135,H:=math_bits_Div64.h,HL:=math_bits_Div64.hl,HJ:=math_bits_Div64.hj,L:=mkL math_bits_Div64.hl [⟨17,fun x R K=>math_bits_Div64.L17 F R K F x⟩,⟨24,fun x R K=>math_bits_Div64.L24 F R K F x⟩],J:=mkJ math_bits_Div64.hj [⟨28,fun x R K=>math_bits_Div64.J28 F R K x⟩,⟨21,fun x R K=>math_bits_Div64.J21 F R K x⟩]}
theorem math_bits_Div64.a0 (m:Int) (F:Nat):(math_bits_Div64.X m F).lp (loopsOf (bd Go.Proofs.Tryd.f83)) 0:=FX.loop _ _ 0 17 F (by kernel_rfl) (math_bits_Div64.L17 F) (fun _ _ _=>by kernel_rfl) (fun _ _ _ _=>by kernel_rfl) (fun _ _ _=>by kernel_rfl)
theorem math_bits_Div64.a1 (m:Int) (F:Nat):(math_bits_Div64.X m F).lp (loopsOf (bd Go.Proofs.Tryd.f83)) 1:=FX.loop _ _ 1 24 F (by kernel_rfl) (math_bits_Div64.L24 F) (fun _ _ _=>by kernel_rfl) (fun _ _ _ _=>by kernel_rfl) (fun _ _ _=>by kernel_rfl)
theorem math_bits_Div64.c0 (m:Int) (F:Nat):(math_bits_Div64.X m F).ct (cutsOf (math_bits_Div64.X m F).HJ (bd Go.Proofs.Tryd.f83)) 0:=FX.cut _ _ 0 21 (by kernel_rfl) (fun _ _ _=>by kernel_rfl)
theorem math_bits_Div64.c1 (m:Int) (F:Nat):(math_bits_Div64.X m F).ct (cutsOf (math_bits_Div64.X m F).HJ (bd Go.Proofs.Tryd.f83)) 1:=FX.cut _ _ 1 28 (by kernel_rfl) (fun _ _ _=>by kernel_rfl)
theorem math_bits_Div64.ok (m:Int) (F:Nat):OK Go.Proofs.Tryd.prog (G m) 83 math_bits_Div64.sg (math_bits_Div64.sp F) :=
 func_x (math_bits_Div64.X m F) mixed tsOK ⟨math_bits_LeadingZeros64.ok m F,trivial⟩ trivial Go.Proofs.Tryd.func83 2 2 (by kernel_rfl) (at_cons (math_bits_Div64.a1 m F) (at_cons (math_bits_Div64.a0 m F) at_nil)) (at_cons (math_bits_Div64.c1 m F) (at_cons (math_bits_Div64.c0 m F) at_nil)) (fun _=>by kernel_rfl)
def times_quoRem.te:List (Nat×KS):=[(0,.c (.int .u64)),(1,.c (.int .u64)),(2,.c (.int .u64)),(3,.c (.int .u64)),(8,.c (.int .u64)),(9,.c (.int .u64)),(10,.c (.int .u64)),(11,.c (.int .u64)),(12,.c (.int .i64)),(13,.c (.int .u64)),(15,.c .bool),(34,.c .bool),(61,.c .bool)]
def times_quoRem.h:Nat→Shape:=shN times_quoRem.te [] [] [(0,47,0,0),(1,1071,0,0),(2,154,0,0),(3,176,0,0),(4,240,0,0),(5,238,0,0),(6,494,0,0),(7,2542,0,0),(8,494,0,0),(9,494,0,0),(10,494,0,0),(11,4590,0,0),(12,494,0,0),(13,1006,0,0),(14,494,0,0),(15,494,0,0),(16,240,0,0)]
def times_quoRem.hl:Nat→Shape:=shN times_quoRem.te [] [] [(7,494,0,0)]
def times_quoRem.L7 (F:Nat) (R:Type) (K:Ex→St→Option R) (n:Nat) (x:(Int×Int×Int×Int×Int×Int×Int×Unit)×(Unit)×(Unit)):Option R :=
 times_quoRem.l7 F (fun al bh bl ql rh rl i t34=>K (.exit 0) (encS (times_quoRem.h 7) ((al,bh,bl,ql,rh,rl,i,t34,()),(),()))) n x.1.1 x.1.2.1 x.1.2.2.1 x.1.2.2.2.1 x.1.2.2.2.2.1 x.1.2.2.2.2.2.1 x.1.2.2.2.2.2.2.1
def times_quoRem.X (m:Int) (F:Nat):FX TI (G m) Sg:={hn:={na:=4},lv:=[⟨83,math_bits_Div64.sp F⟩,⟨26,math_bits_Sub64.sp F⟩],N:=82,H:=times_quoRem.h,HL:=times_quoRem.hl,L:=mkL times_quoRem.hl [⟨7,fun x R K=>times_quoRem.L7 F R K F x⟩]}
theorem times_quoRem.a0 (m:Int) (F:Nat):(times_quoRem.X m F).lp (loopsOf (bd Go.Proofs.Tryd.f73)) 0:=FX.loop _ _ 0 7 F (by kernel_rfl) (times_quoRem.L7 F) (fun _ _ _=>by kernel_rfl) (fun _ _ _ _=>by kernel_rfl) (fun _ _ _=>by kernel_rfl)
theorem times_quoRem.ok (m:Int) (F:Nat):OK Go.Proofs.Tryd.prog (G m) 73 times_quoRem.sg (times_quoRem.sp F) :=
 func_x (times_quoRem.X m F) mixed tsOK ⟨math_bits_Div64.ok m F,math_bits_Sub64.ok m F,trivial⟩ trivial Go.Proofs.Tryd.func73 1 0 (by kernel_rfl) (at_cons (times_quoRem.a0 m F) at_nil) at_nil (fun _=>by kernel_rfl)
def times_QuoRem.te:List (Nat×KS):=[(2,.loc 2),(3,.loc 3),(4,.loc 4),(5,.loc 5),(6,.c (.int .i64)),(7,.c (.int .u64)),(8,.c (.int .u64)),(9,.c (.int .u64)),(10,.c (.int .u64)),(11,.c (.int .u64)),(12,.c (.int .u64)),(13,.c (.int .u64)),(14,.c (.int .u64)),(15,.loc 15),(16,.c (.int .i64)),(17,.loc 17),(20,.c .bool),(57,.c .bool)]
def times_QuoRem.tb:List (Nat×KS):=[(2,.g tWide),(3,.g tWide),(4,.g tWide),(5,.g tWide),(15,.g tWide),(17,.g tWide)]
def times_QuoRem.h:Nat→Shape:=shN times_QuoRem.te times_QuoRem.tb [] [(0,15,15,0),(1,65551,15,0),(2,28,12,0),(3,111,15,0),(4,495,15,0),(5,7695,15,0),(6,30733,29,0),(7,161805,29,0),(8,28,12,0),(9,57356,60,0),(10,28,12,0)]
def times_QuoRem.X (m:Int) (F:Nat):FX TI (G m) Sg:={hn:={na:=2},lv:=[⟨27,wide_Abs.sp F⟩,⟨73,times_quoRem.sp F⟩,⟨30,wide_Join.sp F⟩],N:=73,H:=times_QuoRem.h}
theorem times_QuoRem.ok (m:Int) (F:Nat):OK Go.Proofs.Tryd.prog (G m) 45 times_QuoRem.sg (times_QuoRem.sp F) :=
 func_x (times_QuoRem.X m F) mixed tsOK ⟨wide_Abs.ok m F,times_quoRem.ok m F,wide_Join.ok m F,trivial⟩ trivial Go.Proofs.Tryd.func45 0 0 (by kernel_rfl) at_nil at_nil (fun _=>by kernel_rfl)
def times_away.te:List (Nat×KS):=[(3,.c (.int .i64)),(4,.loc 4),(5,.loc 5),(6,.loc 6),(8,.c .bool),(9,.c .bool),(10,.c (.int .u64)),(11,.c (.int .u64)),(12,.c (.int .u64)),(13,.c (.int .u64)),(14,.c (.int .u64)),(15,.c (.int .u64)),(16,.c (.int .u64)),(25,.c (.int .i64)),(26,.c .bool),(29,.c .bool),(33,.c .bool),(58,.c .bool),(72,.c .bool)]
def times_away.tb:List (Nat×KS):=[(4,.g tWide),(5,.g tWide),(6,.g tWide)]
def times_away.h:Nat→Shape:=shN times_away.te times_away.tb [] [(0,15,7,0),(1,47,7,0),(2,8239,7,0),(3,24623,7,0),(4,16,0,0),(5,41007,7,0),(6,16,0,0),(7,65551,7,0),(8,16,0,0),(9,203,5,0),(10,963,1,0),(11,3523,1,0),(12,5315,1,0),(13,136387,1,0),(14,16,0,0),(15,262147,1,0),(16,16,0,0),(17,16,0,0)]
def times_away.X (m:Int) (F:Nat):FX TI (G m) Sg:={hn:={na:=4},lv:=[⟨27,wide_Abs.sp F⟩,⟨26,math_bits_Sub64.sp F⟩],N:=89,H:=times_away.h}
theorem times_away.ok (m:Int) (F:Nat):OK Go.Proofs.Tryd.prog (G m) 46 times_away.sg (times_away.sp F) :=
 func_x (times_away.X m F) mixed tsOK ⟨wide_Abs.ok m F,math_bits_Sub64.ok m F,trivial⟩ trivial Go.Proofs.Tryd.func46 0 0 (by kernel_rfl) at_nil at_nil (fun _=>by kernel_rfl)
def wide_Add.te:List (Nat×KS):=[(2,.loc 2),(3,.loc 3),(4,.loc 4),(5,.c (.int .i64)),(6,.c (.int .u64)),(7,.c (.int .u64)),(8,.c (.int .u64)),(10,.loc 10),(49,.c .bool)]
def wide_Add.tb:List (Nat×KS):=[(2,.g tWide),(3,.g tWide),(4,.g tWide),(10,.g tWide)]
def wide_Add.h:Nat→Shape:=shN wide_Add.te wide_Add.tb [] [(0,7,7,0),(1,55,7,0),(2,87,7,0),(3,135,15,0),(4,388,12,0),(5,12,4,0),(6,12,4,0)]
def wide_Add.X (m:Int) (F:Nat):FX TI (G m) Sg:={hn:={na:=2},lv:=[⟨25,math_bits_Add64.sp F⟩],N:=52,H:=wide_Add.h}
theorem wide_Add.ok (m:Int) (F:Nat):OK Go.Proofs.Tryd.prog (G m) 10 wide_Add.sg (wide_Add.sp F) :=
 func_x (wide_Add.X m F) mixed tsOK ⟨math_bits_Add64.ok m F,trivial⟩ trivial Go.Proofs.Tryd.func10 0 0 (by kernel_rfl) at_nil at_nil (fun _=>by kernel_rfl)
def times_Div.te:List (Nat×KS):=[(2,.c (.int .i64)),(3,.loc 3),(4,.loc 4),(6,.loc 6),(7,.c (.int .i64)),(8,.loc 8),(9,.loc 9),(10,.c (.int .i64)),(16,.c .bool),(39,.c .bool),(48,.c .bool)]
def times_Div.tb:List (Nat×KS):=[(3,.g tWide),(4,.g tWide),(6,.g tWide),(8,.g tWide),(9,.g tWide)]
def times_Div.h:Nat→Shape:=shN times_Div.te times_Div.tb [] [(0,15,7,0),(1,271,7,0),(2,24,4,0),(3,239,31,0),(4,686,15,0),(5,24,4,0),(6,1064,12,0),(7,24,4,0),(8,24,4,0)]
def times_Div.X (m:Int) (F:Nat):FX TI (G m) Sg:={hn:={na:=3},lv:=[⟨45,times_QuoRem.sp F⟩,⟨46,times_away.sp F⟩,⟨14,wide_Of.sp F⟩,⟨11,wide_Sub.sp F⟩,⟨10,wide_Add.sp F⟩],N:=59,H:=times_Div.h}
theorem times_Div.ok (m:Int) (F:Nat):OK Go.Proofs.Tryd.prog (G m) 31 times_Div.sg (times_Div.sp F) :=
 func_x (times_Div.X m F) mixed tsOK ⟨times_QuoRem.ok m F,times_away.ok m F,wide_Of.ok m F,wide_Sub.ok m F,wide_Add.ok m F,trivial⟩ trivial Go.Proofs.Tryd.func31 0 0 (by kernel_rfl) at_nil at_nil (fun _=>by kernel_rfl)
def bound_far.te:List (Nat×KS):=[(0,.c (.int .i64)),(2,.c (.int .i64))]
def bound_far.h:Nat→Shape:=shN bound_far.te [] [] [(0,1,0,0),(1,2,0,0)]
def bound_far.X (m:Int) (F:Nat):FX TI (G m) Sg:={hn:={na:=1},N:=7,H:=bound_far.h}
theorem bound_far.ok (m:Int) (F:Nat):OK Go.Proofs.Tryd.prog (G m) 82 bound_far.sg (bound_far.sp F) :=
 func_x (bound_far.X m F) mixed tsOK trivial trivial Go.Proofs.Tryd.func82 0 0 (by kernel_rfl) at_nil at_nil (fun _=>by kernel_rfl)
def bound_meter_add.te:List (Nat×KS):=[(0,.loc 0),(4,.loc 4),(5,.loc 5),(6,.loc 6)]
def bound_meter_add.tb:List (Nat×KS):=[(0,.g tBound_meter),(4,.g tWide),(5,.g tWide),(6,.g tWide)]
def bound_meter_add.h:Nat→Shape:=shN bound_meter_add.te bound_meter_add.tb [] [(0,15,15,0),(1,8,9,0)]
def bound_meter_add.X (m:Int) (F:Nat):FX TI (G m) Sg:={hn:={na:=3},lv:=[⟨10,wide_Add.sp F⟩,⟨69,bound_meter_keep.sp F⟩],N:=14,H:=bound_meter_add.h}
theorem bound_meter_add.ok (m:Int) (F:Nat):OK Go.Proofs.Tryd.prog (G m) 72 bound_meter_add.sg (bound_meter_add.sp F) :=
 func_x (bound_meter_add.X m F) mixed tsOK ⟨wide_Add.ok m F,bound_meter_keep.ok m F,trivial⟩ trivial Go.Proofs.Tryd.func72 0 0 (by kernel_rfl) at_nil at_nil (fun _=>by kernel_rfl)
def bound_meter_scale.te:List (Nat×KS):=[(0,.loc 0),(2,.b tTier),(4,.loc 4),(6,.loc 6),(7,.c (.int .i64)),(8,.loc 8),(9,.c (.int .i64)),(10,.loc 10),(11,.loc 11),(13,.b tTier),(14,.c (.int .i64)),(15,.c (.int .i64)),(16,.c .bool),(29,.c .bool)]
def bound_meter_scale.tb:List (Nat×KS):=[(0,.g tBound_meter),(4,.g tWide),(6,.g tWide),(8,.g tWide),(10,.g tTier),(11,.g tWide)]
def bound_meter_scale.h:Nat→Shape:=shN bound_meter_scale.te bound_meter_scale.tb [] [(0,15,7,0),(1,63,15,0),(2,3647,15,0),(3,7743,15,0),(4,3839,31,0),(5,3839,31,0),(6,12031,31,0),(7,3647,15,0),(8,3647,15,0),(9,313,45,0),(10,8,5,0)]
def bound_meter_scale.hl:Nat→Shape:=shN bound_meter_scale.te bound_meter_scale.tb [] [(3,3647,15,0)]
def bound_meter_scale.L3 (F:Nat) (R:Type) (K:Ex→St→Option R) (n:Nat) (x:(Unit×(List tTier.T)×Unit×Unit×Int×Unit×(List tTier.T)×Int×Int×Unit)×(tBound_meter.T×tWide.T×tWide.T×tWide.T×Unit)×(Unit)):Option R :=
 bound_meter_scale.l3 F (fun tiers rate t13 t14 t15 t16 m x r6 ways=>K (.exit 0) (encS (bound_meter_scale.h 3) (((),tiers,(),(),rate,(),t13,t14,t15,t16,()),(m,x,r6,ways,()),()))) n x.1.2.1 x.1.2.2.2.2.1 x.1.2.2.2.2.2.2.1 x.1.2.2.2.2.2.2.2.1 x.1.2.2.2.2.2.2.2.2.1 x.2.1.1 x.2.1.2.1 x.2.1.2.2.1 x.2.1.2.2.2.1
def bound_meter_scale.X (m:Int) (F:Nat):FX TI (G m) Sg:={hn:={na:=3,sp:=fun s=>lk 0 s [(0,2)]},lv:=[⟨82,bound_far.sp F⟩,⟨14,wide_Of.sp F⟩,⟨68,bound_meter_mul.sp F⟩,⟨72,bound_meter_add.sp F⟩],N:=75,H:=bound_meter_scale.h,HL:=bound_meter_scale.hl,L:=mkL bound_meter_scale.hl [⟨3,fun x R K=>bound_meter_scale.L3 F R K F x⟩]}
theorem bound_meter_scale.a0 (m:Int) (F:Nat):(bound_meter_scale.X m F).lp (loopsOf (bd Go.Proofs.Tryd.f70)) 0:=FX.loop _ _ 0 3 F (by kernel_rfl) (bound_meter_scale.L3 F) (fun _ _ _=>by kernel_rfl) (fun _ _ _ _=>by kernel_rfl) (fun _ _ _=>by kernel_rfl)
theorem bound_meter_scale.ok (m:Int) (F:Nat):OK Go.Proofs.Tryd.prog (G m) 70 bound_meter_scale.sg (bound_meter_scale.sp F) :=
 func_x (bound_meter_scale.X m F) mixed tsOK ⟨bound_far.ok m F,wide_Of.ok m F,bound_meter_mul.ok m F,bound_meter_add.ok m F,trivial⟩ trivial Go.Proofs.Tryd.func70 1 0 (by kernel_rfl) (at_cons (bound_meter_scale.a0 m F) at_nil) at_nil (fun _=>by kernel_rfl)
def wide_Sum.te:List (Nat×KS):=[(0,.b tWide),(2,.loc 2),(3,.c (.int .i64)),(4,.c (.int .u64)),(5,.c (.int .u64)),(6,.c (.int .i64)),(8,.loc 8),(9,.c (.int .u64)),(10,.loc 10),(11,.b tWide),(12,.c (.int .i64)),(13,.c (.int .i64)),(14,.c .bool),(50,.c .bool)]
def wide_Sum.tb:List (Nat×KS):=[(2,.g tWide),(8,.g tWide),(10,.g tWide)]
def wide_Sum.h:Nat→Shape:=shN wide_Sum.te wide_Sum.tb [] [(0,3,1,0),(1,27,1,0),(2,59,1,0),(3,3642,1,0),(4,7738,1,0),(5,3706,3,0),(6,3706,3,0),(7,3834,3,0),(8,3834,3,0),(9,3642,1,0),(10,3642,1,0),(11,290,5,0),(12,8450,5,0),(13,6,1,0),(14,6,1,0)]
def wide_Sum.hl:Nat→Shape:=shN wide_Sum.te wide_Sum.tb [] [(4,3642,1,0)]
def wide_Sum.L4 (F:Nat) (R:Type) (K:Ex→St→Option R) (n:Nat) (x:(Unit×Int×Int×Int×(List tWide.T)×Int×Int×Unit)×(tWide.T×Unit)×(Unit)):Option R :=
 wide_Sum.l4 F (fun lo hi top t11 t12 t13 t14 r2=>K (.exit 0) (encS (wide_Sum.h 4) (((),lo,hi,top,t11,t12,t13,t14,()),(r2,()),()))) n x.1.2.1 x.1.2.2.1 x.1.2.2.2.1 x.1.2.2.2.2.1 x.1.2.2.2.2.2.1 x.1.2.2.2.2.2.2.1 x.2.1.1
def wide_Sum.X (m:Int) (F:Nat):FX TI (G m) Sg:={hn:={na:=1},lv:=[⟨25,math_bits_Add64.sp F⟩],N:=53,H:=wide_Sum.h,HL:=wide_Sum.hl,L:=mkL wide_Sum.hl [⟨4,fun x R K=>wide_Sum.L4 F R K F x⟩]}
theorem wide_Sum.a0 (m:Int) (F:Nat):(wide_Sum.X m F).lp (loopsOf (bd Go.Proofs.Tryd.f71)) 0:=FX.loop _ _ 0 4 F (by kernel_rfl) (wide_Sum.L4 F) (fun _ _ _=>by kernel_rfl) (fun _ _ _ _=>by kernel_rfl) (fun _ _ _=>by kernel_rfl)
theorem wide_Sum.ok (m:Int) (F:Nat):OK Go.Proofs.Tryd.prog (G m) 71 wide_Sum.sg (wide_Sum.sp F) :=
 func_x (wide_Sum.X m F) mixed tsOK ⟨math_bits_Add64.ok m F,trivial⟩ trivial Go.Proofs.Tryd.func71 1 0 (by kernel_rfl) (at_cons (wide_Sum.a0 m F) at_nil) at_nil (fun _=>by kernel_rfl)
def bound_meter_node.te:List (Nat×KS):=[(0,.loc 0),(3,.b tWide),(5,.loc 5),(6,.loc 6),(8,.loc 8),(9,.loc 9),(11,.c (.int .i64)),(12,.c .bool),(17,.c .bool),(28,.c .bool),(31,.c .bool),(47,.c .bool),(57,.c .bool),(67,.c .bool),(96,.c .bool)]
def bound_meter_node.tb:List (Nat×KS):=[(0,.g tBound_meter),(5,.g tPlan),(6,.g tNode),(8,.g tWide),(9,.g tWide)]
def bound_meter_node.h:Nat→Shape:=shN bound_meter_node.te bound_meter_node.tb [] [(0,31,15,0),(1,95,15,0),(2,223,15,0),(3,16,9,0),(4,351,15,0),(5,16,9,0),(6,607,15,0),(7,16,9,0),(8,1119,15,0),(9,16,9,0),(10,2139,13,0),(11,16,9,0),(12,4187,13,0),(13,4187,13,0),(14,16,9,0),(15,8219,13,0),(16,18,9,0),(17,16,9,0),(18,57,29,0),(19,16441,29,0),(20,48,25,0),(21,16,9,0)]
def bound_meter_node.hj:Nat→Option Shape:=shO bound_meter_node.te bound_meter_node.tb [] [(18,27,13,0)]
def bound_meter_node.J18 (F:Nat) (R:Type) (K:Ex→St→Option R) (x:(Unit×(List tWide.T)×Unit×Unit×Unit)×(tBound_meter.T×tNode.T×tWide.T×Unit)×(Unit)):Option R :=
 bound_meter_node.j18 F (fun m r8=>K .ret (encS (bound_meter_node.h 21) (((),()),(m,r8,()),()))) x.1.2.1 x.2.1.1 x.2.1.2.1 x.2.1.2.2.1
def bound_meter_node.X (m:Int) (F:Nat):FX TI (G m) Sg:={hn:={na:=4},lv:=[⟨14,wide_Of.sp F⟩,⟨68,bound_meter_mul.sp F⟩,⟨31,times_Div.sp F⟩,⟨69,bound_meter_keep.sp F⟩,⟨70,bound_meter_scale.sp F⟩,⟨71,wide_Sum.sp F⟩,⟨72,bound_meter_add.sp F⟩],N:=104,H:=bound_meter_node.h,HJ:=bound_meter_node.hj,J:=mkJ bound_meter_node.hj [⟨18,fun x R K=>bound_meter_node.J18 F R K x⟩]}
theorem bound_meter_node.c0 (m:Int) (F:Nat):(bound_meter_node.X m F).ct (cutsOf (bound_meter_node.X m F).HJ (bd Go.Proofs.Tryd.f42)) 0:=FX.cut _ _ 0 18 (by kernel_rfl) (fun _ _ _=>by kernel_rfl)
theorem bound_meter_node.ok (m:Int) (F:Nat):OK Go.Proofs.Tryd.prog (G m) 42 bound_meter_node.sg (bound_meter_node.sp F) :=
 func_x (bound_meter_node.X m F) mixed tsOK ⟨wide_Of.ok m F,bound_meter_mul.ok m F,times_Div.ok m F,bound_meter_keep.ok m F,bound_meter_scale.ok m F,wide_Sum.ok m F,bound_meter_add.ok m F,trivial⟩ trivial Go.Proofs.Tryd.func42 0 1 (by kernel_rfl) at_nil (at_cons (bound_meter_node.c0 m F) at_nil) (fun _=>by kernel_rfl)
def wide_Cmp.te:List (Nat×KS):=[(2,.loc 2),(3,.loc 3),(4,.c (.int .i64)),(5,.c .bool),(9,.c .bool)]
def wide_Cmp.tb:List (Nat×KS):=[(2,.g tWide),(3,.g tWide)]
def wide_Cmp.h:Nat→Shape:=shN wide_Cmp.te wide_Cmp.tb [] [(0,3,3,0),(1,11,3,0),(2,4,0,0),(3,19,3,0),(4,16,0,0),(5,4,0,0),(6,4,0,0)]
def wide_Cmp.X (m:Int) (F:Nat):FX TI (G m) Sg:={hn:={na:=2},N:=27,H:=wide_Cmp.h}
theorem wide_Cmp.ok (m:Int) (F:Nat):OK Go.Proofs.Tryd.prog (G m) 12 wide_Cmp.sg (wide_Cmp.sp F) :=
 func_x (wide_Cmp.X m F) mixed tsOK trivial trivial Go.Proofs.Tryd.func12 0 0 (by kernel_rfl) at_nil at_nil (fun _=>by kernel_rfl)
def bound_above.te:List (Nat×KS):=[(2,.loc 2),(3,.loc 3),(4,.c .bool),(5,.loc 5),(9,.c .bool)]
def bound_above.tb:List (Nat×KS):=[(2,.g tNode),(3,.g tWide),(5,.g tWide)]
def bound_above.h:Nat→Shape:=shN bound_above.te bound_above.tb [] [(0,3,3,0),(1,11,7,0),(2,26,6,0),(3,10,6,0),(4,4,0,0)]
def bound_above.X (m:Int) (F:Nat):FX TI (G m) Sg:={hn:={na:=2},lv:=[⟨14,wide_Of.sp F⟩,⟨15,times_Mul.sp F⟩,⟨12,wide_Cmp.sp F⟩],N:=20,H:=bound_above.h}
theorem bound_above.ok (m:Int) (F:Nat):OK Go.Proofs.Tryd.prog (G m) 43 bound_above.sg (bound_above.sp F) :=
 func_x (bound_above.X m F) mixed tsOK ⟨wide_Of.ok m F,times_Mul.ok m F,wide_Cmp.ok m F,trivial⟩ trivial Go.Proofs.Tryd.func43 0 0 (by kernel_rfl) at_nil at_nil (fun _=>by kernel_rfl)
def bound_measured.te:List (Nat×KS):=[(2,.loc 2),(3,.loc 3),(4,.c (.sl tWide)),(5,.c (.int .i64)),(6,.c (.sl tWide)),(6,.ow 6),(7,.ow 7),(8,.loc 15),(9,.c (.int .i64)),(10,.loc 10),(11,.c (.int .i64)),(12,.loc 12),(17,.c (.sl tNode)),(18,.c (.int .i64)),(19,.c (.int .i64)),(20,.c .bool),(44,.c .bool)]
def bound_measured.tb:List (Nat×KS):=[(2,.g tPlan),(3,.g tWide),(10,.g tNode),(12,.g tWide),(15,.g tBound_meter)]
def bound_measured.tp:List OwnE:=[⟨6,.env 6,tWide⟩,⟨7,.env 7,tWide⟩]
def bound_measured.h:Nat→Shape:=shN bound_measured.te bound_measured.tb bound_measured.tp [(0,3,3,0),(1,99,3,3),(2,225,17,3),(3,28897,17,3),(4,61665,17,3),(5,29665,21,3),(6,30689,21,3),(7,32737,29,3),(8,97761,25,3),(9,12,0,0),(10,31969,25,3),(11,28897,17,3),(12,28897,17,3),(13,12,0,0)]
def bound_measured.hl:Nat→Shape:=shN bound_measured.te bound_measured.tb bound_measured.tp [(4,28897,17,3)]
def bound_measured.hj:Nat→Option Shape:=shO bound_measured.te bound_measured.tb bound_measured.tp [(13,16,0,0)]
def bound_measured.L4 (F:Nat) (R:Type) (K:Ex→St→Option R) (n:Nat) (x:(Unit×Unit×Unit×Unit×(List tNode.T)×Int×Int×Unit)×(tPlan.T×tBound_meter.T×Unit)×((List tWide.T)×(List tWide.T)×Unit)):Option R :=
 bound_measured.l4 F (fun r4 r5=>K .ret (encS (bound_measured.h 9) ((r4,r5,()),(),()))) (fun t17 t18 t19 t20 p m mags pile=>K (.exit 0) (encS (bound_measured.h 4) (((),(),(),(),t17,t18,t19,t20,()),(p,m,()),(mags,pile,())))) n x.1.2.2.2.2.1 x.1.2.2.2.2.2.1 x.1.2.2.2.2.2.2.1 x.2.1.1 x.2.1.2.1 x.2.2.1 x.2.2.2.1
def bound_measured.J13 (F:Nat) (R:Type) (K:Ex→St→Option R) (x:((List tWide.T)×Unit)×(Unit)×(Unit)):Option R :=
 bound_measured.j13 F (fun r4 r5=>K .ret (encS (bound_measured.h 13) ((r4,r5,()),(),()))) x.1.1
def bound_measured.X (m:Int) (F:Nat):FX TI (G m) Sg:={hn:={MU:=fun s=>lk false s [(49,true),(55,true)],na:=2,fzJ:=fun r=>lk [] r [(13,[6])]},lv:=[⟨41,bound_takes.sp F⟩,⟨42,bound_meter_node.sp F⟩,⟨43,bound_above.sp F⟩],N:=58,H:=bound_measured.h,HL:=bound_measured.hl,HJ:=bound_measured.hj,L:=mkL bound_measured.hl [⟨4,fun x R K=>bound_measured.L4 F R K F x⟩],J:=mkJ bound_measured.hj [⟨13,fun x R K=>bound_measured.J13 F R K x⟩]}
theorem bound_measured.a0 (m:Int) (F:Nat):(bound_measured.X m F).lp (loopsOf (bd Go.Proofs.Tryd.f24)) 0:=FX.loop _ _ 0 4 F (by kernel_rfl) (bound_measured.L4 F) (fun _ _ _=>by kernel_rfl) (fun _ _ _ _=>by kernel_rfl) (fun _ _ _=>by kernel_rfl)
theorem bound_measured.c0 (m:Int) (F:Nat):(bound_measured.X m F).ct (cutsOf (bound_measured.X m F).HJ (bd Go.Proofs.Tryd.f24)) 0:=FX.cut _ _ 0 13 (by kernel_rfl) (fun _ _ _=>by kernel_rfl)
theorem bound_measured.ok (m:Int) (F:Nat):OK Go.Proofs.Tryd.prog (G m) 24 bound_measured.sg (bound_measured.sp F) :=
 func_x (bound_measured.X m F) mixed tsOK ⟨bound_takes.ok m F,bound_meter_node.ok m F,bound_above.ok m F,trivial⟩ trivial Go.Proofs.Tryd.func24 1 1 (by kernel_rfl) (at_cons (bound_measured.a0 m F) at_nil) (at_cons (bound_measured.c0 m F) at_nil) (fun _=>by kernel_rfl)
def bound_Unit.te:List (Nat×KS):=[(1,.loc 1),(2,.loc 2),(3,.c (.int .i64)),(4,.c (.int .i64)),(6,.c (.int .i64)),(7,.c (.int .i64)),(8,.c (.int .i64)),(10,.loc 10),(11,.c (.int .i64)),(13,.c (.int .i64)),(21,.c .bool),(31,.c .bool),(49,.c .bool)]
def bound_Unit.tb:List (Nat×KS):=[(1,.g tPlan),(2,.g tWide),(10,.g tWide)]
def bound_Unit.h:Nat→Shape:=shN bound_Unit.te bound_Unit.tb [] [(0,3,3,0),(1,51,3,0),(2,1075,3,0),(3,14,2,0),(4,67,3,0),(5,2115,3,0),(6,14,2,0),(7,387,7,0),(8,898,6,0),(9,4994,6,0),(10,14,2,0),(11,14,2,0)]
def bound_Unit.X (m:Int) (F:Nat):FX TI (G m) Sg:={hn:={na:=1},lv:=[⟨21,units_Types.sp F⟩,⟨22,tree_Scale.sp F⟩,⟨23,times_Power.sp F⟩,⟨24,bound_measured.sp F⟩],N:=54,H:=bound_Unit.h}
theorem bound_Unit.ok (m:Int) (F:Nat):OK Go.Proofs.Tryd.prog (G m) 9 bound_Unit.sg (bound_Unit.sp F) :=
 func_x (bound_Unit.X m F) mixed tsOK ⟨units_Types.ok m F,tree_Scale.ok m F,times_Power.ok m F,bound_measured.ok m F,trivial⟩ trivial Go.Proofs.Tryd.func9 0 0 (by kernel_rfl) at_nil at_nil (fun _=>by kernel_rfl)
def eval_kids.te:List (Nat×KS):=[(1,.loc 1),(2,.c (.int .i64)),(4,.c (.int .i64)),(5,.c .bool),(10,.c .bool),(14,.c .bool),(19,.c .bool)]
def eval_kids.tb:List (Nat×KS):=[(1,.g tNode)]
def eval_kids.h:Nat→Shape:=shN eval_kids.te eval_kids.tb [] [(0,1,1,0),(1,5,1,0),(2,13,1,0),(3,13,1,0),(4,13,1,0),(5,13,1,0),(6,2,0,0),(7,21,1,0),(8,21,1,0),(9,21,1,0),(10,2,0,0),(11,37,1,0),(12,37,1,0),(13,2,0,0),(14,64,0,0),(15,2,0,0),(16,2,0,0)]
def eval_kids.hj:Nat→Option Shape:=shO eval_kids.te eval_kids.tb [] [(6,13,1,0),(10,21,1,0)]
def eval_kids.J10 (F:Nat) (R:Type) (K:Ex→St→Option R) (x:(Unit×Int×Bool×Unit)×(tNode.T×Unit)×(Unit)):Option R :=
 eval_kids.j10 F (fun r2=>K .ret (encS (eval_kids.h 10) ((r2,()),(),()))) (fun r2=>K .ret (encS (eval_kids.h 13) ((r2,()),(),()))) (fun r2=>K .ret (encS (eval_kids.h 15) ((r2,()),(),()))) (fun t19=>K .normal (encS (eval_kids.h 14) ((t19,()),(),()))) x.1.2.1 x.1.2.2.1 x.2.1.1
def eval_kids.J6 (F:Nat) (R:Type) (K:Ex→St→Option R) (x:(Unit×Int×Bool×Unit)×(tNode.T×Unit)×(Unit)):Option R :=
 eval_kids.j6 F (fun r2=>K .ret (encS (eval_kids.h 6) ((r2,()),(),()))) (fun r2=>K .ret (encS (eval_kids.h 10) ((r2,()),(),()))) (fun r2=>K .ret (encS (eval_kids.h 13) ((r2,()),(),()))) (fun r2=>K .ret (encS (eval_kids.h 15) ((r2,()),(),()))) (fun t19=>K .normal (encS (eval_kids.h 14) ((t19,()),(),()))) x.1.2.1 x.1.2.2.1 x.2.1.1
def eval_kids.X (m:Int) (F:Nat):FX TI (G m) Sg:={hn:={na:=1},N:=21,H:=eval_kids.h,HJ:=eval_kids.hj,J:=mkJ eval_kids.hj [⟨10,fun x R K=>eval_kids.J10 F R K x⟩,⟨6,fun x R K=>eval_kids.J6 F R K x⟩]}
theorem eval_kids.c0 (m:Int) (F:Nat):(eval_kids.X m F).ct (cutsOf (eval_kids.X m F).HJ (bd Go.Proofs.Tryd.f33)) 0:=FX.cut _ _ 0 6 (by kernel_rfl) (fun _ _ _=>by kernel_rfl)
theorem eval_kids.c1 (m:Int) (F:Nat):(eval_kids.X m F).ct (cutsOf (eval_kids.X m F).HJ (bd Go.Proofs.Tryd.f33)) 1:=FX.cut _ _ 1 10 (by kernel_rfl) (fun _ _ _=>by kernel_rfl)
theorem eval_kids.ok (m:Int) (F:Nat):OK Go.Proofs.Tryd.prog (G m) 33 eval_kids.sg (eval_kids.sp F) :=
 func_x (eval_kids.X m F) mixed tsOK trivial trivial Go.Proofs.Tryd.func33 0 2 (by kernel_rfl) at_nil (at_cons (eval_kids.c1 m F) (at_cons (eval_kids.c0 m F) at_nil)) (fun _=>by kernel_rfl)
def eval_sub.te:List (Nat×KS):=[(2,.loc 2),(3,.loc 3),(4,.loc 4),(5,.loc 5)]
def eval_sub.tb:List (Nat×KS):=[(2,.g tWide),(3,.g tWide),(4,.g tWide),(5,.g tWide)]
def eval_sub.h:Nat→Shape:=shN eval_sub.te eval_sub.tb [] [(0,7,7,0),(1,12,12,0),(2,4,4,0)]
def eval_sub.X (m:Int) (F:Nat):FX TI (G m) Sg:={hn:={na:=2},lv:=[⟨11,wide_Sub.sp F⟩],N:=14,H:=eval_sub.h}
theorem eval_sub.ok (m:Int) (F:Nat):OK Go.Proofs.Tryd.prog (G m) 47 eval_sub.sg (eval_sub.sp F) :=
 func_x (eval_sub.X m F) mixed tsOK ⟨wide_Sub.ok m F,trivial⟩ trivial Go.Proofs.Tryd.func47 0 0 (by kernel_rfl) at_nil at_nil (fun _=>by kernel_rfl)
def eval_add.te:List (Nat×KS):=[(2,.loc 2),(3,.loc 3),(4,.loc 4),(5,.loc 5)]
def eval_add.tb:List (Nat×KS):=[(2,.g tWide),(3,.g tWide),(4,.g tWide),(5,.g tWide)]
def eval_add.h:Nat→Shape:=shN eval_add.te eval_add.tb [] [(0,7,7,0),(1,12,12,0),(2,4,4,0)]
def eval_add.X (m:Int) (F:Nat):FX TI (G m) Sg:={hn:={na:=2},lv:=[⟨10,wide_Add.sp F⟩],N:=14,H:=eval_add.h}
theorem eval_add.ok (m:Int) (F:Nat):OK Go.Proofs.Tryd.prog (G m) 48 eval_add.sg (eval_add.sp F) :=
 func_x (eval_add.X m F) mixed tsOK ⟨wide_Add.ok m F,trivial⟩ trivial Go.Proofs.Tryd.func48 0 0 (by kernel_rfl) at_nil at_nil (fun _=>by kernel_rfl)
def eval_mul.te:List (Nat×KS):=[(2,.loc 2),(3,.loc 3),(4,.loc 4),(5,.loc 5)]
def eval_mul.tb:List (Nat×KS):=[(2,.g tWide),(3,.g tWide),(4,.g tWide),(5,.g tWide)]
def eval_mul.h:Nat→Shape:=shN eval_mul.te eval_mul.tb [] [(0,7,7,0),(1,12,12,0),(2,4,4,0)]
def eval_mul.X (m:Int) (F:Nat):FX TI (G m) Sg:={hn:={na:=2},lv:=[⟨15,times_Mul.sp F⟩],N:=14,H:=eval_mul.h}
theorem eval_mul.ok (m:Int) (F:Nat):OK Go.Proofs.Tryd.prog (G m) 49 eval_mul.sg (eval_mul.sp F) :=
 func_x (eval_mul.X m F) mixed tsOK ⟨times_Mul.ok m F,trivial⟩ trivial Go.Proofs.Tryd.func49 0 0 (by kernel_rfl) at_nil at_nil (fun _=>by kernel_rfl)
def slices_MinFunc_Wide.te:List (Nat×KS):=[(0,.b tWide),(1,.c .fn),(4,.loc 4),(5,.loc 5),(6,.c (.int .i64)),(9,.c .bool),(17,.c .bool),(27,.c .bool)]
def slices_MinFunc_Wide.tb:List (Nat×KS):=[(4,.g tWide),(5,.g tWide)]
def slices_MinFunc_Wide.h:Nat→Shape:=shN slices_MinFunc_Wide.te slices_MinFunc_Wide.tb [] [(0,7,1,0),(1,39,1,0),(3,15,3,0),(4,31,3,0),(5,95,3,0),(6,31,3,0),(7,159,3,0),(8,31,3,0),(9,4,1,0)]
def slices_MinFunc_Wide.hl:Nat→Shape:=shN slices_MinFunc_Wide.te slices_MinFunc_Wide.tb [] [(5,31,3,0)]
def slices_MinFunc_Wide.L5 (F:Nat) (R:Type) (K:Ex→St→Option R) (n:Nat) (x:((List tWide.T)×Nat×Unit×Unit×Int×Unit)×(tWide.T×tWide.T×Unit)×(Unit)):Option R :=
 slices_MinFunc_Wide.l5 F (fun x cmp i t17 r4 m=>K (.exit 0) (encS (slices_MinFunc_Wide.h 5) ((x,cmp,(),(),i,t17,()),(r4,m,()),()))) n x.1.1 x.1.2.1 x.1.2.2.2.2.1 x.2.1.1 x.2.1.2.1
def slices_MinFunc_Wide.X (m:Int) (F:Nat):FX TI (G m) Sg:={hn:={DS:=fun d=>lk none d [(26,some slices_MinFunc_Wide.ds26)],na:=2},ld:=[⟨26,slices_MinFunc_Wide.d26 F⟩],N:=33,H:=slices_MinFunc_Wide.h,HL:=slices_MinFunc_Wide.hl,L:=mkL slices_MinFunc_Wide.hl [⟨5,fun x R K=>slices_MinFunc_Wide.L5 F R K F x⟩]}
theorem slices_MinFunc_Wide.a0 (m:Int) (F:Nat):(slices_MinFunc_Wide.X m F).lp (loopsOf (bd Go.Proofs.Tryd.f50)) 0:=FX.loop _ _ 0 5 F (by kernel_rfl) (slices_MinFunc_Wide.L5 F) (fun _ _ _=>by kernel_rfl) (fun _ _ _ _=>by kernel_rfl) (fun _ _ _=>by kernel_rfl)
theorem slices_MinFunc_Wide.ok (m:Int) (F:Nat):OK Go.Proofs.Tryd.prog (G m) 50 slices_MinFunc_Wide.sg (slices_MinFunc_Wide.sp F) :=
 func_x (slices_MinFunc_Wide.X m F) mixed tsOK trivial ⟨mkT_ok ⟨⟨12,by kernel_rfl,wide_Cmp.ok m F⟩,trivial⟩,trivial⟩ Go.Proofs.Tryd.func50 1 0 (by kernel_rfl) (at_cons (slices_MinFunc_Wide.a0 m F) at_nil) at_nil (fun _=>by kernel_rfl)
def slices_MaxFunc_Wide.te:List (Nat×KS):=[(0,.b tWide),(1,.c .fn),(4,.loc 4),(5,.loc 5),(6,.c (.int .i64)),(9,.c .bool),(17,.c .bool),(27,.c .bool)]
def slices_MaxFunc_Wide.tb:List (Nat×KS):=[(4,.g tWide),(5,.g tWide)]
def slices_MaxFunc_Wide.h:Nat→Shape:=shN slices_MaxFunc_Wide.te slices_MaxFunc_Wide.tb [] [(0,7,1,0),(1,39,1,0),(3,15,3,0),(4,31,3,0),(5,95,3,0),(6,31,3,0),(7,159,3,0),(8,31,3,0),(9,4,1,0)]
def slices_MaxFunc_Wide.hl:Nat→Shape:=shN slices_MaxFunc_Wide.te slices_MaxFunc_Wide.tb [] [(5,31,3,0)]
def slices_MaxFunc_Wide.L5 (F:Nat) (R:Type) (K:Ex→St→Option R) (n:Nat) (x:((List tWide.T)×Nat×Unit×Unit×Int×Unit)×(tWide.T×tWide.T×Unit)×(Unit)):Option R :=
 slices_MaxFunc_Wide.l5 F (fun x cmp i t17 r4 m=>K (.exit 0) (encS (slices_MaxFunc_Wide.h 5) ((x,cmp,(),(),i,t17,()),(r4,m,()),()))) n x.1.1 x.1.2.1 x.1.2.2.2.2.1 x.2.1.1 x.2.1.2.1
def slices_MaxFunc_Wide.X (m:Int) (F:Nat):FX TI (G m) Sg:={hn:={DS:=fun d=>lk none d [(26,some slices_MaxFunc_Wide.ds26)],na:=2},ld:=[⟨26,slices_MaxFunc_Wide.d26 F⟩],N:=33,H:=slices_MaxFunc_Wide.h,HL:=slices_MaxFunc_Wide.hl,L:=mkL slices_MaxFunc_Wide.hl [⟨5,fun x R K=>slices_MaxFunc_Wide.L5 F R K F x⟩]}
theorem slices_MaxFunc_Wide.a0 (m:Int) (F:Nat):(slices_MaxFunc_Wide.X m F).lp (loopsOf (bd Go.Proofs.Tryd.f51)) 0:=FX.loop _ _ 0 5 F (by kernel_rfl) (slices_MaxFunc_Wide.L5 F) (fun _ _ _=>by kernel_rfl) (fun _ _ _ _=>by kernel_rfl) (fun _ _ _=>by kernel_rfl)
theorem slices_MaxFunc_Wide.ok (m:Int) (F:Nat):OK Go.Proofs.Tryd.prog (G m) 51 slices_MaxFunc_Wide.sg (slices_MaxFunc_Wide.sp F) :=
 func_x (slices_MaxFunc_Wide.X m F) mixed tsOK trivial ⟨mkT_ok ⟨⟨12,by kernel_rfl,wide_Cmp.ok m F⟩,trivial⟩,trivial⟩ Go.Proofs.Tryd.func51 1 0 (by kernel_rfl) (at_cons (slices_MaxFunc_Wide.a0 m F) at_nil) at_nil (fun _=>by kernel_rfl)
def eval_tier.te:List (Nat×KS):=[(1,.b tTier),(2,.loc 2),(4,.c (.int .i64)),(5,.c (.int .i64)),(22,.c .bool)]
def eval_tier.tb:List (Nat×KS):=[(2,.g tWide)]
def eval_tier.h:Nat→Shape:=shN eval_tier.te eval_tier.tb [] [(0,3,1,0),(1,11,1,0),(2,27,1,0),(3,11,1,0),(4,4,0,0)]
def eval_tier.hl:Nat→Shape:=shN eval_tier.te eval_tier.tb [] [(2,11,1,0)]
def eval_tier.L2 (F:Nat) (R:Type) (K:Ex→St→Option R) (n:Nat) (x:((List tTier.T)×Unit×Int×Unit)×(tWide.T×Unit)×(Unit)):Option R :=
 eval_tier.l2 F (fun tiers k t22 x=>K (.exit 0) (encS (eval_tier.h 2) ((tiers,(),k,t22,()),(x,()),()))) n x.1.1 x.1.2.2.1 x.2.1.1
def eval_tier.X (m:Int) (F:Nat):FX TI (G m) Sg:={hn:={na:=2},lv:=[⟨14,wide_Of.sp F⟩,⟨12,wide_Cmp.sp F⟩],N:=26,H:=eval_tier.h,HL:=eval_tier.hl,L:=mkL eval_tier.hl [⟨2,fun x R K=>eval_tier.L2 F R K F x⟩]}
theorem eval_tier.a0 (m:Int) (F:Nat):(eval_tier.X m F).lp (loopsOf (bd Go.Proofs.Tryd.f74)) 0:=FX.loop _ _ 0 2 F (by kernel_rfl) (eval_tier.L2 F) (fun _ _ _=>by kernel_rfl) (fun _ _ _ _=>by kernel_rfl) (fun _ _ _=>by kernel_rfl)
theorem eval_tier.ok (m:Int) (F:Nat):OK Go.Proofs.Tryd.prog (G m) 74 eval_tier.sg (eval_tier.sp F) :=
 func_x (eval_tier.X m F) mixed tsOK ⟨wide_Of.ok m F,wide_Cmp.ok m F,trivial⟩ trivial Go.Proofs.Tryd.func74 1 0 (by kernel_rfl) (at_cons (eval_tier.a0 m F) at_nil) at_nil (fun _=>by kernel_rfl)
def eval_graduated.te:List (Nat×KS):=[(1,.b tTier),(2,.loc 2),(4,.loc 4),(5,.loc 5),(6,.c (.int .i64)),(7,.c (.int .i64)),(14,.c .bool),(40,.c .bool)]
def eval_graduated.tb:List (Nat×KS):=[(2,.g tWide),(4,.g tWide),(5,.g tWide)]
def eval_graduated.h:Nat→Shape:=shN eval_graduated.te eval_graduated.tb [] [(0,7,3,0),(1,31,7,0),(2,63,7,0),(3,127,7,0),(4,63,7,0),(5,63,7,0),(6,159,7,0),(7,12,6,0),(8,4,2,0)]
def eval_graduated.hl:Nat→Shape:=shN eval_graduated.te eval_graduated.tb [] [(3,63,7,0)]
def eval_graduated.L3 (F:Nat) (R:Type) (K:Ex→St→Option R) (n:Nat) (x:((List tTier.T)×Unit×Unit×Unit×Int×Int×Unit)×(tWide.T×tWide.T×tWide.T×Unit)×(Unit)):Option R :=
 eval_graduated.l3 F (fun tiers k i t14 x r4 sum=>K (.exit 0) (encS (eval_graduated.h 3) ((tiers,(),(),(),k,i,t14,()),(x,r4,sum,()),()))) n x.1.1 x.1.2.2.2.2.1 x.1.2.2.2.2.2.1 x.2.1.1 x.2.1.2.1 x.2.1.2.2.1
def eval_graduated.X (m:Int) (F:Nat):FX TI (G m) Sg:={hn:={na:=2},lv:=[⟨74,eval_tier.sp F⟩,⟨14,wide_Of.sp F⟩,⟨49,eval_mul.sp F⟩,⟨48,eval_add.sp F⟩,⟨47,eval_sub.sp F⟩],N:=59,H:=eval_graduated.h,HL:=eval_graduated.hl,L:=mkL eval_graduated.hl [⟨3,fun x R K=>eval_graduated.L3 F R K F x⟩]}
theorem eval_graduated.a0 (m:Int) (F:Nat):(eval_graduated.X m F).lp (loopsOf (bd Go.Proofs.Tryd.f52)) 0:=FX.loop _ _ 0 3 F (by kernel_rfl) (eval_graduated.L3 F) (fun _ _ _=>by kernel_rfl) (fun _ _ _ _=>by kernel_rfl) (fun _ _ _=>by kernel_rfl)
theorem eval_graduated.ok (m:Int) (F:Nat):OK Go.Proofs.Tryd.prog (G m) 52 eval_graduated.sg (eval_graduated.sp F) :=
 func_x (eval_graduated.X m F) mixed tsOK ⟨eval_tier.ok m F,wide_Of.ok m F,eval_mul.ok m F,eval_add.ok m F,eval_sub.ok m F,trivial⟩ trivial Go.Proofs.Tryd.func52 1 0 (by kernel_rfl) (at_cons (eval_graduated.a0 m F) at_nil) at_nil (fun _=>by kernel_rfl)
def eval_volume.te:List (Nat×KS):=[(1,.b tTier),(2,.loc 2),(4,.loc 4),(5,.c (.int .i64)),(10,.c .bool)]
def eval_volume.tb:List (Nat×KS):=[(2,.g tWide),(4,.g tWide)]
def eval_volume.h:Nat→Shape:=shN eval_volume.te eval_volume.tb [] [(0,7,3,0),(1,15,3,0),(2,31,3,0),(3,4,2,0),(4,4,2,0)]
def eval_volume.X (m:Int) (F:Nat):FX TI (G m) Sg:={hn:={na:=2},lv:=[⟨74,eval_tier.sp F⟩,⟨14,wide_Of.sp F⟩,⟨49,eval_mul.sp F⟩],N:=20,H:=eval_volume.h}
theorem eval_volume.ok (m:Int) (F:Nat):OK Go.Proofs.Tryd.prog (G m) 53 eval_volume.sg (eval_volume.sp F) :=
 func_x (eval_volume.X m F) mixed tsOK ⟨eval_tier.ok m F,wide_Of.ok m F,eval_mul.ok m F,trivial⟩ trivial Go.Proofs.Tryd.func53 0 0 (by kernel_rfl) at_nil at_nil (fun _=>by kernel_rfl)
def eval_holds.te:List (Nat×KS):=[(2,.c (.int .i64)),(3,.loc 3),(4,.loc 4),(6,.c .bool),(7,.c (.int .i64)),(11,.c (.int .i64)),(12,.c .bool),(16,.c .bool),(20,.c .bool),(24,.c .bool),(28,.c .bool)]
def eval_holds.tb:List (Nat×KS):=[(3,.g tWide),(4,.g tWide)]
def eval_holds.h:Nat→Shape:=shN eval_holds.te eval_holds.tb [] [(0,7,3,0),(1,17,0,0),(2,48,0,0),(3,112,0,0),(4,8,0,0),(5,176,0,0),(6,8,0,0),(7,304,0,0),(8,8,0,0),(9,560,0,0),(10,8,0,0),(11,1040,0,0),(12,8,0,0),(13,8,0,0)]
def eval_holds.X (m:Int) (F:Nat):FX TI (G m) Sg:={hn:={na:=3},lv:=[⟨12,wide_Cmp.sp F⟩],N:=34,H:=eval_holds.h}
theorem eval_holds.ok (m:Int) (F:Nat):OK Go.Proofs.Tryd.prog (G m) 54 eval_holds.sg (eval_holds.sp F) :=
 func_x (eval_holds.X m F) mixed tsOK ⟨wide_Cmp.ok m F,trivial⟩ trivial Go.Proofs.Tryd.func54 0 0 (by kernel_rfl) at_nil at_nil (fun _=>by kernel_rfl)
def eval_inner.te:List (Nat×KS):=[(2,.b tWide),(3,.loc 3),(4,.loc 4),(6,.loc 6),(7,.loc 7),(8,.loc 8),(9,.loc 9),(18,.c (.int .i64)),(19,.c .bool),(24,.c .bool),(31,.c .bool),(38,.c .bool),(45,.c .bool),(49,.c .bool),(53,.c .bool),(61,.c .bool),(67,.c .bool),(75,.c .bool),(83,.c .bool),(101,.c .bool)]
def eval_inner.tb:List (Nat×KS):=[(3,.g tNode),(4,.g tWide),(6,.g tWide),(7,.g tWide),(8,.g tWide),(9,.g tWide)]
def eval_inner.h:Nat→Shape:=shN eval_inner.te eval_inner.tb [] [(0,15,7,0),(1,63,31,0),(2,191,31,0),(3,447,31,0),(4,8,4,0),(5,703,31,0),(6,8,4,0),(7,1215,31,0),(8,8,4,0),(9,2239,31,0),(10,8,4,0),(11,4287,31,0),(12,8,4,0),(13,8383,31,0),(14,8,4,0),(15,16575,31,0),(16,8,4,0),(17,32959,31,0),(18,8,4,0),(19,65727,31,0),(20,8,4,0),(21,131263,31,0),(22,8,4,0),(23,262203,29,0),(24,72,36,0),(25,8,4,0),(26,524297,4,0),(27,8,4,0),(28,8,4,0)]
def eval_inner.X (m:Int) (F:Nat):FX TI (G m) Sg:={hn:={na:=3},lv:=[⟨14,wide_Of.sp F⟩,⟨47,eval_sub.sp F⟩,⟨48,eval_add.sp F⟩,⟨49,eval_mul.sp F⟩,⟨50,slices_MinFunc_Wide.sp F⟩,⟨51,slices_MaxFunc_Wide.sp F⟩,⟨52,eval_graduated.sp F⟩,⟨53,eval_volume.sp F⟩,⟨31,times_Div.sp F⟩,⟨54,eval_holds.sp F⟩],N:=108,H:=eval_inner.h}
theorem eval_inner.ok (m:Int) (F:Nat):OK Go.Proofs.Tryd.prog (G m) 34 eval_inner.sg (eval_inner.sp F) :=
 func_x (eval_inner.X m F) mixed tsOK ⟨wide_Of.ok m F,eval_sub.ok m F,eval_add.ok m F,eval_mul.ok m F,slices_MinFunc_Wide.ok m F,slices_MaxFunc_Wide.ok m F,eval_graduated.ok m F,eval_volume.ok m F,times_Div.ok m F,eval_holds.ok m F,trivial⟩ trivial Go.Proofs.Tryd.func34 0 0 (by kernel_rfl) at_nil at_nil (fun _=>by kernel_rfl)
def eval_leaf.te:List (Nat×KS):=[(3,.b (.int .i64)),(4,.loc 4),(5,.loc 5),(6,.loc 6),(8,.loc 8),(9,.c (.int .i64)),(11,.c (.int .i64)),(12,.c .bool),(17,.c .bool),(24,.c .bool)]
def eval_leaf.tb:List (Nat×KS):=[(4,.g tPlan),(5,.g tNode),(6,.g tWide),(8,.g tWide)]
def eval_leaf.h:Nat→Shape:=shN eval_leaf.te eval_leaf.tb [] [(0,31,15,0),(1,95,15,0),(2,223,15,0),(3,16,8,0),(4,351,15,0),(5,16,8,0),(6,535,11,0),(7,16,8,0),(8,53,10,0),(9,16,8,0)]
def eval_leaf.X (m:Int) (F:Nat):FX TI (G m) Sg:={hn:={na:=4},lv:=[⟨14,wide_Of.sp F⟩,⟨49,eval_mul.sp F⟩],N:=56,H:=eval_leaf.h}
theorem eval_leaf.ok (m:Int) (F:Nat):OK Go.Proofs.Tryd.prog (G m) 35 eval_leaf.sg (eval_leaf.sp F) :=
 func_x (eval_leaf.X m F) mixed tsOK ⟨wide_Of.ok m F,eval_mul.ok m F,trivial⟩ trivial Go.Proofs.Tryd.func35 0 0 (by kernel_rfl) at_nil at_nil (fun _=>by kernel_rfl)
def eval_Values.te:List (Nat×KS):=[(1,.b (.int .i64)),(2,.loc 2),(4,.c (.sl tWide)),(5,.c (.int .i64)),(6,.loc 6),(8,.c (.int .i64)),(10,.c (.int .i64)),(11,.c (.sl tWide)),(11,.ow 11),(12,.ow 12),(14,.loc 14),(15,.loc 15),(16,.c (.int .i64)),(24,.c .bool),(31,.c .bool),(32,.b (.int .i64)),(33,.c (.int .i64)),(34,.c (.int .i64)),(35,.c .bool),(43,.c .bool),(46,.c (.sl tNode)),(47,.c (.int .i64)),(48,.c (.int .i64)),(49,.c .bool),(61,.c .bool)]
def eval_Values.tb:List (Nat×KS):=[(2,.g tPlan),(6,.g tWide),(14,.g tNode),(15,.g tWide)]
def eval_Values.tp:List OwnE:=[⟨11,.env 11,tWide⟩,⟨12,.env 12,tWide⟩]
def eval_Values.h:Nat→Shape:=shN eval_Values.te eval_Values.tb eval_Values.tp [(0,3,1,0),(1,51,3,0),(2,8243,3,0),(3,12,0,0),(4,16403,3,0),(5,12,0,0),(6,229395,3,0),(7,491539,3,0),(8,229459,3,0),(9,753683,3,0),(10,12,0,0),(11,229395,3,0),(12,787,3,3),(13,7340819,3,3),(14,15729427,3,3),(15,7341843,7,3),(16,7343891,15,3),(17,7347987,15,3),(18,24125203,15,3),(19,7346963,11,3),(20,7346963,11,3),(21,7346963,11,3),(22,7340819,3,3),(23,7340819,3,3),(24,12,0,0)]
def eval_Values.hl:Nat→Shape:=shN eval_Values.te eval_Values.tb eval_Values.tp [(7,229395,3,0),(14,7340819,3,3)]
def eval_Values.hj:Nat→Option Shape:=shO eval_Values.te eval_Values.tb eval_Values.tp [(24,128,0,0)]
def eval_Values.L7 (F:Nat) (R:Type) (K:Ex→St→Option R) (n:Nat) (x:((List Int)×Unit×Unit×(List Int)×Int×Int×Unit)×(tPlan.T×tWide.T×Unit)×(Unit)):Option R :=
 eval_Values.l7 F (fun r4 r5=>K .ret (encS (eval_Values.h 10) ((r4,r5,()),(),()))) (fun q t32 t33 t34 t35 p unit=>K (.exit 0) (encS (eval_Values.h 7) ((q,(),(),t32,t33,t34,t35,()),(p,unit,()),()))) n x.1.1 x.1.2.2.2.1 x.1.2.2.2.2.1 x.1.2.2.2.2.2.1 x.2.1.1 x.2.1.2.1
def eval_Values.L14 (F:Nat) (R:Type) (K:Ex→St→Option R) (n:Nat) (x:((List Int)×Unit×Unit×Unit×Unit×(List tNode.T)×Int×Int×Unit)×(tPlan.T×tWide.T×Unit)×((List tWide.T)×(List tWide.T)×Unit)):Option R :=
 eval_Values.l14 F (fun q t46 t47 t48 t49 p unit values pile=>K (.exit 2) (encS (eval_Values.h 14) ((q,(),(),(),(),t46,t47,t48,t49,()),(p,unit,()),(values,pile,())))) n x.1.1 x.1.2.2.2.2.2.1 x.1.2.2.2.2.2.2.1 x.1.2.2.2.2.2.2.2.1 x.2.1.1 x.2.1.2.1 x.2.2.1 x.2.2.2.1
def eval_Values.J24 (F:Nat) (R:Type) (K:Ex→St→Option R) (x:((List tWide.T)×Unit)×(Unit)×(Unit)):Option R :=
 eval_Values.j24 F (fun r4 r5=>K .ret (encS (eval_Values.h 24) ((r4,r5,()),(),()))) x.1.1
def eval_Values.X (m:Int) (F:Nat):FX TI (G m) Sg:={hn:={MU:=fun s=>lk false s [(76,true),(82,true)],na:=2,fzJ:=fun r=>lk [] r [(24,[11])]},lv:=[⟨9,bound_Unit.sp F⟩,⟨33,eval_kids.sp F⟩,⟨34,eval_inner.sp F⟩,⟨35,eval_leaf.sp F⟩],N:=85,H:=eval_Values.h,HL:=eval_Values.hl,HJ:=eval_Values.hj,L:=mkL eval_Values.hl [⟨7,fun x R K=>eval_Values.L7 F R K F x⟩,⟨14,fun x R K=>eval_Values.L14 F R K F x⟩],J:=mkJ eval_Values.hj [⟨24,fun x R K=>eval_Values.J24 F R K x⟩]}
theorem eval_Values.a0 (m:Int) (F:Nat):(eval_Values.X m F).lp (loopsOf (bd Go.Proofs.Tryd.f19)) 0:=FX.loop _ _ 0 7 F (by kernel_rfl) (eval_Values.L7 F) (fun _ _ _=>by kernel_rfl) (fun _ _ _ _=>by kernel_rfl) (fun _ _ _=>by kernel_rfl)
theorem eval_Values.a1 (m:Int) (F:Nat):(eval_Values.X m F).lp (loopsOf (bd Go.Proofs.Tryd.f19)) 1:=FX.loop _ _ 1 14 F (by kernel_rfl) (eval_Values.L14 F) (fun _ _ _=>by kernel_rfl) (fun _ _ _ _=>by kernel_rfl) (fun _ _ _=>by kernel_rfl)
theorem eval_Values.c0 (m:Int) (F:Nat):(eval_Values.X m F).ct (cutsOf (eval_Values.X m F).HJ (bd Go.Proofs.Tryd.f19)) 0:=FX.cut _ _ 0 24 (by kernel_rfl) (fun _ _ _=>by kernel_rfl)
theorem eval_Values.ok (m:Int) (F:Nat):OK Go.Proofs.Tryd.prog (G m) 19 eval_Values.sg (eval_Values.sp F) :=
 func_x (eval_Values.X m F) mixed tsOK ⟨bound_Unit.ok m F,eval_kids.ok m F,eval_inner.ok m F,eval_leaf.ok m F,trivial⟩ trivial Go.Proofs.Tryd.func19 2 1 (by kernel_rfl) (at_cons (eval_Values.a1 m F) (at_cons (eval_Values.a0 m F) at_nil)) (at_cons (eval_Values.c0 m F) at_nil) (fun _=>by kernel_rfl)
def eval_Exact.te:List (Nat×KS):=[(1,.b (.int .i64)),(2,.loc 2),(4,.loc 4),(5,.c (.int .i64)),(6,.c (.sl tWide)),(7,.c (.int .i64)),(15,.c .bool)]
def eval_Exact.tb:List (Nat×KS):=[(2,.g tPlan),(4,.g tWide)]
def eval_Exact.h:Nat→Shape:=shN eval_Exact.te eval_Exact.tb [] [(0,7,3,0),(1,52,2,0),(2,116,2,0),(3,12,2,0),(4,12,2,0)]
def eval_Exact.X (m:Int) (F:Nat):FX TI (G m) Sg:={hn:={na:=2},lv:=[⟨19,eval_Values.sp F⟩],N:=24,H:=eval_Exact.h}
theorem eval_Exact.ok (m:Int) (F:Nat):OK Go.Proofs.Tryd.prog (G m) 8 eval_Exact.sg (eval_Exact.sp F) :=
 func_x (eval_Exact.X m F) mixed tsOK ⟨eval_Values.ok m F,trivial⟩ trivial Go.Proofs.Tryd.func8 0 0 (by kernel_rfl) at_nil at_nil (fun _=>by kernel_rfl)
def wide_Int.te:List (Nat×KS):=[(1,.loc 1),(2,.c (.int .i64)),(3,.c .bool),(4,.c (.int .i64)),(12,.c .bool)]
def wide_Int.tb:List (Nat×KS):=[(1,.g tWide)]
def wide_Int.h:Nat→Shape:=shN wide_Int.te wide_Int.tb [] [(0,1,1,0),(1,9,1,0),(2,24,0,0),(3,6,0,0),(4,6,0,0)]
def wide_Int.X (m:Int) (F:Nat):FX TI (G m) Sg:={hn:={na:=1},N:=14,H:=wide_Int.h}
theorem wide_Int.ok (m:Int) (F:Nat):OK Go.Proofs.Tryd.prog (G m) 32 wide_Int.sg (wide_Int.sp F) :=
 func_x (wide_Int.X m F) mixed tsOK trivial trivial Go.Proofs.Tryd.func32 0 0 (by kernel_rfl) at_nil at_nil (fun _=>by kernel_rfl)
def eval_Price.te:List (Nat×KS):=[(1,.b (.int .i64)),(2,.loc 2),(4,.c (.int .i64)),(5,.c (.int .i64)),(6,.loc 6),(7,.c (.int .i64)),(8,.loc 8),(11,.loc 11),(13,.c (.int .i64)),(14,.c .bool),(22,.c .bool),(52,.c .bool)]
def eval_Price.tb:List (Nat×KS):=[(2,.g tPlan),(6,.g tWide),(8,.g tWide),(11,.g tWide)]
def eval_Price.h:Nat→Shape:=shN eval_Price.te eval_Price.tb [] [(0,3,1,0),(1,50,3,0),(2,1074,3,0),(3,12,0,0),(4,82,7,0),(5,128,8,0),(6,768,0,0),(7,2304,0,0),(8,12,0,0),(9,12,0,0)]
def eval_Price.X (m:Int) (F:Nat):FX TI (G m) Sg:={hn:={na:=2},lv:=[⟨8,eval_Exact.sp F⟩,⟨9,bound_Unit.sp F⟩,⟨31,times_Div.sp F⟩,⟨32,wide_Int.sp F⟩],N:=54,H:=eval_Price.h}
theorem eval_Price.ok (m:Int) (F:Nat):OK Go.Proofs.Tryd.prog (G m) 16 eval_Price.sg (eval_Price.sp F) :=
 func_x (eval_Price.X m F) mixed tsOK ⟨eval_Exact.ok m F,bound_Unit.ok m F,times_Div.ok m F,wide_Int.ok m F,trivial⟩ trivial Go.Proofs.Tryd.func16 0 0 (by kernel_rfl) at_nil at_nil (fun _=>by kernel_rfl)
def octroilaw10_wides.te:List (Nat×KS):=[(0,.b tWide),(1,.b tWide),(4,.c .bool),(5,.c (.int .i64)),(10,.c .bool),(14,.c .bool),(25,.c .bool)]
def octroilaw10_wides.h:Nat→Shape:=shN octroilaw10_wides.te [] [] [(0,3,0,0),(1,19,0,0),(2,4,0,0),(3,11,0,0),(4,43,0,0),(5,11,0,0),(6,75,0,0),(7,4,0,0),(8,4,0,0)]
def octroilaw10_wides.hl:Nat→Shape:=shN octroilaw10_wides.te [] [] [(4,11,0,0)]
def octroilaw10_wides.L4 (F:Nat) (R:Type) (K:Ex→St→Option R) (n:Nat) (x:((List tWide.T)×(List tWide.T)×Int×Unit)×(Unit)×(Unit)):Option R :=
 octroilaw10_wides.l4 F (fun r4=>K .ret (encS (octroilaw10_wides.h 7) ((r4,()),(),()))) (fun a b i t14=>K (.exit 0) (encS (octroilaw10_wides.h 4) ((a,b,i,t14,()),(),()))) n x.1.1 x.1.2.1 x.1.2.2.1
def octroilaw10_wides.X (m:Int) (F:Nat):FX TI (G m) Sg:={hn:={na:=2},N:=26,H:=octroilaw10_wides.h,HL:=octroilaw10_wides.hl,L:=mkL octroilaw10_wides.hl [⟨4,fun x R K=>octroilaw10_wides.L4 F R K F x⟩]}
theorem octroilaw10_wides.a0 (m:Int) (F:Nat):(octroilaw10_wides.X m F).lp (loopsOf (bd Go.Proofs.Tryd.f20)) 0:=FX.loop _ _ 0 4 F (by kernel_rfl) (octroilaw10_wides.L4 F) (fun _ _ _=>by kernel_rfl) (fun _ _ _ _=>by kernel_rfl) (fun _ _ _=>by kernel_rfl)
theorem octroilaw10_wides.ok (m:Int) (F:Nat):OK Go.Proofs.Tryd.prog (G m) 20 octroilaw10_wides.sg (octroilaw10_wides.sp F) :=
 func_x (octroilaw10_wides.X m F) mixed tsOK trivial trivial Go.Proofs.Tryd.func20 1 0 (by kernel_rfl) (at_cons (octroilaw10_wides.a0 m F) at_nil) at_nil (fun _=>by kernel_rfl)
def octroilaw10_awake.te:List (Nat×KS):=[(0,.c .bool),(1,.loc 1),(2,.c (.sl tWide)),(3,.c (.int .i64)),(4,.c (.int .i64)),(5,.c (.int .i64)),(7,.c (.int .i64)),(8,.loc 8),(9,.c (.int .i64))]
def octroilaw10_awake.tb:List (Nat×KS):=[(1,.g tPlan),(8,.g tWide)]
def octroilaw10_awake.h:Nat→Shape:=shN octroilaw10_awake.te octroilaw10_awake.tb [] [(1,2,1,0),(2,14,1,0),(3,62,1,0),(4,124,0,0),(5,508,2,0),(6,1,0,0)]
def octroilaw10_awake.X (m:Int) (F:Nat):FX TI (G m) Sg:={hn:={na:=0},lv:=[⟨13,octroilaw10_one.sp F⟩,⟨19,eval_Values.sp F⟩,⟨16,eval_Price.sp F⟩,⟨8,eval_Exact.sp F⟩,⟨14,wide_Of.sp F⟩,⟨20,octroilaw10_wides.sp F⟩],N:=74,H:=octroilaw10_awake.h}
theorem octroilaw10_awake.ok (m:Int) (F:Nat):OK Go.Proofs.Tryd.prog (G m) 7 octroilaw10_awake.sg (octroilaw10_awake.sp F) :=
 func_x (octroilaw10_awake.X m F) mixed tsOK ⟨octroilaw10_one.ok m F,eval_Values.ok m F,eval_Price.ok m F,eval_Exact.ok m F,wide_Of.ok m F,octroilaw10_wides.ok m F,trivial⟩ trivial Go.Proofs.Tryd.func7 0 0 (by kernel_rfl) at_nil at_nil (fun _=>by kernel_rfl)
def octroilaw10_EvalSums.te:List (Nat×KS):=[(2,.b (.int .i64)),(3,.loc 3),(4,.loc 4),(6,.c .bool),(7,.loc 7),(8,.c (.int .i64)),(9,.loc 9),(10,.c (.int .i64)),(11,.loc 11),(13,.c (.int .i64)),(14,.loc 14),(16,.c (.int .i64)),(17,.c (.sl tNode)),(18,.loc 18),(20,.loc 20),(22,.loc 22),(23,.c (.int .i64)),(24,.loc 24),(25,.loc 25),(26,.c (.int .i64)),(28,.c .bool),(90,.c .bool),(116,.c .bool),(122,.c .bool),(164,.c .bool)]
def octroilaw10_EvalSums.tb:List (Nat×KS):=[(3,.g tPlan),(4,.g tPlan),(7,.g tWide),(9,.g tWide),(11,.g tWide),(14,.g tWide),(18,.g tWide),(20,.g tWide),(22,.g (.pair tWide (.pair tWide (.pair tWide tWide)))),(24,.g tPlan),(24,.go tPlan [(3,25003)]),(25,.g tWide)]
def octroilaw10_EvalSums.tp:List OwnE:=[⟨25003,.cell 24 3,tNode⟩]
def octroilaw10_EvalSums.h:Nat→Shape:=shN octroilaw10_EvalSums.te octroilaw10_EvalSums.tb octroilaw10_EvalSums.tp [(0,7,3,0),(1,1048583,3,0),(2,8,0,0),(3,7,3,0),(4,7,3,0),(5,7,3,0),(6,55,7,0),(7,247,15,0),(8,1015,31,0),(9,4087,63,0),(10,2097239,15,0),(11,8,0,0),(12,4183,15,0),(13,12375,79,0),(14,28759,207,0),(15,36951,271,0),(16,4231255,271,0),(17,36887,263,0),(18,36871,259,0),(19,102407,259,0),(20,8491015,259,0),(21,102407,259,0),(22,233479,771,0),(23,233479,1283,1),(24,233479,1283,1),(25,233479,1283,1),(26,888839,2307,0),(27,16879623,259,0),(28,8,0,0),(29,8,0,0)]
def octroilaw10_EvalSums.hl:Nat→Shape:=shN octroilaw10_EvalSums.te octroilaw10_EvalSums.tb octroilaw10_EvalSums.tp [(20,102407,259,0)]
def octroilaw10_EvalSums.hj:Nat→Option Shape:=shO octroilaw10_EvalSums.te octroilaw10_EvalSums.tb octroilaw10_EvalSums.tp [(19,36871,259,0)]
def octroilaw10_EvalSums.L20 (F:Nat) (R:Type) (K:Ex→St→Option R) (n:Nat) (x:((List Int)×Unit×Unit×(List tNode.T)×Unit×Int×Unit)×(tPlan.T×tPlan.T×(tWide.T×tWide.T×tWide.T×tWide.T)×Unit)×(Unit)):Option R :=
 octroilaw10_EvalSums.l20 F (fun r6=>K .ret (encS (octroilaw10_EvalSums.h 28) ((r6,()),(),()))) (fun at_ nodes i t122 p q want=>K (.exit 0) (encS (octroilaw10_EvalSums.h 20) ((at_,(),(),nodes,(),i,t122,()),(p,q,want,()),()))) n x.1.1 x.1.2.2.2.1 x.1.2.2.2.2.2.1 x.2.1.1 x.2.1.2.1 x.2.1.2.2.1
def octroilaw10_EvalSums.J19 (F:Nat) (R:Type) (K:Ex→St→Option R) (x:((List Int)×Unit×Unit×(List tNode.T)×Unit×Unit)×(tPlan.T×tPlan.T×(tWide.T×tWide.T×tWide.T×tWide.T)×Unit)×(Unit)):Option R :=
 octroilaw10_EvalSums.j19 F (fun r6=>K .ret (encS (octroilaw10_EvalSums.h 28) ((r6,()),(),()))) (fun r6=>K .ret (encS (octroilaw10_EvalSums.h 29) ((r6,()),(),()))) x.1.1 x.1.2.2.2.1 x.2.1.1 x.2.1.2.1 x.2.1.2.2.1
def octroilaw10_EvalSums.X (m:Int) (F:Nat):FX TI (G m) Sg:={hn:={MU:=fun s=>lk false s [(126,true)],na:=3,fzO:=fun r=>lk [] r [(149,[25003])]},lv:=[⟨7,octroilaw10_awake.sp F⟩,⟨8,eval_Exact.sp F⟩,⟨9,bound_Unit.sp F⟩,⟨10,wide_Add.sp F⟩,⟨11,wide_Sub.sp F⟩,⟨12,wide_Cmp.sp F⟩],N:=165,H:=octroilaw10_EvalSums.h,HL:=octroilaw10_EvalSums.hl,HJ:=octroilaw10_EvalSums.hj,L:=mkL octroilaw10_EvalSums.hl [⟨20,fun x R K=>octroilaw10_EvalSums.L20 F R K F x⟩],J:=mkJ octroilaw10_EvalSums.hj [⟨19,fun x R K=>octroilaw10_EvalSums.J19 F R K x⟩]}
theorem octroilaw10_EvalSums.a0 (m:Int) (F:Nat):(octroilaw10_EvalSums.X m F).lp (loopsOf (bd Go.Proofs.Tryd.f3)) 0:=FX.loop _ _ 0 20 F (by kernel_rfl) (octroilaw10_EvalSums.L20 F) (fun _ _ _=>by kernel_rfl) (fun _ _ _ _=>by kernel_rfl) (fun _ _ _=>by kernel_rfl)
theorem octroilaw10_EvalSums.c0 (m:Int) (F:Nat):(octroilaw10_EvalSums.X m F).ct (cutsOf (octroilaw10_EvalSums.X m F).HJ (bd Go.Proofs.Tryd.f3)) 0:=FX.cut _ _ 0 19 (by kernel_rfl) (fun _ _ _=>by kernel_rfl)
theorem octroilaw10_EvalSums.ok (m:Int) (F:Nat):OK Go.Proofs.Tryd.prog (G m) 3 octroilaw10_EvalSums.sg (octroilaw10_EvalSums.sp F) :=
 func_x (octroilaw10_EvalSums.X m F) mixed tsOK ⟨octroilaw10_awake.ok m F,eval_Exact.ok m F,bound_Unit.ok m F,wide_Add.ok m F,wide_Sub.ok m F,wide_Cmp.ok m F,trivial⟩ trivial Go.Proofs.Tryd.func3 1 1 (by kernel_rfl) (at_cons (octroilaw10_EvalSums.a0 m F) at_nil) (at_cons (octroilaw10_EvalSums.c0 m F) at_nil) (fun _=>by kernel_rfl)
def octroilaw10_EvalTiers.te:List (Nat×KS):=[(0,.b tTier),(1,.c (.int .i64)),(4,.c .bool),(5,.loc 5),(6,.loc 6),(7,.loc 7),(8,.c (.int .i64)),(9,.loc 9),(10,.c (.int .i64)),(11,.loc 11),(12,.c (.int .i64)),(13,.loc 13),(14,.c (.int .i64)),(15,.c (.int .i64)),(16,.c (.int .i64)),(17,.loc 17),(18,.c (.int .i64)),(19,.loc 19),(20,.c (.int .i64)),(22,.c .bool),(25,.c .bool),(59,.c .bool),(74,.c .bool),(76,.c .bool),(96,.c .bool),(105,.c .bool)]
def octroilaw10_EvalTiers.tb:List (Nat×KS):=[(5,.g tPlan),(6,.g tPlan),(7,.g tWide),(9,.g tWide),(11,.g tWide),(13,.g tWide),(17,.g tWide),(19,.g tWide)]
def octroilaw10_EvalTiers.h:Nat→Shape:=shN octroilaw10_EvalTiers.te octroilaw10_EvalTiers.tb [] [(0,3,0,0),(1,524291,0,0),(2,4,0,0),(3,1048579,0,0),(4,4,0,0),(5,11,1,0),(6,27,3,0),(7,123,7,0),(8,507,15,0),(9,2097659,15,0),(10,4,0,0),(11,4194363,7,0),(12,4,0,0),(13,8388667,7,0),(14,4,0,0),(15,1587,22,0),(16,7715,52,0),(17,15907,52,0),(18,32291,52,0),(19,16809507,52,0),(20,32291,52,0),(21,33586723,52,0),(22,32291,52,0),(23,114178,112,0),(24,499200,240,0),(25,4,0,0)]
def octroilaw10_EvalTiers.hl:Nat→Shape:=shN octroilaw10_EvalTiers.te octroilaw10_EvalTiers.tb [] [(19,32291,52,0)]
def octroilaw10_EvalTiers.hj:Nat→Option Shape:=shO octroilaw10_EvalTiers.te octroilaw10_EvalTiers.tb [] [(13,59,7,0)]
def octroilaw10_EvalTiers.L19 (F:Nat) (R:Type) (K:Ex→St→Option R) (n:Nat) (x:((List tTier.T)×Int×Unit×Unit×Int×Unit×Int×Int×Int×Unit)×(tWide.T×tWide.T×tWide.T×Unit)×(Unit)):Option R :=
 octroilaw10_EvalTiers.l19 F (fun tiers q f h rate i t96 a b d=>K (.exit 0) (encS (octroilaw10_EvalTiers.h 19) ((tiers,q,(),(),f,(),h,rate,i,t96,()),(a,b,d,()),()))) n x.1.1 x.1.2.1 x.1.2.2.2.2.1 x.1.2.2.2.2.2.2.1 x.1.2.2.2.2.2.2.2.1 x.1.2.2.2.2.2.2.2.2.1 x.2.1.1 x.2.1.2.1 x.2.1.2.2.1
def octroilaw10_EvalTiers.J13 (F:Nat) (R:Type) (K:Ex→St→Option R) (x:((List tTier.T)×Int×Unit×Unit×Unit×Unit)×(tPlan.T×tPlan.T×tWide.T×Unit)×(Unit)):Option R :=
 octroilaw10_EvalTiers.j13 F (fun r4=>K .ret (encS (octroilaw10_EvalTiers.h 14) ((r4,()),(),()))) (fun r4=>K .ret (encS (octroilaw10_EvalTiers.h 25) ((r4,()),(),()))) x.1.1 x.1.2.1 x.2.1.1 x.2.1.2.1 x.2.1.2.2.1
def octroilaw10_EvalTiers.X (m:Int) (F:Nat):FX TI (G m) Sg:={hn:={MU:=fun s=>lk false s [(27,true),(34,true)],na:=2,fzO:=fun r=>lk [] r [(31,[29]),(38,[36])]},lv:=[⟨7,octroilaw10_awake.sp F⟩,⟨13,octroilaw10_one.sp F⟩,⟨8,eval_Exact.sp F⟩,⟨14,wide_Of.sp F⟩,⟨10,wide_Add.sp F⟩,⟨15,times_Mul.sp F⟩],N:=151,H:=octroilaw10_EvalTiers.h,HL:=octroilaw10_EvalTiers.hl,HJ:=octroilaw10_EvalTiers.hj,L:=mkL octroilaw10_EvalTiers.hl [⟨19,fun x R K=>octroilaw10_EvalTiers.L19 F R K F x⟩],J:=mkJ octroilaw10_EvalTiers.hj [⟨13,fun x R K=>octroilaw10_EvalTiers.J13 F R K x⟩]}
theorem octroilaw10_EvalTiers.c0 (m:Int) (F:Nat):(octroilaw10_EvalTiers.X m F).ct (cutsOf (octroilaw10_EvalTiers.X m F).HJ (bd Go.Proofs.Tryd.f4)) 0:=FX.cut _ _ 0 13 (by kernel_rfl) (fun _ _ _=>by kernel_rfl)
def octroilaw10_EvalRounds.te:List (Nat×KS):=[(1,.b (.int .i64)),(2,.loc 2),(4,.c .bool),(5,.c (.int .i64)),(6,.c (.int .i64)),(7,.loc 7),(8,.c (.int .i64)),(9,.loc 9),(11,.c (.int .i64)),(12,.loc 12),(13,.c (.int .i64)),(14,.loc 14),(15,.c (.int .i64)),(16,.loc 16),(17,.c (.int .i64)),(18,.loc 18),(21,.c .bool),(41,.c .bool),(95,.c .bool),(104,.c .bool),(113,.c .bool),(115,.c (.int .i64)),(116,.c .bool),(121,.c .bool),(126,.c .bool)]
def octroilaw10_EvalRounds.tb:List (Nat×KS):=[(2,.g tPlan),(7,.g tWide),(9,.g tWide),(12,.g tWide),(14,.g tWide),(16,.g tWide),(18,.g tWide)]
def octroilaw10_EvalRounds.h:Nat→Shape:=shN octroilaw10_EvalRounds.te octroilaw10_EvalRounds.tb [] [(0,3,1,0),(1,65539,1,0),(2,4,0,0),(3,27,1,0),(4,122,3,0),(5,506,7,0),(6,131578,7,0),(7,4,0,0),(8,2026,15,0),(9,7658,23,0),(10,32234,55,0),(11,272546,55,0),(12,4,0,0),(13,534690,55,0),(14,4,0,0),(15,43170,119,0),(16,1058978,55,0),(17,4,0,0),(18,2107552,54,0),(19,6301856,54,0),(20,4,0,0),(21,10496160,54,0),(22,4,0,0),(23,16787616,54,0),(24,4,0,0),(25,4,0,0)]
def octroilaw10_EvalRounds.hj:Nat→Option Shape:=shO octroilaw10_EvalRounds.te octroilaw10_EvalRounds.tb [] [(15,10402,55,0)]
def octroilaw10_EvalRounds.J15 (F:Nat) (R:Type) (K:Ex→St→Option R) (x:(Unit×Unit×Unit×Unit×Unit×Unit)×(tPlan.T×tWide.T×tWide.T×tWide.T×tWide.T×Unit)×(Unit)):Option R :=
 octroilaw10_EvalRounds.j15 F (fun r4=>K .ret (encS (octroilaw10_EvalRounds.h 17) ((r4,()),(),()))) (fun r4=>K .ret (encS (octroilaw10_EvalRounds.h 20) ((r4,()),(),()))) (fun r4=>K .ret (encS (octroilaw10_EvalRounds.h 22) ((r4,()),(),()))) (fun r4=>K .ret (encS (octroilaw10_EvalRounds.h 24) ((r4,()),(),()))) (fun r4=>K .ret (encS (octroilaw10_EvalRounds.h 25) ((r4,()),(),()))) x.2.1.1 x.2.1.2.1 x.2.1.2.2.1 x.2.1.2.2.2.1 x.2.1.2.2.2.2.1
def octroilaw10_EvalRounds.X (m:Int) (F:Nat):FX TI (G m) Sg:={hn:={na:=2},lv:=[⟨7,octroilaw10_awake.sp F⟩,⟨16,eval_Price.sp F⟩,⟨8,eval_Exact.sp F⟩,⟨9,bound_Unit.sp F⟩,⟨14,wide_Of.sp F⟩,⟨15,times_Mul.sp F⟩,⟨11,wide_Sub.sp F⟩,⟨17,octroilaw10_further.sp F⟩,⟨18,wide_Sign.sp F⟩,⟨10,wide_Add.sp F⟩],N:=142,H:=octroilaw10_EvalRounds.h,HJ:=octroilaw10_EvalRounds.hj,J:=mkJ octroilaw10_EvalRounds.hj [⟨15,fun x R K=>octroilaw10_EvalRounds.J15 F R K x⟩]}
theorem octroilaw10_EvalRounds.c0 (m:Int) (F:Nat):(octroilaw10_EvalRounds.X m F).ct (cutsOf (octroilaw10_EvalRounds.X m F).HJ (bd Go.Proofs.Tryd.f5)) 0:=FX.cut _ _ 0 15 (by kernel_rfl) (fun _ _ _=>by kernel_rfl)
end Go.VS
