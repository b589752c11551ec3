import Derived.Test.YthekefnghiaocaaDoorH
set_option linter.unusedVariables false
set_option linter.unusedSimpArgs false
set_option linter.unusedSectionVars false
set_option linter.unusedVariables false
set_option maxRecDepth 100000
namespace Go.VS
open Go
@[reducible] def octroilaw10_one.sg:Sig:={args:=[.d (.c (.sl tNode))],res:=[.g tPlan]}
def octroilaw10_one.sh (F:Nat) (nodes:List tNode.T):Option octroilaw10_one.sg.R :=
 some ((((⟨#[112]⟩:ByteArray),([((⟨#[97]⟩:ByteArray),10)]:List tDim.T),0,nodes),()),())
def octroilaw10_one.sp (F:Nat):TA octroilaw10_one.sg.args→Option octroilaw10_one.sg.R:=fun x=>octroilaw10_one.sh F x.1
@[reducible] def scan_letter.sg:Sig:={args:=[.d (.c (.int .u8))],res:=[.c .bool]}
def scan_letter.sh (F:Nat) (c:Int):Option scan_letter.sg.R :=
 bif decide (c ≥ 97) then some ((decide (c ≤ 122),()),())
 else some ((false,()),())
def scan_letter.sp (F:Nat):TA scan_letter.sg.args→Option scan_letter.sg.R:=fun x=>scan_letter.sh F x.1
@[reducible] def scan_digit.sg:Sig:={args:=[.d (.c (.int .u8))],res:=[.c .bool]}
def scan_digit.sh (F:Nat) (c:Int):Option scan_digit.sg.R :=
 bif decide (c ≥ 48) then some ((decide (c ≤ 57),()),())
 else some ((false,()),())
def scan_digit.sp (F:Nat):TA scan_digit.sg.args→Option scan_digit.sg.R:=fun x=>scan_digit.sh F x.1
@[reducible] def scan_inner.sg:Sig:={args:=[.d (.c (.int .u8))],res:=[.c .bool]}
def scan_inner.sh (F:Nat) (c:Int):Option scan_inner.sg.R :=
 oB (scan_letter.sh F c) fun c_1 =>
 bif c_1.1.1 then some ((true,()),())
 else oB (scan_digit.sh F c) fun c_2 =>
 bif c_2.1.1 then some ((true,()),())
 else some (((c == 95),()),())
def scan_inner.sp (F:Nat):TA scan_inner.sg.args→Option scan_inner.sg.R:=fun x=>scan_inner.sh F x.1
@[reducible] def scan_run.sg:Sig:={args:=[.d (.c .str),.d (.c .fn)],res:=[.c (.int .i64)]}
@[reducible] def scan_run.ds15:Sig:={args:=[.d (.c (.int .u8))],res:=[.c .bool]}
def scan_run.d15 (F:Nat):Nat→TA scan_run.ds15.args→Option scan_run.ds15.R:=mkT scan_run.ds15 [(fn_scan_inner,scan_inner.sp F),(fn_scan_letter,scan_letter.sp F)]
def scan_run.l2.body {R:Type} (F:Nat) (k0:ByteArray→Nat→Int→Bool→Option R) (rec:ByteArray→Nat→Int→Option R) (s:ByteArray) (of:Nat) (n:Int):Option R :=
 bif decide (n < (s.size:Int)) then bif idx n s.size then oB (scan_run.d15 F of (bt s n,())) fun c_1 =>
   bif c_1.1.1 then rec s of (IntKind.i64.wrap (n + 1))
   else k0 s of n c_1.1.1
  else none
 else k0 s of n false
def scan_run.l2 {R:Type} (F:Nat) (k0:ByteArray→Nat→Int→Bool→Option R):Nat→ByteArray→Nat→Int→Option R
 | 0,_,_,_=>none
 | fu + 1,s,of,n=>scan_run.l2.body F k0 (scan_run.l2 F k0 fu) s of n
def scan_run.sh (F:Nat) (s:ByteArray) (of_:Nat):Option scan_run.sg.R :=
 scan_run.l2 F (fun s2 of2 n2 t162=>some ((n2,()),())) F s of_ 0
def scan_run.sp (F:Nat):TA scan_run.sg.args→Option scan_run.sg.R:=fun x=>scan_run.sh F x.1 x.2.1
@[reducible] def scan_Word.sg:Sig:={args:=[.d (.c .str)],res:=[.c .bool]}
def scan_Word.sh (F:Nat) (s:ByteArray):Option scan_Word.sg.R :=
 bif !(s.toList == (⟨#[]⟩:ByteArray).toList) then oB (scan_run.sh F s fn_scan_letter) fun c_1 =>
  bif (c_1.1.1 == (s.size:Int)) then bif Nat.ble ((⟨#[32]⟩:ByteArray).size + s.size) maxN then bif Nat.ble (((⟨#[32]⟩:ByteArray) ++ s).size + (⟨#[32]⟩:ByteArray).size) maxN then oB (strings_Contains.sh F (⟨#[32,112,108,97,110,32,114,111,117,110,100,32,98,121,32,98,108,111,99,107,115,32,109,105,110,32,109,97,120,32,111,118,101,114,32,117,112,116,111,32,103,114,97,100,117,97,116,101,100,32,118,111,108,117,109,101,32,111,102,102,32,105,102,32,102,108,111,111,114,32,99,101,105,108,32,122,101,114,111,32,104,97,108,102,32,101,118,101,110,32]⟩:ByteArray) (((⟨#[32]⟩:ByteArray) ++ s) ++ (⟨#[32]⟩:ByteArray))) fun c_2 =>
     some ((c_2.1.1,()),())
    else none
   else none
  else some ((false,()),())
 else some ((false,()),())
def scan_Word.sp (F:Nat):TA scan_Word.sg.args→Option scan_Word.sg.R:=fun x=>scan_Word.sh F x.1
@[reducible] def scan_Name.sg:Sig:={args:=[.d (.c .str)],res:=[.c .bool]}
def scan_Name.sh (F:Nat) (s:ByteArray):Option scan_Name.sg.R :=
 bif !(s.toList == (⟨#[]⟩:ByteArray).toList) then bif decide ((s.size:Int) ≤ 32) then bif idx 0 s.size then oB (scan_letter.sh F (bt s 0)) fun c_1 =>
    bif c_1.1.1 then oB (scan_run.sh F s fn_scan_inner) fun c_2 =>
     bif (c_2.1.1 == (s.size:Int)) then oB (scan_Word.sh F s) fun c_3 =>
      some ((!c_3.1.1,()),())
     else some ((false,()),())
    else some ((false,()),())
   else none
  else some ((false,()),())
 else some ((false,()),())
def scan_Name.sp (F:Nat):TA scan_Name.sg.args→Option scan_Name.sg.R:=fun x=>scan_Name.sh F x.1
@[reducible] def tree_head_c1.sg:Sig:={args:=[.d (.g tDim),.d (.p tDim)],res:=[.c .bool]}
def tree_head_c1.sh (F:Nat) (e:tDim.T) (t1:tDim.T):Option tree_head_c1.sg.R :=
 some (((e.1.toList == t1.1.toList),()),())
def tree_head_c1.sp (F:Nat):TA tree_head_c1.sg.args→Option tree_head_c1.sg.R:=fun x=>tree_head_c1.sh F x.1 x.2.1
@[reducible] def slices_IndexFunc_Dim.sg:Sig:={args:=[.d (.b tDim),.d (.cl tDim)],res:=[.c (.int .i64)]}
@[reducible] def slices_IndexFunc_Dim.ds16:Sig:={args:=[.d (.g tDim),.d (.p tDim)],res:=[.c .bool]}
def slices_IndexFunc_Dim.d16 (F:Nat):Nat→TA slices_IndexFunc_Dim.ds16.args→Option slices_IndexFunc_Dim.ds16.R:=mkT slices_IndexFunc_Dim.ds16 [(fn_tree_head_c1,tree_head_c1.sp F)]
def slices_IndexFunc_Dim.l2.body {R:Type} (F:Nat) (k0:Int→Option R) (k1:(List tDim.T)→(Nat×tDim.T)→Int→Int→Bool→Option R) (rec:(List tDim.T)→(Nat×tDim.T)→Int→Int→Option R) (s:List tDim.T) (f:Nat×tDim.T) (t7:Int) (t8:Int):Option R :=
 bif decide (t8 < t7) then bif idx t8 s.length then oB (slices_IndexFunc_Dim.d16 F (f.1 + 1) ((get tDim s t8.toNat),f.2,())) fun c_1 =>
   bif c_1.1.1 then k0 t8
   else rec s (f.1,f.2) t7 (IntKind.i64.wrap (t8 + 1))
  else none
 else k1 s (f.1,f.2) t7 t8 (decide (t8 < t7))
def slices_IndexFunc_Dim.l2 {R:Type} (F:Nat) (k0:Int→Option R) (k1:(List tDim.T)→(Nat×tDim.T)→Int→Int→Bool→Option R):Nat→(List tDim.T)→(Nat×tDim.T)→Int→Int→Option R
 | 0,_,_,_,_=>none
 | fu + 1,s,f,t7,t8=>slices_IndexFunc_Dim.l2.body F k0 k1 (slices_IndexFunc_Dim.l2 F k0 k1 fu) s f t7 t8
def slices_IndexFunc_Dim.sh (F:Nat) (s:List tDim.T) (f:Nat×tDim.T):Option slices_IndexFunc_Dim.sg.R :=
 slices_IndexFunc_Dim.l2 F (fun r42=>some ((r42,()),())) (fun s3 f3 t73 t83 t93=>some (((-1),()),())) F s (f.1,f.2) (s.length:Int) 0
def slices_IndexFunc_Dim.sp (F:Nat):TA slices_IndexFunc_Dim.sg.args→Option slices_IndexFunc_Dim.sg.R:=fun x=>slices_IndexFunc_Dim.sh F x.1 x.2.1
@[reducible] def slices_ContainsFunc_Dim.sg:Sig:={args:=[.d (.b tDim),.d (.cl tDim)],res:=[.c .bool]}
def slices_ContainsFunc_Dim.sh (F:Nat) (s:List tDim.T) (f:Nat×tDim.T):Option slices_ContainsFunc_Dim.sg.R :=
 oB (slices_IndexFunc_Dim.sh F s (f.1,f.2)) fun c_1 =>
 some ((decide (c_1.1.1 ≥ 0),()),())
def slices_ContainsFunc_Dim.sp (F:Nat):TA slices_ContainsFunc_Dim.sg.args→Option slices_ContainsFunc_Dim.sg.R:=fun x=>slices_ContainsFunc_Dim.sh F x.1 x.2.1
@[reducible] def tree_head.sg:Sig:={args:=[.d (.g tPlan)],res:=[.c (.int .i64)]}
def tree_head.l6.body {R:Type} (F:Nat) (k0:Int→Option R) (k1:Int→Option R) (k2:(List tDim.T)→Int→Int→Bool→tPlan.T→Option R) (rec:(List tDim.T)→Int→Int→tPlan.T→Option R) (t21:List tDim.T) (t22:Int) (t23:Int) (p:tPlan.T):Option R :=
 bif decide (t23 < t22) then bif idx t23 t21.length then oB (scan_Name.sh F (get tDim t21 t23.toNat).1) fun c_2 =>
   bif !c_2.1.1 then k0 61
   else bif (bounds p.2.1.length none (some t23)).1 then oB (slices_ContainsFunc_Dim.sh F ((p.2.1.take (bounds p.2.1.length none (some t23)).2.2).drop (bounds p.2.1.length none (some t23)).2.1) (cl_tree_head_c1,(get tDim t21 t23.toNat))) fun c_3 =>
    bif c_3.1.1 then k0 61
    else bif decide ((get tDim t21 t23.toNat).2 < 1) then k1 50
    else bif decide ((get tDim t21 t23.toNat).2 > 1000000000000) then k1 50
    else rec t21 t22 (IntKind.i64.wrap (t23 + 1)) p
   else none
  else none
 else k2 t21 t22 t23 (decide (t23 < t22)) p
def tree_head.l6 {R:Type} (F:Nat) (k0:Int→Option R) (k1:Int→Option R) (k2:(List tDim.T)→Int→Int→Bool→tPlan.T→Option R):Nat→(List tDim.T)→Int→Int→tPlan.T→Option R
 | 0,_,_,_,_=>none
 | fu + 1,t21,t22,t23,p=>tree_head.l6.body F k0 k1 k2 (tree_head.l6 F k0 k1 k2 fu) t21 t22 t23 p
def tree_head.sh (F:Nat) (p:tPlan.T):Option tree_head.sg.R :=
 oB (scan_Name.sh F p.1) fun c_1 =>
 bif !c_1.1.1 then some ((61,()),())
 else bif decide ((p.2.1.length:Int) < 1) then some ((100,()),())
 else bif decide ((p.2.1.length:Int) > 4) then some ((100,()),())
 else tree_head.l6 F (fun r24=>some ((r24,()),())) (fun r25=>some ((r25,()),())) (fun t216 t226 t236 t246 p6=>bif decide (p6.2.2.1 < 0) then some ((50,()),())
 else bif decide (p6.2.2.1 > 4) then some ((50,()),())
 else some ((0,()),())) F p.2.1 (p.2.1.length:Int) 0 p
def tree_head.sp (F:Nat):TA tree_head.sg.args→Option tree_head.sg.R:=fun x=>tree_head.sh F x.1
@[reducible] def tree_takes.sg:Sig:={args:=[.d (.g tNode)],res:=[.c (.int .i64)]}
def tree_takes.sh (F:Nat) (n:tNode.T):Option tree_takes.sg.R :=
 bif idx n.1 17 then bif decide ((get tTree_asks kindsL n.1.toNat).1 ≥ 0) then some (((get tTree_asks kindsL n.1.toNat).1,()),())
  else some ((n.2.2.2.1,()),())
 else none
def tree_takes.sp (F:Nat):TA tree_takes.sg.args→Option tree_takes.sg.R:=fun x=>tree_takes.sh F x.1
@[reducible] def tree_rising.sg:Sig:={args:=[.d (.b tTier)],res:=[.c .bool]}
def tree_rising.l4.body {R:Type} (F:Nat) (k0:Bool→Option R) (k1:(List tTier.T)→(List tTier.T)→Int→Int→Bool→Option R) (rec:(List tTier.T)→(List tTier.T)→Int→Int→Option R) (tiers:List tTier.T) (t20:List tTier.T) (t21:Int) (t22:Int):Option R :=
 bif decide (t22 < t21) then bif idx t22 t20.length then bif decide (t22 > 0) then bif idx (IntKind.i64.wrap (t22 - 1)) tiers.length then bif decide ((get tTier t20 t22.toNat).1 ≤ (get tTier tiers ((IntKind.i64.wrap (t22 - 1)).toNat)).1) then k0 false
     else bif decide ((get tTier t20 t22.toNat).1 > 1000000000000) then k0 false
     else bif decide ((get tTier t20 t22.toNat).2 < (-1000000000000)) then k0 false
     else bif decide ((get tTier t20 t22.toNat).2 > 1000000000000) then k0 false
     else rec tiers t20 t21 (IntKind.i64.wrap (t22 + 1))
    else none
   else bif decide ((get tTier t20 t22.toNat).1 > 1000000000000) then k0 false
   else bif decide ((get tTier t20 t22.toNat).2 < (-1000000000000)) then k0 false
   else bif decide ((get tTier t20 t22.toNat).2 > 1000000000000) then k0 false
   else rec tiers t20 t21 (IntKind.i64.wrap (t22 + 1))
  else none
 else k1 tiers t20 t21 t22 (decide (t22 < t21))
def tree_rising.l4 {R:Type} (F:Nat) (k0:Bool→Option R) (k1:(List tTier.T)→(List tTier.T)→Int→Int→Bool→Option R):Nat→(List tTier.T)→(List tTier.T)→Int→Int→Option R
 | 0,_,_,_,_=>none
 | fu + 1,tiers,t20,t21,t22=>tree_rising.l4.body F k0 k1 (tree_rising.l4 F k0 k1 fu) tiers t20 t21 t22
def tree_rising.sh (F:Nat) (tiers:List tTier.T):Option tree_rising.sg.R :=
 bif decide ((tiers.length:Int) < 1) then some ((false,()),())
 else bif decide ((tiers.length:Int) > 16) then some ((false,()),())
 else bif idx 0 tiers.length then bif ((get tTier tiers 0).1 != 0) then some ((false,()),())
  else tree_rising.l4 F (fun r21=>some ((r21,()),())) (fun tiers2 t202 t212 t222 t232=>some ((true,()),())) F tiers tiers (tiers.length:Int) 0
 else none
def tree_rising.sp (F:Nat):TA tree_rising.sg.args→Option tree_rising.sg.R:=fun x=>tree_rising.sh F x.1
@[reducible] def tree_node.sg:Sig:={args:=[.d (.g tNode),.d (.c (.int .i64)),.d (.c (.int .i64))],res:=[.c (.int .i64)]}
def tree_node.j13 {R:Type} (F:Nat) (k0:Int→Option R) (k1:Int→Option R) (k2:Int→Option R) (pile:Int) (most:Int) (kids:Bool) (op:Bool) (n:tNode.T) (k:tTree_asks.T):Option R :=
 bif decide (n.2.1 < 0) then k0 50
 else bif decide (n.2.1 > most) then k0 50
 else bif !kids then k0 50
 else bif !op then k0 50
 else bif !k.2.2.1 then bif decide ((n.2.2.2.2.1.length:Int) > 0) then k0 50
  else oB (tree_takes.sh F n) fun c_1 =>
  bif decide (pile < c_1.1.1) then k0 50
  else bif k.2.2.1 then oB (tree_rising.sh F n.2.2.2.2.1) fun c_2 =>
   bif !c_2.1.1 then k1 51
   else k2 0
  else k2 0
 else oB (tree_takes.sh F n) fun c_3 =>
 bif decide (pile < c_3.1.1) then k0 50
 else bif k.2.2.1 then oB (tree_rising.sh F n.2.2.2.2.1) fun c_4 =>
  bif !c_4.1.1 then k1 51
  else k2 0
 else k2 0
def tree_node.j10 {R:Type} (F:Nat) (k0:Int→Option R) (k1:Int→Option R) (k2:Int→Option R) (pile:Int) (most:Int) (kids:Bool) (n:tNode.T) (k:tTree_asks.T):Option R :=
 bif k.2.2.2 then bif decide (n.2.2.1 ≥ 1) then tree_node.j13 F (fun r65=>k0 r65) (fun r66=>k1 r66) (fun r67=>k2 r67) pile most kids (decide (n.2.2.1 ≤ 6)) n k
  else tree_node.j13 F (fun r68=>k0 r68) (fun r69=>k1 r69) (fun r610=>k2 r610) pile most kids false n k
 else tree_node.j13 F (fun r611=>k0 r611) (fun r612=>k1 r612) (fun r613=>k2 r613) pile most kids (n.2.2.1 == 0) n k
def tree_node.j7 {R:Type} (F:Nat) (k0:Int→Option R) (k1:Int→Option R) (k2:Int→Option R) (pile:Int) (most:Int) (n:tNode.T) (k:tTree_asks.T):Option R :=
 bif decide (k.1 < 0) then bif decide (n.2.2.2.1 ≥ 2) then tree_node.j10 F (fun r614=>k0 r614) (fun r615=>k1 r615) (fun r616=>k2 r616) pile most (decide (n.2.2.2.1 ≤ 16)) n k
  else tree_node.j10 F (fun r617=>k0 r617) (fun r618=>k1 r618) (fun r619=>k2 r619) pile most false n k
 else tree_node.j10 F (fun r620=>k0 r620) (fun r621=>k1 r621) (fun r622=>k2 r622) pile most (n.2.2.2.1 == 0) n k
def tree_node.sh (F:Nat) (n:tNode.T) (dims:Int) (pile:Int):Option tree_node.sg.R :=
 bif decide (n.1 < 1) then some ((50,()),())
 else bif decide (n.1 > 16) then some ((50,()),())
 else bif idx n.1 17 then bif decide ((get tTree_asks kindsL n.1.toNat).2.1 < 0) then tree_node.j7 F (fun r623=>some ((r623,()),())) (fun r624=>some ((r624,()),())) (fun r625=>some ((r625,()),())) pile (IntKind.i64.wrap (dims - 1)) n (get tTree_asks kindsL n.1.toNat)
  else tree_node.j7 F (fun r626=>some ((r626,()),())) (fun r627=>some ((r627,()),())) (fun r628=>some ((r628,()),())) pile (get tTree_asks kindsL n.1.toNat).2.1 n (get tTree_asks kindsL n.1.toNat)
 else none
def tree_node.sp (F:Nat):TA tree_node.sg.args→Option tree_node.sg.R:=fun x=>tree_node.sh F x.1 x.2.1 x.2.2.1
@[reducible] def tree_Check.sg:Sig:={args:=[.d (.g tPlan)],res:=[.c (.int .i64),.c (.int .i64)]}
def tree_Check.l8.body {R:Type} (F:Nat) (k0:Int→Int→Option R) (k1:Int→(List tNode.T)→Int→Int→Bool→tPlan.T→Option R) (rec:Int→(List tNode.T)→Int→Int→tPlan.T→Option R) (pile:Int) (t19:List tNode.T) (t20:Int) (t21:Int) (p:tPlan.T):Option R :=
 bif decide (t21 < t20) then bif idx t21 t19.length then oB (tree_node.sh F (get tNode t19 t21.toNat) (p.2.1.length:Int) pile) fun c_2 =>
   bif (c_2.1.1 != 0) then k0 t21 c_2.1.1
   else oB (tree_takes.sh F (get tNode t19 t21.toNat)) fun c_3 =>
   rec (IntKind.i64.wrap (pile + (IntKind.i64.wrap (1 - c_3.1.1)))) t19 t20 (IntKind.i64.wrap (t21 + 1)) p
  else none
 else k1 pile t19 t20 t21 (decide (t21 < t20)) p
def tree_Check.l8 {R:Type} (F:Nat) (k0:Int→Int→Option R) (k1:Int→(List tNode.T)→Int→Int→Bool→tPlan.T→Option R):Nat→Int→(List tNode.T)→Int→Int→tPlan.T→Option R
 | 0,_,_,_,_,_=>none
 | fu + 1,pile,t19,t20,t21,p=>tree_Check.l8.body F k0 k1 (tree_Check.l8 F k0 k1 fu) pile t19 t20 t21 p
def tree_Check.sh (F:Nat) (p:tPlan.T):Option tree_Check.sg.R :=
 oB (tree_head.sh F p) fun c_1 =>
 bif (c_1.1.1 != 0) then some (((-1),c_1.1.1,()),())
 else bif decide ((p.2.2.2.length:Int) > 1024) then some ((1024,2,()),())
 else tree_Check.l8 F (fun r24 r34=>some ((r24,r34,()),())) (fun pile5 t195 t205 t215 t225 p5=>bif (pile5 != 1) then some (((p5.2.2.2.length:Int),50,()),())
 else some ((0,0,()),())) F 0 p.2.2.2 (p.2.2.2.length:Int) 0 p
def tree_Check.sp (F:Nat):TA tree_Check.sg.args→Option tree_Check.sg.R:=fun x=>tree_Check.sh F x.1
@[reducible] def tree_firsts.sg:Sig:={args:=[.d (.g tPlan)],res:=[.c (.sl (.int .i64))]}
def tree_firsts.l3.body {R:Type} (F:Nat) (k0:(List tNode.T)→Int→Int→Bool→(List Int)→(List Int)→Option R) (rec:(List tNode.T)→Int→Int→(List Int)→(List Int)→Option R) (t10:List tNode.T) (t11:Int) (t12:Int) (list:List Int) (pile:List Int):Option R :=
 bif decide (t12 < t11) then bif idx t12 t10.length then oB (tree_takes.sh F (get tNode t10 t12.toNat)) fun c_1 =>
   bif decide (c_1.1.1 > 0) then bif idx (IntKind.i64.wrap ((pile.length:Int) - c_1.1.1)) pile.length then bif (bounds pile.length none (some (IntKind.i64.wrap ((pile.length:Int) - c_1.1.1)))).1 then bif Nat.ble ((pile.take (bounds pile.length none (some (IntKind.i64.wrap ((pile.length:Int) - c_1.1.1)))).2.2).length + ([get (.int .i64) pile ((IntKind.i64.wrap ((pile.length:Int) - c_1.1.1)).toNat)]:List Int).length) maxN then bif Nat.ble (list.length + ([get (.int .i64) pile ((IntKind.i64.wrap ((pile.length:Int) - c_1.1.1)).toNat)]:List Int).length) maxN then rec t10 t11 (IntKind.i64.wrap (t12 + 1)) (list ++ ([get (.int .i64) pile ((IntKind.i64.wrap ((pile.length:Int) - c_1.1.1)).toNat)]:List Int)) ((pile.take (bounds pile.length none (some (IntKind.i64.wrap ((pile.length:Int) - c_1.1.1)))).2.2) ++ ([get (.int .i64) pile ((IntKind.i64.wrap ((pile.length:Int) - c_1.1.1)).toNat)]:List Int))
       else none
      else none
     else none
    else none
   else bif Nat.ble (pile.length + ([t12]:List Int).length) maxN then bif Nat.ble (list.length + ([t12]:List Int).length) maxN then rec t10 t11 (IntKind.i64.wrap (t12 + 1)) (list ++ ([t12]:List Int)) (pile ++ ([t12]:List Int))
    else none
   else none
  else none
 else k0 t10 t11 t12 (decide (t12 < t11)) list pile
def tree_firsts.l3 {R:Type} (F:Nat) (k0:(List tNode.T)→Int→Int→Bool→(List Int)→(List Int)→Option R):Nat→(List tNode.T)→Int→Int→(List Int)→(List Int)→Option R
 | 0,_,_,_,_,_=>none
 | fu + 1,t10,t11,t12,list,pile=>tree_firsts.l3.body F k0 (tree_firsts.l3 F k0 fu) t10 t11 t12 list pile
def tree_firsts.j13 {R:Type} (F:Nat) (k0:(List Int)→Option R) (list:List Int):Option R :=
 k0 list
def tree_firsts.sh (F:Nat) (p:tPlan.T):Option tree_firsts.sg.R :=
 tree_firsts.l3 F (fun t102 t112 t122 t132 list2 pile2=>tree_firsts.j13 F (fun r23=>some ((r23,()),())) list2) F p.2.2.2 (p.2.2.2.length:Int) 0 ([]) ([])
def tree_firsts.sp (F:Nat):TA tree_firsts.sg.args→Option tree_firsts.sg.R:=fun x=>tree_firsts.sh F x.1
@[reducible] def tree_Firsts.sg:Sig:={args:=[.d (.g tPlan)],res:=[.c (.sl (.int .i64)),.c (.int .i64)]}
def tree_Firsts.sh (F:Nat) (p:tPlan.T):Option tree_Firsts.sg.R :=
 oB (tree_Check.sh F p) fun c_1 =>
 bif (c_1.1.2.1 != 0) then some (([],c_1.1.2.1,()),())
 else oB (tree_firsts.sh F p) fun c_2 =>
 some ((c_2.1.1,0,()),())
def tree_Firsts.sp (F:Nat):TA tree_Firsts.sg.args→Option tree_Firsts.sg.R:=fun x=>tree_Firsts.sh F x.1
@[reducible] def tree_Constant.sg:Sig:={args:=[.d (.g tPlan)],res:=[.c (.sl .bool),.c (.int .i64)]}
def tree_Constant.l7.body {R:Type} (F:Nat) (k0:(List Int)→Int→(List tNode.T)→Int→Int→Bool→(List Bool)→Option R) (rec:(List Int)→Int→(List tNode.T)→Int→Int→(List Bool)→Option R) (list:List Int) (last:Int) (t22:List tNode.T) (t23:Int) (t24:Int) (out:List Bool):Option R :=
 bif decide (t24 < t23) then bif idx t24 t22.length then bif ((get tNode t22 t24.toNat).1 == 3) then bif idx t24 list.length then bif idx t24 out.length then rec list t24 t22 t23 (IntKind.i64.wrap (t24 + 1)) (out.set t24.toNat (decide (t24 < (get (.int .i64) list t24.toNat))))
     else none
    else none
   else bif ((get tNode t22 t24.toNat).1 == 4) then bif idx t24 list.length then bif idx t24 out.length then rec list t24 t22 t23 (IntKind.i64.wrap (t24 + 1)) (out.set t24.toNat (decide (t24 < (get (.int .i64) list t24.toNat))))
     else none
    else none
   else bif idx t24 list.length then bif idx t24 out.length then rec list last t22 t23 (IntKind.i64.wrap (t24 + 1)) (out.set t24.toNat (decide (last < (get (.int .i64) list t24.toNat))))
    else none
   else none
  else none
 else k0 list last t22 t23 t24 (decide (t24 < t23)) out
def tree_Constant.l7 {R:Type} (F:Nat) (k0:(List Int)→Int→(List tNode.T)→Int→Int→Bool→(List Bool)→Option R):Nat→(List Int)→Int→(List tNode.T)→Int→Int→(List Bool)→Option R
 | 0,_,_,_,_,_,_=>none
 | fu + 1,list,last,t22,t23,t24,out=>tree_Constant.l7.body F k0 (tree_Constant.l7 F k0 fu) list last t22 t23 t24 out
def tree_Constant.j13 {R:Type} (F:Nat) (k0:(List Bool)→Int→Option R) (out:List Bool):Option R :=
 k0 out 0
def tree_Constant.sh (F:Nat) (p:tPlan.T):Option tree_Constant.sg.R :=
 oB (tree_Firsts.sh F p) fun c_1 =>
 bif (c_1.1.2.1 != 0) then some (([],c_1.1.2.1,()),())
 else bif (decide (0 ≤ (c_1.1.1.length:Int)) && decide ((c_1.1.1.length:Int) ≤ (c_1.1.1.length:Int)) && decide ((c_1.1.1.length:Int) ≤ (maxN:Int))) then tree_Constant.l7 F (fun list2 last2 t222 t232 t242 t252 out2=>tree_Constant.j13 F (fun r23 r33=>some ((r23,r33,()),())) out2) F c_1.1.1 (-1) p.2.2.2 (p.2.2.2.length:Int) 0 (zeroL .bool ((c_1.1.1.length:Int).toNat))
 else none
def tree_Constant.sp (F:Nat):TA tree_Constant.sg.args→Option tree_Constant.sg.R:=fun x=>tree_Constant.sh F x.1
@[reducible] def units_rules.sg:Sig:={args:=[.d (.c (.int .i64))],res:=[.c .fn,.c (.int .i64)]}
def units_rules.sh (F:Nat) (kind:Int):Option units_rules.sg.R :=
 bif idx kind (([Ty.dflt (.pair .fn (.int .i64)),(fn_units_node_number,0),(fn_units_node_money,0),(fn_units_node_quantity,0),(fn_units_node_blocks,0),(fn_units_node_alike,1),(fn_units_node_alike,2),(fn_units_node_alike,2),(fn_units_node_product,2),(fn_units_node_alike,(-1)),(fn_units_node_alike,(-1)),(fn_units_node_counted,1),(fn_units_node_counted,1),(fn_units_node_priced,1),(fn_units_node_priced,1),(fn_units_node_off,1),(fn_units_node_test,3)]:List (Nat×Int)).length) then bif idx kind (([Ty.dflt (.pair .fn (.int .i64)),(fn_units_node_number,0),(fn_units_node_money,0),(fn_units_node_quantity,0),(fn_units_node_blocks,0),(fn_units_node_alike,1),(fn_units_node_alike,2),(fn_units_node_alike,2),(fn_units_node_product,2),(fn_units_node_alike,(-1)),(fn_units_node_alike,(-1)),(fn_units_node_counted,1),(fn_units_node_counted,1),(fn_units_node_priced,1),(fn_units_node_priced,1),(fn_units_node_off,1),(fn_units_node_test,3)]:List (Nat×Int)).length) then some (((get (.pair .fn (.int .i64)) ([Ty.dflt (.pair .fn (.int .i64)),(fn_units_node_number,0),(fn_units_node_money,0),(fn_units_node_quantity,0),(fn_units_node_blocks,0),(fn_units_node_alike,1),(fn_units_node_alike,2),(fn_units_node_alike,2),(fn_units_node_product,2),(fn_units_node_alike,(-1)),(fn_units_node_alike,(-1)),(fn_units_node_counted,1),(fn_units_node_counted,1),(fn_units_node_priced,1),(fn_units_node_priced,1),(fn_units_node_off,1),(fn_units_node_test,3)]:List (Nat×Int)) kind.toNat).1,(get (.pair .fn (.int .i64)) ([Ty.dflt (.pair .fn (.int .i64)),(fn_units_node_number,0),(fn_units_node_money,0),(fn_units_node_quantity,0),(fn_units_node_blocks,0),(fn_units_node_alike,1),(fn_units_node_alike,2),(fn_units_node_alike,2),(fn_units_node_product,2),(fn_units_node_alike,(-1)),(fn_units_node_alike,(-1)),(fn_units_node_counted,1),(fn_units_node_counted,1),(fn_units_node_priced,1),(fn_units_node_priced,1),(fn_units_node_off,1),(fn_units_node_test,3)]:List (Nat×Int)) kind.toNat).2,()),())
  else none
 else none
def units_rules.sp (F:Nat):TA units_rules.sg.args→Option units_rules.sg.R:=fun x=>units_rules.sh F x.1
@[reducible] def units_node_one.sg:Sig:={args:=[.d (.g tUnits_node),.d (.c (.int .i64))],res:=[.c (.int .i64)]}
def units_node_one.l2.body {R:Type} (F:Nat) (k0:Int→Option R) (k1:Int→(List Int)→Int→Int→Bool→tUnits_node.T→Option R) (rec:Int→(List Int)→Int→Int→tUnits_node.T→Option R) (from_:Int) (t10:List Int) (t11:Int) (t12:Int) (n:tUnits_node.T):Option R :=
 bif decide (t12 < t11) then bif idx t12 t10.length then bif idx from_ n.2.1.length then bif ((get (.int .i64) t10 t12.toNat) != (get (.int .i64) n.2.1 from_.toNat)) then k0 (-1)
    else rec from_ t10 t11 (IntKind.i64.wrap (t12 + 1)) n
   else none
  else none
 else k1 from_ t10 t11 t12 (decide (t12 < t11)) n
def units_node_one.l2 {R:Type} (F:Nat) (k0:Int→Option R) (k1:Int→(List Int)→Int→Int→Bool→tUnits_node.T→Option R):Nat→Int→(List Int)→Int→Int→tUnits_node.T→Option R
 | 0,_,_,_,_,_=>none
 | fu + 1,from_,t10,t11,t12,n=>units_node_one.l2.body F k0 k1 (units_node_one.l2 F k0 k1 fu) from_ t10 t11 t12 n
def units_node_one.sh (F:Nat) (n:tUnits_node.T) (from_:Int):Option units_node_one.sg.R :=
 bif (bounds n.2.1.length (some from_) none).1 then units_node_one.l2 F (fun r41=>some ((r41,()),())) (fun from_2 t102 t112 t122 t132 n2=>bif idx from_2 n2.2.1.length then some ((get (.int .i64) n2.2.1 from_2.toNat,()),())
  else none) F from_ ((n.2.1.take (bounds n.2.1.length (some from_) none).2.2).drop (bounds n.2.1.length (some from_) none).2.1) (((n.2.1.take (bounds n.2.1.length (some from_) none).2.2).drop (bounds n.2.1.length (some from_) none).2.1).length:Int) 0 n
 else none
def units_node_one.sp (F:Nat):TA units_node_one.sg.args→Option units_node_one.sg.R:=fun x=>units_node_one.sh F x.1 x.2.1
@[reducible] def units_node_alike.sg:Sig:={args:=[.d (.g tUnits_node)],res:=[.c (.int .i64)]}
def units_node_alike.sh (F:Nat) (n:tUnits_node.T):Option units_node_alike.sg.R :=
 oB (units_node_one.sh F n 0) fun c_1 =>
 some ((c_1.1.1,()),())
def units_node_alike.sp (F:Nat):TA units_node_alike.sg.args→Option units_node_alike.sg.R:=fun x=>units_node_alike.sh F x.1
@[reducible] def units_node_blocks.sg:Sig:={args:=[.d (.g tUnits_node)],res:=[.c (.int .i64)]}
def units_node_blocks.sh (F:Nat) (n:tUnits_node.T):Option units_node_blocks.sg.R :=
 some ((IntKind.i64.wrap (3 + (IntKind.i64.wrap (2 * n.1.2.1))),()),())
def units_node_blocks.sp (F:Nat):TA units_node_blocks.sg.args→Option units_node_blocks.sg.R:=fun x=>units_node_blocks.sh F x.1
@[reducible] def units_count.sg:Sig:={args:=[.d (.c (.int .i64))],res:=[.c .bool]}
def units_count.sh (F:Nat) (t:Int):Option units_count.sg.R :=
 some ((decide (t ≥ 2),()),())
def units_count.sp (F:Nat):TA units_count.sg.args→Option units_count.sg.R:=fun x=>units_count.sh F x.1
@[reducible] def units_node_counted.sg:Sig:={args:=[.d (.g tUnits_node)],res:=[.c (.int .i64)]}
def units_node_counted.sh (F:Nat) (n:tUnits_node.T):Option units_node_counted.sg.R :=
 bif idx 0 n.2.1.length then oB (units_count.sh F (get (.int .i64) n.2.1 0)) fun c_1 =>
  bif c_1.1.1 then bif idx 0 n.2.1.length then some ((get (.int .i64) n.2.1 0,()),())
   else none
  else some (((-1),()),())
 else none
def units_node_counted.sp (F:Nat):TA units_node_counted.sg.args→Option units_node_counted.sg.R:=fun x=>units_node_counted.sh F x.1
@[reducible] def units_node_money.sg:Sig:={args:=[.d (.g tUnits_node)],res:=[.c (.int .i64)]}
def units_node_money.sh (F:Nat) (n:tUnits_node.T):Option units_node_money.sg.R :=
 some ((1,()),())
def units_node_money.sp (F:Nat):TA units_node_money.sg.args→Option units_node_money.sg.R:=fun x=>units_node_money.sh F x.1
@[reducible] def units_node_number.sg:Sig:={args:=[.d (.g tUnits_node)],res:=[.c (.int .i64)]}
def units_node_number.sh (F:Nat) (n:tUnits_node.T):Option units_node_number.sg.R :=
 some ((0,()),())
def units_node_number.sp (F:Nat):TA units_node_number.sg.args→Option units_node_number.sg.R:=fun x=>units_node_number.sh F x.1
@[reducible] def units_node_off.sg:Sig:={args:=[.d (.g tUnits_node)],res:=[.c (.int .i64)]}
def units_node_off.sh (F:Nat) (n:tUnits_node.T):Option units_node_off.sg.R :=
 bif idx 0 n.2.1.length then bif ((get (.int .i64) n.2.1 0) == 1) then some ((1,()),())
  else some (((-1),()),())
 else none
def units_node_off.sp (F:Nat):TA units_node_off.sg.args→Option units_node_off.sg.R:=fun x=>units_node_off.sh F x.1
@[reducible] def units_node_priced.sg:Sig:={args:=[.d (.g tUnits_node)],res:=[.c (.int .i64)]}
def units_node_priced.sh (F:Nat) (n:tUnits_node.T):Option units_node_priced.sg.R :=
 bif idx 0 n.2.1.length then oB (units_count.sh F (get (.int .i64) n.2.1 0)) fun c_1 =>
  bif c_1.1.1 then some ((1,()),())
  else some (((-1),()),())
 else none
def units_node_priced.sp (F:Nat):TA units_node_priced.sg.args→Option units_node_priced.sg.R:=fun x=>units_node_priced.sh F x.1
@[reducible] def units_node_product.sg:Sig:={args:=[.d (.g tUnits_node)],res:=[.c (.int .i64)]}
def units_node_product.sh (F:Nat) (n:tUnits_node.T):Option units_node_product.sg.R :=
 bif idx 0 n.2.1.length then bif idx 1 n.2.1.length then bif ((get (.int .i64) n.2.1 0) == 0) then some ((get (.int .i64) n.2.1 1,()),())
   else bif ((get (.int .i64) n.2.1 1) == 0) then some ((get (.int .i64) n.2.1 0,()),())
   else oB (units_count.sh F (get (.int .i64) n.2.1 0)) fun c_1 =>
   bif c_1.1.1 then bif ((get (.int .i64) n.2.1 1) == 1) then bif ((get (.int .i64) n.2.1 1) == 1) then some ((1,()),())
     else some (((-1),()),())
    else oB (units_count.sh F (get (.int .i64) n.2.1 1)) fun c_2 =>
    bif c_2.1.1 then bif ((get (.int .i64) n.2.1 0) == 1) then some ((1,()),())
     else some (((-1),()),())
    else some (((-1),()),())
   else oB (units_count.sh F (get (.int .i64) n.2.1 1)) fun c_3 =>
   bif c_3.1.1 then bif ((get (.int .i64) n.2.1 0) == 1) then some ((1,()),())
    else some (((-1),()),())
   else some (((-1),()),())
  else none
 else none
def units_node_product.sp (F:Nat):TA units_node_product.sg.args→Option units_node_product.sg.R:=fun x=>units_node_product.sh F x.1
@[reducible] def units_node_quantity.sg:Sig:={args:=[.d (.g tUnits_node)],res:=[.c (.int .i64)]}
def units_node_quantity.sh (F:Nat) (n:tUnits_node.T):Option units_node_quantity.sg.R :=
 some ((IntKind.i64.wrap (2 + (IntKind.i64.wrap (2 * n.1.2.1))),()),())
def units_node_quantity.sp (F:Nat):TA units_node_quantity.sg.args→Option units_node_quantity.sg.R:=fun x=>units_node_quantity.sh F x.1
@[reducible] def units_node_test.sg:Sig:={args:=[.d (.g tUnits_node)],res:=[.c (.int .i64)]}
def units_node_test.sh (F:Nat) (n:tUnits_node.T):Option units_node_test.sg.R :=
 bif idx 0 n.2.1.length then oB (units_count.sh F (get (.int .i64) n.2.1 0)) fun c_1 =>
  bif c_1.1.1 then oB (units_node_one.sh F n 1) fun c_2 =>
   some ((c_2.1.1,()),())
  else some (((-1),()),())
 else none
def units_node_test.sp (F:Nat):TA units_node_test.sg.args→Option units_node_test.sg.R:=fun x=>units_node_test.sh F x.1
@[reducible] def units_Types.sg:Sig:={args:=[.d (.g tPlan)],res:=[.c (.sl (.int .i64)),.c (.int .i64),.c (.int .i64)]}
@[reducible] def units_Types.ds63:Sig:={args:=[.d (.g tUnits_node)],res:=[.c (.int .i64)]}
def units_Types.d63 (F:Nat):Nat→TA units_Types.ds63.args→Option units_Types.ds63.R:=mkT units_Types.ds63 [(fn_units_node_alike,units_node_alike.sp F),(fn_units_node_blocks,units_node_blocks.sp F),(fn_units_node_counted,units_node_counted.sp F),(fn_units_node_money,units_node_money.sp F),(fn_units_node_number,units_node_number.sp F),(fn_units_node_off,units_node_off.sp F),(fn_units_node_priced,units_node_priced.sp F),(fn_units_node_product,units_node_product.sp F),(fn_units_node_quantity,units_node_quantity.sp F),(fn_units_node_test,units_node_test.sp F)]
def units_Types.l8.body {R:Type} (F:Nat) (k0:(List Int)→Int→Int→Option R) (k1:(List Int)→Int→Int→Option R) (k2:(List Bool)→(List tNode.T)→Int→Int→Bool→(List Int)→(List Int)→(List Bool)→Option R) (rec:(List Bool)→(List tNode.T)→Int→Int→(List Int)→(List Int)→(List Bool)→Option R) (fixed:List Bool) (t33:List tNode.T) (t34:Int) (t35:Int) (types:List Int) (pile:List Int) (fix:List Bool):Option R :=
 bif decide (t35 < t34) then bif idx t35 t33.length then oB (units_rules.sh F (get tNode t33 t35.toNat).1) fun c_3 =>
   bif decide (c_3.1.2.1 < 0) then bif (bounds pile.length (some (IntKind.i64.wrap ((pile.length:Int) - (get tNode t33 t35.toNat).2.2.2.1))) none).1 then bif (bounds fix.length (some (IntKind.i64.wrap ((pile.length:Int) - (get tNode t33 t35.toNat).2.2.2.1))) none).1 then oB (units_Types.d63 F c_3.1.1 (((get tNode t33 t35.toNat),(pile.take (bounds pile.length (some (IntKind.i64.wrap ((pile.length:Int) - (get tNode t33 t35.toNat).2.2.2.1))) none).2.2).drop (bounds pile.length (some (IntKind.i64.wrap ((pile.length:Int) - (get tNode t33 t35.toNat).2.2.2.1))) none).2.1,(fix.take (bounds fix.length (some (IntKind.i64.wrap ((pile.length:Int) - (get tNode t33 t35.toNat).2.2.2.1))) none).2.2).drop (bounds fix.length (some (IntKind.i64.wrap ((pile.length:Int) - (get tNode t33 t35.toNat).2.2.2.1))) none).2.1),())) fun c_4 =>
      bif (c_4.1.1 == (-1)) then k0 ([]) t35 80
      else bif ((get tNode t33 t35.toNat).1 == 8) then bif idx (IntKind.i64.wrap ((pile.length:Int) - (get tNode t33 t35.toNat).2.2.2.1)) fix.length then bif !(get .bool fix ((IntKind.i64.wrap ((pile.length:Int) - (get tNode t33 t35.toNat).2.2.2.1)).toNat)) then bif idx (IntKind.i64.wrap ((IntKind.i64.wrap ((pile.length:Int) - (get tNode t33 t35.toNat).2.2.2.1)) + 1)) fix.length then bif !(get .bool fix ((IntKind.i64.wrap ((IntKind.i64.wrap ((pile.length:Int) - (get tNode t33 t35.toNat).2.2.2.1)) + 1)).toNat)) then k1 ([]) t35 81
          else bif Nat.ble (types.length + ([c_4.1.1]:List Int).length) maxN then bif (bounds pile.length none (some (IntKind.i64.wrap ((pile.length:Int) - (get tNode t33 t35.toNat).2.2.2.1)))).1 then bif Nat.ble ((bounds pile.length none (some (IntKind.i64.wrap ((pile.length:Int) - (get tNode t33 t35.toNat).2.2.2.1)))).2.2 + ([c_4.1.1]:List Int).length) maxN then bif (bounds fix.length none (some (IntKind.i64.wrap ((pile.length:Int) - (get tNode t33 t35.toNat).2.2.2.1)))).1 then bif idx t35 fixed.length then bif Nat.ble ((bounds fix.length none (some (IntKind.i64.wrap ((pile.length:Int) - (get tNode t33 t35.toNat).2.2.2.1)))).2.2 + ([get .bool fixed t35.toNat]:List Bool).length) maxN then rec fixed t33 t34 (IntKind.i64.wrap (t35 + 1)) (types ++ ([c_4.1.1]:List Int)) (pile.take (bounds pile.length none (some (IntKind.i64.wrap ((pile.length:Int) - (get tNode t33 t35.toNat).2.2.2.1)))).2.2 ++ ([c_4.1.1]:List Int)) (fix.take (bounds fix.length none (some (IntKind.i64.wrap ((pile.length:Int) - (get tNode t33 t35.toNat).2.2.2.1)))).2.2 ++ ([get .bool fixed t35.toNat]:List Bool))
               else none
              else none
             else none
            else none
           else none
          else none
         else none
        else bif Nat.ble (types.length + ([c_4.1.1]:List Int).length) maxN then bif (bounds pile.length none (some (IntKind.i64.wrap ((pile.length:Int) - (get tNode t33 t35.toNat).2.2.2.1)))).1 then bif Nat.ble ((bounds pile.length none (some (IntKind.i64.wrap ((pile.length:Int) - (get tNode t33 t35.toNat).2.2.2.1)))).2.2 + ([c_4.1.1]:List Int).length) maxN then bif (bounds fix.length none (some (IntKind.i64.wrap ((pile.length:Int) - (get tNode t33 t35.toNat).2.2.2.1)))).1 then bif idx t35 fixed.length then bif Nat.ble ((bounds fix.length none (some (IntKind.i64.wrap ((pile.length:Int) - (get tNode t33 t35.toNat).2.2.2.1)))).2.2 + ([get .bool fixed t35.toNat]:List Bool).length) maxN then rec fixed t33 t34 (IntKind.i64.wrap (t35 + 1)) (types ++ ([c_4.1.1]:List Int)) (pile.take (bounds pile.length none (some (IntKind.i64.wrap ((pile.length:Int) - (get tNode t33 t35.toNat).2.2.2.1)))).2.2 ++ ([c_4.1.1]:List Int)) (fix.take (bounds fix.length none (some (IntKind.i64.wrap ((pile.length:Int) - (get tNode t33 t35.toNat).2.2.2.1)))).2.2 ++ ([get .bool fixed t35.toNat]:List Bool))
             else none
            else none
           else none
          else none
         else none
        else none
       else none
      else bif Nat.ble (types.length + ([c_4.1.1]:List Int).length) maxN then bif (bounds pile.length none (some (IntKind.i64.wrap ((pile.length:Int) - (get tNode t33 t35.toNat).2.2.2.1)))).1 then bif Nat.ble ((bounds pile.length none (some (IntKind.i64.wrap ((pile.length:Int) - (get tNode t33 t35.toNat).2.2.2.1)))).2.2 + ([c_4.1.1]:List Int).length) maxN then bif (bounds fix.length none (some (IntKind.i64.wrap ((pile.length:Int) - (get tNode t33 t35.toNat).2.2.2.1)))).1 then bif idx t35 fixed.length then bif Nat.ble ((bounds fix.length none (some (IntKind.i64.wrap ((pile.length:Int) - (get tNode t33 t35.toNat).2.2.2.1)))).2.2 + ([get .bool fixed t35.toNat]:List Bool).length) maxN then rec fixed t33 t34 (IntKind.i64.wrap (t35 + 1)) (types ++ ([c_4.1.1]:List Int)) (pile.take (bounds pile.length none (some (IntKind.i64.wrap ((pile.length:Int) - (get tNode t33 t35.toNat).2.2.2.1)))).2.2 ++ ([c_4.1.1]:List Int)) (fix.take (bounds fix.length none (some (IntKind.i64.wrap ((pile.length:Int) - (get tNode t33 t35.toNat).2.2.2.1)))).2.2 ++ ([get .bool fixed t35.toNat]:List Bool))
           else none
          else none
         else none
        else none
       else none
      else none
     else none
    else none
   else bif (bounds pile.length (some (IntKind.i64.wrap ((pile.length:Int) - c_3.1.2.1))) none).1 then bif (bounds fix.length (some (IntKind.i64.wrap ((pile.length:Int) - c_3.1.2.1))) none).1 then oB (units_Types.d63 F c_3.1.1 (((get tNode t33 t35.toNat),(pile.take (bounds pile.length (some (IntKind.i64.wrap ((pile.length:Int) - c_3.1.2.1))) none).2.2).drop (bounds pile.length (some (IntKind.i64.wrap ((pile.length:Int) - c_3.1.2.1))) none).2.1,(fix.take (bounds fix.length (some (IntKind.i64.wrap ((pile.length:Int) - c_3.1.2.1))) none).2.2).drop (bounds fix.length (some (IntKind.i64.wrap ((pile.length:Int) - c_3.1.2.1))) none).2.1),())) fun c_5 =>
     bif (c_5.1.1 == (-1)) then k0 ([]) t35 80
     else bif ((get tNode t33 t35.toNat).1 == 8) then bif idx (IntKind.i64.wrap ((pile.length:Int) - c_3.1.2.1)) fix.length then bif !(get .bool fix ((IntKind.i64.wrap ((pile.length:Int) - c_3.1.2.1)).toNat)) then bif idx (IntKind.i64.wrap ((IntKind.i64.wrap ((pile.length:Int) - c_3.1.2.1)) + 1)) fix.length then bif !(get .bool fix ((IntKind.i64.wrap ((IntKind.i64.wrap ((pile.length:Int) - c_3.1.2.1)) + 1)).toNat)) then k1 ([]) t35 81
         else bif Nat.ble (types.length + ([c_5.1.1]:List Int).length) maxN then bif (bounds pile.length none (some (IntKind.i64.wrap ((pile.length:Int) - c_3.1.2.1)))).1 then bif Nat.ble ((bounds pile.length none (some (IntKind.i64.wrap ((pile.length:Int) - c_3.1.2.1)))).2.2 + ([c_5.1.1]:List Int).length) maxN then bif (bounds fix.length none (some (IntKind.i64.wrap ((pile.length:Int) - c_3.1.2.1)))).1 then bif idx t35 fixed.length then bif Nat.ble ((bounds fix.length none (some (IntKind.i64.wrap ((pile.length:Int) - c_3.1.2.1)))).2.2 + ([get .bool fixed t35.toNat]:List Bool).length) maxN then rec fixed t33 t34 (IntKind.i64.wrap (t35 + 1)) (types ++ ([c_5.1.1]:List Int)) (pile.take (bounds pile.length none (some (IntKind.i64.wrap ((pile.length:Int) - c_3.1.2.1)))).2.2 ++ ([c_5.1.1]:List Int)) (fix.take (bounds fix.length none (some (IntKind.i64.wrap ((pile.length:Int) - c_3.1.2.1)))).2.2 ++ ([get .bool fixed t35.toNat]:List Bool))
              else none
             else none
            else none
           else none
          else none
         else none
        else none
       else bif Nat.ble (types.length + ([c_5.1.1]:List Int).length) maxN then bif (bounds pile.length none (some (IntKind.i64.wrap ((pile.length:Int) - c_3.1.2.1)))).1 then bif Nat.ble ((bounds pile.length none (some (IntKind.i64.wrap ((pile.length:Int) - c_3.1.2.1)))).2.2 + ([c_5.1.1]:List Int).length) maxN then bif (bounds fix.length none (some (IntKind.i64.wrap ((pile.length:Int) - c_3.1.2.1)))).1 then bif idx t35 fixed.length then bif Nat.ble ((bounds fix.length none (some (IntKind.i64.wrap ((pile.length:Int) - c_3.1.2.1)))).2.2 + ([get .bool fixed t35.toNat]:List Bool).length) maxN then rec fixed t33 t34 (IntKind.i64.wrap (t35 + 1)) (types ++ ([c_5.1.1]:List Int)) (pile.take (bounds pile.length none (some (IntKind.i64.wrap ((pile.length:Int) - c_3.1.2.1)))).2.2 ++ ([c_5.1.1]:List Int)) (fix.take (bounds fix.length none (some (IntKind.i64.wrap ((pile.length:Int) - c_3.1.2.1)))).2.2 ++ ([get .bool fixed t35.toNat]:List Bool))
            else none
           else none
          else none
         else none
        else none
       else none
      else none
     else bif Nat.ble (types.length + ([c_5.1.1]:List Int).length) maxN then bif (bounds pile.length none (some (IntKind.i64.wrap ((pile.length:Int) - c_3.1.2.1)))).1 then bif Nat.ble ((bounds pile.length none (some (IntKind.i64.wrap ((pile.length:Int) - c_3.1.2.1)))).2.2 + ([c_5.1.1]:List Int).length) maxN then bif (bounds fix.length none (some (IntKind.i64.wrap ((pile.length:Int) - c_3.1.2.1)))).1 then bif idx t35 fixed.length then bif Nat.ble ((bounds fix.length none (some (IntKind.i64.wrap ((pile.length:Int) - c_3.1.2.1)))).2.2 + ([get .bool fixed t35.toNat]:List Bool).length) maxN then rec fixed t33 t34 (IntKind.i64.wrap (t35 + 1)) (types ++ ([c_5.1.1]:List Int)) (pile.take (bounds pile.length none (some (IntKind.i64.wrap ((pile.length:Int) - c_3.1.2.1)))).2.2 ++ ([c_5.1.1]:List Int)) (fix.take (bounds fix.length none (some (IntKind.i64.wrap ((pile.length:Int) - c_3.1.2.1)))).2.2 ++ ([get .bool fixed t35.toNat]:List Bool))
          else none
         else none
        else none
       else none
      else none
     else none
    else none
   else none
  else none
 else k2 fixed t33 t34 t35 (decide (t35 < t34)) types pile fix
def units_Types.l8 {R:Type} (F:Nat) (k0:(List Int)→Int→Int→Option R) (k1:(List Int)→Int→Int→Option R) (k2:(List Bool)→(List tNode.T)→Int→Int→Bool→(List Int)→(List Int)→(List Bool)→Option R):Nat→(List Bool)→(List tNode.T)→Int→Int→(List Int)→(List Int)→(List Bool)→Option R
 | 0,_,_,_,_,_,_,_=>none
 | fu + 1,fixed,t33,t34,t35,types,pile,fix=>units_Types.l8.body F k0 k1 k2 (units_Types.l8 F k0 k1 k2 fu) fixed t33 t34 t35 types pile fix
def units_Types.j23 {R:Type} (F:Nat) (k0:(List Int)→Int→Int→Option R) (k1:(List Int)→Int→Int→Option R) (types:List Int) (pile:List Int):Option R :=
 bif idx 0 pile.length then bif ((get (.int .i64) pile 0) != 1) then k0 ([]) (IntKind.i64.wrap ((types.length:Int) - 1)) 80
  else k1 types 0 0
 else none
def units_Types.sh (F:Nat) (p:tPlan.T):Option units_Types.sg.R :=
 oB (tree_Check.sh F p) fun c_1 =>
 bif (c_1.1.2.1 != 0) then some (([],c_1.1.1,c_1.1.2.1,()),())
 else oB (tree_Constant.sh F p) fun c_2 =>
 units_Types.l8 F (fun r26 r36 r46=>some ((r26,r36,r46,()),())) (fun r27 r37 r47=>some ((r27,r37,r47,()),())) (fun fixed8 t338 t348 t358 t368 types8 pile8 fix8=>units_Types.j23 F (fun r29 r39 r49=>some ((r29,r39,r49,()),())) (fun r210 r310 r410=>some ((r210,r310,r410,()),())) types8 pile8) F c_2.1.1 p.2.2.2 (p.2.2.2.length:Int) 0 ([]) ([]) ([])
def units_Types.sp (F:Nat):TA units_Types.sg.args→Option units_Types.sg.R:=fun x=>units_Types.sh F x.1
@[reducible] def slices_Max_int.sg:Sig:={args:=[.d (.b (.int .i64))],res:=[.c (.int .i64)]}
def slices_Max_int.l5.body {R:Type} (F:Nat) (k0:(List Int)→Int→Int→Bool→Option R) (rec:(List Int)→Int→Int→Option R) (x:List Int) (m:Int) (i:Int):Option R :=
 bif decide (i < (x.length:Int)) then bif idx i x.length then rec x (if get (.int .i64) x i.toNat > m then get (.int .i64) x i.toNat else m) (IntKind.i64.wrap (i + 1))
  else none
 else k0 x m i (decide (i < (x.length:Int)))
def slices_Max_int.l5 {R:Type} (F:Nat) (k0:(List Int)→Int→Int→Bool→Option R):Nat→(List Int)→Int→Int→Option R
 | 0,_,_,_=>none
 | fu + 1,x,m,i=>slices_Max_int.l5.body F k0 (slices_Max_int.l5 F k0 fu) x m i
def slices_Max_int.sh (F:Nat) (x:List Int):Option slices_Max_int.sg.R :=
 bif decide ((x.length:Int) < 1) then none
 else bif idx 0 x.length then slices_Max_int.l5 F (fun x1 m1 i1 t151=>some ((m1,()),())) F x (get (.int .i64) x 0) 1
 else none
def slices_Max_int.sp (F:Nat):TA slices_Max_int.sg.args→Option slices_Max_int.sg.R:=fun x=>slices_Max_int.sh F x.1
@[reducible] def tree_Scale.sg:Sig:={args:=[.d (.g tPlan)],res:=[.c (.int .i64),.c (.int .i64)]}
def tree_Scale.l6.body {R:Type} (F:Nat) (k0:(List tNode.T)→Int→Int→Bool→(List Int)→Option R) (rec:(List tNode.T)→Int→Int→(List Int)→Option R) (t20:List tNode.T) (t21:Int) (t22:Int) (pile:List Int):Option R :=
 bif decide (t22 < t21) then bif idx t22 t20.length then oB (tree_takes.sh F (get tNode t20 t22.toNat)) fun c_2 =>
   bif decide (c_2.1.1 > 0) then bif (bounds pile.length (some (IntKind.i64.wrap ((pile.length:Int) - c_2.1.1))) none).1 then oB (slices_Max_int.sh F ((List.take (bounds pile.length (some (IntKind.i64.wrap ((pile.length:Int) - c_2.1.1))) none).2.2 pile).drop (bounds pile.length (some (IntKind.i64.wrap ((pile.length:Int) - c_2.1.1))) none).2.1)) fun c_3 =>
     bif (bounds pile.length none (some (IntKind.i64.wrap ((pile.length:Int) - c_2.1.1)))).1 then bif ((get tNode t20 t22.toNat).1 == 15) then bif Nat.ble ((pile.take (bounds pile.length none (some (IntKind.i64.wrap ((pile.length:Int) - c_2.1.1)))).2.2).length + ([IntKind.i64.wrap (c_3.1.1 + 1)]:List Int).length) maxN then rec t20 t21 (IntKind.i64.wrap (t22 + 1)) ((pile.take (bounds pile.length none (some (IntKind.i64.wrap ((pile.length:Int) - c_2.1.1)))).2.2) ++ ([IntKind.i64.wrap (c_3.1.1 + 1)]:List Int))
       else none
      else bif Nat.ble ((pile.take (bounds pile.length none (some (IntKind.i64.wrap ((pile.length:Int) - c_2.1.1)))).2.2).length + ([c_3.1.1]:List Int).length) maxN then rec t20 t21 (IntKind.i64.wrap (t22 + 1)) ((pile.take (bounds pile.length none (some (IntKind.i64.wrap ((pile.length:Int) - c_2.1.1)))).2.2) ++ ([c_3.1.1]:List Int))
      else none
     else none
    else none
   else bif ((get tNode t20 t22.toNat).1 == 15) then bif Nat.ble (pile.length + ([IntKind.i64.wrap (0 + 1)]:List Int).length) maxN then rec t20 t21 (IntKind.i64.wrap (t22 + 1)) (pile ++ ([IntKind.i64.wrap (0 + 1)]:List Int))
    else none
   else bif Nat.ble (pile.length + ([0]:List Int).length) maxN then rec t20 t21 (IntKind.i64.wrap (t22 + 1)) (pile ++ ([0]:List Int))
   else none
  else none
 else k0 t20 t21 t22 (decide (t22 < t21)) pile
def tree_Scale.l6 {R:Type} (F:Nat) (k0:(List tNode.T)→Int→Int→Bool→(List Int)→Option R):Nat→(List tNode.T)→Int→Int→(List Int)→Option R
 | 0,_,_,_,_=>none
 | fu + 1,t20,t21,t22,pile=>tree_Scale.l6.body F k0 (tree_Scale.l6 F k0 fu) t20 t21 t22 pile
def tree_Scale.j17 {R:Type} (F:Nat) (k0:Int→Int→Option R) (pile:List Int):Option R :=
 bif idx 0 pile.length then k0 (get (.int .i64) pile 0) 0
 else none
def tree_Scale.sh (F:Nat) (p:tPlan.T):Option tree_Scale.sg.R :=
 oB (tree_Check.sh F p) fun c_1 =>
 bif (c_1.1.2.1 != 0) then some ((0,c_1.1.2.1,()),())
 else tree_Scale.l6 F (fun t204 t214 t224 t234 pile4=>tree_Scale.j17 F (fun r25 r35=>some ((r25,r35,()),())) pile4) F p.2.2.2 (p.2.2.2.length:Int) 0 ([])
def tree_Scale.sp (F:Nat):TA tree_Scale.sg.args→Option tree_Scale.sg.R:=fun x=>tree_Scale.sh F x.1
@[reducible] def wide_Of.sg:Sig:={args:=[.d (.c (.int .i64))],res:=[.g tWide]}
def wide_Of.sh (F:Nat) (v:Int):Option wide_Of.sg.R :=
 some (((v.fdiv (2 ^ (min (63:Int).toNat IntKind.i64.bits)),IntKind.u64.wrap v),()),())
def wide_Of.sp (F:Nat):TA wide_Of.sg.args→Option wide_Of.sg.R:=fun x=>wide_Of.sh F x.1
@[reducible] def wide_Abs.sg:Sig:={args:=[.d (.g tWide)],res:=[.c (.int .u64),.c (.int .u64)]}
def wide_Abs.sh (F:Nat) (w:tWide.T):Option wide_Abs.sg.R :=
 bif decide (w.1 ≥ 0) then some ((IntKind.u64.wrap w.1,w.2,()),())
 else oB (math_bits_Sub64.sh F 0 w.2 0) fun c_1 =>
 oB (math_bits_Sub64.sh F 0 (IntKind.u64.wrap w.1) c_1.1.2.1) fun c_2 =>
 some ((c_2.1.1,c_1.1.1,()),())
def wide_Abs.sp (F:Nat):TA wide_Abs.sg.args→Option wide_Abs.sg.R:=fun x=>wide_Abs.sh F x.1
@[reducible] def math_bits_Mul64.sg:Sig:={args:=[.d (.c (.int .u64)),.d (.c (.int .u64))],res:=[.c (.int .u64),.c (.int .u64)]}
def math_bits_Mul64.sh (F:Nat) (x:Int) (y:Int):Option math_bits_Mul64.sg.R :=
 some ((IntKind.u64.wrap ((IntKind.u64.wrap ((IntKind.u64.wrap ((x.fdiv (2 ^ (min (32:Int).toNat IntKind.u64.bits))) * (y.fdiv (2 ^ (min (32:Int).toNat IntKind.u64.bits))))) + ((IntKind.u64.wrap ((IntKind.u64.wrap ((x.fdiv (2 ^ (min (32:Int).toNat IntKind.u64.bits))) * (IntKind.u64.wrap ((BitVec.ofInt IntKind.u64.bits y &&& BitVec.ofInt IntKind.u64.bits 4294967295).toNat)))) + ((IntKind.u64.wrap ((IntKind.u64.wrap ((BitVec.ofInt IntKind.u64.bits x &&& BitVec.ofInt IntKind.u64.bits 4294967295).toNat)) * (IntKind.u64.wrap ((BitVec.ofInt IntKind.u64.bits y &&& BitVec.ofInt IntKind.u64.bits 4294967295).toNat)))).fdiv (2 ^ (min (32:Int).toNat IntKind.u64.bits))))).fdiv (2 ^ (min (32:Int).toNat IntKind.u64.bits))))) + ((IntKind.u64.wrap ((IntKind.u64.wrap ((BitVec.ofInt IntKind.u64.bits (IntKind.u64.wrap ((IntKind.u64.wrap ((x.fdiv (2 ^ (min (32:Int).toNat IntKind.u64.bits))) * (IntKind.u64.wrap ((BitVec.ofInt IntKind.u64.bits y &&& BitVec.ofInt IntKind.u64.bits 4294967295).toNat)))) + ((IntKind.u64.wrap ((IntKind.u64.wrap ((BitVec.ofInt IntKind.u64.bits x &&& BitVec.ofInt IntKind.u64.bits 4294967295).toNat)) * (IntKind.u64.wrap ((BitVec.ofInt IntKind.u64.bits y &&& BitVec.ofInt IntKind.u64.bits 4294967295).toNat)))).fdiv (2 ^ (min (32:Int).toNat IntKind.u64.bits))))) &&& BitVec.ofInt IntKind.u64.bits 4294967295).toNat)) + (IntKind.u64.wrap ((IntKind.u64.wrap ((BitVec.ofInt IntKind.u64.bits x &&& BitVec.ofInt IntKind.u64.bits 4294967295).toNat)) * (y.fdiv (2 ^ (min (32:Int).toNat IntKind.u64.bits))))))).fdiv (2 ^ (min (32:Int).toNat IntKind.u64.bits)))),IntKind.u64.wrap (x * y),()),())
def math_bits_Mul64.sp (F:Nat):TA math_bits_Mul64.sg.args→Option math_bits_Mul64.sg.R:=fun x=>math_bits_Mul64.sh F x.1 x.2.1
@[reducible] def times_pick.sg:Sig:={args:=[.d (.c .bool),.d (.c (.int .u64)),.d (.c (.int .u64))],res:=[.c (.int .u64)]}
def times_pick.sh (F:Nat) (first_:Bool) (a:Int) (b:Int):Option times_pick.sg.R :=
 bif first_ then some ((a,()),())
 else some ((b,()),())
def times_pick.sp (F:Nat):TA times_pick.sg.args→Option times_pick.sg.R:=fun x=>times_pick.sh F x.1 x.2.1 x.2.2.1
@[reducible] def wide_Sub.sg:Sig:={args:=[.d (.g tWide),.d (.g tWide)],res:=[.g tWide,.c (.int .i64)]}
def wide_Sub.sh (F:Nat) (a:tWide.T) (b:tWide.T):Option wide_Sub.sg.R :=
 oB (math_bits_Sub64.sh F a.2 b.2 0) fun c_1 =>
 oB (math_bits_Sub64.sh F (IntKind.u64.wrap a.1) (IntKind.u64.wrap b.1) c_1.1.2.1) fun c_2 =>
 bif (!(decide (a.1 < 0) == decide (b.1 < 0))) then bif (!(decide ((IntKind.i64.wrap c_2.1.1) < 0) == decide (a.1 < 0))) then some (((0,0),10,()),())
  else some (((IntKind.i64.wrap c_2.1.1,c_1.1.1),0,()),())
 else some (((IntKind.i64.wrap c_2.1.1,c_1.1.1),0,()),())
def wide_Sub.sp (F:Nat):TA wide_Sub.sg.args→Option wide_Sub.sg.R:=fun x=>wide_Sub.sh F x.1 x.2.1
@[reducible] def wide_Neg.sg:Sig:={args:=[.d (.g tWide)],res:=[.g tWide,.c (.int .i64)]}
def wide_Neg.sh (F:Nat) (a:tWide.T):Option wide_Neg.sg.R :=
 oB (wide_Sub.sh F (0,0) a) fun c_1 =>
 some ((c_1.1.1,c_1.1.2.1,()),())
def wide_Neg.sp (F:Nat):TA wide_Neg.sg.args→Option wide_Neg.sg.R:=fun x=>wide_Neg.sh F x.1
@[reducible] def wide_Join.sg:Sig:={args:=[.d (.c .bool),.d (.c (.int .u64)),.d (.c (.int .u64))],res:=[.g tWide,.c (.int .i64)]}
def wide_Join.sh (F:Nat) (below:Bool) (hi:Int) (lo:Int):Option wide_Join.sg.R :=
 bif ((hi.fdiv (2 ^ (min (63:Int).toNat IntKind.u64.bits))) == 0) then bif below then oB (wide_Neg.sh F (IntKind.i64.wrap hi,lo)) fun c_1 =>
   some ((c_1.1.1,c_1.1.2.1,()),())
  else some (((IntKind.i64.wrap hi,lo),0,()),())
 else bif below then bif (hi == 9223372036854775808) then bif (lo == 0) then some ((((-9223372036854775808),0),0,()),())
   else some (((0,0),10,()),())
  else some (((0,0),10,()),())
 else some (((0,0),10,()),())
def wide_Join.sp (F:Nat):TA wide_Join.sg.args→Option wide_Join.sg.R:=fun x=>wide_Join.sh F x.1 x.2.1 x.2.2.1
@[reducible] def times_Mul.sg:Sig:={args:=[.d (.g tWide),.d (.g tWide)],res:=[.g tWide,.c (.int .i64)]}
def times_Mul.j5 {R:Type} (F:Nat) (k0:Int→tWide.T→Option R) (k1:Int→tWide.T→Option R) (ah:Int) (al:Int) (bh:Int) (bl:Int) (a:tWide.T) (b:tWide.T) (r4:tWide.T):Option R :=
 oB (math_bits_Mul64.sh F al bl) fun c_3 =>
 oB (times_pick.sh F (ah != 0) bl al) fun c_4 =>
 oB (math_bits_Mul64.sh F (IntKind.u64.wrap ((BitVec.ofInt IntKind.u64.bits ah ||| BitVec.ofInt IntKind.u64.bits bh).toNat)) c_4.1.1) fun c_5 =>
 oB (math_bits_Add64.sh F c_3.1.1 c_5.1.2.1 0) fun c_6 =>
 bif (c_5.1.1 != 0) then k0 10 (0,0)
 else bif (c_6.1.2.1 != 0) then k0 10 (0,0)
 else oB (wide_Join.sh F (!(decide (a.1 < 0) == decide (b.1 < 0))) c_6.1.1 c_3.1.2.1) fun c_7 =>
 k1 c_7.1.2.1 c_7.1.1
def times_Mul.sh (F:Nat) (a:tWide.T) (b:tWide.T):Option times_Mul.sg.R :=
 oB (wide_Abs.sh F a) fun c_1 =>
 oB (wide_Abs.sh F b) fun c_2 =>
 bif (c_1.1.1 != 0) then bif (c_2.1.1 != 0) then some (((0,0),10,()),())
  else times_Mul.j5 F (fun r58 r48=>some ((r48,r58,()),())) (fun r59 r49=>some ((r49,r59,()),())) c_1.1.1 c_1.1.2.1 c_2.1.1 c_2.1.2.1 a b (0,0)
 else times_Mul.j5 F (fun r510 r410=>some ((r410,r510,()),())) (fun r511 r411=>some ((r411,r511,()),())) c_1.1.1 c_1.1.2.1 c_2.1.1 c_2.1.2.1 a b (0,0)
def times_Mul.sp (F:Nat):TA times_Mul.sg.args→Option times_Mul.sg.R:=fun x=>times_Mul.sh F x.1 x.2.1
@[reducible] def times_Power.sg:Sig:={args:=[.d (.c (.int .i64))],res:=[.g tWide,.c (.int .i64)]}
def times_Power.l7.body {R:Type} (F:Nat) (k0:Int→Int→Bool→tWide.T→tWide.T→Option R) (rec:Int→Int→tWide.T→tWide.T→Option R) (t12:Int) (t13:Int) (r2:tWide.T) (p:tWide.T):Option R :=
 bif decide (t13 < t12) then oB (wide_Of.sh F 10000) fun c_2 =>
  oB (times_Mul.sh F p c_2.1.1) fun c_3 =>
  rec t12 (IntKind.i64.wrap (t13 + 1)) r2 c_3.1.1
 else k0 t12 t13 (decide (t13 < t12)) r2 p
def times_Power.l7 {R:Type} (F:Nat) (k0:Int→Int→Bool→tWide.T→tWide.T→Option R):Nat→Int→Int→tWide.T→tWide.T→Option R
 | 0,_,_,_,_=>none
 | fu + 1,t12,t13,r2,p=>times_Power.l7.body F k0 (times_Power.l7 F k0 fu) t12 t13 r2 p
def times_Power.sh (F:Nat) (k:Int):Option times_Power.sg.R :=
 bif decide (k < 0) then some (((0,0),1,()),())
 else bif decide (k > 9) then some (((0,0),10,()),())
 else oB (wide_Of.sh F 1) fun c_1 =>
 times_Power.l7 F (fun t124 t134 t144 r24 p4=>some ((p4,0,()),())) F k 0 (0,0) c_1.1.1
def times_Power.sp (F:Nat):TA times_Power.sg.args→Option times_Power.sg.R:=fun x=>times_Power.sh F x.1
@[reducible] def bound_takes.sg:Sig:={args:=[.d (.g tNode)],res:=[.c (.int .i64)]}
def bound_takes.j10 {R:Type} (F:Nat) (k0:Int→Option R) (k1:Int→Option R) (k2:Int→Option R) (k3:Bool→Option R) (t4:Int) (t10:Bool) (n:tNode.T):Option R :=
 bif t10 then k0 2
 else bif (t4 == 9) then bif (t4 == 9) then k1 n.2.2.2.1
  else bif (t4 == 16) then k2 3
  else k3 (t4 == 16)
 else bif (t4 == 10) then k1 n.2.2.2.1
 else bif (t4 == 16) then k2 3
 else k3 (t4 == 16)
def bound_takes.j6 {R:Type} (F:Nat) (k0:Int→Option R) (k1:Int→Option R) (k2:Int→Option R) (k3:Int→Option R) (k4:Bool→Option R) (t4:Int) (t5:Bool) (n:tNode.T):Option R :=
 bif t5 then k0 0
 else bif (t4 == 6) then bound_takes.j10 F (fun r21=>k1 r21) (fun r22=>k2 r22) (fun r23=>k3 r23) (fun t194=>k4 t194) t4 (t4 == 6) n
 else bif (t4 == 7) then bound_takes.j10 F (fun r25=>k1 r25) (fun r26=>k2 r26) (fun r27=>k3 r27) (fun t198=>k4 t198) t4 (t4 == 7) n
 else bound_takes.j10 F (fun r29=>k1 r29) (fun r210=>k2 r210) (fun r211=>k3 r211) (fun t1912=>k4 t1912) t4 (t4 == 8) n
def bound_takes.sh (F:Nat) (n:tNode.T):Option bound_takes.sg.R :=
 bif (n.1 == 1) then bound_takes.j6 F (fun r213=>some ((r213,()),())) (fun r214=>some ((r214,()),())) (fun r215=>some ((r215,()),())) (fun r216=>some ((r216,()),())) (fun t1917=>some ((1,()),())) n.1 (n.1 == 1) n
 else bif (n.1 == 2) then bound_takes.j6 F (fun r218=>some ((r218,()),())) (fun r219=>some ((r219,()),())) (fun r220=>some ((r220,()),())) (fun r221=>some ((r221,()),())) (fun t1922=>some ((1,()),())) n.1 (n.1 == 2) n
 else bif (n.1 == 3) then bound_takes.j6 F (fun r223=>some ((r223,()),())) (fun r224=>some ((r224,()),())) (fun r225=>some ((r225,()),())) (fun r226=>some ((r226,()),())) (fun t1927=>some ((1,()),())) n.1 (n.1 == 3) n
 else bound_takes.j6 F (fun r228=>some ((r228,()),())) (fun r229=>some ((r229,()),())) (fun r230=>some ((r230,()),())) (fun r231=>some ((r231,()),())) (fun t1932=>some ((1,()),())) n.1 (n.1 == 4) n
def bound_takes.sp (F:Nat):TA bound_takes.sg.args→Option bound_takes.sg.R:=fun x=>bound_takes.sh F x.1
@[reducible] def bound_meter_keep.sg:Sig:={args:=[.io tBound_meter,.d (.g tWide),.d (.c (.int .i64))],res:=[.g tWide]}
def bound_meter_keep.sh (F:Nat) (m:tBound_meter.T) (w:tWide.T) (e:Int):Option bound_meter_keep.sg.R :=
 bif m.2 then some ((w,()),((m.1,true),()))
 else some ((w,()),((m.1,(e != 0)),()))
def bound_meter_keep.sp (F:Nat):TA bound_meter_keep.sg.args→Option bound_meter_keep.sg.R:=fun x=>bound_meter_keep.sh F x.1 x.2.1 x.2.2.1
@[reducible] def bound_meter_mul.sg:Sig:={args:=[.io tBound_meter,.d (.g tWide),.d (.g tWide)],res:=[.g tWide]}
def bound_meter_mul.sh (F:Nat) (m:tBound_meter.T) (a:tWide.T) (b:tWide.T):Option bound_meter_mul.sg.R :=
 oB (times_Mul.sh F a b) fun c_1 =>
 oB (bound_meter_keep.sh F m c_1.1.1 c_1.1.2.1) fun c_2 =>
 some ((c_2.1.1,()),(c_2.2.1,()))
def bound_meter_mul.sp (F:Nat):TA bound_meter_mul.sg.args→Option bound_meter_mul.sg.R:=fun x=>bound_meter_mul.sh F x.1 x.2.1 x.2.2.1
@[reducible] def math_bits_Len64.sg:Sig:={args:=[.d (.c (.int .u64))],res:=[.c (.int .i64)]}
def math_bits_Len64.j7 {R:Type} (F:Nat) (k0:Int→Option R) (x:Int) (n:Int):Option R :=
 bif decide (x ≥ 256) then bif idx (IntKind.u8.wrap (x.fdiv (2 ^ (min (8:Int).toNat IntKind.u64.bits)))) ((⟨#[0,1,2,2,3,3,3,3,4,4,4,4,4,4,4,4,5,5,5,5,5,5,5,5,5,5,5,5,5,5,5,5,6,6,6,6,6,6,6,6,6,6,6,6,6,6,6,6,6,6,6,6,6,6,6,6,6,6,6,6,6,6,6,6,7,7,7,7,7,7,7,7,7,7,7,7,7,7,7,7,7,7,7,7,7,7,7,7,7,7,7,7,7,7,7,7,7,7,7,7,7,7,7,7,7,7,7,7,7,7,7,7,7,7,7,7,7,7,7,7,7,7,7,7,7,7,7,7,8,8,8,8,8,8,8,8,8,8,8,8,8,8,8,8,8,8,8,8,8,8,8,8,8,8,8,8,8,8,8,8,8,8,8,8,8,8,8,8,8,8,8,8,8,8,8,8,8,8,8,8,8,8,8,8,8,8,8,8,8,8,8,8,8,8,8,8,8,8,8,8,8,8,8,8,8,8,8,8,8,8,8,8,8,8,8,8,8,8,8,8,8,8,8,8,8,8,8,8,8,8,8,8,8,8,8,8,8,8,8,8,8,8,8,8,8,8,8,8,8,8,8,8,8,8,8,8]⟩:ByteArray).size) then k0 (IntKind.i64.wrap ((IntKind.i64.wrap (n + 8)) + (IntKind.i64.wrap (bt (⟨#[0,1,2,2,3,3,3,3,4,4,4,4,4,4,4,4,5,5,5,5,5,5,5,5,5,5,5,5,5,5,5,5,6,6,6,6,6,6,6,6,6,6,6,6,6,6,6,6,6,6,6,6,6,6,6,6,6,6,6,6,6,6,6,6,7,7,7,7,7,7,7,7,7,7,7,7,7,7,7,7,7,7,7,7,7,7,7,7,7,7,7,7,7,7,7,7,7,7,7,7,7,7,7,7,7,7,7,7,7,7,7,7,7,7,7,7,7,7,7,7,7,7,7,7,7,7,7,7,8,8,8,8,8,8,8,8,8,8,8,8,8,8,8,8,8,8,8,8,8,8,8,8,8,8,8,8,8,8,8,8,8,8,8,8,8,8,8,8,8,8,8,8,8,8,8,8,8,8,8,8,8,8,8,8,8,8,8,8,8,8,8,8,8,8,8,8,8,8,8,8,8,8,8,8,8,8,8,8,8,8,8,8,8,8,8,8,8,8,8,8,8,8,8,8,8,8,8,8,8,8,8,8,8,8,8,8,8,8,8,8,8,8,8,8,8,8,8,8,8,8,8,8,8,8,8,8]⟩:ByteArray) (IntKind.u8.wrap (x.fdiv (2 ^ (min (8:Int).toNat IntKind.u64.bits))))))))
  else none
 else bif idx (IntKind.u8.wrap x) ((⟨#[0,1,2,2,3,3,3,3,4,4,4,4,4,4,4,4,5,5,5,5,5,5,5,5,5,5,5,5,5,5,5,5,6,6,6,6,6,6,6,6,6,6,6,6,6,6,6,6,6,6,6,6,6,6,6,6,6,6,6,6,6,6,6,6,7,7,7,7,7,7,7,7,7,7,7,7,7,7,7,7,7,7,7,7,7,7,7,7,7,7,7,7,7,7,7,7,7,7,7,7,7,7,7,7,7,7,7,7,7,7,7,7,7,7,7,7,7,7,7,7,7,7,7,7,7,7,7,7,8,8,8,8,8,8,8,8,8,8,8,8,8,8,8,8,8,8,8,8,8,8,8,8,8,8,8,8,8,8,8,8,8,8,8,8,8,8,8,8,8,8,8,8,8,8,8,8,8,8,8,8,8,8,8,8,8,8,8,8,8,8,8,8,8,8,8,8,8,8,8,8,8,8,8,8,8,8,8,8,8,8,8,8,8,8,8,8,8,8,8,8,8,8,8,8,8,8,8,8,8,8,8,8,8,8,8,8,8,8,8,8,8,8,8,8,8,8,8,8,8,8,8,8,8,8,8,8]⟩:ByteArray).size) then k0 (IntKind.i64.wrap (n + (IntKind.i64.wrap (bt (⟨#[0,1,2,2,3,3,3,3,4,4,4,4,4,4,4,4,5,5,5,5,5,5,5,5,5,5,5,5,5,5,5,5,6,6,6,6,6,6,6,6,6,6,6,6,6,6,6,6,6,6,6,6,6,6,6,6,6,6,6,6,6,6,6,6,7,7,7,7,7,7,7,7,7,7,7,7,7,7,7,7,7,7,7,7,7,7,7,7,7,7,7,7,7,7,7,7,7,7,7,7,7,7,7,7,7,7,7,7,7,7,7,7,7,7,7,7,7,7,7,7,7,7,7,7,7,7,7,7,8,8,8,8,8,8,8,8,8,8,8,8,8,8,8,8,8,8,8,8,8,8,8,8,8,8,8,8,8,8,8,8,8,8,8,8,8,8,8,8,8,8,8,8,8,8,8,8,8,8,8,8,8,8,8,8,8,8,8,8,8,8,8,8,8,8,8,8,8,8,8,8,8,8,8,8,8,8,8,8,8,8,8,8,8,8,8,8,8,8,8,8,8,8,8,8,8,8,8,8,8,8,8,8,8,8,8,8,8,8,8,8,8,8,8,8,8,8,8,8,8,8,8,8,8,8,8,8]⟩:ByteArray) (IntKind.u8.wrap x)))))
 else none
def math_bits_Len64.j4 {R:Type} (F:Nat) (k0:Int→Option R) (x:Int) (n:Int):Option R :=
 bif decide (x ≥ 65536) then math_bits_Len64.j7 F (fun n1=>k0 n1) (x.fdiv (2 ^ (min (16:Int).toNat IntKind.u64.bits))) (IntKind.i64.wrap (n + 16))
 else math_bits_Len64.j7 F (fun n2=>k0 n2) x n
def math_bits_Len64.sh (F:Nat) (x:Int):Option math_bits_Len64.sg.R :=
 bif decide (x ≥ 4294967296) then math_bits_Len64.j4 F (fun n3=>some ((n3,()),())) (x.fdiv (2 ^ (min (32:Int).toNat IntKind.u64.bits))) 32
 else math_bits_Len64.j4 F (fun n4=>some ((n4,()),())) x 0
def math_bits_Len64.sp (F:Nat):TA math_bits_Len64.sg.args→Option math_bits_Len64.sg.R:=fun x=>math_bits_Len64.sh F x.1
@[reducible] def math_bits_LeadingZeros64.sg:Sig:={args:=[.d (.c (.int .u64))],res:=[.c (.int .i64)]}
def math_bits_LeadingZeros64.sh (F:Nat) (x:Int):Option math_bits_LeadingZeros64.sg.R :=
 oB (math_bits_Len64.sh F x) fun c_1 =>
 some ((IntKind.i64.wrap (64 - c_1.1.1),()),())
def math_bits_LeadingZeros64.sp (F:Nat):TA math_bits_LeadingZeros64.sg.args→Option math_bits_LeadingZeros64.sg.R:=fun x=>math_bits_LeadingZeros64.sh F x.1
@[reducible] def math_bits_Div64.sg:Sig:={args:=[.d (.c (.int .u64)),.d (.c (.int .u64)),.d (.c (.int .u64))],res:=[.c (.int .u64),.c (.int .u64)]}
def math_bits_Div64.l17.body {R:Type} (F:Nat) (k0:Int→Int→Int→Int→Int→Int→Int→Int→Int→Bool→Option R) (k1:Int→Int→Int→Int→Int→Int→Int→Int→Int→Bool→Option R) (rec:Int→Int→Int→Int→Int→Int→Int→Int→Int→Option R) (y:Int) (s:Int) (yn1:Int) (yn0:Int) (un32:Int) (un1:Int) (un0:Int) (q1:Int) (rhat:Int):Option R :=
 bif decide (q1 ≥ 4294967296) then bif decide ((IntKind.u64.wrap (rhat + yn1)) ≥ 4294967296) then k0 y s yn1 yn0 un32 un1 un0 (IntKind.u64.wrap (q1 - 1)) (IntKind.u64.wrap (rhat + yn1)) (decide ((IntKind.u64.wrap (rhat + yn1)) ≥ 4294967296))
  else rec y s yn1 yn0 un32 un1 un0 (IntKind.u64.wrap (q1 - 1)) (IntKind.u64.wrap (rhat + yn1))
 else bif decide ((IntKind.u64.wrap (q1 * yn0)) > (IntKind.u64.wrap ((IntKind.u64.wrap (4294967296 * rhat)) + un1))) then bif decide ((IntKind.u64.wrap (rhat + yn1)) ≥ 4294967296) then k0 y s yn1 yn0 un32 un1 un0 (IntKind.u64.wrap (q1 - 1)) (IntKind.u64.wrap (rhat + yn1)) (decide ((IntKind.u64.wrap (rhat + yn1)) ≥ 4294967296))
  else rec y s yn1 yn0 un32 un1 un0 (IntKind.u64.wrap (q1 - 1)) (IntKind.u64.wrap (rhat + yn1))
 else k1 y s yn1 yn0 un32 un1 un0 q1 rhat (decide ((IntKind.u64.wrap (q1 * yn0)) > (IntKind.u64.wrap ((IntKind.u64.wrap (4294967296 * rhat)) + un1))))
def math_bits_Div64.l17 {R:Type} (F:Nat) (k0:Int→Int→Int→Int→Int→Int→Int→Int→Int→Bool→Option R) (k1:Int→Int→Int→Int→Int→Int→Int→Int→Int→Bool→Option R):Nat→Int→Int→Int→Int→Int→Int→Int→Int→Int→Option R
 | 0,_,_,_,_,_,_,_,_,_=>none
 | fu + 1,y,s,yn1,yn0,un32,un1,un0,q1,rhat=>math_bits_Div64.l17.body F k0 k1 (math_bits_Div64.l17 F k0 k1 fu) y s yn1 yn0 un32 un1 un0 q1 rhat
def math_bits_Div64.l24.body {R:Type} (F:Nat) (k0:Int→Int→Int→Int→Int→Int→Int→Int→Int→Bool→Option R) (k1:Int→Int→Int→Int→Int→Int→Int→Int→Int→Bool→Option R) (rec:Int→Int→Int→Int→Int→Int→Int→Int→Int→Option R) (y:Int) (s:Int) (yn1:Int) (yn0:Int) (un0:Int) (q1:Int) (rhat:Int) (un21:Int) (q0:Int):Option R :=
 bif decide (q0 ≥ 4294967296) then bif decide ((IntKind.u64.wrap (rhat + yn1)) ≥ 4294967296) then k0 y s yn1 yn0 un0 q1 (IntKind.u64.wrap (rhat + yn1)) un21 (IntKind.u64.wrap (q0 - 1)) (decide ((IntKind.u64.wrap (rhat + yn1)) ≥ 4294967296))
  else rec y s yn1 yn0 un0 q1 (IntKind.u64.wrap (rhat + yn1)) un21 (IntKind.u64.wrap (q0 - 1))
 else bif decide ((IntKind.u64.wrap (q0 * yn0)) > (IntKind.u64.wrap ((IntKind.u64.wrap (4294967296 * rhat)) + un0))) then bif decide ((IntKind.u64.wrap (rhat + yn1)) ≥ 4294967296) then k0 y s yn1 yn0 un0 q1 (IntKind.u64.wrap (rhat + yn1)) un21 (IntKind.u64.wrap (q0 - 1)) (decide ((IntKind.u64.wrap (rhat + yn1)) ≥ 4294967296))
  else rec y s yn1 yn0 un0 q1 (IntKind.u64.wrap (rhat + yn1)) un21 (IntKind.u64.wrap (q0 - 1))
 else k1 y s yn1 yn0 un0 q1 rhat un21 q0 (decide ((IntKind.u64.wrap (q0 * yn0)) > (IntKind.u64.wrap ((IntKind.u64.wrap (4294967296 * rhat)) + un0))))
def math_bits_Div64.l24 {R:Type} (F:Nat) (k0:Int→Int→Int→Int→Int→Int→Int→Int→Int→Bool→Option R) (k1:Int→Int→Int→Int→Int→Int→Int→Int→Int→Bool→Option R):Nat→Int→Int→Int→Int→Int→Int→Int→Int→Int→Option R
 | 0,_,_,_,_,_,_,_,_,_=>none
 | fu + 1,y,s,yn1,yn0,un0,q1,rhat,un21,q0=>math_bits_Div64.l24.body F k0 k1 (math_bits_Div64.l24 F k0 k1 fu) y s yn1 yn0 un0 q1 rhat un21 q0
def math_bits_Div64.j28 {R:Type} (F:Nat) (k0:Int→Int→Option R) (y:Int) (s:Int) (un0:Int) (q1:Int) (un21:Int) (q0:Int):Option R :=
 bif decide (0 ≤ s) then k0 (IntKind.u64.wrap ((IntKind.u64.wrap (q1 * 4294967296)) + q0)) ((IntKind.u64.wrap ((IntKind.u64.wrap ((IntKind.u64.wrap (un21 * 4294967296)) + un0)) - (IntKind.u64.wrap (q0 * y)))).fdiv (2 ^ (min s.toNat IntKind.u64.bits)))
 else none
def math_bits_Div64.j21 {R:Type} (F:Nat) (k0:Int→Int→Option R) (y:Int) (s:Int) (yn1:Int) (yn0:Int) (un32:Int) (un1:Int) (un0:Int) (q1:Int):Option R :=
 bif (yn1 != 0) then math_bits_Div64.l24 F (fun y3 s3 yn13 yn03 un03 q13 rhat3 un213 q03 t1203=>math_bits_Div64.j28 F (fun quo4 rem4=>k0 quo4 rem4) y3 s3 un03 q13 un213 q03) (fun y5 s5 yn15 yn05 un05 q15 rhat5 un215 q05 t1135=>math_bits_Div64.j28 F (fun quo6 rem6=>k0 quo6 rem6) y5 s5 un05 q15 un215 q05) F y s yn1 yn0 un0 q1 (IntKind.u64.wrap ((IntKind.u64.wrap ((IntKind.u64.wrap ((IntKind.u64.wrap (un32 * 4294967296)) + un1)) - (IntKind.u64.wrap (q1 * y)))) - (IntKind.u64.wrap ((IntKind.u64.wrap ((IntKind.u64.wrap ((IntKind.u64.wrap ((IntKind.u64.wrap (un32 * 4294967296)) + un1)) - (IntKind.u64.wrap (q1 * y)))).tdiv yn1)) * yn1)))) (IntKind.u64.wrap ((IntKind.u64.wrap ((IntKind.u64.wrap (un32 * 4294967296)) + un1)) - (IntKind.u64.wrap (q1 * y)))) (IntKind.u64.wrap ((IntKind.u64.wrap ((IntKind.u64.wrap ((IntKind.u64.wrap (un32 * 4294967296)) + un1)) - (IntKind.u64.wrap (q1 * y)))).tdiv yn1))
 else none
def math_bits_Div64.sh (F:Nat) (hi:Int) (lo:Int) (y:Int):Option math_bits_Div64.sg.R :=
 bif (y == 0) then none
 else bif decide (y ≤ hi) then none
 else bif (hi == 0) then bif (y != 0) then bif (y != 0) then some ((IntKind.u64.wrap (lo.tdiv y),lo.tmod y,()),())
   else none
  else none
 else oB (math_bits_LeadingZeros64.sh F y) fun c_1 =>
 bif decide (0 ≤ (IntKind.u64.wrap c_1.1.1)) then bif decide (0 ≤ (IntKind.u64.wrap c_1.1.1)) then bif decide (0 ≤ (IntKind.u64.wrap (64 - (IntKind.u64.wrap c_1.1.1)))) then bif decide (0 ≤ (IntKind.u64.wrap c_1.1.1)) then bif (((IntKind.u64.wrap (y * 2 ^ (min (IntKind.u64.wrap c_1.1.1).toNat IntKind.u64.bits))).fdiv (2 ^ (min (32:Int).toNat IntKind.u64.bits))) != 0) then math_bits_Div64.l17 F (fun y2 s2 yn12 yn02 un322 un12 un02 q12 rhat2 t852=>math_bits_Div64.j21 F (fun quo7 rem7=>some ((quo7,rem7,()),())) y2 s2 yn12 yn02 un322 un12 un02 q12) (fun y8 s8 yn18 yn08 un328 un18 un08 q18 rhat8 t788=>math_bits_Div64.j21 F (fun quo9 rem9=>some ((quo9,rem9,()),())) y8 s8 yn18 yn08 un328 un18 un08 q18) F (IntKind.u64.wrap (y * 2 ^ (min (IntKind.u64.wrap c_1.1.1).toNat IntKind.u64.bits))) (IntKind.u64.wrap c_1.1.1) ((IntKind.u64.wrap (y * 2 ^ (min (IntKind.u64.wrap c_1.1.1).toNat IntKind.u64.bits))).fdiv (2 ^ (min (32:Int).toNat IntKind.u64.bits))) (IntKind.u64.wrap ((BitVec.ofInt IntKind.u64.bits (IntKind.u64.wrap (y * 2 ^ (min (IntKind.u64.wrap c_1.1.1).toNat IntKind.u64.bits))) &&& BitVec.ofInt IntKind.u64.bits 4294967295).toNat)) (IntKind.u64.wrap ((BitVec.ofInt IntKind.u64.bits (IntKind.u64.wrap (hi * 2 ^ (min (IntKind.u64.wrap c_1.1.1).toNat IntKind.u64.bits))) ||| BitVec.ofInt IntKind.u64.bits (lo.fdiv (2 ^ (min (IntKind.u64.wrap (64 - (IntKind.u64.wrap c_1.1.1))).toNat IntKind.u64.bits)))).toNat)) ((IntKind.u64.wrap (lo * 2 ^ (min (IntKind.u64.wrap c_1.1.1).toNat IntKind.u64.bits))).fdiv (2 ^ (min (32:Int).toNat IntKind.u64.bits))) (IntKind.u64.wrap ((BitVec.ofInt IntKind.u64.bits (IntKind.u64.wrap (lo * 2 ^ (min (IntKind.u64.wrap c_1.1.1).toNat IntKind.u64.bits))) &&& BitVec.ofInt IntKind.u64.bits 4294967295).toNat)) (IntKind.u64.wrap ((IntKind.u64.wrap ((BitVec.ofInt IntKind.u64.bits (IntKind.u64.wrap (hi * 2 ^ (min (IntKind.u64.wrap c_1.1.1).toNat IntKind.u64.bits))) ||| BitVec.ofInt IntKind.u64.bits (lo.fdiv (2 ^ (min (IntKind.u64.wrap (64 - (IntKind.u64.wrap c_1.1.1))).toNat IntKind.u64.bits)))).toNat)).tdiv ((IntKind.u64.wrap (y * 2 ^ (min (IntKind.u64.wrap c_1.1.1).toNat IntKind.u64.bits))).fdiv (2 ^ (min (32:Int).toNat IntKind.u64.bits))))) (IntKind.u64.wrap ((IntKind.u64.wrap ((BitVec.ofInt IntKind.u64.bits (IntKind.u64.wrap (hi * 2 ^ (min (IntKind.u64.wrap c_1.1.1).toNat IntKind.u64.bits))) ||| BitVec.ofInt IntKind.u64.bits (lo.fdiv (2 ^ (min (IntKind.u64.wrap (64 - (IntKind.u64.wrap c_1.1.1))).toNat IntKind.u64.bits)))).toNat)) - (IntKind.u64.wrap ((IntKind.u64.wrap ((IntKind.u64.wrap ((BitVec.ofInt IntKind.u64.bits (IntKind.u64.wrap (hi * 2 ^ (min (IntKind.u64.wrap c_1.1.1).toNat IntKind.u64.bits))) ||| BitVec.ofInt IntKind.u64.bits (lo.fdiv (2 ^ (min (IntKind.u64.wrap (64 - (IntKind.u64.wrap c_1.1.1))).toNat IntKind.u64.bits)))).toNat)).tdiv ((IntKind.u64.wrap (y * 2 ^ (min (IntKind.u64.wrap c_1.1.1).toNat IntKind.u64.bits))).fdiv (2 ^ (min (32:Int).toNat IntKind.u64.bits))))) * ((IntKind.u64.wrap (y * 2 ^ (min (IntKind.u64.wrap c_1.1.1).toNat IntKind.u64.bits))).fdiv (2 ^ (min (32:Int).toNat IntKind.u64.bits)))))))
     else none
    else none
   else none
  else none
 else none
def math_bits_Div64.sp (F:Nat):TA math_bits_Div64.sg.args→Option math_bits_Div64.sg.R:=fun x=>math_bits_Div64.sh F x.1 x.2.1 x.2.2.1
@[reducible] def times_quoRem.sg:Sig:={args:=[.d (.c (.int .u64)),.d (.c (.int .u64)),.d (.c (.int .u64)),.d (.c (.int .u64))],res:=[.c (.int .u64),.c (.int .u64),.c (.int .u64),.c (.int .u64)]}
def times_quoRem.l7.body {R:Type} (F:Nat) (k0:Int→Int→Int→Int→Int→Int→Int→Bool→Option R) (rec:Int→Int→Int→Int→Int→Int→Int→Option R) (al:Int) (bh:Int) (bl:Int) (ql:Int) (rh:Int) (rl:Int) (i:Int):Option R :=
 bif decide (i ≥ 0) then bif decide (0 ≤ i) then bif decide ((IntKind.u64.wrap ((BitVec.ofInt IntKind.u64.bits (IntKind.u64.wrap (rh * 2 ^ (min (1:Int).toNat IntKind.u64.bits))) ||| BitVec.ofInt IntKind.u64.bits (rl.fdiv (2 ^ (min (63:Int).toNat IntKind.u64.bits)))).toNat)) > bh) then oB (math_bits_Sub64.sh F (IntKind.u64.wrap ((BitVec.ofInt IntKind.u64.bits (IntKind.u64.wrap (rl * 2 ^ (min (1:Int).toNat IntKind.u64.bits))) ||| BitVec.ofInt IntKind.u64.bits (IntKind.u64.wrap ((BitVec.ofInt IntKind.u64.bits (al.fdiv (2 ^ (min i.toNat IntKind.u64.bits))) &&& BitVec.ofInt IntKind.u64.bits 1).toNat))).toNat)) bl 0) fun c_2 =>
    oB (math_bits_Sub64.sh F (IntKind.u64.wrap ((BitVec.ofInt IntKind.u64.bits (IntKind.u64.wrap (rh * 2 ^ (min (1:Int).toNat IntKind.u64.bits))) ||| BitVec.ofInt IntKind.u64.bits (rl.fdiv (2 ^ (min (63:Int).toNat IntKind.u64.bits)))).toNat)) bh c_2.1.2.1) fun c_3 =>
    bif decide (0 ≤ i) then rec al bh bl (IntKind.u64.wrap ((BitVec.ofInt IntKind.u64.bits ql ||| BitVec.ofInt IntKind.u64.bits (IntKind.u64.wrap (1 * 2 ^ (min i.toNat IntKind.u64.bits)))).toNat)) c_3.1.1 c_2.1.1 (IntKind.i64.wrap (i - 1))
    else none
   else bif ((IntKind.u64.wrap ((BitVec.ofInt IntKind.u64.bits (IntKind.u64.wrap (rh * 2 ^ (min (1:Int).toNat IntKind.u64.bits))) ||| BitVec.ofInt IntKind.u64.bits (rl.fdiv (2 ^ (min (63:Int).toNat IntKind.u64.bits)))).toNat)) == bh) then bif decide ((IntKind.u64.wrap ((BitVec.ofInt IntKind.u64.bits (IntKind.u64.wrap (rl * 2 ^ (min (1:Int).toNat IntKind.u64.bits))) ||| BitVec.ofInt IntKind.u64.bits (IntKind.u64.wrap ((BitVec.ofInt IntKind.u64.bits (al.fdiv (2 ^ (min i.toNat IntKind.u64.bits))) &&& BitVec.ofInt IntKind.u64.bits 1).toNat))).toNat)) ≥ bl) then oB (math_bits_Sub64.sh F (IntKind.u64.wrap ((BitVec.ofInt IntKind.u64.bits (IntKind.u64.wrap (rl * 2 ^ (min (1:Int).toNat IntKind.u64.bits))) ||| BitVec.ofInt IntKind.u64.bits (IntKind.u64.wrap ((BitVec.ofInt IntKind.u64.bits (al.fdiv (2 ^ (min i.toNat IntKind.u64.bits))) &&& BitVec.ofInt IntKind.u64.bits 1).toNat))).toNat)) bl 0) fun c_4 =>
     oB (math_bits_Sub64.sh F (IntKind.u64.wrap ((BitVec.ofInt IntKind.u64.bits (IntKind.u64.wrap (rh * 2 ^ (min (1:Int).toNat IntKind.u64.bits))) ||| BitVec.ofInt IntKind.u64.bits (rl.fdiv (2 ^ (min (63:Int).toNat IntKind.u64.bits)))).toNat)) bh c_4.1.2.1) fun c_5 =>
     bif decide (0 ≤ i) then rec al bh bl (IntKind.u64.wrap ((BitVec.ofInt IntKind.u64.bits ql ||| BitVec.ofInt IntKind.u64.bits (IntKind.u64.wrap (1 * 2 ^ (min i.toNat IntKind.u64.bits)))).toNat)) c_5.1.1 c_4.1.1 (IntKind.i64.wrap (i - 1))
     else none
    else rec al bh bl ql (IntKind.u64.wrap ((BitVec.ofInt IntKind.u64.bits (IntKind.u64.wrap (rh * 2 ^ (min (1:Int).toNat IntKind.u64.bits))) ||| BitVec.ofInt IntKind.u64.bits (rl.fdiv (2 ^ (min (63:Int).toNat IntKind.u64.bits)))).toNat)) (IntKind.u64.wrap ((BitVec.ofInt IntKind.u64.bits (IntKind.u64.wrap (rl * 2 ^ (min (1:Int).toNat IntKind.u64.bits))) ||| BitVec.ofInt IntKind.u64.bits (IntKind.u64.wrap ((BitVec.ofInt IntKind.u64.bits (al.fdiv (2 ^ (min i.toNat IntKind.u64.bits))) &&& BitVec.ofInt IntKind.u64.bits 1).toNat))).toNat)) (IntKind.i64.wrap (i - 1))
   else rec al bh bl ql (IntKind.u64.wrap ((BitVec.ofInt IntKind.u64.bits (IntKind.u64.wrap (rh * 2 ^ (min (1:Int).toNat IntKind.u64.bits))) ||| BitVec.ofInt IntKind.u64.bits (rl.fdiv (2 ^ (min (63:Int).toNat IntKind.u64.bits)))).toNat)) (IntKind.u64.wrap ((BitVec.ofInt IntKind.u64.bits (IntKind.u64.wrap (rl * 2 ^ (min (1:Int).toNat IntKind.u64.bits))) ||| BitVec.ofInt IntKind.u64.bits (IntKind.u64.wrap ((BitVec.ofInt IntKind.u64.bits (al.fdiv (2 ^ (min i.toNat IntKind.u64.bits))) &&& BitVec.ofInt IntKind.u64.bits 1).toNat))).toNat)) (IntKind.i64.wrap (i - 1))
  else none
 else k0 al bh bl ql rh rl i (decide (i ≥ 0))
def times_quoRem.l7 {R:Type} (F:Nat) (k0:Int→Int→Int→Int→Int→Int→Int→Bool→Option R):Nat→Int→Int→Int→Int→Int→Int→Int→Option R
 | 0,_,_,_,_,_,_,_=>none
 | fu + 1,al,bh,bl,ql,rh,rl,i=>times_quoRem.l7.body F k0 (times_quoRem.l7 F k0 fu) al bh bl ql rh rl i
def times_quoRem.sh (F:Nat) (ah:Int) (al:Int) (bh:Int) (bl:Int):Option times_quoRem.sg.R :=
 bif (bh == 0) then bif (bl != 0) then bif (bl != 0) then oB (math_bits_Div64.sh F (ah.tmod bl) al bl) fun c_1 =>
    some ((IntKind.u64.wrap (ah.tdiv bl),c_1.1.1,0,c_1.1.2.1,()),())
   else none
  else none
 else times_quoRem.l7 F (fun al6 bh6 bl6 ql6 rh6 rl6 i6 t346=>some ((0,ql6,rh6,rl6,()),())) F al bh bl 0 0 ah 63
def times_quoRem.sp (F:Nat):TA times_quoRem.sg.args→Option times_quoRem.sg.R:=fun x=>times_quoRem.sh F x.1 x.2.1 x.2.2.1 x.2.2.2.1
@[reducible] def times_QuoRem.sg:Sig:={args:=[.d (.g tWide),.d (.g tWide)],res:=[.g tWide,.g tWide,.c (.int .i64)]}
def times_QuoRem.sh (F:Nat) (a:tWide.T) (b:tWide.T):Option times_QuoRem.sg.R :=
 bif ((b.1 == 0) && ((b.2 == 0) && true)) then some (((0,0),(0,0),20,()),())
 else oB (wide_Abs.sh F a) fun c_1 =>
 oB (wide_Abs.sh F b) fun c_2 =>
 oB (times_quoRem.sh F c_1.1.1 c_1.1.2.1 c_2.1.1 c_2.1.2.1) fun c_3 =>
 oB (wide_Join.sh F (!(decide (a.1 < 0) == decide (b.1 < 0))) c_3.1.1 c_3.1.2.1) fun c_4 =>
 bif (c_4.1.2.1 != 0) then some (((0,0),(0,0),c_4.1.2.1,()),())
 else oB (wide_Join.sh F (decide (a.1 < 0)) c_3.1.2.2.1 c_3.1.2.2.2.1) fun c_5 =>
 some ((c_4.1.1,c_5.1.1,c_5.1.2.1,()),())
def times_QuoRem.sp (F:Nat):TA times_QuoRem.sg.args→Option times_QuoRem.sg.R:=fun x=>times_QuoRem.sh F x.1 x.2.1
@[reducible] def times_away.sg:Sig:={args:=[.d (.g tWide),.d (.g tWide),.d (.g tWide),.d (.c (.int .i64))],res:=[.c .bool]}
def times_away.sh (F:Nat) (q:tWide.T) (r:tWide.T) (b:tWide.T) (mode:Int):Option times_away.sg.R :=
 bif (mode == 0) then some (((!(decide (r.1 < 0) == decide (b.1 < 0))),()),())
 else bif (mode == 1) then some ((!(!(decide (r.1 < 0) == decide (b.1 < 0))),()),())
 else bif (mode == 2) then some ((false,()),())
 else oB (wide_Abs.sh F r) fun c_1 =>
 oB (wide_Abs.sh F b) fun c_2 =>
 oB (math_bits_Sub64.sh F c_2.1.2.1 c_1.1.2.1 0) fun c_3 =>
 oB (math_bits_Sub64.sh F c_2.1.1 c_1.1.1 c_3.1.2.1) fun c_4 =>
 bif decide (c_1.1.1 > c_4.1.1) then some ((true,()),())
 else bif (c_1.1.1 == c_4.1.1) then bif decide (c_1.1.2.1 > c_3.1.1) then some ((true,()),())
  else bif (c_1.1.1 == c_4.1.1) then bif (c_1.1.2.1 == c_3.1.1) then bif (mode == 3) then some ((true,()),())
    else some ((((IntKind.u64.wrap ((BitVec.ofInt IntKind.u64.bits q.2 &&& BitVec.ofInt IntKind.u64.bits 1).toNat)) == 1),()),())
   else some ((false,()),())
  else some ((false,()),())
 else bif (c_1.1.1 == c_4.1.1) then bif (c_1.1.2.1 == c_3.1.1) then bif (mode == 3) then some ((true,()),())
   else some ((((IntKind.u64.wrap ((BitVec.ofInt IntKind.u64.bits q.2 &&& BitVec.ofInt IntKind.u64.bits 1).toNat)) == 1),()),())
  else some ((false,()),())
 else some ((false,()),())
def times_away.sp (F:Nat):TA times_away.sg.args→Option times_away.sg.R:=fun x=>times_away.sh F x.1 x.2.1 x.2.2.1 x.2.2.2.1
@[reducible] def wide_Add.sg:Sig:={args:=[.d (.g tWide),.d (.g tWide)],res:=[.g tWide,.c (.int .i64)]}
def wide_Add.sh (F:Nat) (a:tWide.T) (b:tWide.T):Option wide_Add.sg.R :=
 oB (math_bits_Add64.sh F a.2 b.2 0) fun c_1 =>
 oB (math_bits_Add64.sh F (IntKind.u64.wrap a.1) (IntKind.u64.wrap b.1) c_1.1.2.1) fun c_2 =>
 bif (decide (a.1 < 0) == decide (b.1 < 0)) then bif (!(decide ((IntKind.i64.wrap c_2.1.1) < 0) == decide (a.1 < 0))) then some (((0,0),10,()),())
  else some (((IntKind.i64.wrap c_2.1.1,c_1.1.1),0,()),())
 else some (((IntKind.i64.wrap c_2.1.1,c_1.1.1),0,()),())
def wide_Add.sp (F:Nat):TA wide_Add.sg.args→Option wide_Add.sg.R:=fun x=>wide_Add.sh F x.1 x.2.1
@[reducible] def times_Div.sg:Sig:={args:=[.d (.g tWide),.d (.g tWide),.d (.c (.int .i64))],res:=[.g tWide,.c (.int .i64)]}
def times_Div.sh (F:Nat) (a:tWide.T) (b:tWide.T) (mode:Int):Option times_Div.sg.R :=
 bif decide (mode < 0) then some (((0,0),1,()),())
 else bif decide (mode > 4) then some (((0,0),1,()),())
 else oB (times_QuoRem.sh F a b) fun c_1 =>
 bif (c_1.1.2.2.1 != 0) then some ((c_1.1.1,c_1.1.2.2.1,()),())
 else bif ((c_1.1.2.1.1 == 0) && ((c_1.1.2.1.2 == 0) && true)) then some ((c_1.1.1,c_1.1.2.2.1,()),())
 else oB (times_away.sh F c_1.1.1 c_1.1.2.1 b mode) fun c_2 =>
 bif !c_2.1.1 then some ((c_1.1.1,c_1.1.2.2.1,()),())
 else bif (!(decide (a.1 < 0) == decide (b.1 < 0))) then oB (wide_Of.sh F 1) fun c_3 =>
  oB (wide_Sub.sh F c_1.1.1 c_3.1.1) fun c_4 =>
  some ((c_4.1.1,c_4.1.2.1,()),())
 else oB (wide_Of.sh F 1) fun c_5 =>
 oB (wide_Add.sh F c_1.1.1 c_5.1.1) fun c_6 =>
 some ((c_6.1.1,c_6.1.2.1,()),())
def times_Div.sp (F:Nat):TA times_Div.sg.args→Option times_Div.sg.R:=fun x=>times_Div.sh F x.1 x.2.1 x.2.2.1
@[reducible] def bound_far.sg:Sig:={args:=[.d (.c (.int .i64))],res:=[.c (.int .i64)]}
def bound_far.sh (F:Nat) (v:Int):Option bound_far.sg.R :=
 some (((if IntKind.i64.wrap (0 - v) > v then IntKind.i64.wrap (0 - v) else v),()),())
def bound_far.sp (F:Nat):TA bound_far.sg.args→Option bound_far.sg.R:=fun x=>bound_far.sh F x.1
@[reducible] def bound_meter_add.sg:Sig:={args:=[.io tBound_meter,.d (.g tWide),.d (.g tWide)],res:=[.g tWide]}
def bound_meter_add.sh (F:Nat) (m:tBound_meter.T) (a:tWide.T) (b:tWide.T):Option bound_meter_add.sg.R :=
 oB (wide_Add.sh F a b) fun c_1 =>
 oB (bound_meter_keep.sh F m c_1.1.1 c_1.1.2.1) fun c_2 =>
 some ((c_2.1.1,()),(c_2.2.1,()))
def bound_meter_add.sp (F:Nat):TA bound_meter_add.sg.args→Option bound_meter_add.sg.R:=fun x=>bound_meter_add.sh F x.1 x.2.1 x.2.2.1
@[reducible] def bound_meter_scale.sg:Sig:={args:=[.io tBound_meter,.d (.g tWide),.d (.b tTier)],res:=[.g tWide]}
def bound_meter_scale.l3.body {R:Type} (F:Nat) (k0:(List tTier.T)→Int→(List tTier.T)→Int→Int→Bool→tBound_meter.T→tWide.T→tWide.T→tWide.T→Option R) (rec:(List tTier.T)→Int→(List tTier.T)→Int→Int→tBound_meter.T→tWide.T→tWide.T→tWide.T→Option R) (tiers:List tTier.T) (rate:Int) (t13:List tTier.T) (t14:Int) (t15:Int) (m:tBound_meter.T) (x:tWide.T) (r6:tWide.T) (ways:tWide.T):Option R :=
 bif decide (t15 < t14) then bif idx t15 t13.length then oB (bound_far.sh F (get tTier t13 t15.toNat).2) fun c_1 =>
   bif decide ((IntKind.i64.wrap (t15 + 1)) < (tiers.length:Int)) then oB (bound_far.sh F (get tTier t13 t15.toNat).2) fun c_2 =>
    oB (wide_Of.sh F c_2.1.1) fun c_3 =>
    bif idx (IntKind.i64.wrap (t15 + 1)) tiers.length then oB (wide_Of.sh F (IntKind.i64.wrap ((get tTier tiers ((IntKind.i64.wrap (t15 + 1)).toNat)).1 - (get tTier t13 t15.toNat).1))) fun c_4 =>
     oB (bound_meter_mul.sh F m c_3.1.1 c_4.1.1) fun c_5 =>
     bif (((m.1.1 == c_5.2.1.1.1) && ((m.1.2 == c_5.2.1.1.2) && true)) && true) then oB (bound_meter_add.sh F c_5.2.1 ways c_5.1.1) fun c_6 =>
      bif (((c_5.2.1.1.1 == c_6.2.1.1.1) && ((c_5.2.1.1.2 == c_6.2.1.1.2) && true)) && true) then rec tiers (if c_1.1.1 > rate then c_1.1.1 else rate) t13 t14 (IntKind.i64.wrap (t15 + 1)) c_6.2.1 x r6 c_6.1.1
      else none
     else none
    else none
   else rec tiers (if c_1.1.1 > rate then c_1.1.1 else rate) t13 t14 (IntKind.i64.wrap (t15 + 1)) m x r6 ways
  else none
 else k0 tiers rate t13 t14 t15 (decide (t15 < t14)) m x r6 ways
def bound_meter_scale.l3 {R:Type} (F:Nat) (k0:(List tTier.T)→Int→(List tTier.T)→Int→Int→Bool→tBound_meter.T→tWide.T→tWide.T→tWide.T→Option R):Nat→(List tTier.T)→Int→(List tTier.T)→Int→Int→tBound_meter.T→tWide.T→tWide.T→tWide.T→Option R
 | 0,_,_,_,_,_,_,_,_,_=>none
 | fu + 1,tiers,rate,t13,t14,t15,m,x,r6,ways=>bound_meter_scale.l3.body F k0 (bound_meter_scale.l3 F k0 fu) tiers rate t13 t14 t15 m x r6 ways
def bound_meter_scale.sh (F:Nat) (m:tBound_meter.T) (x:tWide.T) (tiers:List tTier.T):Option bound_meter_scale.sg.R :=
 bound_meter_scale.l3 F (fun tiers7 rate7 t137 t147 t157 t167 m7 x7 r67 ways7=>bif idx (IntKind.i64.wrap ((tiers7.length:Int) - 1)) tiers7.length then oB (wide_Of.sh F (get tTier tiers7 ((IntKind.i64.wrap ((tiers7.length:Int) - 1)).toNat)).1) fun c_8 =>
  oB (bound_meter_add.sh F m7 x7 c_8.1.1) fun c_9 =>
  bif (((m7.1.1 == c_9.2.1.1.1) && ((m7.1.2 == c_9.2.1.1.2) && true)) && true) then oB (wide_Of.sh F rate7) fun c_10 =>
   oB (bound_meter_mul.sh F c_9.2.1 c_10.1.1 c_9.1.1) fun c_11 =>
   bif (((c_9.2.1.1.1 == c_11.2.1.1.1) && ((c_9.2.1.1.2 == c_11.2.1.1.2) && true)) && true) then oB (bound_meter_add.sh F c_11.2.1 c_11.1.1 ways7) fun c_12 =>
    bif (((c_11.2.1.1.1 == c_12.2.1.1.1) && ((c_11.2.1.1.2 == c_12.2.1.1.2) && true)) && true) then oB (bound_meter_mul.sh F c_12.2.1 c_9.2.1.1 c_12.1.1) fun c_13 =>
     bif (((c_12.2.1.1.1 == c_13.2.1.1.1) && ((c_12.2.1.1.2 == c_13.2.1.1.2) && true)) && true) then some ((c_13.1.1,()),(c_13.2.1,()))
     else none
    else none
   else none
  else none
 else none) F tiers 0 tiers (tiers.length:Int) 0 m x (0,0) (0,0)
def bound_meter_scale.sp (F:Nat):TA bound_meter_scale.sg.args→Option bound_meter_scale.sg.R:=fun x=>bound_meter_scale.sh F x.1 x.2.1 x.2.2.1
@[reducible] def wide_Sum.sg:Sig:={args:=[.d (.b tWide)],res:=[.g tWide,.c (.int .i64)]}
def wide_Sum.l4.body {R:Type} (F:Nat) (k0:Int→Int→Int→(List tWide.T)→Int→Int→Bool→tWide.T→Option R) (rec:Int→Int→Int→(List tWide.T)→Int→Int→tWide.T→Option R) (lo:Int) (hi:Int) (top:Int) (t11:List tWide.T) (t12:Int) (t13:Int) (r2:tWide.T):Option R :=
 bif decide (t13 < t12) then bif idx t13 t11.length then oB (math_bits_Add64.sh F lo (get tWide t11 t13.toNat).2 0) fun c_1 =>
   oB (math_bits_Add64.sh F hi (IntKind.u64.wrap (get tWide t11 t13.toNat).1) c_1.1.2.1) fun c_2 =>
   rec c_1.1.1 c_2.1.1 (IntKind.i64.wrap (top + (IntKind.i64.wrap (((get tWide t11 t13.toNat).1.fdiv (2 ^ (min (63:Int).toNat IntKind.i64.bits))) + (IntKind.i64.wrap c_2.1.2.1))))) t11 t12 (IntKind.i64.wrap (t13 + 1)) r2
  else none
 else k0 lo hi top t11 t12 t13 (decide (t13 < t12)) r2
def wide_Sum.l4 {R:Type} (F:Nat) (k0:Int→Int→Int→(List tWide.T)→Int→Int→Bool→tWide.T→Option R):Nat→Int→Int→Int→(List tWide.T)→Int→Int→tWide.T→Option R
 | 0,_,_,_,_,_,_,_=>none
 | fu + 1,lo,hi,top,t11,t12,t13,r2=>wide_Sum.l4.body F k0 (wide_Sum.l4 F k0 fu) lo hi top t11 t12 t13 r2
def wide_Sum.sh (F:Nat) (list:List tWide.T):Option wide_Sum.sg.R :=
 wide_Sum.l4 F (fun lo3 hi3 top3 t113 t123 t133 t143 r23=>bif (top3 != ((IntKind.i64.wrap hi3).fdiv (2 ^ (min (63:Int).toNat IntKind.i64.bits)))) then some (((0,0),10,()),())
 else some (((IntKind.i64.wrap hi3,lo3),0,()),())) F 0 0 0 list (list.length:Int) 0 (0,0)
def wide_Sum.sp (F:Nat):TA wide_Sum.sg.args→Option wide_Sum.sg.R:=fun x=>wide_Sum.sh F x.1
@[reducible] def bound_meter_node.sg:Sig:={args:=[.io tBound_meter,.d (.g tPlan),.d (.g tNode),.d (.b tWide)],res:=[.g tWide]}
def bound_meter_node.j18 {R:Type} (F:Nat) (k0:tBound_meter.T→tWide.T→Option R) (kids:List tWide.T) (m:tBound_meter.T) (n:tNode.T) (r8:tWide.T):Option R :=
 oB (wide_Sum.sh F kids) fun c_13 =>
 oB (bound_meter_keep.sh F m c_13.1.1 c_13.1.2.1) fun c_14 =>
 bif (n.1 == 11) then oB (wide_Of.sh F n.2.1) fun c_15 =>
  oB (bound_meter_add.sh F c_14.2.1 c_14.1.1 c_15.1.1) fun c_16 =>
  k0 c_16.2.1 c_16.1.1
 else bif (n.1 == 12) then oB (wide_Of.sh F n.2.1) fun c_17 =>
  oB (bound_meter_add.sh F c_14.2.1 c_14.1.1 c_17.1.1) fun c_18 =>
  k0 c_18.2.1 c_18.1.1
 else bif (n.1 == 16) then oB (wide_Of.sh F n.2.1) fun c_19 =>
  oB (bound_meter_add.sh F c_14.2.1 c_14.1.1 c_19.1.1) fun c_20 =>
  k0 c_20.2.1 c_20.1.1
 else k0 c_14.2.1 c_14.1.1
def bound_meter_node.sh (F:Nat) (m:tBound_meter.T) (p:tPlan.T) (n:tNode.T) (kids:List tWide.T):Option bound_meter_node.sg.R :=
 bif (n.1 == 1) then oB (wide_Of.sh F n.2.1) fun c_1 =>
  some ((c_1.1.1,()),(m,()))
 else bif (n.1 == 2) then oB (wide_Of.sh F n.2.1) fun c_2 =>
  oB (bound_meter_mul.sh F m c_2.1.1 m.1) fun c_3 =>
  some ((c_3.1.1,()),(c_3.2.1,()))
 else bif (n.1 == 3) then oB (wide_Of.sh F 1099511627776) fun c_4 =>
  some ((c_4.1.1,()),(m,()))
 else bif (n.1 == 4) then oB (wide_Of.sh F 1099511627776) fun c_5 =>
  bif idx n.2.1 p.2.1.length then oB (wide_Of.sh F (get tDim p.2.1 n.2.1.toNat).2) fun c_6 =>
   oB (times_Div.sh F c_5.1.1 c_6.1.1 1) fun c_7 =>
   oB (bound_meter_keep.sh F m c_7.1.1 c_7.1.2.1) fun c_8 =>
   some ((c_8.1.1,()),(c_8.2.1,()))
  else none
 else bif (n.1 == 8) then bif idx 0 kids.length then bif idx 1 kids.length then oB (bound_meter_mul.sh F m (get tWide kids 0) (get tWide kids 1)) fun c_9 =>
    some ((c_9.1.1,()),(c_9.2.1,()))
   else none
  else none
 else bif (n.1 == 13) then bif (n.1 == 13) then bif idx 0 kids.length then oB (bound_meter_scale.sh F m (get tWide kids 0) n.2.2.2.2.1) fun c_10 =>
    some ((c_10.1.1,()),(c_10.2.1,()))
   else none
  else bif (n.1 == 15) then bif idx 0 kids.length then oB (wide_Of.sh F 10000) fun c_11 =>
    oB (bound_meter_mul.sh F m (get tWide kids 0) c_11.1.1) fun c_12 =>
    bif idx 0 kids.length then some (((get tWide kids 0),()),(c_12.2.1,()))
    else none
   else none
  else bound_meter_node.j18 F (fun m21 r821=>some ((r821,()),(m21,()))) kids m n (0,0)
 else bif (n.1 == 14) then bif idx 0 kids.length then oB (bound_meter_scale.sh F m (get tWide kids 0) n.2.2.2.2.1) fun c_22 =>
   some ((c_22.1.1,()),(c_22.2.1,()))
  else none
 else bif (n.1 == 15) then bif idx 0 kids.length then oB (wide_Of.sh F 10000) fun c_23 =>
   oB (bound_meter_mul.sh F m (get tWide kids 0) c_23.1.1) fun c_24 =>
   bif idx 0 kids.length then some (((get tWide kids 0),()),(c_24.2.1,()))
   else none
  else none
 else bound_meter_node.j18 F (fun m25 r825=>some ((r825,()),(m25,()))) kids m n (0,0)
def bound_meter_node.sp (F:Nat):TA bound_meter_node.sg.args→Option bound_meter_node.sg.R:=fun x=>bound_meter_node.sh F x.1 x.2.1 x.2.2.1 x.2.2.2.1
@[reducible] def wide_Cmp.sg:Sig:={args:=[.d (.g tWide),.d (.g tWide)],res:=[.c (.int .i64)]}
def wide_Cmp.sh (F:Nat) (a:tWide.T) (b:tWide.T):Option wide_Cmp.sg.R :=
 bif ((a.1 == b.1) && ((a.2 == b.2) && true)) then some ((0,()),())
 else bif decide (a.1 < b.1) then bif decide (a.1 < b.1) then some (((-1),()),())
  else some ((1,()),())
 else bif (a.1 == b.1) then bif decide (a.2 < b.2) then some (((-1),()),())
  else some ((1,()),())
 else some ((1,()),())
def wide_Cmp.sp (F:Nat):TA wide_Cmp.sg.args→Option wide_Cmp.sg.R:=fun x=>wide_Cmp.sh F x.1 x.2.1
@[reducible] def bound_above.sg:Sig:={args:=[.d (.g tNode),.d (.g tWide)],res:=[.c .bool]}
def bound_above.sh (F:Nat) (n:tNode.T) (mag:tWide.T):Option bound_above.sg.R :=
 bif (n.1 == 15) then oB (wide_Of.sh F 10000) fun c_1 =>
  oB (times_Mul.sh F mag c_1.1.1) fun c_2 =>
  oB (wide_Cmp.sh F c_2.1.1 (72057594037927936,0)) fun c_3 =>
  some ((decide (c_3.1.1 > 0),()),())
 else oB (wide_Cmp.sh F mag (72057594037927936,0)) fun c_4 =>
 some ((decide (c_4.1.1 > 0),()),())
def bound_above.sp (F:Nat):TA bound_above.sg.args→Option bound_above.sg.R:=fun x=>bound_above.sh F x.1 x.2.1
@[reducible] def bound_measured.sg:Sig:={args:=[.d (.g tPlan),.d (.g tWide)],res:=[.c (.sl tWide),.c (.int .i64)]}
def bound_measured.l4.body {R:Type} (F:Nat) (k0:(List tWide.T)→Int→Option R) (k1:(List tNode.T)→Int→Int→Bool→tPlan.T→tBound_meter.T→(List tWide.T)→(List tWide.T)→Option R) (rec:(List tNode.T)→Int→Int→tPlan.T→tBound_meter.T→(List tWide.T)→(List tWide.T)→Option R) (t17:List tNode.T) (t18:Int) (t19:Int) (p:tPlan.T) (m:tBound_meter.T) (mags:List tWide.T) (pile:List tWide.T):Option R :=
 bif decide (t19 < t18) then bif idx t19 t17.length then oB (bound_takes.sh F (get tNode t17 t19.toNat)) fun c_1 =>
   bif (bounds pile.length (some (IntKind.i64.wrap ((pile.length:Int) - c_1.1.1))) none).1 then oB (bound_meter_node.sh F m p (get tNode t17 t19.toNat) ((List.take (bounds pile.length (some (IntKind.i64.wrap ((pile.length:Int) - c_1.1.1))) none).2.2 pile).drop (bounds pile.length (some (IntKind.i64.wrap ((pile.length:Int) - c_1.1.1))) none).2.1)) fun c_2 =>
    bif c_2.2.1.2 then k0 ([]) t19
    else oB (bound_above.sh F (get tNode t17 t19.toNat) c_2.1.1) fun c_3 =>
    bif c_3.1.1 then k0 ([]) t19
    else bif Nat.ble (mags.length + ([c_2.1.1]:List tWide.T).length) maxN then bif (bounds pile.length none (some (IntKind.i64.wrap ((pile.length:Int) - c_1.1.1)))).1 then bif Nat.ble ((bounds pile.length none (some (IntKind.i64.wrap ((pile.length:Int) - c_1.1.1)))).2.2 + ([c_2.1.1]:List tWide.T).length) maxN then rec t17 t18 (IntKind.i64.wrap (t19 + 1)) p c_2.2.1 (mags ++ ([c_2.1.1]:List tWide.T)) (pile.take (bounds pile.length none (some (IntKind.i64.wrap ((pile.length:Int) - c_1.1.1)))).2.2 ++ ([c_2.1.1]:List tWide.T))
      else none
     else none
    else none
   else none
  else none
 else k1 t17 t18 t19 (decide (t19 < t18)) p m mags pile
def bound_measured.l4 {R:Type} (F:Nat) (k0:(List tWide.T)→Int→Option R) (k1:(List tNode.T)→Int→Int→Bool→tPlan.T→tBound_meter.T→(List tWide.T)→(List tWide.T)→Option R):Nat→(List tNode.T)→Int→Int→tPlan.T→tBound_meter.T→(List tWide.T)→(List tWide.T)→Option R
 | 0,_,_,_,_,_,_,_=>none
 | fu + 1,t17,t18,t19,p,m,mags,pile=>bound_measured.l4.body F k0 k1 (bound_measured.l4 F k0 k1 fu) t17 t18 t19 p m mags pile
def bound_measured.j13 {R:Type} (F:Nat) (k0:(List tWide.T)→Int→Option R) (mags:List tWide.T):Option R :=
 k0 mags (-1)
def bound_measured.sh (F:Nat) (p:tPlan.T) (unit:tWide.T):Option bound_measured.sg.R :=
 bound_measured.l4 F (fun r44 r54=>some ((r44,r54,()),())) (fun t175 t185 t195 t205 p5 m5 mags5 pile5=>bound_measured.j13 F (fun r46 r56=>some ((r46,r56,()),())) mags5) F p.2.2.2 (p.2.2.2.length:Int) 0 p (unit,false) ([]) ([])
def bound_measured.sp (F:Nat):TA bound_measured.sg.args→Option bound_measured.sg.R:=fun x=>bound_measured.sh F x.1 x.2.1
@[reducible] def bound_Unit.sg:Sig:={args:=[.d (.g tPlan)],res:=[.g tWide,.c (.int .i64),.c (.int .i64)]}
def bound_Unit.sh (F:Nat) (p:tPlan.T):Option bound_Unit.sg.R :=
 oB (units_Types.sh F p) fun c_1 =>
 bif (c_1.1.2.2.1 != 0) then some (((0,0),c_1.1.2.1,c_1.1.2.2.1,()),())
 else oB (tree_Scale.sh F p) fun c_2 =>
 bif decide (c_2.1.1 > 6) then some (((0,0),IntKind.i64.wrap ((p.2.2.2.length:Int) - 1),90,()),())
 else oB (times_Power.sh F c_2.1.1) fun c_3 =>
 oB (bound_measured.sh F p c_3.1.1) fun c_4 =>
 bif decide (c_4.1.2.1 ≥ 0) then some (((0,0),c_4.1.2.1,90,()),())
 else some ((c_3.1.1,0,c_3.1.2.1,()),())
def bound_Unit.sp (F:Nat):TA bound_Unit.sg.args→Option bound_Unit.sg.R:=fun x=>bound_Unit.sh F x.1
@[reducible] def eval_kids.sg:Sig:={args:=[.d (.g tNode)],res:=[.c (.int .i64)]}
def eval_kids.j10 {R:Type} (F:Nat) (k0:Int→Option R) (k1:Int→Option R) (k2:Int→Option R) (k3:Bool→Option R) (t4:Int) (t10:Bool) (n:tNode.T):Option R :=
 bif t10 then k0 2
 else bif (t4 == 9) then bif (t4 == 9) then k1 n.2.2.2.1
  else bif (t4 == 16) then k2 3
  else k3 (t4 == 16)
 else bif (t4 == 10) then k1 n.2.2.2.1
 else bif (t4 == 16) then k2 3
 else k3 (t4 == 16)
def eval_kids.j6 {R:Type} (F:Nat) (k0:Int→Option R) (k1:Int→Option R) (k2:Int→Option R) (k3:Int→Option R) (k4:Bool→Option R) (t4:Int) (t5:Bool) (n:tNode.T):Option R :=
 bif t5 then k0 0
 else bif (t4 == 6) then eval_kids.j10 F (fun r21=>k1 r21) (fun r22=>k2 r22) (fun r23=>k3 r23) (fun t194=>k4 t194) t4 (t4 == 6) n
 else bif (t4 == 7) then eval_kids.j10 F (fun r25=>k1 r25) (fun r26=>k2 r26) (fun r27=>k3 r27) (fun t198=>k4 t198) t4 (t4 == 7) n
 else eval_kids.j10 F (fun r29=>k1 r29) (fun r210=>k2 r210) (fun r211=>k3 r211) (fun t1912=>k4 t1912) t4 (t4 == 8) n
def eval_kids.sh (F:Nat) (n:tNode.T):Option eval_kids.sg.R :=
 bif (n.1 == 1) then eval_kids.j6 F (fun r213=>some ((r213,()),())) (fun r214=>some ((r214,()),())) (fun r215=>some ((r215,()),())) (fun r216=>some ((r216,()),())) (fun t1917=>some ((1,()),())) n.1 (n.1 == 1) n
 else bif (n.1 == 2) then eval_kids.j6 F (fun r218=>some ((r218,()),())) (fun r219=>some ((r219,()),())) (fun r220=>some ((r220,()),())) (fun r221=>some ((r221,()),())) (fun t1922=>some ((1,()),())) n.1 (n.1 == 2) n
 else bif (n.1 == 3) then eval_kids.j6 F (fun r223=>some ((r223,()),())) (fun r224=>some ((r224,()),())) (fun r225=>some ((r225,()),())) (fun r226=>some ((r226,()),())) (fun t1927=>some ((1,()),())) n.1 (n.1 == 3) n
 else eval_kids.j6 F (fun r228=>some ((r228,()),())) (fun r229=>some ((r229,()),())) (fun r230=>some ((r230,()),())) (fun r231=>some ((r231,()),())) (fun t1932=>some ((1,()),())) n.1 (n.1 == 4) n
def eval_kids.sp (F:Nat):TA eval_kids.sg.args→Option eval_kids.sg.R:=fun x=>eval_kids.sh F x.1
@[reducible] def eval_sub.sg:Sig:={args:=[.d (.g tWide),.d (.g tWide)],res:=[.g tWide]}
def eval_sub.sh (F:Nat) (a:tWide.T) (b:tWide.T):Option eval_sub.sg.R :=
 oB (wide_Sub.sh F a b) fun c_1 =>
 some ((c_1.1.1,()),())
def eval_sub.sp (F:Nat):TA eval_sub.sg.args→Option eval_sub.sg.R:=fun x=>eval_sub.sh F x.1 x.2.1
@[reducible] def eval_add.sg:Sig:={args:=[.d (.g tWide),.d (.g tWide)],res:=[.g tWide]}
def eval_add.sh (F:Nat) (a:tWide.T) (b:tWide.T):Option eval_add.sg.R :=
 oB (wide_Add.sh F a b) fun c_1 =>
 some ((c_1.1.1,()),())
def eval_add.sp (F:Nat):TA eval_add.sg.args→Option eval_add.sg.R:=fun x=>eval_add.sh F x.1 x.2.1
@[reducible] def eval_mul.sg:Sig:={args:=[.d (.g tWide),.d (.g tWide)],res:=[.g tWide]}
def eval_mul.sh (F:Nat) (a:tWide.T) (b:tWide.T):Option eval_mul.sg.R :=
 oB (times_Mul.sh F a b) fun c_1 =>
 some ((c_1.1.1,()),())
def eval_mul.sp (F:Nat):TA eval_mul.sg.args→Option eval_mul.sg.R:=fun x=>eval_mul.sh F x.1 x.2.1
@[reducible] def slices_MinFunc_Wide.sg:Sig:={args:=[.d (.b tWide),.d (.c .fn)],res:=[.g tWide]}
@[reducible] def slices_MinFunc_Wide.ds26:Sig:={args:=[.d (.g tWide),.d (.g tWide)],res:=[.c (.int .i64)]}
def slices_MinFunc_Wide.d26 (F:Nat):Nat→TA slices_MinFunc_Wide.ds26.args→Option slices_MinFunc_Wide.ds26.R:=mkT slices_MinFunc_Wide.ds26 [(fn_wide_Cmp,wide_Cmp.sp F)]
def slices_MinFunc_Wide.l5.body {R:Type} (F:Nat) (k0:(List tWide.T)→Nat→Int→Bool→tWide.T→tWide.T→Option R) (rec:(List tWide.T)→Nat→Int→tWide.T→tWide.T→Option R) (x:List tWide.T) (cmp:Nat) (i:Int) (r4:tWide.T) (m:tWide.T):Option R :=
 bif decide (i < (x.length:Int)) then bif idx i x.length then oB (slices_MinFunc_Wide.d26 F cmp ((get tWide x i.toNat),m,())) fun c_1 =>
   bif decide (c_1.1.1 < 0) then bif idx i x.length then rec x cmp (IntKind.i64.wrap (i + 1)) r4 (get tWide x i.toNat)
    else none
   else rec x cmp (IntKind.i64.wrap (i + 1)) r4 m
  else none
 else k0 x cmp i (decide (i < (x.length:Int))) r4 m
def slices_MinFunc_Wide.l5 {R:Type} (F:Nat) (k0:(List tWide.T)→Nat→Int→Bool→tWide.T→tWide.T→Option R):Nat→(List tWide.T)→Nat→Int→tWide.T→tWide.T→Option R
 | 0,_,_,_,_,_=>none
 | fu + 1,x,cmp,i,r4,m=>slices_MinFunc_Wide.l5.body F k0 (slices_MinFunc_Wide.l5 F k0 fu) x cmp i r4 m
def slices_MinFunc_Wide.sh (F:Nat) (x:List tWide.T) (cmp:Nat):Option slices_MinFunc_Wide.sg.R :=
 bif decide ((x.length:Int) < 1) then none
 else bif idx 0 x.length then slices_MinFunc_Wide.l5 F (fun x2 cmp2 i2 t172 r42 m2=>some ((m2,()),())) F x cmp 1 (0,0) (get tWide x 0)
 else none
def slices_MinFunc_Wide.sp (F:Nat):TA slices_MinFunc_Wide.sg.args→Option slices_MinFunc_Wide.sg.R:=fun x=>slices_MinFunc_Wide.sh F x.1 x.2.1
@[reducible] def slices_MaxFunc_Wide.sg:Sig:={args:=[.d (.b tWide),.d (.c .fn)],res:=[.g tWide]}
@[reducible] def slices_MaxFunc_Wide.ds26:Sig:={args:=[.d (.g tWide),.d (.g tWide)],res:=[.c (.int .i64)]}
def slices_MaxFunc_Wide.d26 (F:Nat):Nat→TA slices_MaxFunc_Wide.ds26.args→Option slices_MaxFunc_Wide.ds26.R:=mkT slices_MaxFunc_Wide.ds26 [(fn_wide_Cmp,wide_Cmp.sp F)]
def slices_MaxFunc_Wide.l5.body {R:Type} (F:Nat) (k0:(List tWide.T)→Nat→Int→Bool→tWide.T→tWide.T→Option R) (rec:(List tWide.T)→Nat→Int→tWide.T→tWide.T→Option R) (x:List tWide.T) (cmp:Nat) (i:Int) (r4:tWide.T) (m:tWide.T):Option R :=
 bif decide (i < (x.length:Int)) then bif idx i x.length then oB (slices_MaxFunc_Wide.d26 F cmp ((get tWide x i.toNat),m,())) fun c_1 =>
   bif decide (c_1.1.1 > 0) then bif idx i x.length then rec x cmp (IntKind.i64.wrap (i + 1)) r4 (get tWide x i.toNat)
    else none
   else rec x cmp (IntKind.i64.wrap (i + 1)) r4 m
  else none
 else k0 x cmp i (decide (i < (x.length:Int))) r4 m
def slices_MaxFunc_Wide.l5 {R:Type} (F:Nat) (k0:(List tWide.T)→Nat→Int→Bool→tWide.T→tWide.T→Option R):Nat→(List tWide.T)→Nat→Int→tWide.T→tWide.T→Option R
 | 0,_,_,_,_,_=>none
 | fu + 1,x,cmp,i,r4,m=>slices_MaxFunc_Wide.l5.body F k0 (slices_MaxFunc_Wide.l5 F k0 fu) x cmp i r4 m
def slices_MaxFunc_Wide.sh (F:Nat) (x:List tWide.T) (cmp:Nat):Option slices_MaxFunc_Wide.sg.R :=
 bif decide ((x.length:Int) < 1) then none
 else bif idx 0 x.length then slices_MaxFunc_Wide.l5 F (fun x2 cmp2 i2 t172 r42 m2=>some ((m2,()),())) F x cmp 1 (0,0) (get tWide x 0)
 else none
def slices_MaxFunc_Wide.sp (F:Nat):TA slices_MaxFunc_Wide.sg.args→Option slices_MaxFunc_Wide.sg.R:=fun x=>slices_MaxFunc_Wide.sh F x.1 x.2.1
@[reducible] def eval_tier.sg:Sig:={args:=[.d (.g tWide),.d (.b tTier)],res:=[.c (.int .i64)]}
def eval_tier.l2.body {R:Type} (F:Nat) (k0:(List tTier.T)→Int→Bool→tWide.T→Option R) (rec:(List tTier.T)→Int→tWide.T→Option R) (tiers:List tTier.T) (k:Int) (x:tWide.T):Option R :=
 bif decide ((IntKind.i64.wrap (k + 1)) < (tiers.length:Int)) then bif idx (IntKind.i64.wrap (k + 1)) tiers.length then oB (wide_Of.sh F (get tTier tiers ((IntKind.i64.wrap (k + 1)).toNat)).1) fun c_1 =>
   oB (wide_Cmp.sh F c_1.1.1 x) fun c_2 =>
   bif decide (c_2.1.1 < 0) then rec tiers (IntKind.i64.wrap (k + 1)) x
   else k0 tiers k (decide (c_2.1.1 < 0)) x
  else none
 else k0 tiers k false x
def eval_tier.l2 {R:Type} (F:Nat) (k0:(List tTier.T)→Int→Bool→tWide.T→Option R):Nat→(List tTier.T)→Int→tWide.T→Option R
 | 0,_,_,_=>none
 | fu + 1,tiers,k,x=>eval_tier.l2.body F k0 (eval_tier.l2 F k0 fu) tiers k x
def eval_tier.sh (F:Nat) (x:tWide.T) (tiers:List tTier.T):Option eval_tier.sg.R :=
 eval_tier.l2 F (fun tiers3 k3 t223 x3=>some ((k3,()),())) F tiers (-1) x
def eval_tier.sp (F:Nat):TA eval_tier.sg.args→Option eval_tier.sg.R:=fun x=>eval_tier.sh F x.1 x.2.1
@[reducible] def eval_graduated.sg:Sig:={args:=[.d (.g tWide),.d (.b tTier)],res:=[.g tWide]}
def eval_graduated.l3.body {R:Type} (F:Nat) (k0:(List tTier.T)→Int→Int→Bool→tWide.T→tWide.T→tWide.T→Option R) (rec:(List tTier.T)→Int→Int→tWide.T→tWide.T→tWide.T→Option R) (tiers:List tTier.T) (k:Int) (i:Int) (x:tWide.T) (r4:tWide.T) (sum:tWide.T):Option R :=
 bif decide (i < k) then bif idx i tiers.length then oB (wide_Of.sh F (get tTier tiers i.toNat).2) fun c_2 =>
   bif idx (IntKind.i64.wrap (i + 1)) tiers.length then bif idx i tiers.length then oB (wide_Of.sh F (IntKind.i64.wrap ((get tTier tiers ((IntKind.i64.wrap (i + 1)).toNat)).1 - (get tTier tiers i.toNat).1))) fun c_3 =>
     oB (eval_mul.sh F c_2.1.1 c_3.1.1) fun c_4 =>
     oB (eval_add.sh F sum c_4.1.1) fun c_5 =>
     rec tiers k (IntKind.i64.wrap (i + 1)) x r4 c_5.1.1
    else none
   else none
  else none
 else k0 tiers k i (decide (i < k)) x r4 sum
def eval_graduated.l3 {R:Type} (F:Nat) (k0:(List tTier.T)→Int→Int→Bool→tWide.T→tWide.T→tWide.T→Option R):Nat→(List tTier.T)→Int→Int→tWide.T→tWide.T→tWide.T→Option R
 | 0,_,_,_,_,_,_=>none
 | fu + 1,tiers,k,i,x,r4,sum=>eval_graduated.l3.body F k0 (eval_graduated.l3 F k0 fu) tiers k i x r4 sum
def eval_graduated.sh (F:Nat) (x:tWide.T) (tiers:List tTier.T):Option eval_graduated.sg.R :=
 oB (eval_tier.sh F x tiers) fun c_1 =>
 eval_graduated.l3 F (fun tiers6 k6 i6 t146 x6 r46 sum6=>bif decide (k6 ≥ 0) then bif idx k6 tiers6.length then oB (wide_Of.sh F (get tTier tiers6 k6.toNat).2) fun c_7 =>
   bif idx k6 tiers6.length then oB (wide_Of.sh F (get tTier tiers6 k6.toNat).1) fun c_8 =>
    oB (eval_sub.sh F x6 c_8.1.1) fun c_9 =>
    oB (eval_mul.sh F c_7.1.1 c_9.1.1) fun c_10 =>
    oB (eval_add.sh F sum6 c_10.1.1) fun c_11 =>
    some ((c_11.1.1,()),())
   else none
  else none
 else some ((sum6,()),())) F tiers c_1.1.1 0 x (0,0) (0,0)
def eval_graduated.sp (F:Nat):TA eval_graduated.sg.args→Option eval_graduated.sg.R:=fun x=>eval_graduated.sh F x.1 x.2.1
@[reducible] def eval_volume.sg:Sig:={args:=[.d (.g tWide),.d (.b tTier)],res:=[.g tWide]}
def eval_volume.sh (F:Nat) (x:tWide.T) (tiers:List tTier.T):Option eval_volume.sg.R :=
 oB (eval_tier.sh F x tiers) fun c_1 =>
 bif decide (c_1.1.1 ≥ 0) then bif idx c_1.1.1 tiers.length then oB (wide_Of.sh F (get tTier tiers c_1.1.1.toNat).2) fun c_2 =>
   oB (eval_mul.sh F x c_2.1.1) fun c_3 =>
   some ((c_3.1.1,()),())
  else none
 else some (((0,0),()),())
def eval_volume.sp (F:Nat):TA eval_volume.sg.args→Option eval_volume.sg.R:=fun x=>eval_volume.sh F x.1 x.2.1
@[reducible] def eval_holds.sg:Sig:={args:=[.d (.g tWide),.d (.g tWide),.d (.c (.int .i64))],res:=[.c .bool]}
def eval_holds.sh (F:Nat) (x:tWide.T) (n:tWide.T) (op:Int):Option eval_holds.sg.R :=
 oB (wide_Cmp.sh F x n) fun c_1 =>
 bif (op == 1) then some ((decide (c_1.1.1 < 0),()),())
 else bif (op == 2) then some ((decide (c_1.1.1 ≤ 0),()),())
 else bif (op == 3) then some ((decide (c_1.1.1 > 0),()),())
 else bif (op == 4) then some ((decide (c_1.1.1 ≥ 0),()),())
 else bif (op == 5) then some (((c_1.1.1 == 0),()),())
 else some (((c_1.1.1 != 0),()),())
def eval_holds.sp (F:Nat):TA eval_holds.sg.args→Option eval_holds.sg.R:=fun x=>eval_holds.sh F x.1 x.2.1 x.2.2.1
@[reducible] def eval_inner.sg:Sig:={args:=[.d (.g tNode),.d (.g tWide),.d (.b tWide)],res:=[.g tWide]}
def eval_inner.sh (F:Nat) (n:tNode.T) (unit:tWide.T) (k:List tWide.T):Option eval_inner.sg.R :=
 bif idx 0 k.length then oB (wide_Of.sh F n.2.1) fun c_1 =>
  bif (n.1 == 5) then oB (eval_sub.sh F (0,0) (get tWide k 0)) fun c_2 =>
   some ((c_2.1.1,()),())
  else bif (n.1 == 6) then bif idx 1 k.length then oB (eval_add.sh F (get tWide k 0) (get tWide k 1)) fun c_3 =>
    some ((c_3.1.1,()),())
   else none
  else bif (n.1 == 7) then bif idx 1 k.length then oB (eval_sub.sh F (get tWide k 0) (get tWide k 1)) fun c_4 =>
    some ((c_4.1.1,()),())
   else none
  else bif (n.1 == 8) then bif idx 1 k.length then oB (eval_mul.sh F (get tWide k 0) (get tWide k 1)) fun c_5 =>
    some ((c_5.1.1,()),())
   else none
  else bif (n.1 == 9) then oB (slices_MinFunc_Wide.sh F k fn_wide_Cmp) fun c_6 =>
   some ((c_6.1.1,()),())
  else bif (n.1 == 10) then oB (slices_MaxFunc_Wide.sh F k fn_wide_Cmp) fun c_7 =>
   some ((c_7.1.1,()),())
  else bif (n.1 == 11) then oB (eval_sub.sh F (get tWide k 0) c_1.1.1) fun c_8 =>
   oB (slices_MaxFunc_Wide.sh F ([(0,0),c_8.1.1]:List tWide.T) fn_wide_Cmp) fun c_9 =>
   some ((c_9.1.1,()),())
  else bif (n.1 == 12) then oB (slices_MinFunc_Wide.sh F ([c_1.1.1,(get tWide k 0)]:List tWide.T) fn_wide_Cmp) fun c_10 =>
   some ((c_10.1.1,()),())
  else bif (n.1 == 13) then oB (eval_graduated.sh F (get tWide k 0) n.2.2.2.2.1) fun c_11 =>
   oB (eval_mul.sh F unit c_11.1.1) fun c_12 =>
   some ((c_12.1.1,()),())
  else bif (n.1 == 14) then oB (eval_volume.sh F (get tWide k 0) n.2.2.2.2.1) fun c_13 =>
   oB (eval_mul.sh F unit c_13.1.1) fun c_14 =>
   some ((c_14.1.1,()),())
  else bif (n.1 == 15) then oB (wide_Of.sh F (IntKind.i64.wrap (10000 - n.2.1))) fun c_15 =>
   oB (eval_mul.sh F (get tWide k 0) c_15.1.1) fun c_16 =>
   oB (wide_Of.sh F 10000) fun c_17 =>
   oB (times_Div.sh F c_16.1.1 c_17.1.1 2) fun c_18 =>
   some ((c_18.1.1,()),())
  else oB (eval_holds.sh F (get tWide k 0) c_1.1.1 n.2.2.1) fun c_19 =>
  bif c_19.1.1 then bif idx 1 k.length then some (((get tWide k 1),()),())
   else none
  else bif idx 2 k.length then some (((get tWide k 2),()),())
  else none
 else none
def eval_inner.sp (F:Nat):TA eval_inner.sg.args→Option eval_inner.sg.R:=fun x=>eval_inner.sh F x.1 x.2.1 x.2.2.1
@[reducible] def eval_leaf.sg:Sig:={args:=[.d (.g tPlan),.d (.g tNode),.d (.g tWide),.d (.b (.int .i64))],res:=[.g tWide]}
def eval_leaf.sh (F:Nat) (p:tPlan.T) (n:tNode.T) (unit:tWide.T) (q:List Int):Option eval_leaf.sg.R :=
 bif (n.1 == 1) then oB (wide_Of.sh F n.2.1) fun c_1 =>
  some ((c_1.1.1,()),())
 else bif (n.1 == 2) then oB (wide_Of.sh F n.2.1) fun c_2 =>
  oB (eval_mul.sh F c_2.1.1 unit) fun c_3 =>
  some ((c_3.1.1,()),())
 else bif (n.1 == 3) then bif idx n.2.1 q.length then oB (wide_Of.sh F (get (.int .i64) q n.2.1.toNat)) fun c_4 =>
   some ((c_4.1.1,()),())
  else none
 else bif idx n.2.1 p.2.1.length then bif idx n.2.1 q.length then bif ((get tDim p.2.1 n.2.1.toNat).2 != 0) then bif idx n.2.1 q.length then bif ((get tDim p.2.1 n.2.1.toNat).2 != 0) then oB (wide_Of.sh F (IntKind.i64.wrap ((IntKind.i64.wrap ((get (.int .i64) q n.2.1.toNat).tdiv (get tDim p.2.1 n.2.1.toNat).2)) + (if 1 < (get (.int .i64) q n.2.1.toNat).tmod (get tDim p.2.1 n.2.1.toNat).2 then 1 else (get (.int .i64) q n.2.1.toNat).tmod (get tDim p.2.1 n.2.1.toNat).2)))) fun c_5 =>
      some ((c_5.1.1,()),())
     else none
    else none
   else none
  else none
 else none
def eval_leaf.sp (F:Nat):TA eval_leaf.sg.args→Option eval_leaf.sg.R:=fun x=>eval_leaf.sh F x.1 x.2.1 x.2.2.1 x.2.2.2.1
@[reducible] def eval_Values.sg:Sig:={args:=[.d (.g tPlan),.d (.b (.int .i64))],res:=[.c (.sl tWide),.c (.int .i64)]}
def eval_Values.l7.body {R:Type} (F:Nat) (k0:(List tWide.T)→Int→Option R) (k1:(List Int)→(List Int)→Int→Int→Bool→tPlan.T→tWide.T→Option R) (rec:(List Int)→(List Int)→Int→Int→tPlan.T→tWide.T→Option R) (q:List Int) (t32:List Int) (t33:Int) (t34:Int) (p:tPlan.T) (unit:tWide.T):Option R :=
 bif decide (t34 < t33) then bif idx t34 t32.length then bif decide ((get (.int .i64) t32 t34.toNat) < 0) then k0 ([]) 101
   else bif decide ((get (.int .i64) t32 t34.toNat) > 1099511627776) then k0 ([]) 101
   else rec q t32 t33 (IntKind.i64.wrap (t34 + 1)) p unit
  else none
 else k1 q t32 t33 t34 (decide (t34 < t33)) p unit
def eval_Values.l7 {R:Type} (F:Nat) (k0:(List tWide.T)→Int→Option R) (k1:(List Int)→(List Int)→Int→Int→Bool→tPlan.T→tWide.T→Option R):Nat→(List Int)→(List Int)→Int→Int→tPlan.T→tWide.T→Option R
 | 0,_,_,_,_,_,_=>none
 | fu + 1,q,t32,t33,t34,p,unit=>eval_Values.l7.body F k0 k1 (eval_Values.l7 F k0 k1 fu) q t32 t33 t34 p unit
def eval_Values.l14.body {R:Type} (F:Nat) (k0:(List Int)→(List tNode.T)→Int→Int→Bool→tPlan.T→tWide.T→(List tWide.T)→(List tWide.T)→Option R) (rec:(List Int)→(List tNode.T)→Int→Int→tPlan.T→tWide.T→(List tWide.T)→(List tWide.T)→Option R) (q:List Int) (t46:List tNode.T) (t47:Int) (t48:Int) (p:tPlan.T) (unit:tWide.T) (values:List tWide.T) (pile:List tWide.T):Option R :=
 bif decide (t48 < t47) then bif idx t48 t46.length then oB (eval_kids.sh F (get tNode t46 t48.toNat)) fun c_4 =>
   bif decide ((IntKind.i64.wrap ((pile.length:Int) - c_4.1.1)) < (pile.length:Int)) then bif (bounds pile.length (some (IntKind.i64.wrap ((pile.length:Int) - c_4.1.1))) none).1 then oB (eval_inner.sh F (get tNode t46 t48.toNat) unit ((List.take (bounds pile.length (some (IntKind.i64.wrap ((pile.length:Int) - c_4.1.1))) none).2.2 pile).drop (bounds pile.length (some (IntKind.i64.wrap ((pile.length:Int) - c_4.1.1))) none).2.1)) fun c_5 =>
     bif Nat.ble (values.length + ([c_5.1.1]:List tWide.T).length) maxN then bif (bounds pile.length none (some (IntKind.i64.wrap ((pile.length:Int) - c_4.1.1)))).1 then bif Nat.ble ((bounds pile.length none (some (IntKind.i64.wrap ((pile.length:Int) - c_4.1.1)))).2.2 + ([c_5.1.1]:List tWide.T).length) maxN then rec q t46 t47 (IntKind.i64.wrap (t48 + 1)) p unit (values ++ ([c_5.1.1]:List tWide.T)) (pile.take (bounds pile.length none (some (IntKind.i64.wrap ((pile.length:Int) - c_4.1.1)))).2.2 ++ ([c_5.1.1]:List tWide.T))
       else none
      else none
     else none
    else none
   else oB (eval_leaf.sh F p (get tNode t46 t48.toNat) unit q) fun c_6 =>
   bif Nat.ble (values.length + ([c_6.1.1]:List tWide.T).length) maxN then bif (bounds pile.length none (some (IntKind.i64.wrap ((pile.length:Int) - c_4.1.1)))).1 then bif Nat.ble ((bounds pile.length none (some (IntKind.i64.wrap ((pile.length:Int) - c_4.1.1)))).2.2 + ([c_6.1.1]:List tWide.T).length) maxN then rec q t46 t47 (IntKind.i64.wrap (t48 + 1)) p unit (values ++ ([c_6.1.1]:List tWide.T)) (pile.take (bounds pile.length none (some (IntKind.i64.wrap ((pile.length:Int) - c_4.1.1)))).2.2 ++ ([c_6.1.1]:List tWide.T))
     else none
    else none
   else none
  else none
 else k0 q t46 t47 t48 (decide (t48 < t47)) p unit values pile
def eval_Values.l14 {R:Type} (F:Nat) (k0:(List Int)→(List tNode.T)→Int→Int→Bool→tPlan.T→tWide.T→(List tWide.T)→(List tWide.T)→Option R):Nat→(List Int)→(List tNode.T)→Int→Int→tPlan.T→tWide.T→(List tWide.T)→(List tWide.T)→Option R
 | 0,_,_,_,_,_,_,_,_=>none
 | fu + 1,q,t46,t47,t48,p,unit,values,pile=>eval_Values.l14.body F k0 (eval_Values.l14 F k0 fu) q t46 t47 t48 p unit values pile
def eval_Values.j24 {R:Type} (F:Nat) (k0:(List tWide.T)→Int→Option R) (values:List tWide.T):Option R :=
 k0 values 0
def eval_Values.sh (F:Nat) (p:tPlan.T) (q:List Int):Option eval_Values.sg.R :=
 oB (bound_Unit.sh F p) fun c_1 =>
 bif (c_1.1.2.2.1 != 0) then some (([],c_1.1.2.2.1,()),())
 else bif ((q.length:Int) != (p.2.1.length:Int)) then some (([],100,()),())
 else eval_Values.l7 F (fun r42 r52=>some ((r42,r52,()),())) (fun q3 t323 t333 t343 t353 p3 unit3=>eval_Values.l14 F (fun q7 t467 t477 t487 t497 p7 unit7 values7 pile7=>eval_Values.j24 F (fun r48 r58=>some ((r48,r58,()),())) values7) F q3 p3.2.2.2 (p3.2.2.2.length:Int) 0 p3 unit3 ([]) ([])) F q q (q.length:Int) 0 p c_1.1.1
def eval_Values.sp (F:Nat):TA eval_Values.sg.args→Option eval_Values.sg.R:=fun x=>eval_Values.sh F x.1 x.2.1
@[reducible] def eval_Exact.sg:Sig:={args:=[.d (.g tPlan),.d (.b (.int .i64))],res:=[.g tWide,.c (.int .i64)]}
def eval_Exact.sh (F:Nat) (p:tPlan.T) (q:List Int):Option eval_Exact.sg.R :=
 oB (eval_Values.sh F p q) fun c_1 =>
 bif (c_1.1.2.1 != 0) then some (((0,0),c_1.1.2.1,()),())
 else bif idx (IntKind.i64.wrap ((c_1.1.1.length:Int) - 1)) c_1.1.1.length then some (((get tWide c_1.1.1 ((IntKind.i64.wrap ((c_1.1.1.length:Int) - 1)).toNat)),0,()),())
 else none
def eval_Exact.sp (F:Nat):TA eval_Exact.sg.args→Option eval_Exact.sg.R:=fun x=>eval_Exact.sh F x.1 x.2.1
@[reducible] def wide_Int.sg:Sig:={args:=[.d (.g tWide)],res:=[.c (.int .i64),.c .bool]}
def wide_Int.sh (F:Nat) (w:tWide.T):Option wide_Int.sg.R :=
 bif (w.1 != ((IntKind.i64.wrap w.2).fdiv (2 ^ (min (63:Int).toNat IntKind.i64.bits)))) then some ((0,false,()),())
 else some ((IntKind.i64.wrap w.2,true,()),())
def wide_Int.sp (F:Nat):TA wide_Int.sg.args→Option wide_Int.sg.R:=fun x=>wide_Int.sh F x.1
@[reducible] def eval_Price.sg:Sig:={args:=[.d (.g tPlan),.d (.b (.int .i64))],res:=[.c (.int .i64),.c (.int .i64)]}
def eval_Price.sh (F:Nat) (p:tPlan.T) (q:List Int):Option eval_Price.sg.R :=
 oB (eval_Exact.sh F p q) fun c_1 =>
 bif (c_1.1.2.1 != 0) then some ((0,c_1.1.2.1,()),())
 else oB (bound_Unit.sh F p) fun c_2 =>
 oB (times_Div.sh F c_1.1.1 c_2.1.1 p.2.2.1) fun c_3 =>
 oB (wide_Int.sh F c_3.1.1) fun c_4 =>
 bif !c_4.1.2.1 then some ((0,102,()),())
 else bif decide (c_4.1.1 < (-1000000000000000)) then some ((0,102,()),())
 else bif decide (c_4.1.1 > 1000000000000000) then some ((0,102,()),())
 else some ((c_4.1.1,0,()),())
def eval_Price.sp (F:Nat):TA eval_Price.sg.args→Option eval_Price.sg.R:=fun x=>eval_Price.sh F x.1 x.2.1
@[reducible] def octroilaw10_wides.sg:Sig:={args:=[.d (.b tWide),.d (.b tWide)],res:=[.c .bool]}
def octroilaw10_wides.l4.body {R:Type} (F:Nat) (k0:Bool→Option R) (k1:(List tWide.T)→(List tWide.T)→Int→Bool→Option R) (rec:(List tWide.T)→(List tWide.T)→Int→Option R) (a:List tWide.T) (b:List tWide.T) (i:Int):Option R :=
 bif decide (i < (a.length:Int)) then bif idx i a.length then bif idx i b.length then bif !(((get tWide a i.toNat).1 == (get tWide b i.toNat).1) && (((get tWide a i.toNat).2 == (get tWide b i.toNat).2) && true)) then k0 false
    else rec a b (IntKind.i64.wrap (i + 1))
   else none
  else none
 else k1 a b i (decide (i < (a.length:Int)))
def octroilaw10_wides.l4 {R:Type} (F:Nat) (k0:Bool→Option R) (k1:(List tWide.T)→(List tWide.T)→Int→Bool→Option R):Nat→(List tWide.T)→(List tWide.T)→Int→Option R
 | 0,_,_,_=>none
 | fu + 1,a,b,i=>octroilaw10_wides.l4.body F k0 k1 (octroilaw10_wides.l4 F k0 k1 fu) a b i
def octroilaw10_wides.sh (F:Nat) (a:List tWide.T) (b:List tWide.T):Option octroilaw10_wides.sg.R :=
 bif ((a.length:Int) != (b.length:Int)) then some ((false,()),())
 else octroilaw10_wides.l4 F (fun r41=>some ((r41,()),())) (fun a2 b2 i2 t142=>some ((true,()),())) F a b 0
def octroilaw10_wides.sp (F:Nat):TA octroilaw10_wides.sg.args→Option octroilaw10_wides.sg.R:=fun x=>octroilaw10_wides.sh F x.1 x.2.1
@[reducible] def octroilaw10_awake.sg:Sig:={args:=[],res:=[.c .bool]}
def octroilaw10_awake.sh (F:Nat):Option octroilaw10_awake.sg.R :=
 oB (octroilaw10_one.sh F ([(3,0,0,0,[],0),(11,20,0,0,[],0),(2,3,0,0,[],0),(8,0,0,0,[],0)]:List tNode.T)) fun c_1 =>
 oB (eval_Values.sh F c_1.1.1 ([25]:List Int)) fun c_2 =>
 oB (eval_Price.sh F c_1.1.1 ([25]:List Int)) fun c_3 =>
 oB (eval_Exact.sh F c_1.1.1 ([])) fun c_4 =>
 oB (octroilaw10_one.sh F ([(2,5,0,0,[],0),(15,2500,0,0,[],0)]:List tNode.T)) fun c_5 =>
 oB (eval_Exact.sh F c_5.1.1 ([0]:List Int)) fun c_6 =>
 bif (c_2.1.2.1 == 0) then bif (c_3.1.2.1 == 0) then oB (wide_Of.sh F 25) fun c_7 =>
   oB (wide_Of.sh F 5) fun c_8 =>
   oB (wide_Of.sh F 3) fun c_9 =>
   oB (wide_Of.sh F 15) fun c_10 =>
   oB (octroilaw10_wides.sh F c_2.1.1 ([c_7.1.1,c_8.1.1,c_9.1.1,c_10.1.1]:List tWide.T)) fun c_11 =>
   bif c_11.1.1 then bif (c_3.1.1 == 15) then bif (c_4.1.2.1 == 100) then bif (c_6.1.2.1 == 0) then oB (wide_Of.sh F 37500) fun c_12 =>
       some ((((c_6.1.1.1 == c_12.1.1.1) && ((c_6.1.1.2 == c_12.1.1.2) && true)),()),())
      else some ((false,()),())
     else some ((false,()),())
    else some ((false,()),())
   else some ((false,()),())
  else some ((false,()),())
 else some ((false,()),())
def octroilaw10_awake.sp (F:Nat):TA octroilaw10_awake.sg.args→Option octroilaw10_awake.sg.R:=fun x=>octroilaw10_awake.sh F
@[reducible] def octroilaw10_EvalSums.sg:Sig:={args:=[.d (.g tPlan),.d (.g tPlan),.d (.b (.int .i64))],res:=[.c .bool]}
def octroilaw10_EvalSums.l20.body {R:Type} (F:Nat) (k0:Bool→Option R) (k1:(List Int)→(List tNode.T)→Int→Bool→tPlan.T→tPlan.T→(tWide.T×tWide.T×tWide.T×tWide.T)→Option R) (rec:(List Int)→(List tNode.T)→Int→tPlan.T→tPlan.T→(tWide.T×tWide.T×tWide.T×tWide.T)→Option R) (at_:List Int) (nodes:List tNode.T) (i:Int) (p:tPlan.T) (q:tPlan.T) (want:tWide.T×tWide.T×tWide.T×tWide.T):Option R :=
 bif decide (i < 4) then bif Nat.ble (0 + p.2.2.2.length) maxN then bif Nat.ble (p.2.2.2.length + q.2.2.2.length) maxN then bif idx i nodes.length then bif Nat.ble ((p.2.2.2 ++ q.2.2.2).length + ([(get tNode nodes i.toNat)]:List tNode.T).length) maxN then oB (eval_Exact.sh F (p.1,p.2.1,p.2.2.1,(p.2.2.2 ++ q.2.2.2) ++ ([(get tNode nodes i.toNat)]:List tNode.T)) at_) fun c_9 =>
      bif (c_9.1.2.1 != 90) then bif (c_9.1.2.1 != 0) then k0 false
       else bif idx i 4 then bif Nat.beq (i.toNat * 2) 0 then bif !((c_9.1.1.1 == want.1.1) && ((c_9.1.1.2 == want.1.2) && true)) then k0 false
         else rec at_ nodes (IntKind.i64.wrap (i + 1)) p q want
        else bif Nat.beq (i.toNat * 2) 2 then bif !((c_9.1.1.1 == want.2.1.1) && ((c_9.1.1.2 == want.2.1.2) && true)) then k0 false
         else rec at_ nodes (IntKind.i64.wrap (i + 1)) p q want
        else bif Nat.beq (i.toNat * 2) 4 then bif !((c_9.1.1.1 == want.2.2.1.1) && ((c_9.1.1.2 == want.2.2.1.2) && true)) then k0 false
         else rec at_ nodes (IntKind.i64.wrap (i + 1)) p q want
        else bif Nat.beq (i.toNat * 2) 6 then bif !((c_9.1.1.1 == want.2.2.2.1) && ((c_9.1.1.2 == want.2.2.2.2) && true)) then k0 false
         else rec at_ nodes (IntKind.i64.wrap (i + 1)) p q want
        else none
       else none
      else rec at_ nodes (IntKind.i64.wrap (i + 1)) p q want
     else none
    else none
   else none
  else none
 else k1 at_ nodes i (decide (i < 4)) p q want
def octroilaw10_EvalSums.l20 {R:Type} (F:Nat) (k0:Bool→Option R) (k1:(List Int)→(List tNode.T)→Int→Bool→tPlan.T→tPlan.T→(tWide.T×tWide.T×tWide.T×tWide.T)→Option R):Nat→(List Int)→(List tNode.T)→Int→tPlan.T→tPlan.T→(tWide.T×tWide.T×tWide.T×tWide.T)→Option R
 | 0,_,_,_,_,_,_=>none
 | fu + 1,at_,nodes,i,p,q,want=>octroilaw10_EvalSums.l20.body F k0 k1 (octroilaw10_EvalSums.l20 F k0 k1 fu) at_ nodes i p q want
def octroilaw10_EvalSums.j19 {R:Type} (F:Nat) (k0:Bool→Option R) (k1:Bool→Option R) (at_:List Int) (nodes:List tNode.T) (p:tPlan.T) (q:tPlan.T) (want:tWide.T×tWide.T×tWide.T×tWide.T):Option R :=
 octroilaw10_EvalSums.l20 F (fun r610=>k0 r610) (fun at_11 nodes11 i11 t12211 p11 q11 want11=>k1 true) F at_ nodes 0 p q want
def octroilaw10_EvalSums.sh (F:Nat) (p:tPlan.T) (q:tPlan.T) (at_:List Int):Option octroilaw10_EvalSums.sg.R :=
 oB (octroilaw10_awake.sh F) fun c_1 =>
 bif !c_1.1.1 then some ((false,()),())
 else oB (eval_Exact.sh F p at_) fun c_2 =>
 oB (eval_Exact.sh F (p.1,p.2.1,p.2.2.1,q.2.2.2) at_) fun c_3 =>
 oB (bound_Unit.sh F p) fun c_4 =>
 oB (bound_Unit.sh F (p.1,p.2.1,p.2.2.1,q.2.2.2)) fun c_5 =>
 bif (c_2.1.2.1 != 0) then some ((true,()),())
 else bif (c_3.1.2.1 != 0) then some ((true,()),())
 else bif (c_4.1.2.2.1 != 0) then some ((true,()),())
 else bif (c_5.1.2.2.1 != 0) then some ((true,()),())
 else bif !((c_4.1.1.1 == c_5.1.1.1) && ((c_4.1.1.2 == c_5.1.1.2) && true)) then some ((true,()),())
 else bif decide ((IntKind.i64.wrap ((p.2.2.2.length:Int) + (q.2.2.2.length:Int))) ≥ 1024) then some ((true,()),())
 else oB (wide_Add.sh F c_2.1.1 c_3.1.1) fun c_6 =>
 oB (wide_Sub.sh F c_2.1.1 c_3.1.1) fun c_7 =>
 oB (wide_Cmp.sh F c_3.1.1 c_2.1.1) fun c_8 =>
 bif decide (c_8.1.1 < 0) then octroilaw10_EvalSums.j19 F (fun r612=>some ((r612,()),())) (fun r613=>some ((r613,()),())) at_ ([(6,0,0,0,[],0),(7,0,0,0,[],0),(9,0,0,2,[],0),(10,0,0,2,[],0)]:List tNode.T) p (p.1,p.2.1,p.2.2.1,q.2.2.2) (c_6.1.1,c_7.1.1,c_3.1.1,c_2.1.1)
 else octroilaw10_EvalSums.j19 F (fun r614=>some ((r614,()),())) (fun r615=>some ((r615,()),())) at_ ([(6,0,0,0,[],0),(7,0,0,0,[],0),(9,0,0,2,[],0),(10,0,0,2,[],0)]:List tNode.T) p (p.1,p.2.1,p.2.2.1,q.2.2.2) (c_6.1.1,c_7.1.1,c_2.1.1,c_3.1.1)
def octroilaw10_EvalSums.sp (F:Nat):TA octroilaw10_EvalSums.sg.args→Option octroilaw10_EvalSums.sg.R:=fun x=>octroilaw10_EvalSums.sh F x.1 x.2.1 x.2.2.1
@[reducible] def octroilaw10_EvalTiers.sg:Sig:={args:=[.d (.b tTier),.d (.c (.int .i64))],res:=[.c .bool]}
def octroilaw10_EvalTiers.l19.body {R:Type} (F:Nat) (k0:(List tTier.T)→Int→Int→Int→Int→Int→Bool→tWide.T→tWide.T→tWide.T→Option R) (rec:(List tTier.T)→Int→Int→Int→Int→Int→tWide.T→tWide.T→tWide.T→Option R) (tiers:List tTier.T) (q:Int) (f:Int) (h:Int) (rate:Int) (i:Int) (a:tWide.T) (b:tWide.T) (d:tWide.T):Option R :=
 bif decide (i < (tiers.length:Int)) then bif idx i tiers.length then bif decide ((get tTier tiers i.toNat).1 ≤ q) then bif idx i tiers.length then rec tiers q f h (get tTier tiers i.toNat).2 (IntKind.i64.wrap (i + 1)) a b d
    else none
   else rec tiers q f h rate (IntKind.i64.wrap (i + 1)) a b d
  else none
 else k0 tiers q f h rate i (decide (i < (tiers.length:Int))) a b d
def octroilaw10_EvalTiers.l19 {R:Type} (F:Nat) (k0:(List tTier.T)→Int→Int→Int→Int→Int→Bool→tWide.T→tWide.T→tWide.T→Option R):Nat→(List tTier.T)→Int→Int→Int→Int→Int→tWide.T→tWide.T→tWide.T→Option R
 | 0,_,_,_,_,_,_,_,_,_=>none
 | fu + 1,tiers,q,f,h,rate,i,a,b,d=>octroilaw10_EvalTiers.l19.body F k0 (octroilaw10_EvalTiers.l19 F k0 fu) tiers q f h rate i a b d
def octroilaw10_EvalTiers.j13 {R:Type} (F:Nat) (k0:Bool→Option R) (k1:Bool→Option R) (tiers:List tTier.T) (q:Int) (p:tPlan.T) (v:tPlan.T) (a:tWide.T):Option R :=
 bif (q == 1099511627776) then k0 true
 else oB (eval_Exact.sh F p ([IntKind.i64.wrap (q + 1)]:List Int)) fun c_8 =>
 oB (eval_Exact.sh F v ([IntKind.i64.wrap (q + 1)]:List Int)) fun c_9 =>
 octroilaw10_EvalTiers.l19 F (fun tiers10 q10 f10 h10 rate10 i10 t9610 a10 b10 d10=>oB (wide_Of.sh F rate10) fun c_11 =>
 oB (wide_Add.sh F a10 c_11.1.1) fun c_12 =>
 oB (wide_Of.sh F rate10) fun c_13 =>
 oB (wide_Of.sh F (IntKind.i64.wrap (q10 + 1))) fun c_14 =>
 oB (times_Mul.sh F c_13.1.1 c_14.1.1) fun c_15 =>
 bif (f10 == 0) then bif (h10 == 0) then bif (c_12.1.2.1 == 0) then bif (c_15.1.2.1 == 0) then bif ((b10.1 == c_12.1.1.1) && ((b10.2 == c_12.1.1.2) && true)) then k1 ((d10.1 == c_15.1.1.1) && ((d10.2 == c_15.1.1.2) && true))
     else k1 false
    else k1 false
   else k1 false
  else k1 false
 else k1 false) F tiers q c_8.1.2.1 c_9.1.2.1 0 0 a c_8.1.1 c_9.1.1
@[reducible] def octroilaw10_further.sg:Sig:={args:=[.d (.g tWide),.d (.g tWide)],res:=[.c .bool]}
def octroilaw10_further.sh (F:Nat) (a:tWide.T) (b:tWide.T):Option octroilaw10_further.sg.R :=
 oB (wide_Sub.sh F (0,0) b) fun c_1 =>
 bif (c_1.1.2.1 != 0) then some ((true,()),())
 else oB (wide_Cmp.sh F a b) fun c_2 =>
 bif decide (c_2.1.1 > 0) then some ((true,()),())
 else oB (wide_Cmp.sh F a c_1.1.1) fun c_3 =>
 some ((decide (c_3.1.1 < 0),()),())
def octroilaw10_further.sp (F:Nat):TA octroilaw10_further.sg.args→Option octroilaw10_further.sg.R:=fun x=>octroilaw10_further.sh F x.1 x.2.1
@[reducible] def wide_Sign.sg:Sig:={args:=[.d (.g tWide)],res:=[.c (.int .i64)]}
def wide_Sign.sh (F:Nat) (w:tWide.T):Option wide_Sign.sg.R :=
 bif decide (w.1 < 0) then some (((-1),()),())
 else bif ((w.1 == 0) && ((w.2 == 0) && true)) then some ((0,()),())
 else some ((1,()),())
def wide_Sign.sp (F:Nat):TA wide_Sign.sg.args→Option wide_Sign.sg.R:=fun x=>wide_Sign.sh F x.1
@[reducible] def octroilaw10_EvalRounds.sg:Sig:={args:=[.d (.g tPlan),.d (.b (.int .i64))],res:=[.c .bool]}
def octroilaw10_EvalRounds.j15 {R:Type} (F:Nat) (k0:Bool→Option R) (k1:Bool→Option R) (k2:Bool→Option R) (k3:Bool→Option R) (k4:Bool→Option R) (p:tPlan.T) (x:tWide.T) (u:tWide.T) (d:tWide.T) (twice:tWide.T):Option R :=
 oB (wide_Add.sh F d u) fun c_12 =>
 oB (wide_Sign.sh F c_12.1.1) fun c_13 =>
 bif decide (c_13.1.1 ≤ 0) then k0 false
 else bif (p.2.2.1 == 0) then oB (wide_Sign.sh F d) fun c_14 =>
  k1 (decide (c_14.1.1 ≤ 0))
 else bif (p.2.2.1 == 1) then oB (wide_Sign.sh F d) fun c_15 =>
  k2 (decide (c_15.1.1 ≥ 0))
 else bif (p.2.2.1 == 2) then oB (wide_Sign.sh F d) fun c_16 =>
  bif (c_16.1.1 == 0) then k3 true
  else oB (wide_Sign.sh F d) fun c_17 =>
  oB (wide_Sign.sh F x) fun c_18 =>
  k3 (c_17.1.1 != c_18.1.1)
 else oB (octroilaw10_further.sh F twice u) fun c_19 =>
 k4 (!c_19.1.1)
end Go.VS
