import Derived.Test.YtepflleaeogafaaGreatDoorQH
set_option linter.unusedVariables false
set_option linter.unusedSimpArgs false
set_option linter.unusedSectionVars false
set_option linter.unusedVariables false
set_option maxRecDepth 100000
namespace Go.VS
open Go
@[reducible] def octroilaw12_one.sg:Sig:={args:=[.d (.c (.sl tNode))],res:=[.g tPlan]}
def octroilaw12_one.sh (F:Nat) (nodes:List tNode.T):Option octroilaw12_one.sg.R :=
 some ((((⟨#[112]⟩:ByteArray),([((⟨#[97]⟩:ByteArray),10)]:List tDim.T),0,nodes),()),())
def octroilaw12_one.sp (F:Nat):TA octroilaw12_one.sg.args→Option octroilaw12_one.sg.R:=fun x=>octroilaw12_one.sh F x.1
@[reducible] def scan_letter.sg:Sig:={args:=[.d (.c (.int .u8))],res:=[.c .bool]}
def scan_letter.sh (F:Nat) (c:Int):Option scan_letter.sg.R :=
 bif decide (c ≥ 97) then some ((decide (c ≤ 122),()),())
 else some ((false,()),())
def scan_letter.sp (F:Nat):TA scan_letter.sg.args→Option scan_letter.sg.R:=fun x=>scan_letter.sh F x.1
@[reducible] def scan_digit.sg:Sig:={args:=[.d (.c (.int .u8))],res:=[.c .bool]}
def scan_digit.sh (F:Nat) (c:Int):Option scan_digit.sg.R :=
 bif decide (c ≥ 48) then some ((decide (c ≤ 57),()),())
 else some ((false,()),())
def scan_digit.sp (F:Nat):TA scan_digit.sg.args→Option scan_digit.sg.R:=fun x=>scan_digit.sh F x.1
@[reducible] def scan_inner.sg:Sig:={args:=[.d (.c (.int .u8))],res:=[.c .bool]}
def scan_inner.sh (F:Nat) (c:Int):Option scan_inner.sg.R :=
 oB (scan_letter.sh F c) fun c_1 =>
 bif c_1.1.1 then some ((true,()),())
 else oB (scan_digit.sh F c) fun c_2 =>
 bif c_2.1.1 then some ((true,()),())
 else some (((c == 95),()),())
def scan_inner.sp (F:Nat):TA scan_inner.sg.args→Option scan_inner.sg.R:=fun x=>scan_inner.sh F x.1
@[reducible] def scan_run.sg:Sig:={args:=[.d (.c .str),.d (.c .fn)],res:=[.c (.int .i64)]}
@[reducible] def scan_run.ds15:Sig:={args:=[.d (.c (.int .u8))],res:=[.c .bool]}
def scan_run.d15 (F:Nat):Nat→TA scan_run.ds15.args→Option scan_run.ds15.R:=mkT scan_run.ds15 [(fn_scan_inner,scan_inner.sp F),(fn_scan_letter,scan_letter.sp F)]
def scan_run.l2.body {R:Type} (F:Nat) (k0:ByteArray→Nat→Int→Bool→Option R) (rec:ByteArray→Nat→Int→Option R) (s:ByteArray) (of:Nat) (n:Int):Option R :=
 bif decide (n < (s.size:Int)) then bif idx n s.size then oB (scan_run.d15 F of (bt s n,())) fun c_1 =>
   bif c_1.1.1 then rec s of (IntKind.i64.wrap (n + 1))
   else k0 s of n c_1.1.1
  else none
 else k0 s of n false
def scan_run.l2 {R:Type} (F:Nat) (k0:ByteArray→Nat→Int→Bool→Option R):Nat→ByteArray→Nat→Int→Option R
 | 0,_,_,_=>none
 | fu + 1,s,of,n=>scan_run.l2.body F k0 (scan_run.l2 F k0 fu) s of n
def scan_run.sh (F:Nat) (s:ByteArray) (of_:Nat):Option scan_run.sg.R :=
 scan_run.l2 F (fun s2 of2 n2 t162=>some ((n2,()),())) F s of_ 0
def scan_run.sp (F:Nat):TA scan_run.sg.args→Option scan_run.sg.R:=fun x=>scan_run.sh F x.1 x.2.1
@[reducible] def scan_Word.sg:Sig:={args:=[.d (.c .str)],res:=[.c .bool]}
def scan_Word.sh (F:Nat) (s:ByteArray):Option scan_Word.sg.R :=
 bif !(s.toList == (⟨#[]⟩:ByteArray).toList) then oB (scan_run.sh F s fn_scan_letter) fun c_1 =>
  bif (c_1.1.1 == (s.size:Int)) then bif Nat.ble ((⟨#[32]⟩:ByteArray).size + s.size) maxN then bif Nat.ble (((⟨#[32]⟩:ByteArray) ++ s).size + (⟨#[32]⟩:ByteArray).size) maxN then oB (strings_Contains.sh F (⟨#[32,112,108,97,110,32,114,111,117,110,100,32,98,121,32,98,108,111,99,107,115,32,109,105,110,32,109,97,120,32,111,118,101,114,32,117,112,116,111,32,103,114,97,100,117,97,116,101,100,32,118,111,108,117,109,101,32,111,102,102,32,105,102,32,102,108,111,111,114,32,99,101,105,108,32,122,101,114,111,32,104,97,108,102,32,101,118,101,110,32]⟩:ByteArray) (((⟨#[32]⟩:ByteArray) ++ s) ++ (⟨#[32]⟩:ByteArray))) fun c_2 =>
     some ((c_2.1.1,()),())
    else none
   else none
  else some ((false,()),())
 else some ((false,()),())
def scan_Word.sp (F:Nat):TA scan_Word.sg.args→Option scan_Word.sg.R:=fun x=>scan_Word.sh F x.1
@[reducible] def scan_Name.sg:Sig:={args:=[.d (.c .str)],res:=[.c .bool]}
def scan_Name.sh (F:Nat) (s:ByteArray):Option scan_Name.sg.R :=
 bif !(s.toList == (⟨#[]⟩:ByteArray).toList) then bif decide ((s.size:Int) ≤ 32) then bif idx 0 s.size then oB (scan_letter.sh F (bt s 0)) fun c_1 =>
    bif c_1.1.1 then oB (scan_run.sh F s fn_scan_inner) fun c_2 =>
     bif (c_2.1.1 == (s.size:Int)) then oB (scan_Word.sh F s) fun c_3 =>
      some ((!c_3.1.1,()),())
     else some ((false,()),())
    else some ((false,()),())
   else none
  else some ((false,()),())
 else some ((false,()),())
def scan_Name.sp (F:Nat):TA scan_Name.sg.args→Option scan_Name.sg.R:=fun x=>scan_Name.sh F x.1
@[reducible] def tree_head_c1.sg:Sig:={args:=[.d (.g tDim),.d (.p tDim)],res:=[.c .bool]}
def tree_head_c1.sh (F:Nat) (e:tDim.T) (t1:tDim.T):Option tree_head_c1.sg.R :=
 some (((e.1.toList == t1.1.toList),()),())
def tree_head_c1.sp (F:Nat):TA tree_head_c1.sg.args→Option tree_head_c1.sg.R:=fun x=>tree_head_c1.sh F x.1 x.2.1
@[reducible] def slices_IndexFunc_Dim.sg:Sig:={args:=[.d (.b tDim),.d (.cl tDim)],res:=[.c (.int .i64)]}
@[reducible] def slices_IndexFunc_Dim.ds16:Sig:={args:=[.d (.g tDim),.d (.p tDim)],res:=[.c .bool]}
def slices_IndexFunc_Dim.d16 (F:Nat):Nat→TA slices_IndexFunc_Dim.ds16.args→Option slices_IndexFunc_Dim.ds16.R:=mkT slices_IndexFunc_Dim.ds16 [(fn_tree_head_c1,tree_head_c1.sp F)]
def slices_IndexFunc_Dim.l2.body {R:Type} (F:Nat) (k0:Int→Option R) (k1:(List tDim.T)→(Nat×tDim.T)→Int→Int→Bool→Option R) (rec:(List tDim.T)→(Nat×tDim.T)→Int→Int→Option R) (s:List tDim.T) (f:Nat×tDim.T) (t7:Int) (t8:Int):Option R :=
 bif decide (t8 < t7) then bif idx t8 s.length then oB (slices_IndexFunc_Dim.d16 F (f.1 + 1) ((get tDim s t8.toNat),f.2,())) fun c_1 =>
   bif c_1.1.1 then k0 t8
   else rec s (f.1,f.2) t7 (IntKind.i64.wrap (t8 + 1))
  else none
 else k1 s (f.1,f.2) t7 t8 (decide (t8 < t7))
def slices_IndexFunc_Dim.l2 {R:Type} (F:Nat) (k0:Int→Option R) (k1:(List tDim.T)→(Nat×tDim.T)→Int→Int→Bool→Option R):Nat→(List tDim.T)→(Nat×tDim.T)→Int→Int→Option R
 | 0,_,_,_,_=>none
 | fu + 1,s,f,t7,t8=>slices_IndexFunc_Dim.l2.body F k0 k1 (slices_IndexFunc_Dim.l2 F k0 k1 fu) s f t7 t8
def slices_IndexFunc_Dim.sh (F:Nat) (s:List tDim.T) (f:Nat×tDim.T):Option slices_IndexFunc_Dim.sg.R :=
 slices_IndexFunc_Dim.l2 F (fun r42=>some ((r42,()),())) (fun s3 f3 t73 t83 t93=>some (((-1),()),())) F s (f.1,f.2) (s.length:Int) 0
def slices_IndexFunc_Dim.sp (F:Nat):TA slices_IndexFunc_Dim.sg.args→Option slices_IndexFunc_Dim.sg.R:=fun x=>slices_IndexFunc_Dim.sh F x.1 x.2.1
@[reducible] def slices_ContainsFunc_Dim.sg:Sig:={args:=[.d (.b tDim),.d (.cl tDim)],res:=[.c .bool]}
def slices_ContainsFunc_Dim.sh (F:Nat) (s:List tDim.T) (f:Nat×tDim.T):Option slices_ContainsFunc_Dim.sg.R :=
 oB (slices_IndexFunc_Dim.sh F s (f.1,f.2)) fun c_1 =>
 some ((decide (c_1.1.1 ≥ 0),()),())
def slices_ContainsFunc_Dim.sp (F:Nat):TA slices_ContainsFunc_Dim.sg.args→Option slices_ContainsFunc_Dim.sg.R:=fun x=>slices_ContainsFunc_Dim.sh F x.1 x.2.1
@[reducible] def tree_head.sg:Sig:={args:=[.d (.g tPlan)],res:=[.c (.int .i64)]}
def tree_head.l6.body {R:Type} (F:Nat) (k0:Int→Option R) (k1:Int→Option R) (k2:(List tDim.T)→Int→Int→Bool→tPlan.T→Option R) (rec:(List tDim.T)→Int→Int→tPlan.T→Option R) (t21:List tDim.T) (t22:Int) (t23:Int) (p:tPlan.T):Option R :=
 bif decide (t23 < t22) then bif idx t23 t21.length then oB (scan_Name.sh F (get tDim t21 t23.toNat).1) fun c_2 =>
   bif !c_2.1.1 then k0 61
   else bif (bounds p.2.1.length none (some t23)).1 then oB (slices_ContainsFunc_Dim.sh F ((p.2.1.take (bounds p.2.1.length none (some t23)).2.2).drop (bounds p.2.1.length none (some t23)).2.1) (cl_tree_head_c1,(get tDim t21 t23.toNat))) fun c_3 =>
    bif c_3.1.1 then k0 61
    else bif decide ((get tDim t21 t23.toNat).2 < 1) then k1 50
    else bif decide ((get tDim t21 t23.toNat).2 > 1000000000000) then k1 50
    else rec t21 t22 (IntKind.i64.wrap (t23 + 1)) p
   else none
  else none
 else k2 t21 t22 t23 (decide (t23 < t22)) p
def tree_head.l6 {R:Type} (F:Nat) (k0:Int→Option R) (k1:Int→Option R) (k2:(List tDim.T)→Int→Int→Bool→tPlan.T→Option R):Nat→(List tDim.T)→Int→Int→tPlan.T→Option R
 | 0,_,_,_,_=>none
 | fu + 1,t21,t22,t23,p=>tree_head.l6.body F k0 k1 k2 (tree_head.l6 F k0 k1 k2 fu) t21 t22 t23 p
def tree_head.sh (F:Nat) (p:tPlan.T):Option tree_head.sg.R :=
 oB (scan_Name.sh F p.1) fun c_1 =>
 bif !c_1.1.1 then some ((61,()),())
 else bif decide ((p.2.1.length:Int) < 1) then some ((100,()),())
 else bif decide ((p.2.1.length:Int) > 4) then some ((100,()),())
 else tree_head.l6 F (fun r24=>some ((r24,()),())) (fun r25=>some ((r25,()),())) (fun t216 t226 t236 t246 p6=>bif decide (p6.2.2.1 < 0) then some ((50,()),())
 else bif decide (p6.2.2.1 > 4) then some ((50,()),())
 else some ((0,()),())) F p.2.1 (p.2.1.length:Int) 0 p
def tree_head.sp (F:Nat):TA tree_head.sg.args→Option tree_head.sg.R:=fun x=>tree_head.sh F x.1
@[reducible] def tree_takes.sg:Sig:={args:=[.d (.g tNode)],res:=[.c (.int .i64)]}
def tree_takes.sh (F:Nat) (n:tNode.T):Option tree_takes.sg.R :=
 bif idx n.1 17 then bif decide ((get tTree_asks kindsL n.1.toNat).1 ≥ 0) then some (((get tTree_asks kindsL n.1.toNat).1,()),())
  else some ((n.2.2.2.1,()),())
 else none
def tree_takes.sp (F:Nat):TA tree_takes.sg.args→Option tree_takes.sg.R:=fun x=>tree_takes.sh F x.1
@[reducible] def tree_rising.sg:Sig:={args:=[.d (.b tTier)],res:=[.c .bool]}
def tree_rising.l4.body {R:Type} (F:Nat) (k0:Bool→Option R) (k1:(List tTier.T)→(List tTier.T)→Int→Int→Bool→Option R) (rec:(List tTier.T)→(List tTier.T)→Int→Int→Option R) (tiers:List tTier.T) (t20:List tTier.T) (t21:Int) (t22:Int):Option R :=
 bif decide (t22 < t21) then bif idx t22 t20.length then bif decide (t22 > 0) then bif idx (IntKind.i64.wrap (t22 - 1)) tiers.length then bif decide ((get tTier t20 t22.toNat).1 ≤ (get tTier tiers ((IntKind.i64.wrap (t22 - 1)).toNat)).1) then k0 false
     else bif decide ((get tTier t20 t22.toNat).1 > 1000000000000) then k0 false
     else bif decide ((get tTier t20 t22.toNat).2 < (-1000000000000)) then k0 false
     else bif decide ((get tTier t20 t22.toNat).2 > 1000000000000) then k0 false
     else rec tiers t20 t21 (IntKind.i64.wrap (t22 + 1))
    else none
   else bif decide ((get tTier t20 t22.toNat).1 > 1000000000000) then k0 false
   else bif decide ((get tTier t20 t22.toNat).2 < (-1000000000000)) then k0 false
   else bif decide ((get tTier t20 t22.toNat).2 > 1000000000000) then k0 false
   else rec tiers t20 t21 (IntKind.i64.wrap (t22 + 1))
  else none
 else k1 tiers t20 t21 t22 (decide (t22 < t21))
def tree_rising.l4 {R:Type} (F:Nat) (k0:Bool→Option R) (k1:(List tTier.T)→(List tTier.T)→Int→Int→Bool→Option R):Nat→(List tTier.T)→(List tTier.T)→Int→Int→Option R
 | 0,_,_,_,_=>none
 | fu + 1,tiers,t20,t21,t22=>tree_rising.l4.body F k0 k1 (tree_rising.l4 F k0 k1 fu) tiers t20 t21 t22
def tree_rising.sh (F:Nat) (tiers:List tTier.T):Option tree_rising.sg.R :=
 bif decide ((tiers.length:Int) < 1) then some ((false,()),())
 else bif decide ((tiers.length:Int) > 16) then some ((false,()),())
 else bif idx 0 tiers.length then bif ((get tTier tiers 0).1 != 0) then some ((false,()),())
  else tree_rising.l4 F (fun r21=>some ((r21,()),())) (fun tiers2 t202 t212 t222 t232=>some ((true,()),())) F tiers tiers (tiers.length:Int) 0
 else none
def tree_rising.sp (F:Nat):TA tree_rising.sg.args→Option tree_rising.sg.R:=fun x=>tree_rising.sh F x.1
@[reducible] def tree_node.sg:Sig:={args:=[.d (.g tNode),.d (.c (.int .i64)),.d (.c (.int .i64))],res:=[.c (.int .i64)]}
def tree_node.j13 {R:Type} (F:Nat) (k0:Int→Option R) (k1:Int→Option R) (k2:Int→Option R) (pile:Int) (most:Int) (kids:Bool) (op:Bool) (n:tNode.T) (k:tTree_asks.T):Option R :=
 bif decide (n.2.1 < 0) then k0 50
 else bif decide (n.2.1 > most) then k0 50
 else bif !kids then k0 50
 else bif !op then k0 50
 else bif !k.2.2.1 then bif decide ((n.2.2.2.2.1.length:Int) > 0) then k0 50
  else oB (tree_takes.sh F n) fun c_1 =>
  bif decide (pile < c_1.1.1) then k0 50
  else bif k.2.2.1 then oB (tree_rising.sh F n.2.2.2.2.1) fun c_2 =>
   bif !c_2.1.1 then k1 51
   else k2 0
  else k2 0
 else oB (tree_takes.sh F n) fun c_3 =>
 bif decide (pile < c_3.1.1) then k0 50
 else bif k.2.2.1 then oB (tree_rising.sh F n.2.2.2.2.1) fun c_4 =>
  bif !c_4.1.1 then k1 51
  else k2 0
 else k2 0
def tree_node.j10 {R:Type} (F:Nat) (k0:Int→Option R) (k1:Int→Option R) (k2:Int→Option R) (pile:Int) (most:Int) (kids:Bool) (n:tNode.T) (k:tTree_asks.T):Option R :=
 bif k.2.2.2 then bif decide (n.2.2.1 ≥ 1) then tree_node.j13 F (fun r65=>k0 r65) (fun r66=>k1 r66) (fun r67=>k2 r67) pile most kids (decide (n.2.2.1 ≤ 6)) n k
  else tree_node.j13 F (fun r68=>k0 r68) (fun r69=>k1 r69) (fun r610=>k2 r610) pile most kids false n k
 else tree_node.j13 F (fun r611=>k0 r611) (fun r612=>k1 r612) (fun r613=>k2 r613) pile most kids (n.2.2.1 == 0) n k
def tree_node.j7 {R:Type} (F:Nat) (k0:Int→Option R) (k1:Int→Option R) (k2:Int→Option R) (pile:Int) (most:Int) (n:tNode.T) (k:tTree_asks.T):Option R :=
 bif decide (k.1 < 0) then bif decide (n.2.2.2.1 ≥ 2) then tree_node.j10 F (fun r614=>k0 r614) (fun r615=>k1 r615) (fun r616=>k2 r616) pile most (decide (n.2.2.2.1 ≤ 16)) n k
  else tree_node.j10 F (fun r617=>k0 r617) (fun r618=>k1 r618) (fun r619=>k2 r619) pile most false n k
 else tree_node.j10 F (fun r620=>k0 r620) (fun r621=>k1 r621) (fun r622=>k2 r622) pile most (n.2.2.2.1 == 0) n k
def tree_node.sh (F:Nat) (n:tNode.T) (dims:Int) (pile:Int):Option tree_node.sg.R :=
 bif decide (n.1 < 1) then some ((50,()),())
 else bif decide (n.1 > 16) then some ((50,()),())
 else bif idx n.1 17 then bif decide ((get tTree_asks kindsL n.1.toNat).2.1 < 0) then tree_node.j7 F (fun r623=>some ((r623,()),())) (fun r624=>some ((r624,()),())) (fun r625=>some ((r625,()),())) pile (IntKind.i64.wrap (dims - 1)) n (get tTree_asks kindsL n.1.toNat)
  else tree_node.j7 F (fun r626=>some ((r626,()),())) (fun r627=>some ((r627,()),())) (fun r628=>some ((r628,()),())) pile (get tTree_asks kindsL n.1.toNat).2.1 n (get tTree_asks kindsL n.1.toNat)
 else none
def tree_node.sp (F:Nat):TA tree_node.sg.args→Option tree_node.sg.R:=fun x=>tree_node.sh F x.1 x.2.1 x.2.2.1
@[reducible] def tree_Check.sg:Sig:={args:=[.d (.g tPlan)],res:=[.c (.int .i64),.c (.int .i64)]}
def tree_Check.l8.body {R:Type} (F:Nat) (k0:Int→Int→Option R) (k1:Int→(List tNode.T)→Int→Int→Bool→tPlan.T→Option R) (rec:Int→(List tNode.T)→Int→Int→tPlan.T→Option R) (pile:Int) (t19:List tNode.T) (t20:Int) (t21:Int) (p:tPlan.T):Option R :=
 bif decide (t21 < t20) then bif idx t21 t19.length then oB (tree_node.sh F (get tNode t19 t21.toNat) (p.2.1.length:Int) pile) fun c_2 =>
   bif (c_2.1.1 != 0) then k0 t21 c_2.1.1
   else oB (tree_takes.sh F (get tNode t19 t21.toNat)) fun c_3 =>
   rec (IntKind.i64.wrap (pile + (IntKind.i64.wrap (1 - c_3.1.1)))) t19 t20 (IntKind.i64.wrap (t21 + 1)) p
  else none
 else k1 pile t19 t20 t21 (decide (t21 < t20)) p
def tree_Check.l8 {R:Type} (F:Nat) (k0:Int→Int→Option R) (k1:Int→(List tNode.T)→Int→Int→Bool→tPlan.T→Option R):Nat→Int→(List tNode.T)→Int→Int→tPlan.T→Option R
 | 0,_,_,_,_,_=>none
 | fu + 1,pile,t19,t20,t21,p=>tree_Check.l8.body F k0 k1 (tree_Check.l8 F k0 k1 fu) pile t19 t20 t21 p
def tree_Check.sh (F:Nat) (p:tPlan.T):Option tree_Check.sg.R :=
 oB (tree_head.sh F p) fun c_1 =>
 bif (c_1.1.1 != 0) then some (((-1),c_1.1.1,()),())
 else bif decide ((p.2.2.2.length:Int) > 1024) then some ((1024,2,()),())
 else tree_Check.l8 F (fun r24 r34=>some ((r24,r34,()),())) (fun pile5 t195 t205 t215 t225 p5=>bif (pile5 != 1) then some (((p5.2.2.2.length:Int),50,()),())
 else some ((0,0,()),())) F 0 p.2.2.2 (p.2.2.2.length:Int) 0 p
def tree_Check.sp (F:Nat):TA tree_Check.sg.args→Option tree_Check.sg.R:=fun x=>tree_Check.sh F x.1
@[reducible] def tree_firsts.sg:Sig:={args:=[.d (.g tPlan)],res:=[.c (.sl (.int .i64))]}
def tree_firsts.l3.body {R:Type} (F:Nat) (k0:(List tNode.T)→Int→Int→Bool→(List Int)→(List Int)→Option R) (rec:(List tNode.T)→Int→Int→(List Int)→(List Int)→Option R) (t10:List tNode.T) (t11:Int) (t12:Int) (list:List Int) (pile:List Int):Option R :=
 bif decide (t12 < t11) then bif idx t12 t10.length then oB (tree_takes.sh F (get tNode t10 t12.toNat)) fun c_1 =>
   bif decide (c_1.1.1 > 0) then bif idx (IntKind.i64.wrap ((pile.length:Int) - c_1.1.1)) pile.length then bif (bounds pile.length none (some (IntKind.i64.wrap ((pile.length:Int) - c_1.1.1)))).1 then bif Nat.ble ((pile.take (bounds pile.length none (some (IntKind.i64.wrap ((pile.length:Int) - c_1.1.1)))).2.2).length + ([get (.int .i64) pile ((IntKind.i64.wrap ((pile.length:Int) - c_1.1.1)).toNat)]:List Int).length) maxN then bif Nat.ble (list.length + ([get (.int .i64) pile ((IntKind.i64.wrap ((pile.length:Int) - c_1.1.1)).toNat)]:List Int).length) maxN then rec t10 t11 (IntKind.i64.wrap (t12 + 1)) (list ++ ([get (.int .i64) pile ((IntKind.i64.wrap ((pile.length:Int) - c_1.1.1)).toNat)]:List Int)) ((pile.take (bounds pile.length none (some (IntKind.i64.wrap ((pile.length:Int) - c_1.1.1)))).2.2) ++ ([get (.int .i64) pile ((IntKind.i64.wrap ((pile.length:Int) - c_1.1.1)).toNat)]:List Int))
       else none
      else none
     else none
    else none
   else bif Nat.ble (pile.length + ([t12]:List Int).length) maxN then bif Nat.ble (list.length + ([t12]:List Int).length) maxN then rec t10 t11 (IntKind.i64.wrap (t12 + 1)) (list ++ ([t12]:List Int)) (pile ++ ([t12]:List Int))
    else none
   else none
  else none
 else k0 t10 t11 t12 (decide (t12 < t11)) list pile
def tree_firsts.l3 {R:Type} (F:Nat) (k0:(List tNode.T)→Int→Int→Bool→(List Int)→(List Int)→Option R):Nat→(List tNode.T)→Int→Int→(List Int)→(List Int)→Option R
 | 0,_,_,_,_,_=>none
 | fu + 1,t10,t11,t12,list,pile=>tree_firsts.l3.body F k0 (tree_firsts.l3 F k0 fu) t10 t11 t12 list pile
def tree_firsts.j13 {R:Type} (F:Nat) (k0:(List Int)→Option R) (list:List Int):Option R :=
 k0 list
def tree_firsts.sh (F:Nat) (p:tPlan.T):Option tree_firsts.sg.R :=
 tree_firsts.l3 F (fun t102 t112 t122 t132 list2 pile2=>tree_firsts.j13 F (fun r23=>some ((r23,()),())) list2) F p.2.2.2 (p.2.2.2.length:Int) 0 ([]) ([])
def tree_firsts.sp (F:Nat):TA tree_firsts.sg.args→Option tree_firsts.sg.R:=fun x=>tree_firsts.sh F x.1
@[reducible] def tree_Firsts.sg:Sig:={args:=[.d (.g tPlan)],res:=[.c (.sl (.int .i64)),.c (.int .i64)]}
def tree_Firsts.sh (F:Nat) (p:tPlan.T):Option tree_Firsts.sg.R :=
 oB (tree_Check.sh F p) fun c_1 =>
 bif (c_1.1.2.1 != 0) then some (([],c_1.1.2.1,()),())
 else oB (tree_firsts.sh F p) fun c_2 =>
 some ((c_2.1.1,0,()),())
def tree_Firsts.sp (F:Nat):TA tree_Firsts.sg.args→Option tree_Firsts.sg.R:=fun x=>tree_Firsts.sh F x.1
@[reducible] def tree_Constant.sg:Sig:={args:=[.d (.g tPlan)],res:=[.c (.sl .bool),.c (.int .i64)]}
def tree_Constant.l7.body {R:Type} (F:Nat) (k0:(List Int)→Int→(List tNode.T)→Int→Int→Bool→(List Bool)→Option R) (rec:(List Int)→Int→(List tNode.T)→Int→Int→(List Bool)→Option R) (list:List Int) (last:Int) (t22:List tNode.T) (t23:Int) (t24:Int) (out:List Bool):Option R :=
 bif decide (t24 < t23) then bif idx t24 t22.length then bif ((get tNode t22 t24.toNat).1 == 3) then bif idx t24 list.length then bif idx t24 out.length then rec list t24 t22 t23 (IntKind.i64.wrap (t24 + 1)) (out.set t24.toNat (decide (t24 < (get (.int .i64) list t24.toNat))))
     else none
    else none
   else bif ((get tNode t22 t24.toNat).1 == 4) then bif idx t24 list.length then bif idx t24 out.length then rec list t24 t22 t23 (IntKind.i64.wrap (t24 + 1)) (out.set t24.toNat (decide (t24 < (get (.int .i64) list t24.toNat))))
     else none
    else none
   else bif idx t24 list.length then bif idx t24 out.length then rec list last t22 t23 (IntKind.i64.wrap (t24 + 1)) (out.set t24.toNat (decide (last < (get (.int .i64) list t24.toNat))))
    else none
   else none
  else none
 else k0 list last t22 t23 t24 (decide (t24 < t23)) out
def tree_Constant.l7 {R:Type} (F:Nat) (k0:(List Int)→Int→(List tNode.T)→Int→Int→Bool→(List Bool)→Option R):Nat→(List Int)→Int→(List tNode.T)→Int→Int→(List Bool)→Option R
 | 0,_,_,_,_,_,_=>none
 | fu + 1,list,last,t22,t23,t24,out=>tree_Constant.l7.body F k0 (tree_Constant.l7 F k0 fu) list last t22 t23 t24 out
def tree_Constant.j13 {R:Type} (F:Nat) (k0:(List Bool)→Int→Option R) (out:List Bool):Option R :=
 k0 out 0
def tree_Constant.sh (F:Nat) (p:tPlan.T):Option tree_Constant.sg.R :=
 oB (tree_Firsts.sh F p) fun c_1 =>
 bif (c_1.1.2.1 != 0) then some (([],c_1.1.2.1,()),())
 else bif (decide (0 ≤ (c_1.1.1.length:Int)) && decide ((c_1.1.1.length:Int) ≤ (c_1.1.1.length:Int)) && decide ((c_1.1.1.length:Int) ≤ (maxN:Int))) then tree_Constant.l7 F (fun list2 last2 t222 t232 t242 t252 out2=>tree_Constant.j13 F (fun r23 r33=>some ((r23,r33,()),())) out2) F c_1.1.1 (-1) p.2.2.2 (p.2.2.2.length:Int) 0 (zeroL .bool ((c_1.1.1.length:Int).toNat))
 else none
def tree_Constant.sp (F:Nat):TA tree_Constant.sg.args→Option tree_Constant.sg.R:=fun x=>tree_Constant.sh F x.1
@[reducible] def units_rules.sg:Sig:={args:=[.d (.c (.int .i64))],res:=[.c .fn,.c (.int .i64)]}
def units_rules.sh (F:Nat) (kind:Int):Option units_rules.sg.R :=
 bif idx kind (([Ty.dflt (.pair .fn (.int .i64)),(fn_units_node_number,0),(fn_units_node_money,0),(fn_units_node_quantity,0),(fn_units_node_blocks,0),(fn_units_node_alike,1),(fn_units_node_alike,2),(fn_units_node_alike,2),(fn_units_node_product,2),(fn_units_node_alike,(-1)),(fn_units_node_alike,(-1)),(fn_units_node_counted,1),(fn_units_node_counted,1),(fn_units_node_priced,1),(fn_units_node_priced,1),(fn_units_node_off,1),(fn_units_node_test,3)]:List (Nat×Int)).length) then bif idx kind (([Ty.dflt (.pair .fn (.int .i64)),(fn_units_node_number,0),(fn_units_node_money,0),(fn_units_node_quantity,0),(fn_units_node_blocks,0),(fn_units_node_alike,1),(fn_units_node_alike,2),(fn_units_node_alike,2),(fn_units_node_product,2),(fn_units_node_alike,(-1)),(fn_units_node_alike,(-1)),(fn_units_node_counted,1),(fn_units_node_counted,1),(fn_units_node_priced,1),(fn_units_node_priced,1),(fn_units_node_off,1),(fn_units_node_test,3)]:List (Nat×Int)).length) then some (((get (.pair .fn (.int .i64)) ([Ty.dflt (.pair .fn (.int .i64)),(fn_units_node_number,0),(fn_units_node_money,0),(fn_units_node_quantity,0),(fn_units_node_blocks,0),(fn_units_node_alike,1),(fn_units_node_alike,2),(fn_units_node_alike,2),(fn_units_node_product,2),(fn_units_node_alike,(-1)),(fn_units_node_alike,(-1)),(fn_units_node_counted,1),(fn_units_node_counted,1),(fn_units_node_priced,1),(fn_units_node_priced,1),(fn_units_node_off,1),(fn_units_node_test,3)]:List (Nat×Int)) kind.toNat).1,(get (.pair .fn (.int .i64)) ([Ty.dflt (.pair .fn (.int .i64)),(fn_units_node_number,0),(fn_units_node_money,0),(fn_units_node_quantity,0),(fn_units_node_blocks,0),(fn_units_node_alike,1),(fn_units_node_alike,2),(fn_units_node_alike,2),(fn_units_node_product,2),(fn_units_node_alike,(-1)),(fn_units_node_alike,(-1)),(fn_units_node_counted,1),(fn_units_node_counted,1),(fn_units_node_priced,1),(fn_units_node_priced,1),(fn_units_node_off,1),(fn_units_node_test,3)]:List (Nat×Int)) kind.toNat).2,()),())
  else none
 else none
def units_rules.sp (F:Nat):TA units_rules.sg.args→Option units_rules.sg.R:=fun x=>units_rules.sh F x.1
@[reducible] def units_node_one.sg:Sig:={args:=[.d (.g tUnits_node),.d (.c (.int .i64))],res:=[.c (.int .i64)]}
def units_node_one.l2.body {R:Type} (F:Nat) (k0:Int→Option R) (k1:Int→(List Int)→Int→Int→Bool→tUnits_node.T→Option R) (rec:Int→(List Int)→Int→Int→tUnits_node.T→Option R) (from_:Int) (t10:List Int) (t11:Int) (t12:Int) (n:tUnits_node.T):Option R :=
 bif decide (t12 < t11) then bif idx t12 t10.length then bif idx from_ n.2.1.length then bif ((get (.int .i64) t10 t12.toNat) != (get (.int .i64) n.2.1 from_.toNat)) then k0 (-1)
    else rec from_ t10 t11 (IntKind.i64.wrap (t12 + 1)) n
   else none
  else none
 else k1 from_ t10 t11 t12 (decide (t12 < t11)) n
def units_node_one.l2 {R:Type} (F:Nat) (k0:Int→Option R) (k1:Int→(List Int)→Int→Int→Bool→tUnits_node.T→Option R):Nat→Int→(List Int)→Int→Int→tUnits_node.T→Option R
 | 0,_,_,_,_,_=>none
 | fu + 1,from_,t10,t11,t12,n=>units_node_one.l2.body F k0 k1 (units_node_one.l2 F k0 k1 fu) from_ t10 t11 t12 n
def units_node_one.sh (F:Nat) (n:tUnits_node.T) (from_:Int):Option units_node_one.sg.R :=
 bif (bounds n.2.1.length (some from_) none).1 then units_node_one.l2 F (fun r41=>some ((r41,()),())) (fun from_2 t102 t112 t122 t132 n2=>bif idx from_2 n2.2.1.length then some ((get (.int .i64) n2.2.1 from_2.toNat,()),())
  else none) F from_ ((n.2.1.take (bounds n.2.1.length (some from_) none).2.2).drop (bounds n.2.1.length (some from_) none).2.1) (((n.2.1.take (bounds n.2.1.length (some from_) none).2.2).drop (bounds n.2.1.length (some from_) none).2.1).length:Int) 0 n
 else none
def units_node_one.sp (F:Nat):TA units_node_one.sg.args→Option units_node_one.sg.R:=fun x=>units_node_one.sh F x.1 x.2.1
@[reducible] def units_node_alike.sg:Sig:={args:=[.d (.g tUnits_node)],res:=[.c (.int .i64)]}
def units_node_alike.sh (F:Nat) (n:tUnits_node.T):Option units_node_alike.sg.R :=
 oB (units_node_one.sh F n 0) fun c_1 =>
 some ((c_1.1.1,()),())
def units_node_alike.sp (F:Nat):TA units_node_alike.sg.args→Option units_node_alike.sg.R:=fun x=>units_node_alike.sh F x.1
@[reducible] def units_node_blocks.sg:Sig:={args:=[.d (.g tUnits_node)],res:=[.c (.int .i64)]}
def units_node_blocks.sh (F:Nat) (n:tUnits_node.T):Option units_node_blocks.sg.R :=
 some ((IntKind.i64.wrap (3 + (IntKind.i64.wrap (2 * n.1.2.1))),()),())
def units_node_blocks.sp (F:Nat):TA units_node_blocks.sg.args→Option units_node_blocks.sg.R:=fun x=>units_node_blocks.sh F x.1
@[reducible] def units_count.sg:Sig:={args:=[.d (.c (.int .i64))],res:=[.c .bool]}
def units_count.sh (F:Nat) (t:Int):Option units_count.sg.R :=
 some ((decide (t ≥ 2),()),())
def units_count.sp (F:Nat):TA units_count.sg.args→Option units_count.sg.R:=fun x=>units_count.sh F x.1
@[reducible] def units_node_counted.sg:Sig:={args:=[.d (.g tUnits_node)],res:=[.c (.int .i64)]}
def units_node_counted.sh (F:Nat) (n:tUnits_node.T):Option units_node_counted.sg.R :=
 bif idx 0 n.2.1.length then oB (units_count.sh F (get (.int .i64) n.2.1 0)) fun c_1 =>
  bif c_1.1.1 then bif idx 0 n.2.1.length then some ((get (.int .i64) n.2.1 0,()),())
   else none
  else some (((-1),()),())
 else none
def units_node_counted.sp (F:Nat):TA units_node_counted.sg.args→Option units_node_counted.sg.R:=fun x=>units_node_counted.sh F x.1
@[reducible] def units_node_money.sg:Sig:={args:=[.d (.g tUnits_node)],res:=[.c (.int .i64)]}
def units_node_money.sh (F:Nat) (n:tUnits_node.T):Option units_node_money.sg.R :=
 some ((1,()),())
def units_node_money.sp (F:Nat):TA units_node_money.sg.args→Option units_node_money.sg.R:=fun x=>units_node_money.sh F x.1
@[reducible] def units_node_number.sg:Sig:={args:=[.d (.g tUnits_node)],res:=[.c (.int .i64)]}
def units_node_number.sh (F:Nat) (n:tUnits_node.T):Option units_node_number.sg.R :=
 some ((0,()),())
def units_node_number.sp (F:Nat):TA units_node_number.sg.args→Option units_node_number.sg.R:=fun x=>units_node_number.sh F x.1
@[reducible] def units_node_off.sg:Sig:={args:=[.d (.g tUnits_node)],res:=[.c (.int .i64)]}
def units_node_off.sh (F:Nat) (n:tUnits_node.T):Option units_node_off.sg.R :=
 bif idx 0 n.2.1.length then bif ((get (.int .i64) n.2.1 0) == 1) then some ((1,()),())
  else some (((-1),()),())
 else none
def units_node_off.sp (F:Nat):TA units_node_off.sg.args→Option units_node_off.sg.R:=fun x=>units_node_off.sh F x.1
@[reducible] def units_node_priced.sg:Sig:={args:=[.d (.g tUnits_node)],res:=[.c (.int .i64)]}
def units_node_priced.sh (F:Nat) (n:tUnits_node.T):Option units_node_priced.sg.R :=
 bif idx 0 n.2.1.length then oB (units_count.sh F (get (.int .i64) n.2.1 0)) fun c_1 =>
  bif c_1.1.1 then some ((1,()),())
  else some (((-1),()),())
 else none
def units_node_priced.sp (F:Nat):TA units_node_priced.sg.args→Option units_node_priced.sg.R:=fun x=>units_node_priced.sh F x.1
@[reducible] def units_node_product.sg:Sig:={args:=[.d (.g tUnits_node)],res:=[.c (.int .i64)]}
def units_node_product.sh (F:Nat) (n:tUnits_node.T):Option units_node_product.sg.R :=
 bif idx 0 n.2.1.length then bif idx 1 n.2.1.length then bif ((get (.int .i64) n.2.1 0) == 0) then some ((get (.int .i64) n.2.1 1,()),())
   else bif ((get (.int .i64) n.2.1 1) == 0) then some ((get (.int .i64) n.2.1 0,()),())
   else oB (units_count.sh F (get (.int .i64) n.2.1 0)) fun c_1 =>
   bif c_1.1.1 then bif ((get (.int .i64) n.2.1 1) == 1) then bif ((get (.int .i64) n.2.1 1) == 1) then some ((1,()),())
     else some (((-1),()),())
    else oB (units_count.sh F (get (.int .i64) n.2.1 1)) fun c_2 =>
    bif c_2.1.1 then bif ((get (.int .i64) n.2.1 0) == 1) then some ((1,()),())
     else some (((-1),()),())
    else some (((-1),()),())
   else oB (units_count.sh F (get (.int .i64) n.2.1 1)) fun c_3 =>
   bif c_3.1.1 then bif ((get (.int .i64) n.2.1 0) == 1) then some ((1,()),())
    else some (((-1),()),())
   else some (((-1),()),())
  else none
 else none
def units_node_product.sp (F:Nat):TA units_node_product.sg.args→Option units_node_product.sg.R:=fun x=>units_node_product.sh F x.1
@[reducible] def units_node_quantity.sg:Sig:={args:=[.d (.g tUnits_node)],res:=[.c (.int .i64)]}
def units_node_quantity.sh (F:Nat) (n:tUnits_node.T):Option units_node_quantity.sg.R :=
 some ((IntKind.i64.wrap (2 + (IntKind.i64.wrap (2 * n.1.2.1))),()),())
def units_node_quantity.sp (F:Nat):TA units_node_quantity.sg.args→Option units_node_quantity.sg.R:=fun x=>units_node_quantity.sh F x.1
@[reducible] def units_node_test.sg:Sig:={args:=[.d (.g tUnits_node)],res:=[.c (.int .i64)]}
def units_node_test.sh (F:Nat) (n:tUnits_node.T):Option units_node_test.sg.R :=
 bif idx 0 n.2.1.length then oB (units_count.sh F (get (.int .i64) n.2.1 0)) fun c_1 =>
  bif c_1.1.1 then oB (units_node_one.sh F n 1) fun c_2 =>
   some ((c_2.1.1,()),())
  else some (((-1),()),())
 else none
def units_node_test.sp (F:Nat):TA units_node_test.sg.args→Option units_node_test.sg.R:=fun x=>units_node_test.sh F x.1
@[reducible] def units_Types.sg:Sig:={args:=[.d (.g tPlan)],res:=[.c (.sl (.int .i64)),.c (.int .i64),.c (.int .i64)]}
@[reducible] def units_Types.ds63:Sig:={args:=[.d (.g tUnits_node)],res:=[.c (.int .i64)]}
def units_Types.d63 (F:Nat):Nat→TA units_Types.ds63.args→Option units_Types.ds63.R:=mkT units_Types.ds63 [(fn_units_node_alike,units_node_alike.sp F),(fn_units_node_blocks,units_node_blocks.sp F),(fn_units_node_counted,units_node_counted.sp F),(fn_units_node_money,units_node_money.sp F),(fn_units_node_number,units_node_number.sp F),(fn_units_node_off,units_node_off.sp F),(fn_units_node_priced,units_node_priced.sp F),(fn_units_node_product,units_node_product.sp F),(fn_units_node_quantity,units_node_quantity.sp F),(fn_units_node_test,units_node_test.sp F)]
def units_Types.l8.body {R:Type} (F:Nat) (k0:(List Int)→Int→Int→Option R) (k1:(List Int)→Int→Int→Option R) (k2:(List Bool)→(List tNode.T)→Int→Int→Bool→(List Int)→(List Int)→(List Bool)→Option R) (rec:(List Bool)→(List tNode.T)→Int→Int→(List Int)→(List Int)→(List Bool)→Option R) (fixed:List Bool) (t33:List tNode.T) (t34:Int) (t35:Int) (types:List Int) (pile:List Int) (fix:List Bool):Option R :=
 bif decide (t35 < t34) then bif idx t35 t33.length then oB (units_rules.sh F (get tNode t33 t35.toNat).1) fun c_3 =>
   bif decide (c_3.1.2.1 < 0) then bif (bounds pile.length (some (IntKind.i64.wrap ((pile.length:Int) - (get tNode t33 t35.toNat).2.2.2.1))) none).1 then bif (bounds fix.length (some (IntKind.i64.wrap ((pile.length:Int) - (get tNode t33 t35.toNat).2.2.2.1))) none).1 then oB (units_Types.d63 F c_3.1.1 (((get tNode t33 t35.toNat),(pile.take (bounds pile.length (some (IntKind.i64.wrap ((pile.length:Int) - (get tNode t33 t35.toNat).2.2.2.1))) none).2.2).drop (bounds pile.length (some (IntKind.i64.wrap ((pile.length:Int) - (get tNode t33 t35.toNat).2.2.2.1))) none).2.1,(fix.take (bounds fix.length (some (IntKind.i64.wrap ((pile.length:Int) - (get tNode t33 t35.toNat).2.2.2.1))) none).2.2).drop (bounds fix.length (some (IntKind.i64.wrap ((pile.length:Int) - (get tNode t33 t35.toNat).2.2.2.1))) none).2.1),())) fun c_4 =>
      bif (c_4.1.1 == (-1)) then k0 ([]) t35 80
      else bif ((get tNode t33 t35.toNat).1 == 8) then bif idx (IntKind.i64.wrap ((pile.length:Int) - (get tNode t33 t35.toNat).2.2.2.1)) fix.length then bif !(get .bool fix ((IntKind.i64.wrap ((pile.length:Int) - (get tNode t33 t35.toNat).2.2.2.1)).toNat)) then bif idx (IntKind.i64.wrap ((IntKind.i64.wrap ((pile.length:Int) - (get tNode t33 t35.toNat).2.2.2.1)) + 1)) fix.length then bif !(get .bool fix ((IntKind.i64.wrap ((IntKind.i64.wrap ((pile.length:Int) - (get tNode t33 t35.toNat).2.2.2.1)) + 1)).toNat)) then k1 ([]) t35 81
          else bif Nat.ble (types.length + ([c_4.1.1]:List Int).length) maxN then bif (bounds pile.length none (some (IntKind.i64.wrap ((pile.length:Int) - (get tNode t33 t35.toNat).2.2.2.1)))).1 then bif Nat.ble ((bounds pile.length none (some (IntKind.i64.wrap ((pile.length:Int) - (get tNode t33 t35.toNat).2.2.2.1)))).2.2 + ([c_4.1.1]:List Int).length) maxN then bif (bounds fix.length none (some (IntKind.i64.wrap ((pile.length:Int) - (get tNode t33 t35.toNat).2.2.2.1)))).1 then bif idx t35 fixed.length then bif Nat.ble ((bounds fix.length none (some (IntKind.i64.wrap ((pile.length:Int) - (get tNode t33 t35.toNat).2.2.2.1)))).2.2 + ([get .bool fixed t35.toNat]:List Bool).length) maxN then rec fixed t33 t34 (IntKind.i64.wrap (t35 + 1)) (types ++ ([c_4.1.1]:List Int)) (pile.take (bounds pile.length none (some (IntKind.i64.wrap ((pile.length:Int) - (get tNode t33 t35.toNat).2.2.2.1)))).2.2 ++ ([c_4.1.1]:List Int)) (fix.take (bounds fix.length none (some (IntKind.i64.wrap ((pile.length:Int) - (get tNode t33 t35.toNat).2.2.2.1)))).2.2 ++ ([get .bool fixed t35.toNat]:List Bool))
               else none
              else none
             else none
            else none
           else none
          else none
         else none
        else bif Nat.ble (types.length + ([c_4.1.1]:List Int).length) maxN then bif (bounds pile.length none (some (IntKind.i64.wrap ((pile.length:Int) - (get tNode t33 t35.toNat).2.2.2.1)))).1 then bif Nat.ble ((bounds pile.length none (some (IntKind.i64.wrap ((pile.length:Int) - (get tNode t33 t35.toNat).2.2.2.1)))).2.2 + ([c_4.1.1]:List Int).length) maxN then bif (bounds fix.length none (some (IntKind.i64.wrap ((pile.length:Int) - (get tNode t33 t35.toNat).2.2.2.1)))).1 then bif idx t35 fixed.length then bif Nat.ble ((bounds fix.length none (some (IntKind.i64.wrap ((pile.length:Int) - (get tNode t33 t35.toNat).2.2.2.1)))).2.2 + ([get .bool fixed t35.toNat]:List Bool).length) maxN then rec fixed t33 t34 (IntKind.i64.wrap (t35 + 1)) (types ++ ([c_4.1.1]:List Int)) (pile.take (bounds pile.length none (some (IntKind.i64.wrap ((pile.length:Int) - (get tNode t33 t35.toNat).2.2.2.1)))).2.2 ++ ([c_4.1.1]:List Int)) (fix.take (bounds fix.length none (some (IntKind.i64.wrap ((pile.length:Int) - (get tNode t33 t35.toNat).2.2.2.1)))).2.2 ++ ([get .bool fixed t35.toNat]:List Bool))
             else none
            else none
           else none
          else none
         else none
        else none
       else none
      else bif Nat.ble (types.length + ([c_4.1.1]:List Int).length) maxN then bif (bounds pile.length none (some (IntKind.i64.wrap ((pile.length:Int) - (get tNode t33 t35.toNat).2.2.2.1)))).1 then bif Nat.ble ((bounds pile.length none (some (IntKind.i64.wrap ((pile.length:Int) - (get tNode t33 t35.toNat).2.2.2.1)))).2.2 + ([c_4.1.1]:List Int).length) maxN then bif (bounds fix.length none (some (IntKind.i64.wrap ((pile.length:Int) - (get tNode t33 t35.toNat).2.2.2.1)))).1 then bif idx t35 fixed.length then bif Nat.ble ((bounds fix.length none (some (IntKind.i64.wrap ((pile.length:Int) - (get tNode t33 t35.toNat).2.2.2.1)))).2.2 + ([get .bool fixed t35.toNat]:List Bool).length) maxN then rec fixed t33 t34 (IntKind.i64.wrap (t35 + 1)) (types ++ ([c_4.1.1]:List Int)) (pile.take (bounds pile.length none (some (IntKind.i64.wrap ((pile.length:Int) - (get tNode t33 t35.toNat).2.2.2.1)))).2.2 ++ ([c_4.1.1]:List Int)) (fix.take (bounds fix.length none (some (IntKind.i64.wrap ((pile.length:Int) - (get tNode t33 t35.toNat).2.2.2.1)))).2.2 ++ ([get .bool fixed t35.toNat]:List Bool))
           else none
          else none
         else none
        else none
       else none
      else none
     else none
    else none
   else bif (bounds pile.length (some (IntKind.i64.wrap ((pile.length:Int) - c_3.1.2.1))) none).1 then bif (bounds fix.length (some (IntKind.i64.wrap ((pile.length:Int) - c_3.1.2.1))) none).1 then oB (units_Types.d63 F c_3.1.1 (((get tNode t33 t35.toNat),(pile.take (bounds pile.length (some (IntKind.i64.wrap ((pile.length:Int) - c_3.1.2.1))) none).2.2).drop (bounds pile.length (some (IntKind.i64.wrap ((pile.length:Int) - c_3.1.2.1))) none).2.1,(fix.take (bounds fix.length (some (IntKind.i64.wrap ((pile.length:Int) - c_3.1.2.1))) none).2.2).drop (bounds fix.length (some (IntKind.i64.wrap ((pile.length:Int) - c_3.1.2.1))) none).2.1),())) fun c_5 =>
     bif (c_5.1.1 == (-1)) then k0 ([]) t35 80
     else bif ((get tNode t33 t35.toNat).1 == 8) then bif idx (IntKind.i64.wrap ((pile.length:Int) - c_3.1.2.1)) fix.length then bif !(get .bool fix ((IntKind.i64.wrap ((pile.length:Int) - c_3.1.2.1)).toNat)) then bif idx (IntKind.i64.wrap ((IntKind.i64.wrap ((pile.length:Int) - c_3.1.2.1)) + 1)) fix.length then bif !(get .bool fix ((IntKind.i64.wrap ((IntKind.i64.wrap ((pile.length:Int) - c_3.1.2.1)) + 1)).toNat)) then k1 ([]) t35 81
         else bif Nat.ble (types.length + ([c_5.1.1]:List Int).length) maxN then bif (bounds pile.length none (some (IntKind.i64.wrap ((pile.length:Int) - c_3.1.2.1)))).1 then bif Nat.ble ((bounds pile.length none (some (IntKind.i64.wrap ((pile.length:Int) - c_3.1.2.1)))).2.2 + ([c_5.1.1]:List Int).length) maxN then bif (bounds fix.length none (some (IntKind.i64.wrap ((pile.length:Int) - c_3.1.2.1)))).1 then bif idx t35 fixed.length then bif Nat.ble ((bounds fix.length none (some (IntKind.i64.wrap ((pile.length:Int) - c_3.1.2.1)))).2.2 + ([get .bool fixed t35.toNat]:List Bool).length) maxN then rec fixed t33 t34 (IntKind.i64.wrap (t35 + 1)) (types ++ ([c_5.1.1]:List Int)) (pile.take (bounds pile.length none (some (IntKind.i64.wrap ((pile.length:Int) - c_3.1.2.1)))).2.2 ++ ([c_5.1.1]:List Int)) (fix.take (bounds fix.length none (some (IntKind.i64.wrap ((pile.length:Int) - c_3.1.2.1)))).2.2 ++ ([get .bool fixed t35.toNat]:List Bool))
              else none
             else none
            else none
           else none
          else none
         else none
        else none
       else bif Nat.ble (types.length + ([c_5.1.1]:List Int).length) maxN then bif (bounds pile.length none (some (IntKind.i64.wrap ((pile.length:Int) - c_3.1.2.1)))).1 then bif Nat.ble ((bounds pile.length none (some (IntKind.i64.wrap ((pile.length:Int) - c_3.1.2.1)))).2.2 + ([c_5.1.1]:List Int).length) maxN then bif (bounds fix.length none (some (IntKind.i64.wrap ((pile.length:Int) - c_3.1.2.1)))).1 then bif idx t35 fixed.length then bif Nat.ble ((bounds fix.length none (some (IntKind.i64.wrap ((pile.length:Int) - c_3.1.2.1)))).2.2 + ([get .bool fixed t35.toNat]:List Bool).length) maxN then rec fixed t33 t34 (IntKind.i64.wrap (t35 + 1)) (types ++ ([c_5.1.1]:List Int)) (pile.take (bounds pile.length none (some (IntKind.i64.wrap ((pile.length:Int) - c_3.1.2.1)))).2.2 ++ ([c_5.1.1]:List Int)) (fix.take (bounds fix.length none (some (IntKind.i64.wrap ((pile.length:Int) - c_3.1.2.1)))).2.2 ++ ([get .bool fixed t35.toNat]:List Bool))
            else none
           else none
          else none
         else none
        else none
       else none
      else none
     else bif Nat.ble (types.length + ([c_5.1.1]:List Int).length) maxN then bif (bounds pile.length none (some (IntKind.i64.wrap ((pile.length:Int) - c_3.1.2.1)))).1 then bif Nat.ble ((bounds pile.length none (some (IntKind.i64.wrap ((pile.length:Int) - c_3.1.2.1)))).2.2 + ([c_5.1.1]:List Int).length) maxN then bif (bounds fix.length none (some (IntKind.i64.wrap ((pile.length:Int) - c_3.1.2.1)))).1 then bif idx t35 fixed.length then bif Nat.ble ((bounds fix.length none (some (IntKind.i64.wrap ((pile.length:Int) - c_3.1.2.1)))).2.2 + ([get .bool fixed t35.toNat]:List Bool).length) maxN then rec fixed t33 t34 (IntKind.i64.wrap (t35 + 1)) (types ++ ([c_5.1.1]:List Int)) (pile.take (bounds pile.length none (some (IntKind.i64.wrap ((pile.length:Int) - c_3.1.2.1)))).2.2 ++ ([c_5.1.1]:List Int)) (fix.take (bounds fix.length none (some (IntKind.i64.wrap ((pile.length:Int) - c_3.1.2.1)))).2.2 ++ ([get .bool fixed t35.toNat]:List Bool))
          else none
         else none
        else none
       else none
      else none
     else none
    else none
   else none
  else none
 else k2 fixed t33 t34 t35 (decide (t35 < t34)) types pile fix
def units_Types.l8 {R:Type} (F:Nat) (k0:(List Int)→Int→Int→Option R) (k1:(List Int)→Int→Int→Option R) (k2:(List Bool)→(List tNode.T)→Int→Int→Bool→(List Int)→(List Int)→(List Bool)→Option R):Nat→(List Bool)→(List tNode.T)→Int→Int→(List Int)→(List Int)→(List Bool)→Option R
 | 0,_,_,_,_,_,_,_=>none
 | fu + 1,fixed,t33,t34,t35,types,pile,fix=>units_Types.l8.body F k0 k1 k2 (units_Types.l8 F k0 k1 k2 fu) fixed t33 t34 t35 types pile fix
def units_Types.j23 {R:Type} (F:Nat) (k0:(List Int)→Int→Int→Option R) (k1:(List Int)→Int→Int→Option R) (types:List Int) (pile:List Int):Option R :=
 bif idx 0 pile.length then bif ((get (.int .i64) pile 0) != 1) then k0 ([]) (IntKind.i64.wrap ((types.length:Int) - 1)) 80
  else k1 types 0 0
 else none
def units_Types.sh (F:Nat) (p:tPlan.T):Option units_Types.sg.R :=
 oB (tree_Check.sh F p) fun c_1 =>
 bif (c_1.1.2.1 != 0) then some (([],c_1.1.1,c_1.1.2.1,()),())
 else oB (tree_Constant.sh F p) fun c_2 =>
 units_Types.l8 F (fun r26 r36 r46=>some ((r26,r36,r46,()),())) (fun r27 r37 r47=>some ((r27,r37,r47,()),())) (fun fixed8 t338 t348 t358 t368 types8 pile8 fix8=>units_Types.j23 F (fun r29 r39 r49=>some ((r29,r39,r49,()),())) (fun r210 r310 r410=>some ((r210,r310,r410,()),())) types8 pile8) F c_2.1.1 p.2.2.2 (p.2.2.2.length:Int) 0 ([]) ([]) ([])
def units_Types.sp (F:Nat):TA units_Types.sg.args→Option units_Types.sg.R:=fun x=>units_Types.sh F x.1
@[reducible] def slices_Max_int.sg:Sig:={args:=[.d (.b (.int .i64))],res:=[.c (.int .i64)]}
def slices_Max_int.l5.body {R:Type} (F:Nat) (k0:(List Int)→Int→Int→Bool→Option R) (rec:(List Int)→Int→Int→Option R) (x:List Int) (m:Int) (i:Int):Option R :=
 bif decide (i < (x.length:Int)) then bif idx i x.length then rec x (if get (.int .i64) x i.toNat > m then get (.int .i64) x i.toNat else m) (IntKind.i64.wrap (i + 1))
  else none
 else k0 x m i (decide (i < (x.length:Int)))
def slices_Max_int.l5 {R:Type} (F:Nat) (k0:(List Int)→Int→Int→Bool→Option R):Nat→(List Int)→Int→Int→Option R
 | 0,_,_,_=>none
 | fu + 1,x,m,i=>slices_Max_int.l5.body F k0 (slices_Max_int.l5 F k0 fu) x m i
def slices_Max_int.sh (F:Nat) (x:List Int):Option slices_Max_int.sg.R :=
 bif decide ((x.length:Int) < 1) then none
 else bif idx 0 x.length then slices_Max_int.l5 F (fun x1 m1 i1 t151=>some ((m1,()),())) F x (get (.int .i64) x 0) 1
 else none
def slices_Max_int.sp (F:Nat):TA slices_Max_int.sg.args→Option slices_Max_int.sg.R:=fun x=>slices_Max_int.sh F x.1
@[reducible] def tree_Scale.sg:Sig:={args:=[.d (.g tPlan)],res:=[.c (.int .i64),.c (.int .i64)]}
def tree_Scale.l6.body {R:Type} (F:Nat) (k0:(List tNode.T)→Int→Int→Bool→(List Int)→Option R) (rec:(List tNode.T)→Int→Int→(List Int)→Option R) (t20:List tNode.T) (t21:Int) (t22:Int) (pile:List Int):Option R :=
 bif decide (t22 < t21) then bif idx t22 t20.length then oB (tree_takes.sh F (get tNode t20 t22.toNat)) fun c_2 =>
   bif decide (c_2.1.1 > 0) then bif (bounds pile.length (some (IntKind.i64.wrap ((pile.length:Int) - c_2.1.1))) none).1 then oB (slices_Max_int.sh F ((List.take (bounds pile.length (some (IntKind.i64.wrap ((pile.length:Int) - c_2.1.1))) none).2.2 pile).drop (bounds pile.length (some (IntKind.i64.wrap ((pile.length:Int) - c_2.1.1))) none).2.1)) fun c_3 =>
     bif (bounds pile.length none (some (IntKind.i64.wrap ((pile.length:Int) - c_2.1.1)))).1 then bif ((get tNode t20 t22.toNat).1 == 15) then bif Nat.ble ((pile.take (bounds pile.length none (some (IntKind.i64.wrap ((pile.length:Int) - c_2.1.1)))).2.2).length + ([IntKind.i64.wrap (c_3.1.1 + 1)]:List Int).length) maxN then rec t20 t21 (IntKind.i64.wrap (t22 + 1)) ((pile.take (bounds pile.length none (some (IntKind.i64.wrap ((pile.length:Int) - c_2.1.1)))).2.2) ++ ([IntKind.i64.wrap (c_3.1.1 + 1)]:List Int))
       else none
      else bif Nat.ble ((pile.take (bounds pile.length none (some (IntKind.i64.wrap ((pile.length:Int) - c_2.1.1)))).2.2).length + ([c_3.1.1]:List Int).length) maxN then rec t20 t21 (IntKind.i64.wrap (t22 + 1)) ((pile.take (bounds pile.length none (some (IntKind.i64.wrap ((pile.length:Int) - c_2.1.1)))).2.2) ++ ([c_3.1.1]:List Int))
      else none
     else none
    else none
   else bif ((get tNode t20 t22.toNat).1 == 15) then bif Nat.ble (pile.length + ([IntKind.i64.wrap (0 + 1)]:List Int).length) maxN then rec t20 t21 (IntKind.i64.wrap (t22 + 1)) (pile ++ ([IntKind.i64.wrap (0 + 1)]:List Int))
    else none
   else bif Nat.ble (pile.length + ([0]:List Int).length) maxN then rec t20 t21 (IntKind.i64.wrap (t22 + 1)) (pile ++ ([0]:List Int))
   else none
  else none
 else k0 t20 t21 t22 (decide (t22 < t21)) pile
def tree_Scale.l6 {R:Type} (F:Nat) (k0:(List tNode.T)→Int→Int→Bool→(List Int)→Option R):Nat→(List tNode.T)→Int→Int→(List Int)→Option R
 | 0,_,_,_,_=>none
 | fu + 1,t20,t21,t22,pile=>tree_Scale.l6.body F k0 (tree_Scale.l6 F k0 fu) t20 t21 t22 pile
def tree_Scale.j17 {R:Type} (F:Nat) (k0:Int→Int→Option R) (pile:List Int):Option R :=
 bif idx 0 pile.length then k0 (get (.int .i64) pile 0) 0
 else none
def tree_Scale.sh (F:Nat) (p:tPlan.T):Option tree_Scale.sg.R :=
 oB (tree_Check.sh F p) fun c_1 =>
 bif (c_1.1.2.1 != 0) then some ((0,c_1.1.2.1,()),())
 else tree_Scale.l6 F (fun t204 t214 t224 t234 pile4=>tree_Scale.j17 F (fun r25 r35=>some ((r25,r35,()),())) pile4) F p.2.2.2 (p.2.2.2.length:Int) 0 ([])
def tree_Scale.sp (F:Nat):TA tree_Scale.sg.args→Option tree_Scale.sg.R:=fun x=>tree_Scale.sh F x.1
@[reducible] def wide_Of.sg:Sig:={args:=[.d (.c (.int .i64))],res:=[.g tWide]}
def wide_Of.sh (F:Nat) (v:Int):Option wide_Of.sg.R :=
 some (((v.fdiv (2 ^ (min (63:Int).toNat IntKind.i64.bits)),IntKind.u64.wrap v),()),())
def wide_Of.sp (F:Nat):TA wide_Of.sg.args→Option wide_Of.sg.R:=fun x=>wide_Of.sh F x.1
@[reducible] def wide_Abs.sg:Sig:={args:=[.d (.g tWide)],res:=[.c (.int .u64),.c (.int .u64)]}
def wide_Abs.sh (F:Nat) (w:tWide.T):Option wide_Abs.sg.R :=
 bif decide (w.1 ≥ 0) then some ((IntKind.u64.wrap w.1,w.2,()),())
 else oB (math_bits_Sub64.sh F 0 w.2 0) fun c_1 =>
 oB (math_bits_Sub64.sh F 0 (IntKind.u64.wrap w.1) c_1.1.2.1) fun c_2 =>
 some ((c_2.1.1,c_1.1.1,()),())
def wide_Abs.sp (F:Nat):TA wide_Abs.sg.args→Option wide_Abs.sg.R:=fun x=>wide_Abs.sh F x.1
@[reducible] def math_bits_Mul64.sg:Sig:={args:=[.d (.c (.int .u64)),.d (.c (.int .u64))],res:=[.c (.int .u64),.c (.int .u64)]}
def math_bits_Mul64.sh (F:Nat) (x:Int) (y:Int):Option math_bits_Mul64.sg.R :=
 some ((IntKind.u64.wrap ((IntKind.u64.wrap ((IntKind.u64.wrap ((x.fdiv (2 ^ (min (32:Int).toNat IntKind.u64.bits))) * (y.fdiv (2 ^ (min (32:Int).toNat IntKind.u64.bits))))) + ((IntKind.u64.wrap ((IntKind.u64.wrap ((x.fdiv (2 ^ (min (32:Int).toNat IntKind.u64.bits))) * (IntKind.u64.wrap ((BitVec.ofInt IntKind.u64.bits y &&& BitVec.ofInt IntKind.u64.bits 4294967295).toNat)))) + ((IntKind.u64.wrap ((IntKind.u64.wrap ((BitVec.ofInt IntKind.u64.bits x &&& BitVec.ofInt IntKind.u64.bits 4294967295).toNat)) * (IntKind.u64.wrap ((BitVec.ofInt IntKind.u64.bits y &&& BitVec.ofInt IntKind.u64.bits 4294967295).toNat)))).fdiv (2 ^ (min (32:Int).toNat IntKind.u64.bits))))).fdiv (2 ^ (min (32:Int).toNat IntKind.u64.bits))))) + ((IntKind.u64.wrap ((IntKind.u64.wrap ((BitVec.ofInt IntKind.u64.bits (IntKind.u64.wrap ((IntKind.u64.wrap ((x.fdiv (2 ^ (min (32:Int).toNat IntKind.u64.bits))) * (IntKind.u64.wrap ((BitVec.ofInt IntKind.u64.bits y &&& BitVec.ofInt IntKind.u64.bits 4294967295).toNat)))) + ((IntKind.u64.wrap ((IntKind.u64.wrap ((BitVec.ofInt IntKind.u64.bits x &&& BitVec.ofInt IntKind.u64.bits 4294967295).toNat)) * (IntKind.u64.wrap ((BitVec.ofInt IntKind.u64.bits y &&& BitVec.ofInt IntKind.u64.bits 4294967295).toNat)))).fdiv (2 ^ (min (32:Int).toNat IntKind.u64.bits))))) &&& BitVec.ofInt IntKind.u64.bits 4294967295).toNat)) + (IntKind.u64.wrap ((IntKind.u64.wrap ((BitVec.ofInt IntKind.u64.bits x &&& BitVec.ofInt IntKind.u64.bits 4294967295).toNat)) * (y.fdiv (2 ^ (min (32:Int).toNat IntKind.u64.bits))))))).fdiv (2 ^ (min (32:Int).toNat IntKind.u64.bits)))),IntKind.u64.wrap (x * y),()),())
def math_bits_Mul64.sp (F:Nat):TA math_bits_Mul64.sg.args→Option math_bits_Mul64.sg.R:=fun x=>math_bits_Mul64.sh F x.1 x.2.1
@[reducible] def times_pick.sg:Sig:={args:=[.d (.c .bool),.d (.c (.int .u64)),.d (.c (.int .u64))],res:=[.c (.int .u64)]}
def times_pick.sh (F:Nat) (first_:Bool) (a:Int) (b:Int):Option times_pick.sg.R :=
 bif first_ then some ((a,()),())
 else some ((b,()),())
def times_pick.sp (F:Nat):TA times_pick.sg.args→Option times_pick.sg.R:=fun x=>times_pick.sh F x.1 x.2.1 x.2.2.1
@[reducible] def wide_Sub.sg:Sig:={args:=[.d (.g tWide),.d (.g tWide)],res:=[.g tWide,.c (.int .i64)]}
def wide_Sub.sh (F:Nat) (a:tWide.T) (b:tWide.T):Option wide_Sub.sg.R :=
 oB (math_bits_Sub64.sh F a.2 b.2 0) fun c_1 =>
 oB (math_bits_Sub64.sh F (IntKind.u64.wrap a.1) (IntKind.u64.wrap b.1) c_1.1.2.1) fun c_2 =>
 bif (!(decide (a.1 < 0) == decide (b.1 < 0))) then bif (!(decide ((IntKind.i64.wrap c_2.1.1) < 0) == decide (a.1 < 0))) then some (((0,0),10,()),())
  else some (((IntKind.i64.wrap c_2.1.1,c_1.1.1),0,()),())
 else some (((IntKind.i64.wrap c_2.1.1,c_1.1.1),0,()),())
def wide_Sub.sp (F:Nat):TA wide_Sub.sg.args→Option wide_Sub.sg.R:=fun x=>wide_Sub.sh F x.1 x.2.1
@[reducible] def wide_Neg.sg:Sig:={args:=[.d (.g tWide)],res:=[.g tWide,.c (.int .i64)]}
def wide_Neg.sh (F:Nat) (a:tWide.T):Option wide_Neg.sg.R :=
 oB (wide_Sub.sh F (0,0) a) fun c_1 =>
 some ((c_1.1.1,c_1.1.2.1,()),())
def wide_Neg.sp (F:Nat):TA wide_Neg.sg.args→Option wide_Neg.sg.R:=fun x=>wide_Neg.sh F x.1
@[reducible] def wide_Join.sg:Sig:={args:=[.d (.c .bool),.d (.c (.int .u64)),.d (.c (.int .u64))],res:=[.g tWide,.c (.int .i64)]}
def wide_Join.sh (F:Nat) (below:Bool) (hi:Int) (lo:Int):Option wide_Join.sg.R :=
 bif ((hi.fdiv (2 ^ (min (63:Int).toNat IntKind.u64.bits))) == 0) then bif below then oB (wide_Neg.sh F (IntKind.i64.wrap hi,lo)) fun c_1 =>
   some ((c_1.1.1,c_1.1.2.1,()),())
  else some (((IntKind.i64.wrap hi,lo),0,()),())
 else bif below then bif (hi == 9223372036854775808) then bif (lo == 0) then some ((((-9223372036854775808),0),0,()),())
   else some (((0,0),10,()),())
  else some (((0,0),10,()),())
 else some (((0,0),10,()),())
def wide_Join.sp (F:Nat):TA wide_Join.sg.args→Option wide_Join.sg.R:=fun x=>wide_Join.sh F x.1 x.2.1 x.2.2.1
@[reducible] def times_Mul.sg:Sig:={args:=[.d (.g tWide),.d (.g tWide)],res:=[.g tWide,.c (.int .i64)]}
def times_Mul.j5 {R:Type} (F:Nat) (k0:Int→tWide.T→Option R) (k1:Int→tWide.T→Option R) (ah:Int) (al:Int) (bh:Int) (bl:Int) (a:tWide.T) (b:tWide.T) (r4:tWide.T):Option R :=
 oB (math_bits_Mul64.sh F al bl) fun c_3 =>
 oB (times_pick.sh F (ah != 0) bl al) fun c_4 =>
 oB (math_bits_Mul64.sh F (IntKind.u64.wrap ((BitVec.ofInt IntKind.u64.bits ah ||| BitVec.ofInt IntKind.u64.bits bh).toNat)) c_4.1.1) fun c_5 =>
 oB (math_bits_Add64.sh F c_3.1.1 c_5.1.2.1 0) fun c_6 =>
 bif (c_5.1.1 != 0) then k0 10 (0,0)
 else bif (c_6.1.2.1 != 0) then k0 10 (0,0)
 else oB (wide_Join.sh F (!(decide (a.1 < 0) == decide (b.1 < 0))) c_6.1.1 c_3.1.2.1) fun c_7 =>
 k1 c_7.1.2.1 c_7.1.1
def times_Mul.sh (F:Nat) (a:tWide.T) (b:tWide.T):Option times_Mul.sg.R :=
 oB (wide_Abs.sh F a) fun c_1 =>
 oB (wide_Abs.sh F b) fun c_2 =>
 bif (c_1.1.1 != 0) then bif (c_2.1.1 != 0) then some (((0,0),10,()),())
  else times_Mul.j5 F (fun r58 r48=>some ((r48,r58,()),())) (fun r59 r49=>some ((r49,r59,()),())) c_1.1.1 c_1.1.2.1 c_2.1.1 c_2.1.2.1 a b (0,0)
 else times_Mul.j5 F (fun r510 r410=>some ((r410,r510,()),())) (fun r511 r411=>some ((r411,r511,()),())) c_1.1.1 c_1.1.2.1 c_2.1.1 c_2.1.2.1 a b (0,0)
def times_Mul.sp (F:Nat):TA times_Mul.sg.args→Option times_Mul.sg.R:=fun x=>times_Mul.sh F x.1 x.2.1
@[reducible] def times_Power.sg:Sig:={args:=[.d (.c (.int .i64))],res:=[.g tWide,.c (.int .i64)]}
def times_Power.l7.body {R:Type} (F:Nat) (k0:Int→Int→Bool→tWide.T→tWide.T→Option R) (rec:Int→Int→tWide.T→tWide.T→Option R) (t12:Int) (t13:Int) (r2:tWide.T) (p:tWide.T):Option R :=
 bif decide (t13 < t12) then oB (wide_Of.sh F 10000) fun c_2 =>
  oB (times_Mul.sh F p c_2.1.1) fun c_3 =>
  rec t12 (IntKind.i64.wrap (t13 + 1)) r2 c_3.1.1
 else k0 t12 t13 (decide (t13 < t12)) r2 p
def times_Power.l7 {R:Type} (F:Nat) (k0:Int→Int→Bool→tWide.T→tWide.T→Option R):Nat→Int→Int→tWide.T→tWide.T→Option R
 | 0,_,_,_,_=>none
 | fu + 1,t12,t13,r2,p=>times_Power.l7.body F k0 (times_Power.l7 F k0 fu) t12 t13 r2 p
def times_Power.sh (F:Nat) (k:Int):Option times_Power.sg.R :=
 bif decide (k < 0) then some (((0,0),1,()),())
 else bif decide (k > 9) then some (((0,0),10,()),())
 else oB (wide_Of.sh F 1) fun c_1 =>
 times_Power.l7 F (fun t124 t134 t144 r24 p4=>some ((p4,0,()),())) F k 0 (0,0) c_1.1.1
def times_Power.sp (F:Nat):TA times_Power.sg.args→Option times_Power.sg.R:=fun x=>times_Power.sh F x.1
@[reducible] def bound_takes.sg:Sig:={args:=[.d (.g tNode)],res:=[.c (.int .i64)]}
def bound_takes.j10 {R:Type} (F:Nat) (k0:Int→Option R) (k1:Int→Option R) (k2:Int→Option R) (k3:Bool→Option R) (t4:Int) (t10:Bool) (n:tNode.T):Option R :=
 bif t10 then k0 2
 else bif (t4 == 9) then bif (t4 == 9) then k1 n.2.2.2.1
  else bif (t4 == 16) then k2 3
  else k3 (t4 == 16)
 else bif (t4 == 10) then k1 n.2.2.2.1
 else bif (t4 == 16) then k2 3
 else k3 (t4 == 16)
def bound_takes.j6 {R:Type} (F:Nat) (k0:Int→Option R) (k1:Int→Option R) (k2:Int→Option R) (k3:Int→Option R) (k4:Bool→Option R) (t4:Int) (t5:Bool) (n:tNode.T):Option R :=
 bif t5 then k0 0
 else bif (t4 == 6) then bound_takes.j10 F (fun r21=>k1 r21) (fun r22=>k2 r22) (fun r23=>k3 r23) (fun t194=>k4 t194) t4 (t4 == 6) n
 else bif (t4 == 7) then bound_takes.j10 F (fun r25=>k1 r25) (fun r26=>k2 r26) (fun r27=>k3 r27) (fun t198=>k4 t198) t4 (t4 == 7) n
 else bound_takes.j10 F (fun r29=>k1 r29) (fun r210=>k2 r210) (fun r211=>k3 r211) (fun t1912=>k4 t1912) t4 (t4 == 8) n
def bound_takes.sh (F:Nat) (n:tNode.T):Option bound_takes.sg.R :=
 bif (n.1 == 1) then bound_takes.j6 F (fun r213=>some ((r213,()),())) (fun r214=>some ((r214,()),())) (fun r215=>some ((r215,()),())) (fun r216=>some ((r216,()),())) (fun t1917=>some ((1,()),())) n.1 (n.1 == 1) n
 else bif (n.1 == 2) then bound_takes.j6 F (fun r218=>some ((r218,()),())) (fun r219=>some ((r219,()),())) (fun r220=>some ((r220,()),())) (fun r221=>some ((r221,()),())) (fun t1922=>some ((1,()),())) n.1 (n.1 == 2) n
 else bif (n.1 == 3) then bound_takes.j6 F (fun r223=>some ((r223,()),())) (fun r224=>some ((r224,()),())) (fun r225=>some ((r225,()),())) (fun r226=>some ((r226,()),())) (fun t1927=>some ((1,()),())) n.1 (n.1 == 3) n
 else bound_takes.j6 F (fun r228=>some ((r228,()),())) (fun r229=>some ((r229,()),())) (fun r230=>some ((r230,()),())) (fun r231=>some ((r231,()),())) (fun t1932=>some ((1,()),())) n.1 (n.1 == 4) n
def bound_takes.sp (F:Nat):TA bound_takes.sg.args→Option bound_takes.sg.R:=fun x=>bound_takes.sh F x.1
@[reducible] def bound_meter_keep.sg:Sig:={args:=[.io tBound_meter,.d (.g tWide),.d (.c (.int .i64))],res:=[.g tWide]}
def bound_meter_keep.sh (F:Nat) (m:tBound_meter.T) (w:tWide.T) (e:Int):Option bound_meter_keep.sg.R :=
 bif m.2 then some ((w,()),((m.1,true),()))
 else some ((w,()),((m.1,(e != 0)),()))
def bound_meter_keep.sp (F:Nat):TA bound_meter_keep.sg.args→Option bound_meter_keep.sg.R:=fun x=>bound_meter_keep.sh F x.1 x.2.1 x.2.2.1
@[reducible] def bound_meter_mul.sg:Sig:={args:=[.io tBound_meter,.d (.g tWide),.d (.g tWide)],res:=[.g tWide]}
def bound_meter_mul.sh (F:Nat) (m:tBound_meter.T) (a:tWide.T) (b:tWide.T):Option bound_meter_mul.sg.R :=
 oB (times_Mul.sh F a b) fun c_1 =>
 oB (bound_meter_keep.sh F m c_1.1.1 c_1.1.2.1) fun c_2 =>
 some ((c_2.1.1,()),(c_2.2.1,()))
def bound_meter_mul.sp (F:Nat):TA bound_meter_mul.sg.args→Option bound_meter_mul.sg.R:=fun x=>bound_meter_mul.sh F x.1 x.2.1 x.2.2.1
@[reducible] def math_bits_Len64.sg:Sig:={args:=[.d (.c (.int .u64))],res:=[.c (.int .i64)]}
def math_bits_Len64.j7 {R:Type} (F:Nat) (k0:Int→Option R) (x:Int) (n:Int):Option R :=
 bif decide (x ≥ 256) then bif idx (IntKind.u8.wrap (x.fdiv (2 ^ (min (8:Int).toNat IntKind.u64.bits)))) ((⟨#[0,1,2,2,3,3,3,3,4,4,4,4,4,4,4,4,5,5,5,5,5,5,5,5,5,5,5,5,5,5,5,5,6,6,6,6,6,6,6,6,6,6,6,6,6,6,6,6,6,6,6,6,6,6,6,6,6,6,6,6,6,6,6,6,7,7,7,7,7,7,7,7,7,7,7,7,7,7,7,7,7,7,7,7,7,7,7,7,7,7,7,7,7,7,7,7,7,7,7,7,7,7,7,7,7,7,7,7,7,7,7,7,7,7,7,7,7,7,7,7,7,7,7,7,7,7,7,7,8,8,8,8,8,8,8,8,8,8,8,8,8,8,8,8,8,8,8,8,8,8,8,8,8,8,8,8,8,8,8,8,8,8,8,8,8,8,8,8,8,8,8,8,8,8,8,8,8,8,8,8,8,8,8,8,8,8,8,8,8,8,8,8,8,8,8,8,8,8,8,8,8,8,8,8,8,8,8,8,8,8,8,8,8,8,8,8,8,8,8,8,8,8,8,8,8,8,8,8,8,8,8,8,8,8,8,8,8,8,8,8,8,8,8,8,8,8,8,8,8,8,8,8,8,8,8,8]⟩:ByteArray).size) then k0 (IntKind.i64.wrap ((IntKind.i64.wrap (n + 8)) + (IntKind.i64.wrap (bt (⟨#[0,1,2,2,3,3,3,3,4,4,4,4,4,4,4,4,5,5,5,5,5,5,5,5,5,5,5,5,5,5,5,5,6,6,6,6,6,6,6,6,6,6,6,6,6,6,6,6,6,6,6,6,6,6,6,6,6,6,6,6,6,6,6,6,7,7,7,7,7,7,7,7,7,7,7,7,7,7,7,7,7,7,7,7,7,7,7,7,7,7,7,7,7,7,7,7,7,7,7,7,7,7,7,7,7,7,7,7,7,7,7,7,7,7,7,7,7,7,7,7,7,7,7,7,7,7,7,7,8,8,8,8,8,8,8,8,8,8,8,8,8,8,8,8,8,8,8,8,8,8,8,8,8,8,8,8,8,8,8,8,8,8,8,8,8,8,8,8,8,8,8,8,8,8,8,8,8,8,8,8,8,8,8,8,8,8,8,8,8,8,8,8,8,8,8,8,8,8,8,8,8,8,8,8,8,8,8,8,8,8,8,8,8,8,8,8,8,8,8,8,8,8,8,8,8,8,8,8,8,8,8,8,8,8,8,8,8,8,8,8,8,8,8,8,8,8,8,8,8,8,8,8,8,8,8,8]⟩:ByteArray) (IntKind.u8.wrap (x.fdiv (2 ^ (min (8:Int).toNat IntKind.u64.bits))))))))
  else none
 else bif idx (IntKind.u8.wrap x) ((⟨#[0,1,2,2,3,3,3,3,4,4,4,4,4,4,4,4,5,5,5,5,5,5,5,5,5,5,5,5,5,5,5,5,6,6,6,6,6,6,6,6,6,6,6,6,6,6,6,6,6,6,6,6,6,6,6,6,6,6,6,6,6,6,6,6,7,7,7,7,7,7,7,7,7,7,7,7,7,7,7,7,7,7,7,7,7,7,7,7,7,7,7,7,7,7,7,7,7,7,7,7,7,7,7,7,7,7,7,7,7,7,7,7,7,7,7,7,7,7,7,7,7,7,7,7,7,7,7,7,8,8,8,8,8,8,8,8,8,8,8,8,8,8,8,8,8,8,8,8,8,8,8,8,8,8,8,8,8,8,8,8,8,8,8,8,8,8,8,8,8,8,8,8,8,8,8,8,8,8,8,8,8,8,8,8,8,8,8,8,8,8,8,8,8,8,8,8,8,8,8,8,8,8,8,8,8,8,8,8,8,8,8,8,8,8,8,8,8,8,8,8,8,8,8,8,8,8,8,8,8,8,8,8,8,8,8,8,8,8,8,8,8,8,8,8,8,8,8,8,8,8,8,8,8,8,8,8]⟩:ByteArray).size) then k0 (IntKind.i64.wrap (n + (IntKind.i64.wrap (bt (⟨#[0,1,2,2,3,3,3,3,4,4,4,4,4,4,4,4,5,5,5,5,5,5,5,5,5,5,5,5,5,5,5,5,6,6,6,6,6,6,6,6,6,6,6,6,6,6,6,6,6,6,6,6,6,6,6,6,6,6,6,6,6,6,6,6,7,7,7,7,7,7,7,7,7,7,7,7,7,7,7,7,7,7,7,7,7,7,7,7,7,7,7,7,7,7,7,7,7,7,7,7,7,7,7,7,7,7,7,7,7,7,7,7,7,7,7,7,7,7,7,7,7,7,7,7,7,7,7,7,8,8,8,8,8,8,8,8,8,8,8,8,8,8,8,8,8,8,8,8,8,8,8,8,8,8,8,8,8,8,8,8,8,8,8,8,8,8,8,8,8,8,8,8,8,8,8,8,8,8,8,8,8,8,8,8,8,8,8,8,8,8,8,8,8,8,8,8,8,8,8,8,8,8,8,8,8,8,8,8,8,8,8,8,8,8,8,8,8,8,8,8,8,8,8,8,8,8,8,8,8,8,8,8,8,8,8,8,8,8,8,8,8,8,8,8,8,8,8,8,8,8,8,8,8,8,8,8]⟩:ByteArray) (IntKind.u8.wrap x)))))
 else none
def math_bits_Len64.j4 {R:Type} (F:Nat) (k0:Int→Option R) (x:Int) (n:Int):Option R :=
 bif decide (x ≥ 65536) then math_bits_Len64.j7 F (fun n1=>k0 n1) (x.fdiv (2 ^ (min (16:Int).toNat IntKind.u64.bits))) (IntKind.i64.wrap (n + 16))
 else math_bits_Len64.j7 F (fun n2=>k0 n2) x n
def math_bits_Len64.sh (F:Nat) (x:Int):Option math_bits_Len64.sg.R :=
 bif decide (x ≥ 4294967296) then math_bits_Len64.j4 F (fun n3=>some ((n3,()),())) (x.fdiv (2 ^ (min (32:Int).toNat IntKind.u64.bits))) 32
 else math_bits_Len64.j4 F (fun n4=>some ((n4,()),())) x 0
def math_bits_Len64.sp (F:Nat):TA math_bits_Len64.sg.args→Option math_bits_Len64.sg.R:=fun x=>math_bits_Len64.sh F x.1
@[reducible] def math_bits_LeadingZeros64.sg:Sig:={args:=[.d (.c (.int .u64))],res:=[.c (.int .i64)]}
def math_bits_LeadingZeros64.sh (F:Nat) (x:Int):Option math_bits_LeadingZeros64.sg.R :=
 oB (math_bits_Len64.sh F x) fun c_1 =>
 some ((IntKind.i64.wrap (64 - c_1.1.1),()),())
def math_bits_LeadingZeros64.sp (F:Nat):TA math_bits_LeadingZeros64.sg.args→Option math_bits_LeadingZeros64.sg.R:=fun x=>math_bits_LeadingZeros64.sh F x.1
@[reducible] def math_bits_Div64.sg:Sig:={args:=[.d (.c (.int .u64)),.d (.c (.int .u64)),.d (.c (.int .u64))],res:=[.c (.int .u64),.c (.int .u64)]}
def math_bits_Div64.l17.body {R:Type} (F:Nat) (k0:Int→Int→Int→Int→Int→Int→Int→Int→Int→Bool→Option R) (k1:Int→Int→Int→Int→Int→Int→Int→Int→Int→Bool→Option R) (rec:Int→Int→Int→Int→Int→Int→Int→Int→Int→Option R) (y:Int) (s:Int) (yn1:Int) (yn0:Int) (un32:Int) (un1:Int) (un0:Int) (q1:Int) (rhat:Int):Option R :=
 bif decide (q1 ≥ 4294967296) then bif decide ((IntKind.u64.wrap (rhat + yn1)) ≥ 4294967296) then k0 y s yn1 yn0 un32 un1 un0 (IntKind.u64.wrap (q1 - 1)) (IntKind.u64.wrap (rhat + yn1)) (decide ((IntKind.u64.wrap (rhat + yn1)) ≥ 4294967296))
  else rec y s yn1 yn0 un32 un1 un0 (IntKind.u64.wrap (q1 - 1)) (IntKind.u64.wrap (rhat + yn1))
 else bif decide ((IntKind.u64.wrap (q1 * yn0)) > (IntKind.u64.wrap ((IntKind.u64.wrap (4294967296 * rhat)) + un1))) then bif decide ((IntKind.u64.wrap (rhat + yn1)) ≥ 4294967296) then k0 y s yn1 yn0 un32 un1 un0 (IntKind.u64.wrap (q1 - 1)) (IntKind.u64.wrap (rhat + yn1)) (decide ((IntKind.u64.wrap (rhat + yn1)) ≥ 4294967296))
  else rec y s yn1 yn0 un32 un1 un0 (IntKind.u64.wrap (q1 - 1)) (IntKind.u64.wrap (rhat + yn1))
 else k1 y s yn1 yn0 un32 un1 un0 q1 rhat (decide ((IntKind.u64.wrap (q1 * yn0)) > (IntKind.u64.wrap ((IntKind.u64.wrap (4294967296 * rhat)) + un1))))
def math_bits_Div64.l17 {R:Type} (F:Nat) (k0:Int→Int→Int→Int→Int→Int→Int→Int→Int→Bool→Option R) (k1:Int→Int→Int→Int→Int→Int→Int→Int→Int→Bool→Option R):Nat→Int→Int→Int→Int→Int→Int→Int→Int→Int→Option R
 | 0,_,_,_,_,_,_,_,_,_=>none
 | fu + 1,y,s,yn1,yn0,un32,un1,un0,q1,rhat=>math_bits_Div64.l17.body F k0 k1 (math_bits_Div64.l17 F k0 k1 fu) y s yn1 yn0 un32 un1 un0 q1 rhat
def math_bits_Div64.l24.body {R:Type} (F:Nat) (k0:Int→Int→Int→Int→Int→Int→Int→Int→Int→Bool→Option R) (k1:Int→Int→Int→Int→Int→Int→Int→Int→Int→Bool→Option R) (rec:Int→Int→Int→Int→Int→Int→Int→Int→Int→Option R) (y:Int) (s:Int) (yn1:Int) (yn0:Int) (un0:Int) (q1:Int) (rhat:Int) (un21:Int) (q0:Int):Option R :=
 bif decide (q0 ≥ 4294967296) then bif decide ((IntKind.u64.wrap (rhat + yn1)) ≥ 4294967296) then k0 y s yn1 yn0 un0 q1 (IntKind.u64.wrap (rhat + yn1)) un21 (IntKind.u64.wrap (q0 - 1)) (decide ((IntKind.u64.wrap (rhat + yn1)) ≥ 4294967296))
  else rec y s yn1 yn0 un0 q1 (IntKind.u64.wrap (rhat + yn1)) un21 (IntKind.u64.wrap (q0 - 1))
 else bif decide ((IntKind.u64.wrap (q0 * yn0)) > (IntKind.u64.wrap ((IntKind.u64.wrap (4294967296 * rhat)) + un0))) then bif decide ((IntKind.u64.wrap (rhat + yn1)) ≥ 4294967296) then k0 y s yn1 yn0 un0 q1 (IntKind.u64.wrap (rhat + yn1)) un21 (IntKind.u64.wrap (q0 - 1)) (decide ((IntKind.u64.wrap (rhat + yn1)) ≥ 4294967296))
  else rec y s yn1 yn0 un0 q1 (IntKind.u64.wrap (rhat + yn1)) un21 (IntKind.u64.wrap (q0 - 1))
 else k1 y s yn1 yn0 un0 q1 rhat un21 q0 (decide ((IntKind.u64.wrap (q0 * yn0)) > (IntKind.u64.wrap ((IntKind.u64.wrap (4294967296 * rhat)) + un0))))
def math_bits_Div64.l24 {R:Type} (F:Nat) (k0:Int→Int→Int→Int→Int→Int→Int→Int→Int→Bool→Option R) (k1:Int→Int→Int→Int→Int→Int→Int→Int→Int→Bool→Option R):Nat→Int→Int→Int→Int→Int→Int→Int→Int→Int→Option R
 | 0,_,_,_,_,_,_,_,_,_=>none
 | fu + 1,y,s,yn1,yn0,un0,q1,rhat,un21,q0=>math_bits_Div64.l24.body F k0 k1 (math_bits_Div64.l24 F k0 k1 fu) y s yn1 yn0 un0 q1 rhat un21 q0
def math_bits_Div64.j28 {R:Type} (F:Nat) (k0:Int→Int→Option R) (y:Int) (s:Int) (un0:Int) (q1:Int) (un21:Int) (q0:Int):Option R :=
 bif decide (0 ≤ s) then k0 (IntKind.u64.wrap ((IntKind.u64.wrap (q1 * 4294967296)) + q0)) ((IntKind.u64.wrap ((IntKind.u64.wrap ((IntKind.u64.wrap (un21 * 4294967296)) + un0)) - (IntKind.u64.wrap (q0 * y)))).fdiv (2 ^ (min s.toNat IntKind.u64.bits)))
 else none
def math_bits_Div64.j21 {R:Type} (F:Nat) (k0:Int→Int→Option R) (y:Int) (s:Int) (yn1:Int) (yn0:Int) (un32:Int) (un1:Int) (un0:Int) (q1:Int):Option R :=
 bif (yn1 != 0) then math_bits_Div64.l24 F (fun y3 s3 yn13 yn03 un03 q13 rhat3 un213 q03 t1203=>math_bits_Div64.j28 F (fun quo4 rem4=>k0 quo4 rem4) y3 s3 un03 q13 un213 q03) (fun y5 s5 yn15 yn05 un05 q15 rhat5 un215 q05 t1135=>math_bits_Div64.j28 F (fun quo6 rem6=>k0 quo6 rem6) y5 s5 un05 q15 un215 q05) F y s yn1 yn0 un0 q1 (IntKind.u64.wrap ((IntKind.u64.wrap ((IntKind.u64.wrap ((IntKind.u64.wrap (un32 * 4294967296)) + un1)) - (IntKind.u64.wrap (q1 * y)))) - (IntKind.u64.wrap ((IntKind.u64.wrap ((IntKind.u64.wrap ((IntKind.u64.wrap ((IntKind.u64.wrap (un32 * 4294967296)) + un1)) - (IntKind.u64.wrap (q1 * y)))).tdiv yn1)) * yn1)))) (IntKind.u64.wrap ((IntKind.u64.wrap ((IntKind.u64.wrap (un32 * 4294967296)) + un1)) - (IntKind.u64.wrap (q1 * y)))) (IntKind.u64.wrap ((IntKind.u64.wrap ((IntKind.u64.wrap ((IntKind.u64.wrap (un32 * 4294967296)) + un1)) - (IntKind.u64.wrap (q1 * y)))).tdiv yn1))
 else none
def math_bits_Div64.sh (F:Nat) (hi:Int) (lo:Int) (y:Int):Option math_bits_Div64.sg.R :=
 bif (y == 0) then none
 else bif decide (y ≤ hi) then none
 else bif (hi == 0) then bif (y != 0) then bif (y != 0) then some ((IntKind.u64.wrap (lo.tdiv y),lo.tmod y,()),())
   else none
  else none
 else oB (math_bits_LeadingZeros64.sh F y) fun c_1 =>
 bif decide (0 ≤ (IntKind.u64.wrap c_1.1.1)) then bif decide (0 ≤ (IntKind.u64.wrap c_1.1.1)) then bif decide (0 ≤ (IntKind.u64.wrap (64 - (IntKind.u64.wrap c_1.1.1)))) then bif decide (0 ≤ (IntKind.u64.wrap c_1.1.1)) then bif (((IntKind.u64.wrap (y * 2 ^ (min (IntKind.u64.wrap c_1.1.1).toNat IntKind.u64.bits))).fdiv (2 ^ (min (32:Int).toNat IntKind.u64.bits))) != 0) then math_bits_Div64.l17 F (fun y2 s2 yn12 yn02 un322 un12 un02 q12 rhat2 t852=>math_bits_Div64.j21 F (fun quo7 rem7=>some ((quo7,rem7,()),())) y2 s2 yn12 yn02 un322 un12 un02 q12) (fun y8 s8 yn18 yn08 un328 un18 un08 q18 rhat8 t788=>math_bits_Div64.j21 F (fun quo9 rem9=>some ((quo9,rem9,()),())) y8 s8 yn18 yn08 un328 un18 un08 q18) F (IntKind.u64.wrap (y * 2 ^ (min (IntKind.u64.wrap c_1.1.1).toNat IntKind.u64.bits))) (IntKind.u64.wrap c_1.1.1) ((IntKind.u64.wrap (y * 2 ^ (min (IntKind.u64.wrap c_1.1.1).toNat IntKind.u64.bits))).fdiv (2 ^ (min (32:Int).toNat IntKind.u64.bits))) (IntKind.u64.wrap ((BitVec.ofInt IntKind.u64.bits (IntKind.u64.wrap (y * 2 ^ (min (IntKind.u64.wrap c_1.1.1).toNat IntKind.u64.bits))) &&& BitVec.ofInt IntKind.u64.bits 4294967295).toNat)) (IntKind.u64.wrap ((BitVec.ofInt IntKind.u64.bits (IntKind.u64.wrap (hi * 2 ^ (min (IntKind.u64.wrap c_1.1.1).toNat IntKind.u64.bits))) ||| BitVec.ofInt IntKind.u64.bits (lo.fdiv (2 ^ (min (IntKind.u64.wrap (64 - (IntKind.u64.wrap c_1.1.1))).toNat IntKind.u64.bits)))).toNat)) ((IntKind.u64.wrap (lo * 2 ^ (min (IntKind.u64.wrap c_1.1.1).toNat IntKind.u64.bits))).fdiv (2 ^ (min (32:Int).toNat IntKind.u64.bits))) (IntKind.u64.wrap ((BitVec.ofInt IntKind.u64.bits (IntKind.u64.wrap (lo * 2 ^ (min (IntKind.u64.wrap c_1.1.1).toNat IntKind.u64.bits))) &&& BitVec.ofInt IntKind.u64.bits 4294967295).toNat)) (IntKind.u64.wrap ((IntKind.u64.wrap ((BitVec.ofInt IntKind.u64.bits (IntKind.u64.wrap (hi * 2 ^ (min (IntKind.u64.wrap c_1.1.1).toNat IntKind.u64.bits))) ||| BitVec.ofInt IntKind.u64.bits (lo.fdiv (2 ^ (min (IntKind.u64.wrap (64 - (IntKind.u64.wrap c_1.1.1))).toNat IntKind.u64.bits)))).toNat)).tdiv ((IntKind.u64.wrap (y * 2 ^ (min (IntKind.u64.wrap c_1.1.1).toNat IntKind.u64.bits))).fdiv (2 ^ (min (32:Int).toNat IntKind.u64.bits))))) (IntKind.u64.wrap ((IntKind.u64.wrap ((BitVec.ofInt IntKind.u64.bits (IntKind.u64.wrap (hi * 2 ^ (min (IntKind.u64.wrap c_1.1.1).toNat IntKind.u64.bits))) ||| BitVec.ofInt IntKind.u64.bits (lo.fdiv (2 ^ (min (IntKind.u64.wrap (64 - (IntKind.u64.wrap c_1.1.1))).toNat IntKind.u64.bits)))).toNat)) - (IntKind.u64.wrap ((IntKind.u64.wrap ((IntKind.u64.wrap ((BitVec.ofInt IntKind.u64.bits (IntKind.u64.wrap (hi * 2 ^ (min (IntKind.u64.wrap c_1.1.1).toNat IntKind.u64.bits))) ||| BitVec.ofInt IntKind.u64.bits (lo.fdiv (2 ^ (min (IntKind.u64.wrap (64 - (IntKind.u64.wrap c_1.1.1))).toNat IntKind.u64.bits)))).toNat)).tdiv ((IntKind.u64.wrap (y * 2 ^ (min (IntKind.u64.wrap c_1.1.1).toNat IntKind.u64.bits))).fdiv (2 ^ (min (32:Int).toNat IntKind.u64.bits))))) * ((IntKind.u64.wrap (y * 2 ^ (min (IntKind.u64.wrap c_1.1.1).toNat IntKind.u64.bits))).fdiv (2 ^ (min (32:Int).toNat IntKind.u64.bits)))))))
     else none
    else none
   else none
  else none
 else none
def math_bits_Div64.sp (F:Nat):TA math_bits_Div64.sg.args→Option math_bits_Div64.sg.R:=fun x=>math_bits_Div64.sh F x.1 x.2.1 x.2.2.1
@[reducible] def times_quoRem.sg:Sig:={args:=[.d (.c (.int .u64)),.d (.c (.int .u64)),.d (.c (.int .u64)),.d (.c (.int .u64))],res:=[.c (.int .u64),.c (.int .u64),.c (.int .u64),.c (.int .u64)]}
def times_quoRem.l7.body {R:Type} (F:Nat) (k0:Int→Int→Int→Int→Int→Int→Int→Bool→Option R) (rec:Int→Int→Int→Int→Int→Int→Int→Option R) (al:Int) (bh:Int) (bl:Int) (ql:Int) (rh:Int) (rl:Int) (i:Int):Option R :=
 bif decide (i ≥ 0) then bif decide (0 ≤ i) then bif decide ((IntKind.u64.wrap ((BitVec.ofInt IntKind.u64.bits (IntKind.u64.wrap (rh * 2 ^ (min (1:Int).toNat IntKind.u64.bits))) ||| BitVec.ofInt IntKind.u64.bits (rl.fdiv (2 ^ (min (63:Int).toNat IntKind.u64.bits)))).toNat)) > bh) then oB (math_bits_Sub64.sh F (IntKind.u64.wrap ((BitVec.ofInt IntKind.u64.bits (IntKind.u64.wrap (rl * 2 ^ (min (1:Int).toNat IntKind.u64.bits))) ||| BitVec.ofInt IntKind.u64.bits (IntKind.u64.wrap ((BitVec.ofInt IntKind.u64.bits (al.fdiv (2 ^ (min i.toNat IntKind.u64.bits))) &&& BitVec.ofInt IntKind.u64.bits 1).toNat))).toNat)) bl 0) fun c_2 =>
    oB (math_bits_Sub64.sh F (IntKind.u64.wrap ((BitVec.ofInt IntKind.u64.bits (IntKind.u64.wrap (rh * 2 ^ (min (1:Int).toNat IntKind.u64.bits))) ||| BitVec.ofInt IntKind.u64.bits (rl.fdiv (2 ^ (min (63:Int).toNat IntKind.u64.bits)))).toNat)) bh c_2.1.2.1) fun c_3 =>
    bif decide (0 ≤ i) then rec al bh bl (IntKind.u64.wrap ((BitVec.ofInt IntKind.u64.bits ql ||| BitVec.ofInt IntKind.u64.bits (IntKind.u64.wrap (1 * 2 ^ (min i.toNat IntKind.u64.bits)))).toNat)) c_3.1.1 c_2.1.1 (IntKind.i64.wrap (i - 1))
    else none
   else bif ((IntKind.u64.wrap ((BitVec.ofInt IntKind.u64.bits (IntKind.u64.wrap (rh * 2 ^ (min (1:Int).toNat IntKind.u64.bits))) ||| BitVec.ofInt IntKind.u64.bits (rl.fdiv (2 ^ (min (63:Int).toNat IntKind.u64.bits)))).toNat)) == bh) then bif decide ((IntKind.u64.wrap ((BitVec.ofInt IntKind.u64.bits (IntKind.u64.wrap (rl * 2 ^ (min (1:Int).toNat IntKind.u64.bits))) ||| BitVec.ofInt IntKind.u64.bits (IntKind.u64.wrap ((BitVec.ofInt IntKind.u64.bits (al.fdiv (2 ^ (min i.toNat IntKind.u64.bits))) &&& BitVec.ofInt IntKind.u64.bits 1).toNat))).toNat)) ≥ bl) then oB (math_bits_Sub64.sh F (IntKind.u64.wrap ((BitVec.ofInt IntKind.u64.bits (IntKind.u64.wrap (rl * 2 ^ (min (1:Int).toNat IntKind.u64.bits))) ||| BitVec.ofInt IntKind.u64.bits (IntKind.u64.wrap ((BitVec.ofInt IntKind.u64.bits (al.fdiv (2 ^ (min i.toNat IntKind.u64.bits))) &&& BitVec.ofInt IntKind.u64.bits 1).toNat))).toNat)) bl 0) fun c_4 =>
     oB (math_bits_Sub64.sh F (IntKind.u64.wrap ((BitVec.ofInt IntKind.u64.bits (IntKind.u64.wrap (rh * 2 ^ (min (1:Int).toNat IntKind.u64.bits))) ||| BitVec.ofInt IntKind.u64.bits (rl.fdiv (2 ^ (min (63:Int).toNat IntKind.u64.bits)))).toNat)) bh c_4.1.2.1) fun c_5 =>
     bif decide (0 ≤ i) then rec al bh bl (IntKind.u64.wrap ((BitVec.ofInt IntKind.u64.bits ql ||| BitVec.ofInt IntKind.u64.bits (IntKind.u64.wrap (1 * 2 ^ (min i.toNat IntKind.u64.bits)))).toNat)) c_5.1.1 c_4.1.1 (IntKind.i64.wrap (i - 1))
     else none
    else rec al bh bl ql (IntKind.u64.wrap ((BitVec.ofInt IntKind.u64.bits (IntKind.u64.wrap (rh * 2 ^ (min (1:Int).toNat IntKind.u64.bits))) ||| BitVec.ofInt IntKind.u64.bits (rl.fdiv (2 ^ (min (63:Int).toNat IntKind.u64.bits)))).toNat)) (IntKind.u64.wrap ((BitVec.ofInt IntKind.u64.bits (IntKind.u64.wrap (rl * 2 ^ (min (1:Int).toNat IntKind.u64.bits))) ||| BitVec.ofInt IntKind.u64.bits (IntKind.u64.wrap ((BitVec.ofInt IntKind.u64.bits (al.fdiv (2 ^ (min i.toNat IntKind.u64.bits))) &&& BitVec.ofInt IntKind.u64.bits 1).toNat))).toNat)) (IntKind.i64.wrap (i - 1))
   else rec al bh bl ql (IntKind.u64.wrap ((BitVec.ofInt IntKind.u64.bits (IntKind.u64.wrap (rh * 2 ^ (min (1:Int).toNat IntKind.u64.bits))) ||| BitVec.ofInt IntKind.u64.bits (rl.fdiv (2 ^ (min (63:Int).toNat IntKind.u64.bits)))).toNat)) (IntKind.u64.wrap ((BitVec.ofInt IntKind.u64.bits (IntKind.u64.wrap (rl * 2 ^ (min (1:Int).toNat IntKind.u64.bits))) ||| BitVec.ofInt IntKind.u64.bits (IntKind.u64.wrap ((BitVec.ofInt IntKind.u64.bits (al.fdiv (2 ^ (min i.toNat IntKind.u64.bits))) &&& BitVec.ofInt IntKind.u64.bits 1).toNat))).toNat)) (IntKind.i64.wrap (i - 1))
  else none
 else k0 al bh bl ql rh rl i (decide (i ≥ 0))
def times_quoRem.l7 {R:Type} (F:Nat) (k0:Int→Int→Int→Int→Int→Int→Int→Bool→Option R):Nat→Int→Int→Int→Int→Int→Int→Int→Option R
 | 0,_,_,_,_,_,_,_=>none
 | fu + 1,al,bh,bl,ql,rh,rl,i=>times_quoRem.l7.body F k0 (times_quoRem.l7 F k0 fu) al bh bl ql rh rl i
def times_quoRem.sh (F:Nat) (ah:Int) (al:Int) (bh:Int) (bl:Int):Option times_quoRem.sg.R :=
 bif (bh == 0) then bif (bl != 0) then bif (bl != 0) then oB (math_bits_Div64.sh F (ah.tmod bl) al bl) fun c_1 =>
    some ((IntKind.u64.wrap (ah.tdiv bl),c_1.1.1,0,c_1.1.2.1,()),())
   else none
  else none
 else times_quoRem.l7 F (fun al6 bh6 bl6 ql6 rh6 rl6 i6 t346=>some ((0,ql6,rh6,rl6,()),())) F al bh bl 0 0 ah 63
def times_quoRem.sp (F:Nat):TA times_quoRem.sg.args→Option times_quoRem.sg.R:=fun x=>times_quoRem.sh F x.1 x.2.1 x.2.2.1 x.2.2.2.1
@[reducible] def times_QuoRem.sg:Sig:={args:=[.d (.g tWide),.d (.g tWide)],res:=[.g tWide,.g tWide,.c (.int .i64)]}
def times_QuoRem.sh (F:Nat) (a:tWide.T) (b:tWide.T):Option times_QuoRem.sg.R :=
 bif ((b.1 == 0) && ((b.2 == 0) && true)) then some (((0,0),(0,0),20,()),())
 else oB (wide_Abs.sh F a) fun c_1 =>
 oB (wide_Abs.sh F b) fun c_2 =>
 oB (times_quoRem.sh F c_1.1.1 c_1.1.2.1 c_2.1.1 c_2.1.2.1) fun c_3 =>
 oB (wide_Join.sh F (!(decide (a.1 < 0) == decide (b.1 < 0))) c_3.1.1 c_3.1.2.1) fun c_4 =>
 bif (c_4.1.2.1 != 0) then some (((0,0),(0,0),c_4.1.2.1,()),())
 else oB (wide_Join.sh F (decide (a.1 < 0)) c_3.1.2.2.1 c_3.1.2.2.2.1) fun c_5 =>
 some ((c_4.1.1,c_5.1.1,c_5.1.2.1,()),())
def times_QuoRem.sp (F:Nat):TA times_QuoRem.sg.args→Option times_QuoRem.sg.R:=fun x=>times_QuoRem.sh F x.1 x.2.1
@[reducible] def times_away.sg:Sig:={args:=[.d (.g tWide),.d (.g tWide),.d (.g tWide),.d (.c (.int .i64))],res:=[.c .bool]}
def times_away.sh (F:Nat) (q:tWide.T) (r:tWide.T) (b:tWide.T) (mode:Int):Option times_away.sg.R :=
 bif (mode == 0) then some (((!(decide (r.1 < 0) == decide (b.1 < 0))),()),())
 else bif (mode == 1) then some ((!(!(decide (r.1 < 0) == decide (b.1 < 0))),()),())
 else bif (mode == 2) then some ((false,()),())
 else oB (wide_Abs.sh F r) fun c_1 =>
 oB (wide_Abs.sh F b) fun c_2 =>
 oB (math_bits_Sub64.sh F c_2.1.2.1 c_1.1.2.1 0) fun c_3 =>
 oB (math_bits_Sub64.sh F c_2.1.1 c_1.1.1 c_3.1.2.1) fun c_4 =>
 bif decide (c_1.1.1 > c_4.1.1) then some ((true,()),())
 else bif (c_1.1.1 == c_4.1.1) then bif decide (c_1.1.2.1 > c_3.1.1) then some ((true,()),())
  else bif (c_1.1.1 == c_4.1.1) then bif (c_1.1.2.1 == c_3.1.1) then bif (mode == 3) then some ((true,()),())
    else some ((((IntKind.u64.wrap ((BitVec.ofInt IntKind.u64.bits q.2 &&& BitVec.ofInt IntKind.u64.bits 1).toNat)) == 1),()),())
   else some ((false,()),())
  else some ((false,()),())
 else bif (c_1.1.1 == c_4.1.1) then bif (c_1.1.2.1 == c_3.1.1) then bif (mode == 3) then some ((true,()),())
   else some ((((IntKind.u64.wrap ((BitVec.ofInt IntKind.u64.bits q.2 &&& BitVec.ofInt IntKind.u64.bits 1).toNat)) == 1),()),())
  else some ((false,()),())
 else some ((false,()),())
def times_away.sp (F:Nat):TA times_away.sg.args→Option times_away.sg.R:=fun x=>times_away.sh F x.1 x.2.1 x.2.2.1 x.2.2.2.1
@[reducible] def wide_Add.sg:Sig:={args:=[.d (.g tWide),.d (.g tWide)],res:=[.g tWide,.c (.int .i64)]}
def wide_Add.sh (F:Nat) (a:tWide.T) (b:tWide.T):Option wide_Add.sg.R :=
 oB (math_bits_Add64.sh F a.2 b.2 0) fun c_1 =>
 oB (math_bits_Add64.sh F (IntKind.u64.wrap a.1) (IntKind.u64.wrap b.1) c_1.1.2.1) fun c_2 =>
 bif (decide (a.1 < 0) == decide (b.1 < 0)) then bif (!(decide ((IntKind.i64.wrap c_2.1.1) < 0) == decide (a.1 < 0))) then some (((0,0),10,()),())
  else some (((IntKind.i64.wrap c_2.1.1,c_1.1.1),0,()),())
 else some (((IntKind.i64.wrap c_2.1.1,c_1.1.1),0,()),())
def wide_Add.sp (F:Nat):TA wide_Add.sg.args→Option wide_Add.sg.R:=fun x=>wide_Add.sh F x.1 x.2.1
@[reducible] def times_Div.sg:Sig:={args:=[.d (.g tWide),.d (.g tWide),.d (.c (.int .i64))],res:=[.g tWide,.c (.int .i64)]}
def times_Div.sh (F:Nat) (a:tWide.T) (b:tWide.T) (mode:Int):Option times_Div.sg.R :=
 bif decide (mode < 0) then some (((0,0),1,()),())
 else bif decide (mode > 4) then some (((0,0),1,()),())
 else oB (times_QuoRem.sh F a b) fun c_1 =>
 bif (c_1.1.2.2.1 != 0) then some ((c_1.1.1,c_1.1.2.2.1,()),())
 else bif ((c_1.1.2.1.1 == 0) && ((c_1.1.2.1.2 == 0) && true)) then some ((c_1.1.1,c_1.1.2.2.1,()),())
 else oB (times_away.sh F c_1.1.1 c_1.1.2.1 b mode) fun c_2 =>
 bif !c_2.1.1 then some ((c_1.1.1,c_1.1.2.2.1,()),())
 else bif (!(decide (a.1 < 0) == decide (b.1 < 0))) then oB (wide_Of.sh F 1) fun c_3 =>
  oB (wide_Sub.sh F c_1.1.1 c_3.1.1) fun c_4 =>
  some ((c_4.1.1,c_4.1.2.1,()),())
 else oB (wide_Of.sh F 1) fun c_5 =>
 oB (wide_Add.sh F c_1.1.1 c_5.1.1) fun c_6 =>
 some ((c_6.1.1,c_6.1.2.1,()),())
def times_Div.sp (F:Nat):TA times_Div.sg.args→Option times_Div.sg.R:=fun x=>times_Div.sh F x.1 x.2.1 x.2.2.1
@[reducible] def bound_far.sg:Sig:={args:=[.d (.c (.int .i64))],res:=[.c (.int .i64)]}
def bound_far.sh (F:Nat) (v:Int):Option bound_far.sg.R :=
 some (((if IntKind.i64.wrap (0 - v) > v then IntKind.i64.wrap (0 - v) else v),()),())
def bound_far.sp (F:Nat):TA bound_far.sg.args→Option bound_far.sg.R:=fun x=>bound_far.sh F x.1
@[reducible] def bound_meter_add.sg:Sig:={args:=[.io tBound_meter,.d (.g tWide),.d (.g tWide)],res:=[.g tWide]}
def bound_meter_add.sh (F:Nat) (m:tBound_meter.T) (a:tWide.T) (b:tWide.T):Option bound_meter_add.sg.R :=
 oB (wide_Add.sh F a b) fun c_1 =>
 oB (bound_meter_keep.sh F m c_1.1.1 c_1.1.2.1) fun c_2 =>
 some ((c_2.1.1,()),(c_2.2.1,()))
def bound_meter_add.sp (F:Nat):TA bound_meter_add.sg.args→Option bound_meter_add.sg.R:=fun x=>bound_meter_add.sh F x.1 x.2.1 x.2.2.1
@[reducible] def bound_meter_scale.sg:Sig:={args:=[.io tBound_meter,.d (.g tWide),.d (.b tTier)],res:=[.g tWide]}
def bound_meter_scale.l3.body {R:Type} (F:Nat) (k0:(List tTier.T)→Int→(List tTier.T)→Int→Int→Bool→tBound_meter.T→tWide.T→tWide.T→tWide.T→Option R) (rec:(List tTier.T)→Int→(List tTier.T)→Int→Int→tBound_meter.T→tWide.T→tWide.T→tWide.T→Option R) (tiers:List tTier.T) (rate:Int) (t13:List tTier.T) (t14:Int) (t15:Int) (m:tBound_meter.T) (x:tWide.T) (r6:tWide.T) (ways:tWide.T):Option R :=
 bif decide (t15 < t14) then bif idx t15 t13.length then oB (bound_far.sh F (get tTier t13 t15.toNat).2) fun c_1 =>
   bif decide ((IntKind.i64.wrap (t15 + 1)) < (tiers.length:Int)) then oB (bound_far.sh F (get tTier t13 t15.toNat).2) fun c_2 =>
    oB (wide_Of.sh F c_2.1.1) fun c_3 =>
    bif idx (IntKind.i64.wrap (t15 + 1)) tiers.length then oB (wide_Of.sh F (IntKind.i64.wrap ((get tTier tiers ((IntKind.i64.wrap (t15 + 1)).toNat)).1 - (get tTier t13 t15.toNat).1))) fun c_4 =>
     oB (bound_meter_mul.sh F m c_3.1.1 c_4.1.1) fun c_5 =>
     bif (((m.1.1 == c_5.2.1.1.1) && ((m.1.2 == c_5.2.1.1.2) && true)) && true) then oB (bound_meter_add.sh F c_5.2.1 ways c_5.1.1) fun c_6 =>
      bif (((c_5.2.1.1.1 == c_6.2.1.1.1) && ((c_5.2.1.1.2 == c_6.2.1.1.2) && true)) && true) then rec tiers (if c_1.1.1 > rate then c_1.1.1 else rate) t13 t14 (IntKind.i64.wrap (t15 + 1)) c_6.2.1 x r6 c_6.1.1
      else none
     else none
    else none
   else rec tiers (if c_1.1.1 > rate then c_1.1.1 else rate) t13 t14 (IntKind.i64.wrap (t15 + 1)) m x r6 ways
  else none
 else k0 tiers rate t13 t14 t15 (decide (t15 < t14)) m x r6 ways
def bound_meter_scale.l3 {R:Type} (F:Nat) (k0:(List tTier.T)→Int→(List tTier.T)→Int→Int→Bool→tBound_meter.T→tWide.T→tWide.T→tWide.T→Option R):Nat→(List tTier.T)→Int→(List tTier.T)→Int→Int→tBound_meter.T→tWide.T→tWide.T→tWide.T→Option R
 | 0,_,_,_,_,_,_,_,_,_=>none
 | fu + 1,tiers,rate,t13,t14,t15,m,x,r6,ways=>bound_meter_scale.l3.body F k0 (bound_meter_scale.l3 F k0 fu) tiers rate t13 t14 t15 m x r6 ways
def bound_meter_scale.sh (F:Nat) (m:tBound_meter.T) (x:tWide.T) (tiers:List tTier.T):Option bound_meter_scale.sg.R :=
 bound_meter_scale.l3 F (fun tiers7 rate7 t137 t147 t157 t167 m7 x7 r67 ways7=>bif idx (IntKind.i64.wrap ((tiers7.length:Int) - 1)) tiers7.length then oB (wide_Of.sh F (get tTier tiers7 ((IntKind.i64.wrap ((tiers7.length:Int) - 1)).toNat)).1) fun c_8 =>
  oB (bound_meter_add.sh F m7 x7 c_8.1.1) fun c_9 =>
  bif (((m7.1.1 == c_9.2.1.1.1) && ((m7.1.2 == c_9.2.1.1.2) && true)) && true) then oB (wide_Of.sh F rate7) fun c_10 =>
   oB (bound_meter_mul.sh F c_9.2.1 c_10.1.1 c_9.1.1) fun c_11 =>
   bif (((c_9.2.1.1.1 == c_11.2.1.1.1) && ((c_9.2.1.1.2 == c_11.2.1.1.2) && true)) && true) then oB (bound_meter_add.sh F c_11.2.1 c_11.1.1 ways7) fun c_12 =>
    bif (((c_11.2.1.1.1 == c_12.2.1.1.1) && ((c_11.2.1.1.2 == c_12.2.1.1.2) && true)) && true) then oB (bound_meter_mul.sh F c_12.2.1 c_9.2.1.1 c_12.1.1) fun c_13 =>
     bif (((c_12.2.1.1.1 == c_13.2.1.1.1) && ((c_12.2.1.1.2 == c_13.2.1.1.2) && true)) && true) then some ((c_13.1.1,()),(c_13.2.1,()))
     else none
    else none
   else none
  else none
 else none) F tiers 0 tiers (tiers.length:Int) 0 m x (0,0) (0,0)
def bound_meter_scale.sp (F:Nat):TA bound_meter_scale.sg.args→Option bound_meter_scale.sg.R:=fun x=>bound_meter_scale.sh F x.1 x.2.1 x.2.2.1
@[reducible] def wide_Sum.sg:Sig:={args:=[.d (.b tWide)],res:=[.g tWide,.c (.int .i64)]}
def wide_Sum.l4.body {R:Type} (F:Nat) (k0:Int→Int→Int→(List tWide.T)→Int→Int→Bool→tWide.T→Option R) (rec:Int→Int→Int→(List tWide.T)→Int→Int→tWide.T→Option R) (lo:Int) (hi:Int) (top:Int) (t11:List tWide.T) (t12:Int) (t13:Int) (r2:tWide.T):Option R :=
 bif decide (t13 < t12) then bif idx t13 t11.length then oB (math_bits_Add64.sh F lo (get tWide t11 t13.toNat).2 0) fun c_1 =>
   oB (math_bits_Add64.sh F hi (IntKind.u64.wrap (get tWide t11 t13.toNat).1) c_1.1.2.1) fun c_2 =>
   rec c_1.1.1 c_2.1.1 (IntKind.i64.wrap (top + (IntKind.i64.wrap (((get tWide t11 t13.toNat).1.fdiv (2 ^ (min (63:Int).toNat IntKind.i64.bits))) + (IntKind.i64.wrap c_2.1.2.1))))) t11 t12 (IntKind.i64.wrap (t13 + 1)) r2
  else none
 else k0 lo hi top t11 t12 t13 (decide (t13 < t12)) r2
def wide_Sum.l4 {R:Type} (F:Nat) (k0:Int→Int→Int→(List tWide.T)→Int→Int→Bool→tWide.T→Option R):Nat→Int→Int→Int→(List tWide.T)→Int→Int→tWide.T→Option R
 | 0,_,_,_,_,_,_,_=>none
 | fu + 1,lo,hi,top,t11,t12,t13,r2=>wide_Sum.l4.body F k0 (wide_Sum.l4 F k0 fu) lo hi top t11 t12 t13 r2
def wide_Sum.sh (F:Nat) (list:List tWide.T):Option wide_Sum.sg.R :=
 wide_Sum.l4 F (fun lo3 hi3 top3 t113 t123 t133 t143 r23=>bif (top3 != ((IntKind.i64.wrap hi3).fdiv (2 ^ (min (63:Int).toNat IntKind.i64.bits)))) then some (((0,0),10,()),())
 else some (((IntKind.i64.wrap hi3,lo3),0,()),())) F 0 0 0 list (list.length:Int) 0 (0,0)
def wide_Sum.sp (F:Nat):TA wide_Sum.sg.args→Option wide_Sum.sg.R:=fun x=>wide_Sum.sh F x.1
@[reducible] def bound_meter_node.sg:Sig:={args:=[.io tBound_meter,.d (.g tPlan),.d (.g tNode),.d (.b tWide)],res:=[.g tWide]}
def bound_meter_node.j18 {R:Type} (F:Nat) (k0:tBound_meter.T→tWide.T→Option R) (kids:List tWide.T) (m:tBound_meter.T) (n:tNode.T) (r8:tWide.T):Option R :=
 oB (wide_Sum.sh F kids) fun c_13 =>
 oB (bound_meter_keep.sh F m c_13.1.1 c_13.1.2.1) fun c_14 =>
 bif (n.1 == 11) then oB (wide_Of.sh F n.2.1) fun c_15 =>
  oB (bound_meter_add.sh F c_14.2.1 c_14.1.1 c_15.1.1) fun c_16 =>
  k0 c_16.2.1 c_16.1.1
 else bif (n.1 == 12) then oB (wide_Of.sh F n.2.1) fun c_17 =>
  oB (bound_meter_add.sh F c_14.2.1 c_14.1.1 c_17.1.1) fun c_18 =>
  k0 c_18.2.1 c_18.1.1
 else bif (n.1 == 16) then oB (wide_Of.sh F n.2.1) fun c_19 =>
  oB (bound_meter_add.sh F c_14.2.1 c_14.1.1 c_19.1.1) fun c_20 =>
  k0 c_20.2.1 c_20.1.1
 else k0 c_14.2.1 c_14.1.1
def bound_meter_node.sh (F:Nat) (m:tBound_meter.T) (p:tPlan.T) (n:tNode.T) (kids:List tWide.T):Option bound_meter_node.sg.R :=
 bif (n.1 == 1) then oB (wide_Of.sh F n.2.1) fun c_1 =>
  some ((c_1.1.1,()),(m,()))
 else bif (n.1 == 2) then oB (wide_Of.sh F n.2.1) fun c_2 =>
  oB (bound_meter_mul.sh F m c_2.1.1 m.1) fun c_3 =>
  some ((c_3.1.1,()),(c_3.2.1,()))
 else bif (n.1 == 3) then oB (wide_Of.sh F 1099511627776) fun c_4 =>
  some ((c_4.1.1,()),(m,()))
 else bif (n.1 == 4) then oB (wide_Of.sh F 1099511627776) fun c_5 =>
  bif idx n.2.1 p.2.1.length then oB (wide_Of.sh F (get tDim p.2.1 n.2.1.toNat).2) fun c_6 =>
   oB (times_Div.sh F c_5.1.1 c_6.1.1 1) fun c_7 =>
   oB (bound_meter_keep.sh F m c_7.1.1 c_7.1.2.1) fun c_8 =>
   some ((c_8.1.1,()),(c_8.2.1,()))
  else none
 else bif (n.1 == 8) then bif idx 0 kids.length then bif idx 1 kids.length then oB (bound_meter_mul.sh F m (get tWide kids 0) (get tWide kids 1)) fun c_9 =>
    some ((c_9.1.1,()),(c_9.2.1,()))
   else none
  else none
 else bif (n.1 == 13) then bif (n.1 == 13) then bif idx 0 kids.length then oB (bound_meter_scale.sh F m (get tWide kids 0) n.2.2.2.2.1) fun c_10 =>
    some ((c_10.1.1,()),(c_10.2.1,()))
   else none
  else bif (n.1 == 15) then bif idx 0 kids.length then oB (wide_Of.sh F 10000) fun c_11 =>
    oB (bound_meter_mul.sh F m (get tWide kids 0) c_11.1.1) fun c_12 =>
    bif idx 0 kids.length then some (((get tWide kids 0),()),(c_12.2.1,()))
    else none
   else none
  else bound_meter_node.j18 F (fun m21 r821=>some ((r821,()),(m21,()))) kids m n (0,0)
 else bif (n.1 == 14) then bif idx 0 kids.length then oB (bound_meter_scale.sh F m (get tWide kids 0) n.2.2.2.2.1) fun c_22 =>
   some ((c_22.1.1,()),(c_22.2.1,()))
  else none
 else bif (n.1 == 15) then bif idx 0 kids.length then oB (wide_Of.sh F 10000) fun c_23 =>
   oB (bound_meter_mul.sh F m (get tWide kids 0) c_23.1.1) fun c_24 =>
   bif idx 0 kids.length then some (((get tWide kids 0),()),(c_24.2.1,()))
   else none
  else none
 else bound_meter_node.j18 F (fun m25 r825=>some ((r825,()),(m25,()))) kids m n (0,0)
def bound_meter_node.sp (F:Nat):TA bound_meter_node.sg.args→Option bound_meter_node.sg.R:=fun x=>bound_meter_node.sh F x.1 x.2.1 x.2.2.1 x.2.2.2.1
@[reducible] def wide_Cmp.sg:Sig:={args:=[.d (.g tWide),.d (.g tWide)],res:=[.c (.int .i64)]}
def wide_Cmp.sh (F:Nat) (a:tWide.T) (b:tWide.T):Option wide_Cmp.sg.R :=
 bif ((a.1 == b.1) && ((a.2 == b.2) && true)) then some ((0,()),())
 else bif decide (a.1 < b.1) then bif decide (a.1 < b.1) then some (((-1),()),())
  else some ((1,()),())
 else bif (a.1 == b.1) then bif decide (a.2 < b.2) then some (((-1),()),())
  else some ((1,()),())
 else some ((1,()),())
def wide_Cmp.sp (F:Nat):TA wide_Cmp.sg.args→Option wide_Cmp.sg.R:=fun x=>wide_Cmp.sh F x.1 x.2.1
@[reducible] def bound_above.sg:Sig:={args:=[.d (.g tNode),.d (.g tWide)],res:=[.c .bool]}
def bound_above.sh (F:Nat) (n:tNode.T) (mag:tWide.T):Option bound_above.sg.R :=
 bif (n.1 == 15) then oB (wide_Of.sh F 10000) fun c_1 =>
  oB (times_Mul.sh F mag c_1.1.1) fun c_2 =>
  oB (wide_Cmp.sh F c_2.1.1 (72057594037927936,0)) fun c_3 =>
  some ((decide (c_3.1.1 > 0),()),())
 else oB (wide_Cmp.sh F mag (72057594037927936,0)) fun c_4 =>
 some ((decide (c_4.1.1 > 0),()),())
def bound_above.sp (F:Nat):TA bound_above.sg.args→Option bound_above.sg.R:=fun x=>bound_above.sh F x.1 x.2.1
@[reducible] def bound_measured.sg:Sig:={args:=[.d (.g tPlan),.d (.g tWide)],res:=[.c (.sl tWide),.c (.int .i64)]}
def bound_measured.l4.body {R:Type} (F:Nat) (k0:(List tWide.T)→Int→Option R) (k1:(List tNode.T)→Int→Int→Bool→tPlan.T→tBound_meter.T→(List tWide.T)→(List tWide.T)→Option R) (rec:(List tNode.T)→Int→Int→tPlan.T→tBound_meter.T→(List tWide.T)→(List tWide.T)→Option R) (t17:List tNode.T) (t18:Int) (t19:Int) (p:tPlan.T) (m:tBound_meter.T) (mags:List tWide.T) (pile:List tWide.T):Option R :=
 bif decide (t19 < t18) then bif idx t19 t17.length then oB (bound_takes.sh F (get tNode t17 t19.toNat)) fun c_1 =>
   bif (bounds pile.length (some (IntKind.i64.wrap ((pile.length:Int) - c_1.1.1))) none).1 then oB (bound_meter_node.sh F m p (get tNode t17 t19.toNat) ((List.take (bounds pile.length (some (IntKind.i64.wrap ((pile.length:Int) - c_1.1.1))) none).2.2 pile).drop (bounds pile.length (some (IntKind.i64.wrap ((pile.length:Int) - c_1.1.1))) none).2.1)) fun c_2 =>
    bif c_2.2.1.2 then k0 ([]) t19
    else oB (bound_above.sh F (get tNode t17 t19.toNat) c_2.1.1) fun c_3 =>
    bif c_3.1.1 then k0 ([]) t19
    else bif Nat.ble (mags.length + ([c_2.1.1]:List tWide.T).length) maxN then bif (bounds pile.length none (some (IntKind.i64.wrap ((pile.length:Int) - c_1.1.1)))).1 then bif Nat.ble ((bounds pile.length none (some (IntKind.i64.wrap ((pile.length:Int) - c_1.1.1)))).2.2 + ([c_2.1.1]:List tWide.T).length) maxN then rec t17 t18 (IntKind.i64.wrap (t19 + 1)) p c_2.2.1 (mags ++ ([c_2.1.1]:List tWide.T)) (pile.take (bounds pile.length none (some (IntKind.i64.wrap ((pile.length:Int) - c_1.1.1)))).2.2 ++ ([c_2.1.1]:List tWide.T))
      else none
     else none
    else none
   else none
  else none
 else k1 t17 t18 t19 (decide (t19 < t18)) p m mags pile
def bound_measured.l4 {R:Type} (F:Nat) (k0:(List tWide.T)→Int→Option R) (k1:(List tNode.T)→Int→Int→Bool→tPlan.T→tBound_meter.T→(List tWide.T)→(List tWide.T)→Option R):Nat→(List tNode.T)→Int→Int→tPlan.T→tBound_meter.T→(List tWide.T)→(List tWide.T)→Option R
 | 0,_,_,_,_,_,_,_=>none
 | fu + 1,t17,t18,t19,p,m,mags,pile=>bound_measured.l4.body F k0 k1 (bound_measured.l4 F k0 k1 fu) t17 t18 t19 p m mags pile
def bound_measured.j13 {R:Type} (F:Nat) (k0:(List tWide.T)→Int→Option R) (mags:List tWide.T):Option R :=
 k0 mags (-1)
def bound_measured.sh (F:Nat) (p:tPlan.T) (unit:tWide.T):Option bound_measured.sg.R :=
 bound_measured.l4 F (fun r44 r54=>some ((r44,r54,()),())) (fun t175 t185 t195 t205 p5 m5 mags5 pile5=>bound_measured.j13 F (fun r46 r56=>some ((r46,r56,()),())) mags5) F p.2.2.2 (p.2.2.2.length:Int) 0 p (unit,false) ([]) ([])
def bound_measured.sp (F:Nat):TA bound_measured.sg.args→Option bound_measured.sg.R:=fun x=>bound_measured.sh F x.1 x.2.1
@[reducible] def bound_Unit.sg:Sig:={args:=[.d (.g tPlan)],res:=[.g tWide,.c (.int .i64),.c (.int .i64)]}
def bound_Unit.sh (F:Nat) (p:tPlan.T):Option bound_Unit.sg.R :=
 oB (units_Types.sh F p) fun c_1 =>
 bif (c_1.1.2.2.1 != 0) then some (((0,0),c_1.1.2.1,c_1.1.2.2.1,()),())
 else oB (tree_Scale.sh F p) fun c_2 =>
 bif decide (c_2.1.1 > 6) then some (((0,0),IntKind.i64.wrap ((p.2.2.2.length:Int) - 1),90,()),())
 else oB (times_Power.sh F c_2.1.1) fun c_3 =>
 oB (bound_measured.sh F p c_3.1.1) fun c_4 =>
 bif decide (c_4.1.2.1 ≥ 0) then some (((0,0),c_4.1.2.1,90,()),())
 else some ((c_3.1.1,0,c_3.1.2.1,()),())
def bound_Unit.sp (F:Nat):TA bound_Unit.sg.args→Option bound_Unit.sg.R:=fun x=>bound_Unit.sh F x.1
@[reducible] def normal_maker_leaf.sg:Sig:={args:=[.d (.g tNormal_maker)],res:=[.c (.sl tPiece)]}
def normal_maker_leaf.sh (F:Nat) (m:tNormal_maker.T):Option normal_maker_leaf.sg.R :=
 bif (m.1.1 == 1) then oB (wide_Of.sh F m.1.2.1) fun c_1 =>
  some ((([(0,c_1.1.1,(0,0),0,0)]:List tPiece.T),()),())
 else bif (m.1.1 == 2) then oB (wide_Of.sh F m.1.2.1) fun c_2 =>
  oB (times_Mul.sh F c_2.1.1 m.2.1) fun c_3 =>
  some ((([(0,c_3.1.1,(0,0),0,0)]:List tPiece.T),()),())
 else bif (m.1.1 == 3) then oB (wide_Of.sh F 1) fun c_4 =>
  some ((([(0,(0,0),c_4.1.1,0,0)]:List tPiece.T),()),())
 else bif (m.1.1 == 4) then oB (wide_Of.sh F 1) fun c_5 =>
  some ((([(0,(0,0),(0,0),c_5.1.1)]:List tPiece.T),()),())
 else some ((([(0,(0,0),(0,0),0,0)]:List tPiece.T),()),())
def normal_maker_leaf.sp (F:Nat):TA normal_maker_leaf.sg.args→Option normal_maker_leaf.sg.R:=fun x=>normal_maker_leaf.sh F x.1
@[reducible] def normal_maker_choices.sg:Sig:={args:=[.d (.g tNormal_maker)],res:=[.c (.bnd tNormal_maker),.c (.int .i64)]}
def normal_maker_choices.sh (F:Nat) (m:tNormal_maker.T):Option normal_maker_choices.sg.R :=
 bif idx m.1.1 (([Ty.dflt (.pair (.bnd tNormal_maker) (.int .i64)),Ty.dflt (.pair (.bnd tNormal_maker) (.int .i64)),Ty.dflt (.pair (.bnd tNormal_maker) (.int .i64)),Ty.dflt (.pair (.bnd tNormal_maker) (.int .i64)),Ty.dflt (.pair (.bnd tNormal_maker) (.int .i64)),((fn_normal_maker_neg,m),1),((fn_normal_maker_add,m),2),((fn_normal_maker_sub,m),2),((fn_normal_maker_mul,m),2),((fn_normal_maker_least,m),m.1.2.2.2.1),((fn_normal_maker_most,m),m.1.2.2.2.1),((fn_normal_maker_over,m),1),((fn_normal_maker_upto,m),1),((fn_normal_maker_graduated,m),1),((fn_normal_maker_volume,m),1),((fn_normal_maker_off,m),1),((fn_normal_maker_test,m),3)]:List ((Nat×tNormal_maker.T)×Int)).length) then bif idx m.1.1 (([Ty.dflt (.pair (.bnd tNormal_maker) (.int .i64)),Ty.dflt (.pair (.bnd tNormal_maker) (.int .i64)),Ty.dflt (.pair (.bnd tNormal_maker) (.int .i64)),Ty.dflt (.pair (.bnd tNormal_maker) (.int .i64)),Ty.dflt (.pair (.bnd tNormal_maker) (.int .i64)),((fn_normal_maker_neg,m),1),((fn_normal_maker_add,m),2),((fn_normal_maker_sub,m),2),((fn_normal_maker_mul,m),2),((fn_normal_maker_least,m),m.1.2.2.2.1),((fn_normal_maker_most,m),m.1.2.2.2.1),((fn_normal_maker_over,m),1),((fn_normal_maker_upto,m),1),((fn_normal_maker_graduated,m),1),((fn_normal_maker_volume,m),1),((fn_normal_maker_off,m),1),((fn_normal_maker_test,m),3)]:List ((Nat×tNormal_maker.T)×Int)).length) then some (((get (.pair (.bnd tNormal_maker) (.int .i64)) ([Ty.dflt (.pair (.bnd tNormal_maker) (.int .i64)),Ty.dflt (.pair (.bnd tNormal_maker) (.int .i64)),Ty.dflt (.pair (.bnd tNormal_maker) (.int .i64)),Ty.dflt (.pair (.bnd tNormal_maker) (.int .i64)),Ty.dflt (.pair (.bnd tNormal_maker) (.int .i64)),((fn_normal_maker_neg,m),1),((fn_normal_maker_add,m),2),((fn_normal_maker_sub,m),2),((fn_normal_maker_mul,m),2),((fn_normal_maker_least,m),m.1.2.2.2.1),((fn_normal_maker_most,m),m.1.2.2.2.1),((fn_normal_maker_over,m),1),((fn_normal_maker_upto,m),1),((fn_normal_maker_graduated,m),1),((fn_normal_maker_volume,m),1),((fn_normal_maker_off,m),1),((fn_normal_maker_test,m),3)]:List ((Nat×tNormal_maker.T)×Int)) m.1.1.toNat).1,(get (.pair (.bnd tNormal_maker) (.int .i64)) ([Ty.dflt (.pair (.bnd tNormal_maker) (.int .i64)),Ty.dflt (.pair (.bnd tNormal_maker) (.int .i64)),Ty.dflt (.pair (.bnd tNormal_maker) (.int .i64)),Ty.dflt (.pair (.bnd tNormal_maker) (.int .i64)),Ty.dflt (.pair (.bnd tNormal_maker) (.int .i64)),((fn_normal_maker_neg,m),1),((fn_normal_maker_add,m),2),((fn_normal_maker_sub,m),2),((fn_normal_maker_mul,m),2),((fn_normal_maker_least,m),m.1.2.2.2.1),((fn_normal_maker_most,m),m.1.2.2.2.1),((fn_normal_maker_over,m),1),((fn_normal_maker_upto,m),1),((fn_normal_maker_graduated,m),1),((fn_normal_maker_volume,m),1),((fn_normal_maker_off,m),1),((fn_normal_maker_test,m),3)]:List ((Nat×tNormal_maker.T)×Int)) m.1.1.toNat).2,()),())
  else none
 else none
def normal_maker_choices.sp (F:Nat):TA normal_maker_choices.sg.args→Option normal_maker_choices.sg.R:=fun x=>normal_maker_choices.sh F x.1
@[reducible] def line_each.sg:Sig:={args:=[.d (.g tWide),.d (.g tWide),.d (.g tWide),.d (.c (.int .i64)),.d (.c (.int .i64)),.d (.c (.int .i64))],res:=[.g tLine,.c (.int .i64)]}
def line_each.sh (F:Nat) (a:tWide.T) (b:tWide.T) (c:tWide.T) (e:Int) (f:Int) (g:Int):Option line_each.sg.R :=
 bif (e != 0) then some ((((0,0),(0,0),0,0),10,()),())
 else bif (f != 0) then some ((((0,0),(0,0),0,0),10,()),())
 else bif (g != 0) then some ((((0,0),(0,0),0,0),10,()),())
 else some (((a,b,c),0,()),())
def line_each.sp (F:Nat):TA line_each.sg.args→Option line_each.sg.R:=fun x=>line_each.sh F x.1 x.2.1 x.2.2.1 x.2.2.2.1 x.2.2.2.2.1 x.2.2.2.2.2.1
@[reducible] def line_Add.sg:Sig:={args:=[.d (.g tLine),.d (.g tLine)],res:=[.g tLine,.c (.int .i64)]}
def line_Add.sh (F:Nat) (l:tLine.T) (m:tLine.T):Option line_Add.sg.R :=
 oB (wide_Add.sh F l.1 m.1) fun c_1 =>
 oB (wide_Add.sh F l.2.1 m.2.1) fun c_2 =>
 oB (wide_Add.sh F l.2.2 m.2.2) fun c_3 =>
 oB (line_each.sh F c_1.1.1 c_2.1.1 c_3.1.1 c_1.1.2.1 c_2.1.2.1 c_3.1.2.1) fun c_4 =>
 some ((c_4.1.1,c_4.1.2.1,()),())
def line_Add.sp (F:Nat):TA line_Add.sg.args→Option line_Add.sg.R:=fun x=>line_Add.sh F x.1 x.2.1
@[reducible] def normal_add.sg:Sig:={args:=[.d (.g tLine),.d (.g tLine)],res:=[.g tLine]}
def normal_add.sh (F:Nat) (l:tLine.T) (m:tLine.T):Option normal_add.sg.R :=
 oB (line_Add.sh F l m) fun c_1 =>
 some ((c_1.1.1,()),())
def normal_add.sp (F:Nat):TA normal_add.sg.args→Option normal_add.sg.R:=fun x=>normal_add.sh F x.1 x.2.1
@[reducible] def normal_maker_add.sg:Sig:={args:=[.d (.g tNormal_maker),.d (.b tLine),.d (.c (.int .i64))],res:=[.g tLine,.c (.sl tLine)]}
def normal_maker_add.sh (F:Nat) (m:tNormal_maker.T) (k:List tLine.T) (t2:Int):Option normal_maker_add.sg.R :=
 bif idx 0 k.length then bif idx 1 k.length then oB (normal_add.sh F (get tLine k 0) (get tLine k 1)) fun c_1 =>
   some ((c_1.1.1,[],()),())
  else none
 else none
def normal_maker_add.sp (F:Nat):TA normal_maker_add.sg.args→Option normal_maker_add.sg.R:=fun x=>normal_maker_add.sh F x.1 x.2.1 x.2.2.1
@[reducible] def normal_constant.sg:Sig:={args:=[.d (.g tWide)],res:=[.g tLine]}
def normal_constant.sh (F:Nat) (w:tWide.T):Option normal_constant.sg.R :=
 some (((w,(0,0),0,0),()),())
def normal_constant.sp (F:Nat):TA normal_constant.sg.args→Option normal_constant.sg.R:=fun x=>normal_constant.sh F x.1
@[reducible] def line_Sub.sg:Sig:={args:=[.d (.g tLine),.d (.g tLine)],res:=[.g tLine,.c (.int .i64)]}
def line_Sub.sh (F:Nat) (l:tLine.T) (m:tLine.T):Option line_Sub.sg.R :=
 oB (wide_Sub.sh F l.1 m.1) fun c_1 =>
 oB (wide_Sub.sh F l.2.1 m.2.1) fun c_2 =>
 oB (wide_Sub.sh F l.2.2 m.2.2) fun c_3 =>
 oB (line_each.sh F c_1.1.1 c_2.1.1 c_3.1.1 c_1.1.2.1 c_2.1.2.1 c_3.1.2.1) fun c_4 =>
 some ((c_4.1.1,c_4.1.2.1,()),())
def line_Sub.sp (F:Nat):TA line_Sub.sg.args→Option line_Sub.sg.R:=fun x=>line_Sub.sh F x.1 x.2.1
@[reducible] def normal_sub.sg:Sig:={args:=[.d (.g tLine),.d (.g tLine)],res:=[.g tLine]}
def normal_sub.sh (F:Nat) (l:tLine.T) (m:tLine.T):Option normal_sub.sg.R :=
 oB (line_Sub.sh F l m) fun c_1 =>
 some ((c_1.1.1,()),())
def normal_sub.sp (F:Nat):TA normal_sub.sg.args→Option normal_sub.sg.R:=fun x=>normal_sub.sh F x.1 x.2.1
@[reducible] def normal_maker_tier_c1.sg:Sig:={args:=[.d (.c (.int .i64)),.d (.p tLine),.d (.p tNormal_maker)],res:=[.g tLine]}
def normal_maker_tier_c1.sh (F:Nat) (i:Int) (t1:tLine.T) (t2:tNormal_maker.T):Option normal_maker_tier_c1.sg.R :=
 bif idx i t2.1.2.2.2.2.1.length then oB (wide_Of.sh F (get tTier t2.1.2.2.2.2.1 i.toNat).1) fun c_1 =>
  oB (normal_constant.sh F c_1.1.1) fun c_2 =>
  oB (normal_sub.sh F t1 c_2.1.1) fun c_3 =>
  some ((c_3.1.1,()),())
 else none
def normal_maker_tier_c1.sp (F:Nat):TA normal_maker_tier_c1.sg.args→Option normal_maker_tier_c1.sg.R:=fun x=>normal_maker_tier_c1.sh F x.1 x.2.1 x.2.2.1
@[reducible] def line_fit.sg:Sig:={args:=[.d (.c (.int .i64)),.d (.c (.int .i64))],res:=[.c .bool]}
def line_fit.sh (F:Nat) (size:Int) (q:Int):Option line_fit.sg.R :=
 bif decide (size ≥ 1) then bif decide (size ≤ 1000000000000) then bif decide (q ≥ 0) then some ((decide (q ≤ 1099511627776),()),())
   else some ((false,()),())
  else some ((false,()),())
 else some ((false,()),())
def line_fit.sp (F:Nat):TA line_fit.sg.args→Option line_fit.sg.R:=fun x=>line_fit.sh F x.1 x.2.1
@[reducible] def line_blocks.sg:Sig:={args:=[.d (.c (.int .i64)),.d (.c (.int .i64))],res:=[.c (.int .i64)]}
def line_blocks.sh (F:Nat) (q:Int) (size:Int):Option line_blocks.sg.R :=
 bif (size != 0) then bif (size != 0) then some ((IntKind.i64.wrap ((IntKind.i64.wrap (q.tdiv size)) + (if 1 < q.tmod size then 1 else q.tmod size)),()),())
  else none
 else none
def line_blocks.sp (F:Nat):TA line_blocks.sg.args→Option line_blocks.sg.R:=fun x=>line_blocks.sh F x.1 x.2.1
@[reducible] def line_Value.sg:Sig:={args:=[.d (.g tLine),.d (.c (.int .i64)),.d (.c (.int .i64))],res:=[.g tWide,.c (.int .i64)]}
def line_Value.sh (F:Nat) (l:tLine.T) (size:Int) (q:Int):Option line_Value.sg.R :=
 oB (line_fit.sh F size q) fun c_1 =>
 bif !c_1.1.1 then some (((0,0),1,()),())
 else oB (wide_Of.sh F q) fun c_2 =>
 oB (times_Mul.sh F l.2.1 c_2.1.1) fun c_3 =>
 bif (c_3.1.2.1 != 0) then some (((0,0),c_3.1.2.1,()),())
 else oB (line_blocks.sh F q size) fun c_4 =>
 oB (wide_Of.sh F c_4.1.1) fun c_5 =>
 oB (times_Mul.sh F l.2.2 c_5.1.1) fun c_6 =>
 bif (c_6.1.2.1 != 0) then some (((0,0),c_6.1.2.1,()),())
 else oB (wide_Add.sh F l.1 c_3.1.1) fun c_7 =>
 bif (c_7.1.2.1 != 0) then some (((0,0),c_7.1.2.1,()),())
 else oB (wide_Add.sh F c_7.1.1 c_6.1.1) fun c_8 =>
 some ((c_8.1.1,c_8.1.2.1,()),())
def line_Value.sp (F:Nat):TA line_Value.sg.args→Option line_Value.sg.R:=fun x=>line_Value.sh F x.1 x.2.1 x.2.2.1
@[reducible] def wide_Sign.sg:Sig:={args:=[.d (.g tWide)],res:=[.c (.int .i64)]}
def wide_Sign.sh (F:Nat) (w:tWide.T):Option wide_Sign.sg.R :=
 bif decide (w.1 < 0) then some (((-1),()),())
 else bif ((w.1 == 0) && ((w.2 == 0) && true)) then some ((0,()),())
 else some ((1,()),())
def wide_Sign.sp (F:Nat):TA wide_Sign.sg.args→Option wide_Sign.sg.R:=fun x=>wide_Sign.sh F x.1
@[reducible] def normal_maker_above.sg:Sig:={args:=[.d (.g tNormal_maker),.d (.g tLine),.d (.c (.int .i64))],res:=[.c .bool]}
def normal_maker_above.sh (F:Nat) (m:tNormal_maker.T) (l:tLine.T) (q:Int):Option normal_maker_above.sg.R :=
 oB (line_Value.sh F l m.2.2 q) fun c_1 =>
 oB (wide_Sign.sh F c_1.1.1) fun c_2 =>
 some ((decide (c_2.1.1 > 0),()),())
def normal_maker_above.sp (F:Nat):TA normal_maker_above.sg.args→Option normal_maker_above.sg.R:=fun x=>normal_maker_above.sh F x.1 x.2.1 x.2.2.1
@[reducible] def normal_maker_tier.sg:Sig:={args:=[.d (.g tNormal_maker),.d (.g tLine),.d (.c (.int .i64))],res:=[.c (.int .i64),.c (.sl tLine)]}
@[reducible] def normal_maker_tier.ds22:Sig:={args:=[.d (.c (.int .i64)),.d (.p tLine),.d (.p tNormal_maker)],res:=[.g tLine]}
def normal_maker_tier.d22 (F:Nat):Nat→TA normal_maker_tier.ds22.args→Option normal_maker_tier.ds22.R:=mkT normal_maker_tier.ds22 [(fn_normal_maker_tier_c1,normal_maker_tier_c1.sp F)]
@[reducible] def normal_maker_tier.ds34:Sig:={args:=[.d (.c (.int .i64)),.d (.p tLine),.d (.p tNormal_maker)],res:=[.g tLine]}
def normal_maker_tier.d34 (F:Nat):Nat→TA normal_maker_tier.ds34.args→Option normal_maker_tier.ds34.R:=mkT normal_maker_tier.ds34 [(fn_normal_maker_tier_c1,normal_maker_tier_c1.sp F)]
@[reducible] def normal_maker_tier.ds46:Sig:={args:=[.d (.c (.int .i64)),.d (.p tLine),.d (.p tNormal_maker)],res:=[.g tLine]}
def normal_maker_tier.d46 (F:Nat):Nat→TA normal_maker_tier.ds46.args→Option normal_maker_tier.ds46.R:=mkT normal_maker_tier.ds46 [(fn_normal_maker_tier_c1,normal_maker_tier_c1.sp F)]
def normal_maker_tier.l3.body {R:Type} (F:Nat) (k0:Int→tNormal_maker.T→(Nat×tLine.T×tNormal_maker.T)→Int→Bool→Option R) (rec:Int→tNormal_maker.T→(Nat×tLine.T×tNormal_maker.T)→Int→Option R) (q:Int) (m:tNormal_maker.T) (from_:Nat×tLine.T×tNormal_maker.T) (n:Int):Option R :=
 bif decide (n < (m.1.2.2.2.2.1.length:Int)) then oB (normal_maker_tier.d22 F (from_.1 + 1) (n,from_.2.1,from_.2.2,())) fun c_1 =>
  oB (normal_maker_above.sh F m c_1.1.1 q) fun c_2 =>
  bif c_2.1.1 then rec q m from_ (IntKind.i64.wrap (n + 1))
  else k0 q m from_ n c_2.1.1
 else k0 q m from_ n false
def normal_maker_tier.l3 {R:Type} (F:Nat) (k0:Int→tNormal_maker.T→(Nat×tLine.T×tNormal_maker.T)→Int→Bool→Option R):Nat→Int→tNormal_maker.T→(Nat×tLine.T×tNormal_maker.T)→Int→Option R
 | 0,_,_,_,_=>none
 | fu + 1,q,m,from_,n=>normal_maker_tier.l3.body F k0 (normal_maker_tier.l3 F k0 fu) q m from_ n
def normal_maker_tier.j10 {R:Type} (F:Nat) (k0:Int→(List tLine.T)→Option R) (n:Int) (turn:List tLine.T):Option R :=
 k0 n turn
def normal_maker_tier.j8 {R:Type} (F:Nat) (k0:Int→(List tLine.T)→Option R) (m:tNormal_maker.T) (from_:Nat×tLine.T×tNormal_maker.T) (n:Int) (turn:List tLine.T):Option R :=
 bif decide (n < (m.1.2.2.2.2.1.length:Int)) then oB (normal_maker_tier.d46 F (from_.1 + 1) (n,from_.2.1,from_.2.2,())) fun c_5 =>
  bif Nat.ble (turn.length + ([c_5.1.1]:List tLine.T).length) maxN then normal_maker_tier.j10 F (fun r66 r76=>k0 r66 r76) n (turn ++ ([c_5.1.1]:List tLine.T))
  else none
 else normal_maker_tier.j10 F (fun r67 r77=>k0 r67 r77) n turn
def normal_maker_tier.sh (F:Nat) (m:tNormal_maker.T) (l:tLine.T) (q:Int):Option normal_maker_tier.sg.R :=
 normal_maker_tier.l3 F (fun q3 m3 from_3 n3 t253=>bif decide (n3 > 0) then oB (normal_maker_tier.d34 F (from_3.1 + 1) (IntKind.i64.wrap (n3 - 1),from_3.2.1,from_3.2.2,())) fun c_4 =>
  bif Nat.ble (0 + ([c_4.1.1]:List tLine.T).length) maxN then normal_maker_tier.j8 F (fun r68 r78=>some ((r68,r78,()),())) m3 from_3 n3 ([c_4.1.1]:List tLine.T)
  else none
 else normal_maker_tier.j8 F (fun r69 r79=>some ((r69,r79,()),())) m3 from_3 n3 ([])) F q m (cl_normal_maker_tier_c1,l,m) 0
def normal_maker_tier.sp (F:Nat):TA normal_maker_tier.sg.args→Option normal_maker_tier.sg.R:=fun x=>normal_maker_tier.sh F x.1 x.2.1 x.2.2.1
@[reducible] def line_Scale.sg:Sig:={args:=[.d (.g tLine),.d (.g tWide)],res:=[.g tLine,.c (.int .i64)]}
def line_Scale.sh (F:Nat) (l:tLine.T) (k:tWide.T):Option line_Scale.sg.R :=
 oB (times_Mul.sh F l.1 k) fun c_1 =>
 oB (times_Mul.sh F l.2.1 k) fun c_2 =>
 oB (times_Mul.sh F l.2.2 k) fun c_3 =>
 oB (line_each.sh F c_1.1.1 c_2.1.1 c_3.1.1 c_1.1.2.1 c_2.1.2.1 c_3.1.2.1) fun c_4 =>
 some ((c_4.1.1,c_4.1.2.1,()),())
def line_Scale.sp (F:Nat):TA line_Scale.sg.args→Option line_Scale.sg.R:=fun x=>line_Scale.sh F x.1 x.2.1
@[reducible] def normal_by.sg:Sig:={args:=[.d (.g tLine),.d (.g tWide)],res:=[.g tLine]}
def normal_by.sh (F:Nat) (l:tLine.T) (k:tWide.T):Option normal_by.sg.R :=
 oB (line_Scale.sh F l k) fun c_1 =>
 some ((c_1.1.1,()),())
def normal_by.sp (F:Nat):TA normal_by.sg.args→Option normal_by.sg.R:=fun x=>normal_by.sh F x.1 x.2.1
@[reducible] def normal_maker_graduated.sg:Sig:={args:=[.d (.g tNormal_maker),.d (.b tLine),.d (.c (.int .i64))],res:=[.g tLine,.c (.sl tLine)]}
def normal_maker_graduated.l7.body {R:Type} (F:Nat) (k0:(List tLine.T)→Int→(List tLine.T)→(List tTier.T)→Int→Int→Bool→tNormal_maker.T→tLine.T→tWide.T→Option R) (rec:(List tLine.T)→Int→(List tLine.T)→(List tTier.T)→Int→Int→tNormal_maker.T→tLine.T→tWide.T→Option R) (k:List tLine.T) (n:Int) (turn:List tLine.T) (t:List tTier.T) (t34:Int) (t35:Int) (m:tNormal_maker.T) (r6:tLine.T) (base:tWide.T):Option R :=
 bif decide (t35 < t34) then bif idx t35 t.length then oB (wide_Of.sh F (get tTier t t35.toNat).2) fun c_2 =>
   bif idx (IntKind.i64.wrap (t35 + 1)) t.length then bif idx t35 t.length then oB (wide_Of.sh F (IntKind.i64.wrap ((get tTier t ((IntKind.i64.wrap (t35 + 1)).toNat)).1 - (get tTier t t35.toNat).1))) fun c_3 =>
     oB (times_Mul.sh F c_2.1.1 c_3.1.1) fun c_4 =>
     oB (wide_Add.sh F base c_4.1.1) fun c_5 =>
     rec k n turn t t34 (IntKind.i64.wrap (t35 + 1)) m r6 c_5.1.1
    else none
   else none
  else none
 else k0 k n turn t t34 t35 (decide (t35 < t34)) m r6 base
def normal_maker_graduated.l7 {R:Type} (F:Nat) (k0:(List tLine.T)→Int→(List tLine.T)→(List tTier.T)→Int→Int→Bool→tNormal_maker.T→tLine.T→tWide.T→Option R):Nat→(List tLine.T)→Int→(List tLine.T)→(List tTier.T)→Int→Int→tNormal_maker.T→tLine.T→tWide.T→Option R
 | 0,_,_,_,_,_,_,_,_,_=>none
 | fu + 1,k,n,turn,t,t34,t35,m,r6,base=>normal_maker_graduated.l7.body F k0 (normal_maker_graduated.l7 F k0 fu) k n turn t t34 t35 m r6 base
def normal_maker_graduated.sh (F:Nat) (m:tNormal_maker.T) (k:List tLine.T) (q:Int):Option normal_maker_graduated.sg.R :=
 bif idx 0 k.length then oB (normal_maker_tier.sh F m (get tLine k 0) q) fun c_1 =>
  bif (c_1.1.1 == 0) then some ((((0,0),(0,0),0,0),c_1.1.2.1,()),())
  else normal_maker_graduated.l7 F (fun k6 n6 turn6 t6 t346 t356 t366 m6 r66 base6=>bif idx 0 k6.length then bif idx (IntKind.i64.wrap (n6 - 1)) t6.length then oB (wide_Of.sh F (get tTier t6 ((IntKind.i64.wrap (n6 - 1)).toNat)).1) fun c_7 =>
    oB (normal_constant.sh F c_7.1.1) fun c_8 =>
    oB (normal_sub.sh F (get tLine k6 0) c_8.1.1) fun c_9 =>
    bif idx (IntKind.i64.wrap (n6 - 1)) t6.length then oB (wide_Of.sh F (get tTier t6 ((IntKind.i64.wrap (n6 - 1)).toNat)).2) fun c_10 =>
     oB (normal_by.sh F c_9.1.1 c_10.1.1) fun c_11 =>
     oB (normal_constant.sh F base6) fun c_12 =>
     oB (normal_add.sh F c_11.1.1 c_12.1.1) fun c_13 =>
     oB (normal_by.sh F c_13.1.1 m6.2.1) fun c_14 =>
     some ((c_14.1.1,turn6,()),())
    else none
   else none
  else none) F k c_1.1.1 c_1.1.2.1 m.1.2.2.2.2.1 (IntKind.i64.wrap (c_1.1.1 - 1)) 0 m ((0,0),(0,0),0,0) (0,0)
 else none
def normal_maker_graduated.sp (F:Nat):TA normal_maker_graduated.sg.args→Option normal_maker_graduated.sg.R:=fun x=>normal_maker_graduated.sh F x.1 x.2.1 x.2.2.1
@[reducible] def normal_maker_least.sg:Sig:={args:=[.d (.g tNormal_maker),.d (.b tLine),.d (.c (.int .i64))],res:=[.g tLine,.c (.sl tLine)]}
def normal_maker_least.sh (F:Nat) (m:tNormal_maker.T) (k:List tLine.T) (q:Int):Option normal_maker_least.sg.R :=
 bif idx 0 k.length then bif idx 1 k.length then oB (normal_sub.sh F (get tLine k 0) (get tLine k 1)) fun c_1 =>
   oB (normal_maker_above.sh F m c_1.1.1 q) fun c_2 =>
   bif c_2.1.1 then bif idx 1 k.length then some (((get tLine k 1),([c_1.1.1]:List tLine.T),()),())
    else none
   else bif idx 0 k.length then some (((get tLine k 0),([c_1.1.1]:List tLine.T),()),())
   else none
  else none
 else none
def normal_maker_least.sp (F:Nat):TA normal_maker_least.sg.args→Option normal_maker_least.sg.R:=fun x=>normal_maker_least.sh F x.1 x.2.1 x.2.2.1
@[reducible] def normal_maker_most.sg:Sig:={args:=[.d (.g tNormal_maker),.d (.b tLine),.d (.c (.int .i64))],res:=[.g tLine,.c (.sl tLine)]}
def normal_maker_most.sh (F:Nat) (m:tNormal_maker.T) (k:List tLine.T) (q:Int):Option normal_maker_most.sg.R :=
 bif idx 1 k.length then bif idx 0 k.length then oB (normal_sub.sh F (get tLine k 1) (get tLine k 0)) fun c_1 =>
   oB (normal_maker_above.sh F m c_1.1.1 q) fun c_2 =>
   bif c_2.1.1 then bif idx 1 k.length then some (((get tLine k 1),([c_1.1.1]:List tLine.T),()),())
    else none
   else bif idx 0 k.length then some (((get tLine k 0),([c_1.1.1]:List tLine.T),()),())
   else none
  else none
 else none
def normal_maker_most.sp (F:Nat):TA normal_maker_most.sg.args→Option normal_maker_most.sg.R:=fun x=>normal_maker_most.sh F x.1 x.2.1 x.2.2.1
@[reducible] def normal_maker_mul.sg:Sig:={args:=[.d (.g tNormal_maker),.d (.b tLine),.d (.c (.int .i64))],res:=[.g tLine,.c (.sl tLine)]}
def normal_maker_mul.sh (F:Nat) (m:tNormal_maker.T) (k:List tLine.T) (t2:Int):Option normal_maker_mul.sg.R :=
 bif idx 0 k.length then bif idx 0 k.length then oB (normal_constant.sh F (get tLine k 0).1) fun c_1 =>
   bif (((get tLine k 0).1.1 == c_1.1.1.1.1) && (((get tLine k 0).1.2 == c_1.1.1.1.2) && (((get tLine k 0).2.1.1 == c_1.1.1.2.1.1) && (((get tLine k 0).2.1.2 == c_1.1.1.2.1.2) && (((get tLine k 0).2.2.1 == c_1.1.1.2.2.1) && (((get tLine k 0).2.2.2 == c_1.1.1.2.2.2) && true)))))) then bif idx 1 k.length then bif idx 0 k.length then oB (normal_by.sh F (get tLine k 1) (get tLine k 0).1) fun c_2 =>
      some ((c_2.1.1,[],()),())
     else none
    else none
   else bif idx 0 k.length then bif idx 1 k.length then oB (normal_by.sh F (get tLine k 0) (get tLine k 1).1) fun c_3 =>
     some ((c_3.1.1,[],()),())
    else none
   else none
  else none
 else none
def normal_maker_mul.sp (F:Nat):TA normal_maker_mul.sg.args→Option normal_maker_mul.sg.R:=fun x=>normal_maker_mul.sh F x.1 x.2.1 x.2.2.1
@[reducible] def normal_maker_neg.sg:Sig:={args:=[.d (.g tNormal_maker),.d (.b tLine),.d (.c (.int .i64))],res:=[.g tLine,.c (.sl tLine)]}
def normal_maker_neg.sh (F:Nat) (m:tNormal_maker.T) (k:List tLine.T) (t2:Int):Option normal_maker_neg.sg.R :=
 bif idx 0 k.length then oB (normal_sub.sh F ((0,0),(0,0),0,0) (get tLine k 0)) fun c_1 =>
  some ((c_1.1.1,[],()),())
 else none
def normal_maker_neg.sp (F:Nat):TA normal_maker_neg.sg.args→Option normal_maker_neg.sg.R:=fun x=>normal_maker_neg.sh F x.1 x.2.1 x.2.2.1
@[reducible] def normal_maker_off_c1.sg:Sig:={args:=[.d (.g tWide),.d (.p tNormal_maker)],res:=[.g tWide]}
def normal_maker_off_c1.sh (F:Nat) (w:tWide.T) (t1:tNormal_maker.T):Option normal_maker_off_c1.sg.R :=
 oB (wide_Of.sh F (IntKind.i64.wrap (10000 - t1.1.2.1))) fun c_1 =>
 oB (times_Mul.sh F w c_1.1.1) fun c_2 =>
 oB (wide_Of.sh F 10000) fun c_3 =>
 oB (times_Div.sh F c_2.1.1 c_3.1.1 2) fun c_4 =>
 some ((c_4.1.1,()),())
def normal_maker_off_c1.sp (F:Nat):TA normal_maker_off_c1.sg.args→Option normal_maker_off_c1.sg.R:=fun x=>normal_maker_off_c1.sh F x.1 x.2.1
@[reducible] def normal_maker_off.sg:Sig:={args:=[.d (.g tNormal_maker),.d (.b tLine),.d (.c (.int .i64))],res:=[.g tLine,.c (.sl tLine)]}
@[reducible] def normal_maker_off.ds15:Sig:={args:=[.d (.g tWide),.d (.p tNormal_maker)],res:=[.g tWide]}
def normal_maker_off.d15 (F:Nat):Nat→TA normal_maker_off.ds15.args→Option normal_maker_off.ds15.R:=mkT normal_maker_off.ds15 [(fn_normal_maker_off_c1,normal_maker_off_c1.sp F)]
@[reducible] def normal_maker_off.ds21:Sig:={args:=[.d (.g tWide),.d (.p tNormal_maker)],res:=[.g tWide]}
def normal_maker_off.d21 (F:Nat):Nat→TA normal_maker_off.ds21.args→Option normal_maker_off.ds21.R:=mkT normal_maker_off.ds21 [(fn_normal_maker_off_c1,normal_maker_off_c1.sp F)]
@[reducible] def normal_maker_off.ds27:Sig:={args:=[.d (.g tWide),.d (.p tNormal_maker)],res:=[.g tWide]}
def normal_maker_off.d27 (F:Nat):Nat→TA normal_maker_off.ds27.args→Option normal_maker_off.ds27.R:=mkT normal_maker_off.ds27 [(fn_normal_maker_off_c1,normal_maker_off_c1.sp F)]
def normal_maker_off.sh (F:Nat) (m:tNormal_maker.T) (k:List tLine.T) (t2:Int):Option normal_maker_off.sg.R :=
 bif idx 0 k.length then oB (normal_maker_off.d15 F (cl_normal_maker_off_c1 + 1) ((get tLine k 0).1,m,())) fun c_1 =>
  bif idx 0 k.length then oB (normal_maker_off.d21 F (cl_normal_maker_off_c1 + 1) ((get tLine k 0).2.1,m,())) fun c_2 =>
   bif idx 0 k.length then oB (normal_maker_off.d27 F (cl_normal_maker_off_c1 + 1) ((get tLine k 0).2.2,m,())) fun c_3 =>
    some (((c_1.1.1,c_2.1.1,c_3.1.1),[],()),())
   else none
  else none
 else none
def normal_maker_off.sp (F:Nat):TA normal_maker_off.sg.args→Option normal_maker_off.sg.R:=fun x=>normal_maker_off.sh F x.1 x.2.1 x.2.2.1
@[reducible] def normal_maker_less.sg:Sig:={args:=[.d (.g tNormal_maker),.d (.g tLine),.d (.c (.int .i64))],res:=[.g tLine]}
def normal_maker_less.sh (F:Nat) (m:tNormal_maker.T) (l:tLine.T) (more:Int):Option normal_maker_less.sg.R :=
 oB (wide_Of.sh F (IntKind.i64.wrap (m.1.2.1 - more))) fun c_1 =>
 oB (normal_constant.sh F c_1.1.1) fun c_2 =>
 oB (normal_sub.sh F l c_2.1.1) fun c_3 =>
 some ((c_3.1.1,()),())
def normal_maker_less.sp (F:Nat):TA normal_maker_less.sg.args→Option normal_maker_less.sg.R:=fun x=>normal_maker_less.sh F x.1 x.2.1 x.2.2.1
@[reducible] def normal_maker_over.sg:Sig:={args:=[.d (.g tNormal_maker),.d (.b tLine),.d (.c (.int .i64))],res:=[.g tLine,.c (.sl tLine)]}
def normal_maker_over.sh (F:Nat) (m:tNormal_maker.T) (k:List tLine.T) (q:Int):Option normal_maker_over.sg.R :=
 bif idx 0 k.length then oB (normal_maker_less.sh F m (get tLine k 0) 0) fun c_1 =>
  oB (normal_maker_above.sh F m c_1.1.1 q) fun c_2 =>
  bif c_2.1.1 then some ((c_1.1.1,([c_1.1.1]:List tLine.T),()),())
  else some ((((0,0),(0,0),0,0),([c_1.1.1]:List tLine.T),()),())
 else none
def normal_maker_over.sp (F:Nat):TA normal_maker_over.sg.args→Option normal_maker_over.sg.R:=fun x=>normal_maker_over.sh F x.1 x.2.1 x.2.2.1
@[reducible] def normal_maker_sub.sg:Sig:={args:=[.d (.g tNormal_maker),.d (.b tLine),.d (.c (.int .i64))],res:=[.g tLine,.c (.sl tLine)]}
def normal_maker_sub.sh (F:Nat) (m:tNormal_maker.T) (k:List tLine.T) (t2:Int):Option normal_maker_sub.sg.R :=
 bif idx 0 k.length then bif idx 1 k.length then oB (normal_sub.sh F (get tLine k 0) (get tLine k 1)) fun c_1 =>
   some ((c_1.1.1,[],()),())
  else none
 else none
def normal_maker_sub.sp (F:Nat):TA normal_maker_sub.sg.args→Option normal_maker_sub.sg.R:=fun x=>normal_maker_sub.sh F x.1 x.2.1 x.2.2.1
@[reducible] def normal_maker_test.sg:Sig:={args:=[.d (.g tNormal_maker),.d (.b tLine),.d (.c (.int .i64))],res:=[.g tLine,.c (.sl tLine)]}
def normal_maker_test.sh (F:Nat) (m:tNormal_maker.T) (k:List tLine.T) (q:Int):Option normal_maker_test.sg.R :=
 bif idx 0 k.length then oB (normal_maker_less.sh F m (get tLine k 0) 0) fun c_1 =>
  bif idx 0 k.length then oB (normal_maker_less.sh F m (get tLine k 0) 1) fun c_2 =>
   oB (normal_maker_above.sh F m c_1.1.1 q) fun c_3 =>
   oB (normal_maker_above.sh F m c_2.1.1 q) fun c_4 =>
   bif c_4.1.1 then bif !c_4.1.1 then bif idx m.1.2.2.1 (([false,!c_4.1.1,!c_3.1.1,c_3.1.1,c_4.1.1,!c_3.1.1,true]:List Bool).length) then bif get .bool ([false,!c_4.1.1,!c_3.1.1,c_3.1.1,c_4.1.1,!c_3.1.1,true]:List Bool) m.1.2.2.1.toNat then bif idx 1 k.length then some (((get tLine k 1),([c_1.1.1,c_2.1.1]:List tLine.T),()),())
       else none
      else bif idx 2 k.length then some (((get tLine k 2),([c_1.1.1,c_2.1.1]:List tLine.T),()),())
      else none
     else none
    else bif idx m.1.2.2.1 (([false,!c_4.1.1,!c_3.1.1,c_3.1.1,c_4.1.1,!c_3.1.1,c_3.1.1]:List Bool).length) then bif get .bool ([false,!c_4.1.1,!c_3.1.1,c_3.1.1,c_4.1.1,!c_3.1.1,c_3.1.1]:List Bool) m.1.2.2.1.toNat then bif idx 1 k.length then some (((get tLine k 1),([c_1.1.1,c_2.1.1]:List tLine.T),()),())
      else none
     else bif idx 2 k.length then some (((get tLine k 2),([c_1.1.1,c_2.1.1]:List tLine.T),()),())
     else none
    else none
   else bif !c_4.1.1 then bif idx m.1.2.2.1 (([false,!c_4.1.1,!c_3.1.1,c_3.1.1,c_4.1.1,false,true]:List Bool).length) then bif get .bool ([false,!c_4.1.1,!c_3.1.1,c_3.1.1,c_4.1.1,false,true]:List Bool) m.1.2.2.1.toNat then bif idx 1 k.length then some (((get tLine k 1),([c_1.1.1,c_2.1.1]:List tLine.T),()),())
      else none
     else bif idx 2 k.length then some (((get tLine k 2),([c_1.1.1,c_2.1.1]:List tLine.T),()),())
     else none
    else none
   else bif idx m.1.2.2.1 (([false,!c_4.1.1,!c_3.1.1,c_3.1.1,c_4.1.1,false,c_3.1.1]:List Bool).length) then bif get .bool ([false,!c_4.1.1,!c_3.1.1,c_3.1.1,c_4.1.1,false,c_3.1.1]:List Bool) m.1.2.2.1.toNat then bif idx 1 k.length then some (((get tLine k 1),([c_1.1.1,c_2.1.1]:List tLine.T),()),())
     else none
    else bif idx 2 k.length then some (((get tLine k 2),([c_1.1.1,c_2.1.1]:List tLine.T),()),())
    else none
   else none
  else none
 else none
def normal_maker_test.sp (F:Nat):TA normal_maker_test.sg.args→Option normal_maker_test.sg.R:=fun x=>normal_maker_test.sh F x.1 x.2.1 x.2.2.1
@[reducible] def normal_maker_upto.sg:Sig:={args:=[.d (.g tNormal_maker),.d (.b tLine),.d (.c (.int .i64))],res:=[.g tLine,.c (.sl tLine)]}
def normal_maker_upto.sh (F:Nat) (m:tNormal_maker.T) (k:List tLine.T) (q:Int):Option normal_maker_upto.sg.R :=
 bif idx 0 k.length then oB (normal_maker_less.sh F m (get tLine k 0) 0) fun c_1 =>
  oB (normal_maker_above.sh F m c_1.1.1 q) fun c_2 =>
  bif c_2.1.1 then oB (wide_Of.sh F m.1.2.1) fun c_3 =>
   oB (normal_constant.sh F c_3.1.1) fun c_4 =>
   some ((c_4.1.1,([c_1.1.1]:List tLine.T),()),())
  else bif idx 0 k.length then some (((get tLine k 0),([c_1.1.1]:List tLine.T),()),())
  else none
 else none
def normal_maker_upto.sp (F:Nat):TA normal_maker_upto.sg.args→Option normal_maker_upto.sg.R:=fun x=>normal_maker_upto.sh F x.1 x.2.1 x.2.2.1
@[reducible] def normal_maker_volume.sg:Sig:={args:=[.d (.g tNormal_maker),.d (.b tLine),.d (.c (.int .i64))],res:=[.g tLine,.c (.sl tLine)]}
def normal_maker_volume.sh (F:Nat) (m:tNormal_maker.T) (k:List tLine.T) (q:Int):Option normal_maker_volume.sg.R :=
 bif idx 0 k.length then oB (normal_maker_tier.sh F m (get tLine k 0) q) fun c_1 =>
  bif (c_1.1.1 == 0) then some ((((0,0),(0,0),0,0),c_1.1.2.1,()),())
  else bif idx 0 k.length then bif idx (IntKind.i64.wrap (c_1.1.1 - 1)) m.1.2.2.2.2.1.length then oB (wide_Of.sh F (get tTier m.1.2.2.2.2.1 ((IntKind.i64.wrap (c_1.1.1 - 1)).toNat)).2) fun c_2 =>
    oB (normal_by.sh F (get tLine k 0) c_2.1.1) fun c_3 =>
    oB (normal_by.sh F c_3.1.1 m.2.1) fun c_4 =>
    some ((c_4.1.1,c_1.1.2.1,()),())
   else none
  else none
 else none
def normal_maker_volume.sp (F:Nat):TA normal_maker_volume.sg.args→Option normal_maker_volume.sg.R:=fun x=>normal_maker_volume.sh F x.1 x.2.1 x.2.2.1
@[reducible] def line_far.sg:Sig:={args:=[.d (.g tWide)],res:=[.g tWide,.c (.int .i64)]}
def line_far.sh (F:Nat) (w:tWide.T):Option line_far.sg.R :=
 bif decide (w.1 < 0) then oB (wide_Neg.sh F w) fun c_1 =>
  some ((c_1.1.1,c_1.1.2.1,()),())
 else some ((w,0,()),())
def line_far.sp (F:Nat):TA line_far.sg.args→Option line_far.sg.R:=fun x=>line_far.sh F x.1
@[reducible] def line_Span.sg:Sig:={args:=[.d (.g tLine),.d (.c (.int .i64))],res:=[.g tWide,.c (.int .i64)]}
def line_Span.sh (F:Nat) (l:tLine.T) (size:Int):Option line_Span.sg.R :=
 oB (line_fit.sh F size 0) fun c_1 =>
 bif !c_1.1.1 then some (((0,0),1,()),())
 else oB (line_far.sh F l.1) fun c_2 =>
 oB (line_far.sh F l.2.1) fun c_3 =>
 oB (line_far.sh F l.2.2) fun c_4 =>
 bif (c_2.1.2.1 != 0) then some (((0,0),10,()),())
 else bif (c_3.1.2.1 != 0) then some (((0,0),10,()),())
 else bif (c_4.1.2.1 != 0) then some (((0,0),10,()),())
 else oB (line_Value.sh F (c_2.1.1,c_3.1.1,c_4.1.1) size 1099511627776) fun c_5 =>
 some ((c_5.1.1,c_5.1.2.1,()),())
def line_Span.sp (F:Nat):TA line_Span.sg.args→Option line_Span.sg.R:=fun x=>line_Span.sh F x.1 x.2.1
@[reducible] def line_walk_at.sg:Sig:={args:=[.d (.g (.pair tLine (.pair (.int .i64) .bool))),.d (.c (.int .i64))],res:=[.g tWide]}
def line_walk_at.sh (F:Nat) (w:tLine.T×Int×Bool) (q:Int):Option line_walk_at.sg.R :=
 oB (line_Value.sh F w.1 w.2.1 q) fun c_1 =>
 some ((c_1.1.1,()),())
def line_walk_at.sp (F:Nat):TA line_walk_at.sg.args→Option line_walk_at.sg.R:=fun x=>line_walk_at.sh F x.1 x.2.1
@[reducible] def wide_Int.sg:Sig:={args:=[.d (.g tWide)],res:=[.c (.int .i64),.c .bool]}
def wide_Int.sh (F:Nat) (w:tWide.T):Option wide_Int.sg.R :=
 bif (w.1 != ((IntKind.i64.wrap w.2).fdiv (2 ^ (min (63:Int).toNat IntKind.i64.bits)))) then some ((0,false,()),())
 else some ((IntKind.i64.wrap w.2,true,()),())
def wide_Int.sp (F:Nat):TA wide_Int.sg.args→Option wide_Int.sg.R:=fun x=>wide_Int.sh F x.1
@[reducible] def line_walk_steps.sg:Sig:={args:=[.d (.g (.pair tLine (.pair (.int .i64) .bool))),.d (.g tWide),.d (.g tWide),.d (.c (.int .i64))],res:=[.c (.int .i64),.c .bool]}
def line_walk_steps.j10 {R:Type} (F:Nat) (k0:Int→Bool→Option R) (most:Int) (n:tWide.T):Option R :=
 oB (wide_Int.sh F n) fun c_7 =>
 bif c_7.1.2.1 then k0 c_7.1.1 (decide (c_7.1.1 ≤ most))
 else k0 c_7.1.1 false
def line_walk_steps.j5 {R:Type} (F:Nat) (k0:Int→Bool→Option R) (most:Int) (w:tLine.T×Int×Bool) (v:tWide.T) (d:tWide.T):Option R :=
 oB (wide_Neg.sh F v) fun c_4 =>
 oB (times_Div.sh F c_4.1.1 d 0) fun c_5 =>
 bif w.2.2 then oB (times_Div.sh F c_4.1.1 d 1) fun c_6 =>
  line_walk_steps.j10 F (fun r88 r98=>k0 r88 r98) most c_6.1.1
 else oB (wide_Of.sh F 1) fun c_9 =>
 oB (wide_Add.sh F c_5.1.1 c_9.1.1) fun c_10 =>
 line_walk_steps.j10 F (fun r811 r911=>k0 r811 r911) most c_10.1.1
def line_walk_steps.sh (F:Nat) (w:tLine.T×Int×Bool) (v:tWide.T) (d:tWide.T) (most:Int):Option line_walk_steps.sg.R :=
 oB (wide_Sign.sh F v) fun c_1 =>
 bif (!(decide (c_1.1.1 > 0) == w.2.2)) then some ((0,true,()),())
 else bif w.2.2 then oB (wide_Sign.sh F d) fun c_2 =>
  bif decide (c_2.1.1 ≥ 0) then some ((0,false,()),())
  else bif !w.2.2 then oB (wide_Sign.sh F d) fun c_3 =>
   bif decide (c_3.1.1 ≤ 0) then some ((0,false,()),())
   else line_walk_steps.j5 F (fun r812 r912=>some ((r812,r912,()),())) most w v d
  else line_walk_steps.j5 F (fun r813 r913=>some ((r813,r913,()),())) most w v d
 else bif !w.2.2 then oB (wide_Sign.sh F d) fun c_14 =>
  bif decide (c_14.1.1 ≤ 0) then some ((0,false,()),())
  else line_walk_steps.j5 F (fun r815 r915=>some ((r815,r915,()),())) most w v d
 else line_walk_steps.j5 F (fun r816 r916=>some ((r816,r916,()),())) most w v d
def line_walk_steps.sp (F:Nat):TA line_walk_steps.sg.args→Option line_walk_steps.sg.R:=fun x=>line_walk_steps.sh F x.1 x.2.1 x.2.2.1 x.2.2.2.1
@[reducible] def line_walk_within.sg:Sig:={args:=[.d (.g (.pair tLine (.pair (.int .i64) .bool))),.d (.c (.int .i64)),.d (.c (.int .i64))],res:=[.c (.int .i64),.c .bool]}
def line_walk_within.sh (F:Nat) (w:tLine.T×Int×Bool) (lo:Int) (hi:Int):Option line_walk_within.sg.R :=
 bif decide (lo > hi) then some ((0,false,()),())
 else oB (line_walk_at.sh F w lo) fun c_1 =>
 oB (line_walk_steps.sh F w c_1.1.1 w.1.2.1 (IntKind.i64.wrap (hi - lo))) fun c_2 =>
 some ((IntKind.i64.wrap (lo + c_2.1.1),c_2.1.2.1,()),())
def line_walk_within.sp (F:Nat):TA line_walk_within.sg.args→Option line_walk_within.sg.R:=fun x=>line_walk_within.sh F x.1 x.2.1 x.2.2.1
@[reducible] def line_walk_block.sg:Sig:={args:=[.d (.g (.pair tLine (.pair (.int .i64) .bool))),.d (.c (.int .i64))],res:=[.c (.int .i64),.c (.int .i64)]}
def line_walk_block.sh (F:Nat) (w:tLine.T×Int×Bool) (k:Int):Option line_walk_block.sg.R :=
 some ((IntKind.i64.wrap ((IntKind.i64.wrap ((IntKind.i64.wrap (k - 1)) * w.2.1)) + 1),(if 1099511627776 < IntKind.i64.wrap (k * w.2.1) then 1099511627776 else IntKind.i64.wrap (k * w.2.1)),()),())
def line_walk_block.sp (F:Nat):TA line_walk_block.sg.args→Option line_walk_block.sg.R:=fun x=>line_walk_block.sh F x.1 x.2.1
@[reducible] def line_walk_ahead.sg:Sig:={args:=[.d (.g (.pair tLine (.pair (.int .i64) .bool))),.d (.c (.int .i64)),.d (.c (.int .i64))],res:=[.c (.int .i64),.c .bool]}
def line_walk_ahead.sh (F:Nat) (w:tLine.T×Int×Bool) (k:Int) (most:Int):Option line_walk_ahead.sg.R :=
 bif decide (k > most) then some ((0,false,()),())
 else oB (wide_Of.sh F w.2.1) fun c_1 =>
 oB (times_Mul.sh F w.1.2.1 c_1.1.1) fun c_2 =>
 oB (wide_Add.sh F c_2.1.1 w.1.2.2) fun c_3 =>
 oB (line_walk_block.sh F w k) fun c_4 =>
 oB (line_walk_at.sh F w c_4.1.1) fun c_5 =>
 oB (line_walk_steps.sh F w c_5.1.1 c_3.1.1 (IntKind.i64.wrap (most - k))) fun c_6 =>
 oB (line_walk_at.sh F w c_4.1.2.1) fun c_7 =>
 oB (line_walk_steps.sh F w c_7.1.1 c_3.1.1 (IntKind.i64.wrap (most - k))) fun c_8 =>
 bif c_6.1.2.1 then bif c_8.1.2.1 then some ((IntKind.i64.wrap (k + (if c_8.1.1 < c_6.1.1 then c_8.1.1 else c_6.1.1)),true,()),())
  else bif c_6.1.2.1 then some ((IntKind.i64.wrap (k + c_6.1.1),true,()),())
  else some ((IntKind.i64.wrap (k + c_8.1.1),c_8.1.2.1,()),())
 else bif c_6.1.2.1 then some ((IntKind.i64.wrap (k + c_6.1.1),true,()),())
 else some ((IntKind.i64.wrap (k + c_8.1.1),c_8.1.2.1,()),())
def line_walk_ahead.sp (F:Nat):TA line_walk_ahead.sg.args→Option line_walk_ahead.sg.R:=fun x=>line_walk_ahead.sh F x.1 x.2.1 x.2.2.1
@[reducible] def line_Flip.sg:Sig:={args:=[.d (.g tLine),.d (.c (.int .i64)),.d (.c (.int .i64))],res:=[.c (.int .i64),.c (.int .i64)]}
def line_Flip.j15 {R:Type} (F:Nat) (k0:Int→Int→Option R) (k1:Int→Int→Option R) (k2:Int→Int→Option R) (last:Int) (j:Int) (w:tLine.T×Int×Bool):Option R :=
 bif decide (j > last) then k0 1099511627777 0
 else oB (line_walk_block.sh F w j) fun c_10 =>
 oB (line_walk_within.sh F w c_10.1.1 c_10.1.2.1) fun c_11 =>
 bif c_11.1.2.1 then k1 c_11.1.1 0
 else k2 1099511627777 0
def line_Flip.sh (F:Nat) (l:tLine.T) (size:Int) (q:Int):Option line_Flip.sg.R :=
 oB (line_fit.sh F size q) fun c_1 =>
 bif !c_1.1.1 then some ((0,1,()),())
 else oB (line_Span.sh F l size) fun c_2 =>
 bif (c_2.1.2.1 != 0) then some ((0,10,()),())
 else oB (wide_Cmp.sh F c_2.1.1 (4611686018427387904,0)) fun c_3 =>
 bif decide (c_3.1.1 > 0) then some ((0,10,()),())
 else oB (line_walk_at.sh F (l,size,false) q) fun c_4 =>
 oB (wide_Sign.sh F c_4.1.1) fun c_5 =>
 oB (line_blocks.sh F q size) fun c_6 =>
 oB (line_blocks.sh F 1099511627776 size) fun c_7 =>
 oB (line_walk_within.sh F (l,size,decide (c_5.1.1 > 0)) (IntKind.i64.wrap (q + 1)) (if 1099511627776 < IntKind.i64.wrap (c_6.1.1 * size) then 1099511627776 else IntKind.i64.wrap (c_6.1.1 * size))) fun c_8 =>
 bif c_8.1.2.1 then some ((c_8.1.1,0,()),())
 else oB (line_walk_ahead.sh F (l,size,decide (c_5.1.1 > 0)) (IntKind.i64.wrap (c_6.1.1 + 1)) (IntKind.i64.wrap (c_7.1.1 - 1))) fun c_9 =>
 bif !c_9.1.2.1 then line_Flip.j15 F (fun r612 r712=>some ((r612,r712,()),())) (fun r613 r713=>some ((r613,r713,()),())) (fun r614 r714=>some ((r614,r714,()),())) c_7.1.1 (if IntKind.i64.wrap (c_6.1.1 + 1) > c_7.1.1 then IntKind.i64.wrap (c_6.1.1 + 1) else c_7.1.1) (l,size,decide (c_5.1.1 > 0))
 else line_Flip.j15 F (fun r615 r715=>some ((r615,r715,()),())) (fun r616 r716=>some ((r616,r716,()),())) (fun r617 r717=>some ((r617,r717,()),())) c_7.1.1 c_9.1.1 (l,size,decide (c_5.1.1 > 0))
def line_Flip.sp (F:Nat):TA line_Flip.sg.args→Option line_Flip.sg.R:=fun x=>line_Flip.sh F x.1 x.2.1 x.2.2.1
@[reducible] def normal_maker_made.sg:Sig:={args:=[.d (.g tNormal_maker),.d (.c (.bnd tNormal_maker)),.d (.b (.sl tPiece))],res:=[.c (.sl tPiece),.c .bool]}
@[reducible] def normal_maker_made.ds99:Sig:={args:=[.d (.g tNormal_maker),.d (.b tLine),.d (.c (.int .i64))],res:=[.g tLine,.c (.sl tLine)]}
def normal_maker_made.d99 (F:Nat):Nat→TA normal_maker_made.ds99.args→Option normal_maker_made.ds99.R:=mkT normal_maker_made.ds99 [(fn_normal_maker_add,normal_maker_add.sp F),(fn_normal_maker_graduated,normal_maker_graduated.sp F),(fn_normal_maker_least,normal_maker_least.sp F),(fn_normal_maker_most,normal_maker_most.sp F),(fn_normal_maker_mul,normal_maker_mul.sp F),(fn_normal_maker_neg,normal_maker_neg.sp F),(fn_normal_maker_off,normal_maker_off.sp F),(fn_normal_maker_over,normal_maker_over.sp F),(fn_normal_maker_sub,normal_maker_sub.sp F),(fn_normal_maker_test,normal_maker_test.sp F),(fn_normal_maker_upto,normal_maker_upto.sp F),(fn_normal_maker_volume,normal_maker_volume.sp F)]
def normal_maker_made.l11.body {R:Type} (F:Nat) (k0:(Nat×tNormal_maker.T)→(List (List tPiece.T))→Int→Int→Int→Int→(List tPiece.T)→(List (List tPiece.T))→Int→Int→Bool→tNormal_maker.T→(List tPiece.T)→(List Int)→(List tLine.T)→Option R) (rec:(Nat×tNormal_maker.T)→(List (List tPiece.T))→Int→Int→Int→Int→(List tPiece.T)→(List (List tPiece.T))→Int→Int→tNormal_maker.T→(List tPiece.T)→(List Int)→(List tLine.T)→Option R) (of:Nat×tNormal_maker.T) (kids:List (List tPiece.T)) (runs:Int) (q:Int) (next:Int) (i:Int) (k:List tPiece.T) (t30:List (List tPiece.T)) (t31:Int) (t32:Int) (m:tNormal_maker.T) (out:List tPiece.T) (at_:List Int) (lines:List tLine.T):Option R :=
 bif idx i at_.length then bif decide ((IntKind.i64.wrap ((get (.int .i64) at_ i.toNat) + 1)) < (k.length:Int)) then bif idx i at_.length then bif idx (IntKind.i64.wrap ((get (.int .i64) at_ i.toNat) + 1)) k.length then bif decide ((get tPiece k ((IntKind.i64.wrap ((get (.int .i64) at_ i.toNat) + 1)).toNat)).1 ≤ q) then bif idx i at_.length then bif idx i at_.length then rec of kids runs q next i k t30 t31 t32 m out (at_.set i.toNat (IntKind.i64.wrap ((get (.int .i64) at_ i.toNat) + 1))) lines
       else none
      else none
     else k0 of kids runs q next i k t30 t31 t32 (decide ((get tPiece k ((IntKind.i64.wrap ((get (.int .i64) at_ i.toNat) + 1)).toNat)).1 ≤ q)) m out at_ lines
    else none
   else none
  else k0 of kids runs q next i k t30 t31 t32 false m out at_ lines
 else none
def normal_maker_made.l11 {R:Type} (F:Nat) (k0:(Nat×tNormal_maker.T)→(List (List tPiece.T))→Int→Int→Int→Int→(List tPiece.T)→(List (List tPiece.T))→Int→Int→Bool→tNormal_maker.T→(List tPiece.T)→(List Int)→(List tLine.T)→Option R):Nat→(Nat×tNormal_maker.T)→(List (List tPiece.T))→Int→Int→Int→Int→(List tPiece.T)→(List (List tPiece.T))→Int→Int→tNormal_maker.T→(List tPiece.T)→(List Int)→(List tLine.T)→Option R
 | 0,_,_,_,_,_,_,_,_,_,_,_,_,_,_=>none
 | fu + 1,of,kids,runs,q,next,i,k,t30,t31,t32,m,out,at_,lines=>normal_maker_made.l11.body F k0 (normal_maker_made.l11 F k0 fu) of kids runs q next i k t30 t31 t32 m out at_ lines
def normal_maker_made.l9.body {R:Type} (F:Nat) (k0:(Nat×tNormal_maker.T)→(List (List tPiece.T))→Int→Int→Int→(List (List tPiece.T))→Int→Int→Bool→tNormal_maker.T→(List tPiece.T)→(List Int)→(List tLine.T)→Option R) (rec:(Nat×tNormal_maker.T)→(List (List tPiece.T))→Int→Int→Int→(List (List tPiece.T))→Int→Int→tNormal_maker.T→(List tPiece.T)→(List Int)→(List tLine.T)→Option R) (of:Nat×tNormal_maker.T) (kids:List (List tPiece.T)) (runs:Int) (q:Int) (next:Int) (t30:List (List tPiece.T)) (t31:Int) (t32:Int) (m:tNormal_maker.T) (out:List tPiece.T) (at_:List Int) (lines:List tLine.T):Option R :=
 bif decide (t32 < t31) then bif idx t32 t30.length then normal_maker_made.l11 F (fun of1 kids1 runs1 q1 next1 i1 k1 t301 t311 t321 t571 m1 out1 at_1 lines1=>bif idx i1 at_1.length then bif decide ((IntKind.i64.wrap ((get (.int .i64) at_1 i1.toNat) + 1)) < (k1.length:Int)) then bif idx i1 at_1.length then bif idx (IntKind.i64.wrap ((get (.int .i64) at_1 i1.toNat) + 1)) k1.length then bif idx i1 at_1.length then bif idx (get (.int .i64) at_1 i1.toNat) k1.length then bif idx i1 lines1.length then rec of1 kids1 runs1 q1 (if (get tPiece k1 ((IntKind.i64.wrap ((get (.int .i64) at_1 i1.toNat) + 1)).toNat)).1 < next1 then (get tPiece k1 ((IntKind.i64.wrap ((get (.int .i64) at_1 i1.toNat) + 1)).toNat)).1 else next1) t301 t311 (IntKind.i64.wrap (t321 + 1)) m1 out1 at_1 (lines1.set i1.toNat (get tPiece k1 ((get (.int .i64) at_1 i1.toNat).toNat)).2)
         else none
        else none
       else none
      else none
     else none
    else bif idx i1 at_1.length then bif idx (get (.int .i64) at_1 i1.toNat) k1.length then bif idx i1 lines1.length then rec of1 kids1 runs1 q1 next1 t301 t311 (IntKind.i64.wrap (t321 + 1)) m1 out1 at_1 (lines1.set i1.toNat (get tPiece k1 ((get (.int .i64) at_1 i1.toNat).toNat)).2)
      else none
     else none
    else none
   else none) F of kids runs q next t32 (get (.sl tPiece) t30 t32.toNat) t30 t31 t32 m out at_ lines
  else none
 else k0 of kids runs q next t30 t31 t32 (decide (t32 < t31)) m out at_ lines
def normal_maker_made.l9 {R:Type} (F:Nat) (k0:(Nat×tNormal_maker.T)→(List (List tPiece.T))→Int→Int→Int→(List (List tPiece.T))→Int→Int→Bool→tNormal_maker.T→(List tPiece.T)→(List Int)→(List tLine.T)→Option R):Nat→(Nat×tNormal_maker.T)→(List (List tPiece.T))→Int→Int→Int→(List (List tPiece.T))→Int→Int→tNormal_maker.T→(List tPiece.T)→(List Int)→(List tLine.T)→Option R
 | 0,_,_,_,_,_,_,_,_,_,_,_,_=>none
 | fu + 1,of,kids,runs,q,next,t30,t31,t32,m,out,at_,lines=>normal_maker_made.l9.body F k0 (normal_maker_made.l9 F k0 fu) of kids runs q next t30 t31 t32 m out at_ lines
def normal_maker_made.l19.body {R:Type} (F:Nat) (k0:(Nat×tNormal_maker.T)→(List (List tPiece.T))→Int→Int→Int→(List tLine.T)→Int→Int→Bool→tNormal_maker.T→tLine.T→(List tPiece.T)→(List Int)→(List tLine.T)→Option R) (rec:(Nat×tNormal_maker.T)→(List (List tPiece.T))→Int→Int→Int→(List tLine.T)→Int→Int→tNormal_maker.T→tLine.T→(List tPiece.T)→(List Int)→(List tLine.T)→Option R) (of:Nat×tNormal_maker.T) (kids:List (List tPiece.T)) (runs:Int) (q:Int) (next:Int) (t102:List tLine.T) (t103:Int) (t104:Int) (m:tNormal_maker.T) (l:tLine.T) (out:List tPiece.T) (at_:List Int) (lines:List tLine.T):Option R :=
 bif decide (t104 < t103) then bif idx t104 t102.length then oB (line_Flip.sh F (get tLine t102 t104.toNat) m.2.2 q) fun c_4 =>
   rec of kids runs q (if c_4.1.1 < next then c_4.1.1 else next) t102 t103 (IntKind.i64.wrap (t104 + 1)) m l out at_ lines
  else none
 else k0 of kids runs q next t102 t103 t104 (decide (t104 < t103)) m l out at_ lines
def normal_maker_made.l19 {R:Type} (F:Nat) (k0:(Nat×tNormal_maker.T)→(List (List tPiece.T))→Int→Int→Int→(List tLine.T)→Int→Int→Bool→tNormal_maker.T→tLine.T→(List tPiece.T)→(List Int)→(List tLine.T)→Option R):Nat→(Nat×tNormal_maker.T)→(List (List tPiece.T))→Int→Int→Int→(List tLine.T)→Int→Int→tNormal_maker.T→tLine.T→(List tPiece.T)→(List Int)→(List tLine.T)→Option R
 | 0,_,_,_,_,_,_,_,_,_,_,_,_,_=>none
 | fu + 1,of,kids,runs,q,next,t102,t103,t104,m,l,out,at_,lines=>normal_maker_made.l19.body F k0 (normal_maker_made.l19 F k0 fu) of kids runs q next t102 t103 t104 m l out at_ lines
def normal_maker_made.l6.body {R:Type} (F:Nat) (k0:(List tPiece.T)→Bool→Option R) (k1:(Nat×tNormal_maker.T)→(List (List tPiece.T))→Int→Int→Bool→tNormal_maker.T→(List tPiece.T)→(List Int)→(List tLine.T)→Option R) (rec:(Nat×tNormal_maker.T)→(List (List tPiece.T))→Int→Int→tNormal_maker.T→(List tPiece.T)→(List Int)→(List tLine.T)→Option R) (of:Nat×tNormal_maker.T) (kids:List (List tPiece.T)) (runs:Int) (q:Int) (m:tNormal_maker.T) (out:List tPiece.T) (at_:List Int) (lines:List tLine.T):Option R :=
 bif decide (q ≤ 1099511627776) then normal_maker_made.l9 F (fun of2 kids2 runs2 q2 next2 t302 t312 t322 t332 m2 out2 at_2 lines2=>oB (normal_maker_made.d99 F of2.1 (of2.2,lines2,q2,())) fun c_3 =>
  normal_maker_made.l19 F (fun of5 kids5 runs5 q5 next5 t1025 t1035 t1045 t1055 m5 l5 out5 at_5 lines5=>bif ((out5.length:Int) == 0) then bif Nat.ble (out5.length + ([(q5,l5)]:List tPiece.T).length) maxN then bif decide ((IntKind.i64.wrap (runs5 + 1)) > 4096) then k0 ([]) false
    else bif decide (((out5 ++ ([(q5,l5)]:List tPiece.T)).length:Int) > 256) then k0 ([]) false
    else rec of5 kids5 (IntKind.i64.wrap (runs5 + 1)) next5 m5 (out5 ++ ([(q5,l5)]:List tPiece.T)) at_5 lines5
   else none
  else bif idx (IntKind.i64.wrap ((out5.length:Int) - 1)) out5.length then bif !(((get tPiece out5 ((IntKind.i64.wrap ((out5.length:Int) - 1)).toNat)).2.1.1 == l5.1.1) && (((get tPiece out5 ((IntKind.i64.wrap ((out5.length:Int) - 1)).toNat)).2.1.2 == l5.1.2) && (((get tPiece out5 ((IntKind.i64.wrap ((out5.length:Int) - 1)).toNat)).2.2.1.1 == l5.2.1.1) && (((get tPiece out5 ((IntKind.i64.wrap ((out5.length:Int) - 1)).toNat)).2.2.1.2 == l5.2.1.2) && (((get tPiece out5 ((IntKind.i64.wrap ((out5.length:Int) - 1)).toNat)).2.2.2.1 == l5.2.2.1) && (((get tPiece out5 ((IntKind.i64.wrap ((out5.length:Int) - 1)).toNat)).2.2.2.2 == l5.2.2.2) && true)))))) then bif Nat.ble (out5.length + ([(q5,l5)]:List tPiece.T).length) maxN then bif decide ((IntKind.i64.wrap (runs5 + 1)) > 4096) then k0 ([]) false
     else bif decide (((out5 ++ ([(q5,l5)]:List tPiece.T)).length:Int) > 256) then k0 ([]) false
     else rec of5 kids5 (IntKind.i64.wrap (runs5 + 1)) next5 m5 (out5 ++ ([(q5,l5)]:List tPiece.T)) at_5 lines5
    else none
   else bif decide ((IntKind.i64.wrap (runs5 + 1)) > 4096) then k0 ([]) false
   else bif decide ((out5.length:Int) > 256) then k0 ([]) false
   else rec of5 kids5 (IntKind.i64.wrap (runs5 + 1)) next5 m5 out5 at_5 lines5
  else none) F of2 kids2 runs2 q2 next2 c_3.1.2.1 (c_3.1.2.1.length:Int) 0 m2 c_3.1.1 out2 at_2 lines2) F of kids runs q 1099511627777 kids (kids.length:Int) 0 m out at_ lines
 else k1 of kids runs q (decide (q ≤ 1099511627776)) m out at_ lines
def normal_maker_made.l6 {R:Type} (F:Nat) (k0:(List tPiece.T)→Bool→Option R) (k1:(Nat×tNormal_maker.T)→(List (List tPiece.T))→Int→Int→Bool→tNormal_maker.T→(List tPiece.T)→(List Int)→(List tLine.T)→Option R):Nat→(Nat×tNormal_maker.T)→(List (List tPiece.T))→Int→Int→tNormal_maker.T→(List tPiece.T)→(List Int)→(List tLine.T)→Option R
 | 0,_,_,_,_,_,_,_,_=>none
 | fu + 1,of,kids,runs,q,m,out,at_,lines=>normal_maker_made.l6.body F k0 k1 (normal_maker_made.l6 F k0 k1 fu) of kids runs q m out at_ lines
def normal_maker_made.j30 {R:Type} (F:Nat) (k0:(List tPiece.T)→Bool→Option R) (out:List tPiece.T):Option R :=
 k0 out true
def normal_maker_made.sh (F:Nat) (m:tNormal_maker.T) (of_:Nat×tNormal_maker.T) (kids:List (List tPiece.T)):Option normal_maker_made.sg.R :=
 bif (decide (0 ≤ (kids.length:Int)) && decide ((kids.length:Int) ≤ (kids.length:Int)) && decide ((kids.length:Int) ≤ (maxN:Int))) then bif (decide (0 ≤ (kids.length:Int)) && decide ((kids.length:Int) ≤ (kids.length:Int)) && decide ((kids.length:Int) ≤ (maxN:Int))) then normal_maker_made.l6 F (fun r66 r76=>some ((r66,r76,()),())) (fun of7 kids7 runs7 q7 t297 m7 out7 at_7 lines7=>normal_maker_made.j30 F (fun r68 r78=>some ((r68,r78,()),())) out7) F of_ kids 0 0 m ([]) (zeroL (.int .i64) ((kids.length:Int).toNat)) (zeroL tLine ((kids.length:Int).toNat))
  else none
 else none
def normal_maker_made.sp (F:Nat):TA normal_maker_made.sg.args→Option normal_maker_made.sg.R:=fun x=>normal_maker_made.sh F x.1 x.2.1 x.2.2.1
@[reducible] def normal_maker_all.sg:Sig:={args:=[.d (.g tNormal_maker),.d (.c (.bnd tNormal_maker)),.d (.b (.sl tPiece))],res:=[.c (.sl tPiece),.c .bool]}
def normal_maker_all.l5.body {R:Type} (F:Nat) (k0:(List tPiece.T)→Bool→Option R) (k1:(Nat×tNormal_maker.T)→(List tPiece.T)→(List (List tPiece.T))→Int→Int→Bool→tNormal_maker.T→Option R) (rec:(Nat×tNormal_maker.T)→(List tPiece.T)→(List (List tPiece.T))→Int→Int→tNormal_maker.T→Option R) (of:Nat×tNormal_maker.T) (made:List tPiece.T) (t32:List (List tPiece.T)) (t33:Int) (t34:Int) (m:tNormal_maker.T):Option R :=
 bif decide (t34 < t33) then bif idx t34 t32.length then oB (normal_maker_made.sh F m of ([made,get (.sl tPiece) t32 t34.toNat]:List (List tPiece.T))) fun c_2 =>
   bif !c_2.1.2.1 then k0 ([]) false
   else rec of c_2.1.1 t32 t33 (IntKind.i64.wrap (t34 + 1)) m
  else none
 else k1 of made t32 t33 t34 (decide (t34 < t33)) m
def normal_maker_all.l5 {R:Type} (F:Nat) (k0:(List tPiece.T)→Bool→Option R) (k1:(Nat×tNormal_maker.T)→(List tPiece.T)→(List (List tPiece.T))→Int→Int→Bool→tNormal_maker.T→Option R):Nat→(Nat×tNormal_maker.T)→(List tPiece.T)→(List (List tPiece.T))→Int→Int→tNormal_maker.T→Option R
 | 0,_,_,_,_,_,_=>none
 | fu + 1,of,made,t32,t33,t34,m=>normal_maker_all.l5.body F k0 k1 (normal_maker_all.l5 F k0 k1 fu) of made t32 t33 t34 m
def normal_maker_all.j3 {R:Type} (F:Nat) (k0:(List tPiece.T)→Bool→Option R) (k1:(List tPiece.T)→Bool→Option R) (of:Nat×tNormal_maker.T) (kids:List (List tPiece.T)) (m:tNormal_maker.T):Option R :=
 bif idx 0 kids.length then bif (bounds kids.length (some 1) none).1 then normal_maker_all.l5 F (fun r63 r73=>k0 r63 r73) (fun of4 made4 t324 t334 t344 t354 m4=>k1 made4 true) F of (get (.sl tPiece) kids 0) ((kids.take (bounds kids.length (some 1) none).2.2).drop (bounds kids.length (some 1) none).2.1) (((kids.take (bounds kids.length (some 1) none).2.2).drop (bounds kids.length (some 1) none).2.1).length:Int) 0 m
  else none
 else none
def normal_maker_all.sh (F:Nat) (m:tNormal_maker.T) (of_:Nat×tNormal_maker.T) (kids:List (List tPiece.T)):Option normal_maker_all.sg.R :=
 bif (m.1.1 != 9) then bif (m.1.1 != 10) then oB (normal_maker_made.sh F m of_ kids) fun c_1 =>
   some ((c_1.1.1,c_1.1.2.1,()),())
  else normal_maker_all.j3 F (fun r65 r75=>some ((r65,r75,()),())) (fun r66 r76=>some ((r66,r76,()),())) of_ kids m
 else normal_maker_all.j3 F (fun r67 r77=>some ((r67,r77,()),())) (fun r68 r78=>some ((r68,r78,()),())) of_ kids m
def normal_maker_all.sp (F:Nat):TA normal_maker_all.sg.args→Option normal_maker_all.sg.R:=fun x=>normal_maker_all.sh F x.1 x.2.1 x.2.2.1
@[reducible] def normal_Table.sg:Sig:={args:=[.d (.g tPlan)],res:=[.g tTable,.c (.int .i64),.c (.int .i64)]}
def normal_Table.l9.body {R:Type} (F:Nat) (k0:Int→Int→tTable.T→Option R) (k1:Int→(List tNode.T)→Int→Int→Bool→tPlan.T→tTable.T→tWide.T→(List (List tPiece.T))→Option R) (rec:Int→(List tNode.T)→Int→Int→tPlan.T→tTable.T→tWide.T→(List (List tPiece.T))→Option R) (scale:Int) (t41:List tNode.T) (t42:Int) (t43:Int) (p:tPlan.T) (r2:tTable.T) (unit:tWide.T) (pile:List (List tPiece.T)):Option R :=
 bif decide (t43 < t42) then bif idx t43 t41.length then bif idx 0 p.2.1.length then bif decide ((get tNode t41 t43.toNat).1 ≤ 4) then oB (normal_maker_leaf.sh F ((get tNode t41 t43.toNat),unit,(get tDim p.2.1 0).2)) fun c_3 =>
     bif Nat.ble (pile.length + ([c_3.1.1]:List (List tPiece.T)).length) maxN then rec scale t41 t42 (IntKind.i64.wrap (t43 + 1)) p r2 unit (pile ++ ([c_3.1.1]:List (List tPiece.T)))
     else none
    else oB (normal_maker_choices.sh F ((get tNode t41 t43.toNat),unit,(get tDim p.2.1 0).2)) fun c_4 =>
    bif (bounds pile.length (some (IntKind.i64.wrap ((pile.length:Int) - c_4.1.2.1))) none).1 then oB (normal_maker_all.sh F ((get tNode t41 t43.toNat),unit,(get tDim p.2.1 0).2) c_4.1.1 ((List.take (bounds pile.length (some (IntKind.i64.wrap ((pile.length:Int) - c_4.1.2.1))) none).2.2 pile).drop (bounds pile.length (some (IntKind.i64.wrap ((pile.length:Int) - c_4.1.2.1))) none).2.1)) fun c_5 =>
     bif !c_5.1.2.1 then k0 t43 120 (0,0,[])
     else bif (bounds pile.length none (some (IntKind.i64.wrap ((pile.length:Int) - c_4.1.2.1)))).1 then bif Nat.ble ((bounds pile.length none (some (IntKind.i64.wrap ((pile.length:Int) - c_4.1.2.1)))).2.2 + ([c_5.1.1]:List (List tPiece.T)).length) maxN then rec scale t41 t42 (IntKind.i64.wrap (t43 + 1)) p r2 unit (pile.take (bounds pile.length none (some (IntKind.i64.wrap ((pile.length:Int) - c_4.1.2.1)))).2.2 ++ ([c_5.1.1]:List (List tPiece.T)))
      else none
     else none
    else none
   else none
  else none
 else k1 scale t41 t42 t43 (decide (t43 < t42)) p r2 unit pile
def normal_Table.l9 {R:Type} (F:Nat) (k0:Int→Int→tTable.T→Option R) (k1:Int→(List tNode.T)→Int→Int→Bool→tPlan.T→tTable.T→tWide.T→(List (List tPiece.T))→Option R):Nat→Int→(List tNode.T)→Int→Int→tPlan.T→tTable.T→tWide.T→(List (List tPiece.T))→Option R
 | 0,_,_,_,_,_,_,_,_=>none
 | fu + 1,scale,t41,t42,t43,p,r2,unit,pile=>normal_Table.l9.body F k0 k1 (normal_Table.l9 F k0 k1 fu) scale t41 t42 t43 p r2 unit pile
def normal_Table.j21 {R:Type} (F:Nat) (k0:Int→Int→tTable.T→Option R) (scale:Int) (pile:List (List tPiece.T)) (p:tPlan.T) (r2:tTable.T):Option R :=
 bif idx 0 p.2.1.length then bif idx 0 pile.length then k0 0 0 ((get tDim p.2.1 0).2,scale,get (.sl tPiece) pile 0)
  else none
 else none
def normal_Table.sh (F:Nat) (p:tPlan.T):Option normal_Table.sg.R :=
 oB (bound_Unit.sh F p) fun c_1 =>
 bif (c_1.1.2.2.1 != 0) then some (((0,0,[]),c_1.1.2.1,c_1.1.2.2.1,()),())
 else bif ((p.2.1.length:Int) != 1) then some (((0,0,[]),(-1),100,()),())
 else oB (tree_Scale.sh F p) fun c_2 =>
 normal_Table.l9 F (fun r36 r46 r26=>some ((r26,r36,r46,()),())) (fun scale7 t417 t427 t437 t447 p7 r27 unit7 pile7=>normal_Table.j21 F (fun r38 r48 r28=>some ((r28,r38,r48,()),())) scale7 pile7 p7 r27) F c_2.1.1 p.2.2.2 (p.2.2.2.length:Int) 0 p (0,0,[]) c_1.1.1 ([])
def normal_Table.sp (F:Nat):TA normal_Table.sg.args→Option normal_Table.sg.R:=fun x=>normal_Table.sh F x.1
@[reducible] def octroilaw12_small.sg:Sig:={args:=[.d (.c (.int .i64)),.d (.c (.int .i64)),.d (.c (.int .i64))],res:=[.g tLine]}
def octroilaw12_small.sh (F:Nat) (a:Int) (b:Int) (c:Int):Option octroilaw12_small.sg.R :=
 oB (wide_Of.sh F a) fun c_1 =>
 oB (wide_Of.sh F b) fun c_2 =>
 oB (wide_Of.sh F c) fun c_3 =>
 some (((c_1.1.1,c_2.1.1,c_3.1.1),()),())
def octroilaw12_small.sp (F:Nat):TA octroilaw12_small.sg.args→Option octroilaw12_small.sg.R:=fun x=>octroilaw12_small.sh F x.1 x.2.1 x.2.2.1
@[reducible] def normal_Check.sg:Sig:={args:=[.d (.g tTable)],res:=[.c .bool]}
def normal_Check.l5.body {R:Type} (F:Nat) (k0:Bool→Option R) (k1:Int→Int→Bool→tTable.T→Option R) (rec:Int→Int→tTable.T→Option R) (t45:Int) (t46:Int) (t:tTable.T):Option R :=
 bif decide (t46 < t45) then bif idx t46 t.2.2.length then bif idx (IntKind.i64.wrap (t46 + 1)) t.2.2.length then bif decide ((get tPiece t.2.2 t46.toNat).1 ≥ (get tPiece t.2.2 ((IntKind.i64.wrap (t46 + 1)).toNat)).1) then k0 false
    else bif decide ((get tPiece t.2.2 ((IntKind.i64.wrap (t46 + 1)).toNat)).1 > 1099511627776) then k0 false
    else bif (((get tPiece t.2.2 t46.toNat).2.1.1 == (get tPiece t.2.2 ((IntKind.i64.wrap (t46 + 1)).toNat)).2.1.1) && (((get tPiece t.2.2 t46.toNat).2.1.2 == (get tPiece t.2.2 ((IntKind.i64.wrap (t46 + 1)).toNat)).2.1.2) && (((get tPiece t.2.2 t46.toNat).2.2.1.1 == (get tPiece t.2.2 ((IntKind.i64.wrap (t46 + 1)).toNat)).2.2.1.1) && (((get tPiece t.2.2 t46.toNat).2.2.1.2 == (get tPiece t.2.2 ((IntKind.i64.wrap (t46 + 1)).toNat)).2.2.1.2) && (((get tPiece t.2.2 t46.toNat).2.2.2.1 == (get tPiece t.2.2 ((IntKind.i64.wrap (t46 + 1)).toNat)).2.2.2.1) && (((get tPiece t.2.2 t46.toNat).2.2.2.2 == (get tPiece t.2.2 ((IntKind.i64.wrap (t46 + 1)).toNat)).2.2.2.2) && true)))))) then k0 false
    else rec t45 (IntKind.i64.wrap (t46 + 1)) t
   else none
  else none
 else k1 t45 t46 (decide (t46 < t45)) t
def normal_Check.l5 {R:Type} (F:Nat) (k0:Bool→Option R) (k1:Int→Int→Bool→tTable.T→Option R):Nat→Int→Int→tTable.T→Option R
 | 0,_,_,_=>none
 | fu + 1,t45,t46,t=>normal_Check.l5.body F k0 k1 (normal_Check.l5 F k0 k1 fu) t45 t46 t
def normal_Check.sh (F:Nat) (t:tTable.T):Option normal_Check.sg.R :=
 bif decide (t.1 < 1) then some ((false,()),())
 else bif decide (t.1 > 1000000000000) then some ((false,()),())
 else bif decide (t.2.1 < 0) then some ((false,()),())
 else bif decide (t.2.1 > 6) then some ((false,()),())
 else bif decide ((t.2.2.length:Int) < 1) then some ((false,()),())
 else bif decide ((t.2.2.length:Int) > 256) then some ((false,()),())
 else bif idx 0 t.2.2.length then bif ((get tPiece t.2.2 0).1 != 0) then some ((false,()),())
  else normal_Check.l5 F (fun r21=>some ((r21,()),())) (fun t452 t462 t472 t2=>some ((true,()),())) F (IntKind.i64.wrap ((t.2.2.length:Int) - 1)) 0 t
 else none
def normal_Check.sp (F:Nat):TA normal_Check.sg.args→Option normal_Check.sg.R:=fun x=>normal_Check.sh F x.1
@[reducible] def normal_At_c1.sg:Sig:={args:=[.d (.g tPiece),.d (.c (.int .i64))],res:=[.c (.int .i64)]}
def normal_At_c1.sh (F:Nat) (p:tPiece.T) (q:Int):Option normal_At_c1.sg.R :=
 some (((if 1 < (if (-1) > IntKind.i64.wrap (p.1 - q) then (-1) else IntKind.i64.wrap (p.1 - q)) then 1 else (if (-1) > IntKind.i64.wrap (p.1 - q) then (-1) else IntKind.i64.wrap (p.1 - q))),()),())
def normal_At_c1.sp (F:Nat):TA normal_At_c1.sg.args→Option normal_At_c1.sg.R:=fun x=>normal_At_c1.sh F x.1 x.2.1
@[reducible] def slices_BinarySearchFunc_int64.sg:Sig:={args:=[.d (.b tPiece),.d (.c (.int .i64)),.d (.c .fn)],res:=[.c (.int .i64),.c .bool]}
@[reducible] def slices_BinarySearchFunc_int64.ds30:Sig:={args:=[.d (.g tPiece),.d (.c (.int .i64))],res:=[.c (.int .i64)]}
def slices_BinarySearchFunc_int64.d30 (F:Nat):Nat→TA slices_BinarySearchFunc_int64.ds30.args→Option slices_BinarySearchFunc_int64.ds30.R:=mkT slices_BinarySearchFunc_int64.ds30 [(fn_normal_At_c1,normal_At_c1.sp F)]
@[reducible] def slices_BinarySearchFunc_int64.ds46:Sig:={args:=[.d (.g tPiece),.d (.c (.int .i64))],res:=[.c (.int .i64)]}
def slices_BinarySearchFunc_int64.d46 (F:Nat):Nat→TA slices_BinarySearchFunc_int64.ds46.args→Option slices_BinarySearchFunc_int64.ds46.R:=mkT slices_BinarySearchFunc_int64.ds46 [(fn_normal_At_c1,normal_At_c1.sp F)]
def slices_BinarySearchFunc_int64.l3.body {R:Type} (F:Nat) (k0:(List tPiece.T)→Int→Nat→Int→Int→Int→Bool→Option R) (rec:(List tPiece.T)→Int→Nat→Int→Int→Int→Option R) (x:List tPiece.T) (target:Int) (cmp:Nat) (n:Int) (i:Int) (j:Int):Option R :=
 bif decide (i < j) then bif idx (IntKind.i64.wrap ((IntKind.u64.wrap (IntKind.i64.wrap (i + j))).fdiv (2 ^ (min (1:Int).toNat IntKind.u64.bits)))) x.length then oB (slices_BinarySearchFunc_int64.d30 F cmp ((get tPiece x ((IntKind.i64.wrap ((IntKind.u64.wrap (IntKind.i64.wrap (i + j))).fdiv (2 ^ (min (1:Int).toNat IntKind.u64.bits)))).toNat)),target,())) fun c_1 =>
   bif decide (c_1.1.1 < 0) then rec x target cmp n (IntKind.i64.wrap ((IntKind.i64.wrap ((IntKind.u64.wrap (IntKind.i64.wrap (i + j))).fdiv (2 ^ (min (1:Int).toNat IntKind.u64.bits)))) + 1)) j
   else rec x target cmp n i (IntKind.i64.wrap ((IntKind.u64.wrap (IntKind.i64.wrap (i + j))).fdiv (2 ^ (min (1:Int).toNat IntKind.u64.bits))))
  else none
 else k0 x target cmp n i j (decide (i < j))
def slices_BinarySearchFunc_int64.l3 {R:Type} (F:Nat) (k0:(List tPiece.T)→Int→Nat→Int→Int→Int→Bool→Option R):Nat→(List tPiece.T)→Int→Nat→Int→Int→Int→Option R
 | 0,_,_,_,_,_,_=>none
 | fu + 1,x,target,cmp,n,i,j=>slices_BinarySearchFunc_int64.l3.body F k0 (slices_BinarySearchFunc_int64.l3 F k0 fu) x target cmp n i j
def slices_BinarySearchFunc_int64.sh (F:Nat) (x:List tPiece.T) (target:Int) (cmp:Nat):Option slices_BinarySearchFunc_int64.sg.R :=
 slices_BinarySearchFunc_int64.l3 F (fun x2 target2 cmp2 n2 i2 j2 t172=>bif decide (i2 < n2) then bif idx i2 x2.length then oB (slices_BinarySearchFunc_int64.d46 F cmp2 ((get tPiece x2 i2.toNat),target2,())) fun c_3 =>
   some ((i2,(c_3.1.1 == 0),()),())
  else none
 else some ((i2,false,()),())) F x target cmp (x.length:Int) 0 (x.length:Int)
def slices_BinarySearchFunc_int64.sp (F:Nat):TA slices_BinarySearchFunc_int64.sg.args→Option slices_BinarySearchFunc_int64.sg.R:=fun x=>slices_BinarySearchFunc_int64.sh F x.1 x.2.1 x.2.2.1
@[reducible] def normal_At.sg:Sig:={args:=[.d (.g tTable),.d (.c (.int .i64))],res:=[.g tWide,.c (.int .i64)]}
def normal_At.j6 {R:Type} (F:Nat) (k0:Int→tWide.T→Option R) (q:Int) (i:Int) (t:tTable.T) (r4:tWide.T):Option R :=
 bif idx i t.2.2.length then oB (line_Value.sh F (get tPiece t.2.2 i.toNat).2 t.1 q) fun c_3 =>
  k0 c_3.1.2.1 c_3.1.1
 else none
def normal_At.sh (F:Nat) (t:tTable.T) (q:Int):Option normal_At.sg.R :=
 oB (normal_Check.sh F t) fun c_1 =>
 bif !c_1.1.1 then some (((0,0),1,()),())
 else bif decide (q < 0) then some (((0,0),1,()),())
 else bif decide (q > 1099511627776) then some (((0,0),1,()),())
 else oB (slices_BinarySearchFunc_int64.sh F t.2.2 q fn_normal_At_c1) fun c_2 =>
 bif !c_2.1.2.1 then normal_At.j6 F (fun r54 r44=>some ((r44,r54,()),())) q (IntKind.i64.wrap (c_2.1.1 - 1)) t (0,0)
 else normal_At.j6 F (fun r55 r45=>some ((r45,r55,()),())) q c_2.1.1 t (0,0)
def normal_At.sp (F:Nat):TA normal_At.sg.args→Option normal_At.sg.R:=fun x=>normal_At.sh F x.1 x.2.1
@[reducible] def octroiref12_Same.sg:Sig:={args:=[.d (.g tTable),.d (.g tTable)],res:=[.c .bool]}
def octroiref12_Same.l4.body {R:Type} (F:Nat) (k0:Bool→Option R) (k1:Int→Bool→tTable.T→tTable.T→Option R) (rec:Int→tTable.T→tTable.T→Option R) (i:Int) (a:tTable.T) (b:tTable.T):Option R :=
 bif decide (i < (a.2.2.length:Int)) then bif idx i a.2.2.length then bif idx i b.2.2.length then bif !(((get tPiece a.2.2 i.toNat).1 == (get tPiece b.2.2 i.toNat).1) && (((get tPiece a.2.2 i.toNat).2.1.1 == (get tPiece b.2.2 i.toNat).2.1.1) && (((get tPiece a.2.2 i.toNat).2.1.2 == (get tPiece b.2.2 i.toNat).2.1.2) && (((get tPiece a.2.2 i.toNat).2.2.1.1 == (get tPiece b.2.2 i.toNat).2.2.1.1) && (((get tPiece a.2.2 i.toNat).2.2.1.2 == (get tPiece b.2.2 i.toNat).2.2.1.2) && (((get tPiece a.2.2 i.toNat).2.2.2.1 == (get tPiece b.2.2 i.toNat).2.2.2.1) && (((get tPiece a.2.2 i.toNat).2.2.2.2 == (get tPiece b.2.2 i.toNat).2.2.2.2) && true))))))) then k0 false
    else rec (IntKind.i64.wrap (i + 1)) a b
   else none
  else none
 else k1 i (decide (i < (a.2.2.length:Int))) a b
def octroiref12_Same.l4 {R:Type} (F:Nat) (k0:Bool→Option R) (k1:Int→Bool→tTable.T→tTable.T→Option R):Nat→Int→tTable.T→tTable.T→Option R
 | 0,_,_,_=>none
 | fu + 1,i,a,b=>octroiref12_Same.l4.body F k0 k1 (octroiref12_Same.l4 F k0 k1 fu) i a b
def octroiref12_Same.sh (F:Nat) (a:tTable.T) (b:tTable.T):Option octroiref12_Same.sg.R :=
 bif (a.1 != b.1) then some ((false,()),())
 else bif (a.2.1 != b.2.1) then some ((false,()),())
 else bif ((a.2.2.length:Int) != (b.2.2.length:Int)) then some ((false,()),())
 else octroiref12_Same.l4 F (fun r41=>some ((r41,()),())) (fun i2 t312 a2 b2=>some ((true,()),())) F 0 a b
def octroiref12_Same.sp (F:Nat):TA octroiref12_Same.sg.args→Option octroiref12_Same.sg.R:=fun x=>octroiref12_Same.sh F x.1 x.2.1
@[reducible] def octroilaw12_awake.sg:Sig:={args:=[],res:=[.c .bool]}
def octroilaw12_awake.sh (F:Nat):Option octroilaw12_awake.sg.R :=
 oB (octroilaw12_one.sh F ([(3,0,0,0,[],0),(11,20,0,0,[],0),(2,3,0,0,[],0),(8,0,0,0,[],0)]:List tNode.T)) fun c_1 =>
 oB (normal_Table.sh F c_1.1.1) fun c_2 =>
 oB (octroilaw12_small.sh F (-60) 3 0) fun c_3 =>
 oB (normal_At.sh F (10,0,([(0,(0,0),(0,0),0,0),(21,c_3.1.1)]:List tPiece.T)) 25) fun c_4 =>
 oB (normal_At.sh F (0,0,[]) 0) fun c_5 =>
 bif (c_2.1.2.1 == 0) then bif (c_2.1.2.2.1 == 0) then oB (octroiref12_Same.sh F c_2.1.1 (10,0,([(0,(0,0),(0,0),0,0),(21,c_3.1.1)]:List tPiece.T))) fun c_6 =>
   bif c_6.1.1 then bif (c_4.1.2.1 == 0) then oB (wide_Of.sh F 15) fun c_7 =>
     bif ((c_4.1.1.1 == c_7.1.1.1) && ((c_4.1.1.2 == c_7.1.1.2) && true)) then bif (c_5.1.2.1 == 1) then oB (normal_Check.sh F (10,0,([(0,(0,0),(0,0),0,0),(21,c_3.1.1)]:List tPiece.T))) fun c_8 =>
       bif c_8.1.1 then oB (normal_Check.sh F (0,0,[])) fun c_9 =>
        some ((!c_9.1.1,()),())
       else some ((false,()),())
      else some ((false,()),())
     else some ((false,()),())
    else some ((false,()),())
   else some ((false,()),())
  else some ((false,()),())
 else some ((false,()),())
def octroilaw12_awake.sp (F:Nat):TA octroilaw12_awake.sg.args→Option octroilaw12_awake.sg.R:=fun x=>octroilaw12_awake.sh F
@[reducible] def octroiref04_Letter.sg:Sig:={args:=[.d (.c (.int .u8))],res:=[.c .bool]}
@[reducible] def octroiref04_words.sg:Sig:={args:=[],res:=[.c (.sl .str)]}
@[reducible] def octroiref04_Word.sg:Sig:={args:=[.d (.c .str)],res:=[.c .bool]}
@[reducible] def octroiref04_Digit.sg:Sig:={args:=[.d (.c (.int .u8))],res:=[.c .bool]}
@[reducible] def octroiref04_Name.sg:Sig:={args:=[.d (.c .str)],res:=[.c .bool]}
@[reducible] def octroiref05_head.sg:Sig:={args:=[.d (.g tPlan)],res:=[.c (.int .i64)]}
@[reducible] def octroiref05_Takes.sg:Sig:={args:=[.d (.g tNode)],res:=[.c (.int .i64)]}
@[reducible] def octroiref05_most.sg:Sig:={args:=[.d (.c (.int .i64)),.d (.c (.int .i64))],res:=[.c (.int .i64)]}
@[reducible] def octroiref05_fields.sg:Sig:={args:=[.d (.g tNode),.d (.c (.int .i64))],res:=[.c .bool]}
@[reducible] def octroiref05_tiers.sg:Sig:={args:=[.d (.b tTier)],res:=[.c .bool]}
@[reducible] def octroiref05_Check.sg:Sig:={args:=[.d (.g tPlan)],res:=[.c (.int .i64),.c (.int .i64)]}
@[reducible] def octroiref05_First.sg:Sig:={args:=[.d (.g tPlan),.d (.c (.int .i64))],res:=[.c (.int .i64)]}
@[reducible] def octroiref05_Constant.sg:Sig:={args:=[.d (.g tPlan)],res:=[.c (.sl .bool),.c (.int .i64)]}
@[reducible] def octroiref08_same.sg:Sig:={args:=[.d (.b (.int .i64))],res:=[.c (.int .i64)]}
@[reducible] def octroiref08_Count.sg:Sig:={args:=[.d (.c (.int .i64))],res:=[.c .bool]}
@[reducible] def octroiref08_product.sg:Sig:={args:=[.d (.c (.int .i64)),.d (.c (.int .i64))],res:=[.c (.int .i64)]}
@[reducible] def octroiref08_typed.sg:Sig:={args:=[.d (.g tNode),.d (.b (.int .i64))],res:=[.c (.int .i64)]}
@[reducible] def octroiref08_Types.sg:Sig:={args:=[.d (.g tPlan)],res:=[.c (.sl (.int .i64)),.c (.int .i64),.c (.int .i64)]}
@[reducible] def octroiref05_Scale.sg:Sig:={args:=[.d (.g tPlan)],res:=[.c (.int .i64),.c (.int .i64)]}
@[reducible] def octroiref01_Of.sg:Sig:={args:=[.d (.c (.int .i64))],res:=[.g tWide]}
@[reducible] def octroiref01_Digits.sg:Sig:={args:=[.d (.g tWide)],res:=[.a .u64]}
@[reducible] def octroiref01_Below.sg:Sig:={args:=[.d (.a .u64)],res:=[.c .bool]}
end Go.VS
