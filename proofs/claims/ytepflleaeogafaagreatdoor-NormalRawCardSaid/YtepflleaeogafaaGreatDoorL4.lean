import Derived.Test.YtepflleaeogafaaGreatDoorL3
set_option linter.unusedVariables false
set_option linter.unusedSimpArgs false
set_option linter.unusedSectionVars false
set_option linter.unusedVariables false
set_option linter.unusedSimpArgs false
set_option maxRecDepth 100000
namespace Go.VS
open Go
def letB (c:Int):Bool:=decide (c ≥ 97) && decide (c ≤ 122)
def digB (c:Int):Bool:=decide (c ≥ 48) && decide (c ≤ 57)
def innB (c:Int):Bool:=letB c || (digB c || c == 95)
def cI (c:UInt8):Int:=(c.toNat:Int)
def wordsL:List UInt8:=[32,112,108,97,110,32,114,111,117,110,100,32,98,121,32,98,108,111,99,107,115,32,109,105,110,32,109,97,120,32,111,118,101,114,32,117,112,116,111,32,103,114,97,100,117,97,116,101,100,32,118,111,108,117,109,101,32,111,102,102,32,105,102,32,102,108,111,111,114,32,99,101,105,108,32,122,101,114,111,32,104,97,108,102,32,101,118,101,110,32]
def wordB (l:List UInt8):Bool:=!l.isEmpty && (l.all (fun c=>letB (cI c)) && Lib.contains wordsL ([32] ++ l ++ [32]))
def nameB (l:List UInt8):Bool:=!l.isEmpty && (decide (l.length ≤ 32) && (letB (cI (l.headD 0)) && (l.all (fun c=>innB (cI c)) && !wordB l)))
end Go.VS
