/-
  DERIVED: THE SHELF's CONTRACTS AT THIS DUMP, IN PLAIN WORDS (tools/lay-plain.mjs out of 'TryzShelf.lean', which tools/lay-shelf.mjs wrote): THE SAME DECLARATIONS UNDER THE SAME NAMES: 'import', 'namespace', 'open', 'def', 'theorem' AND NOTHING ELSE: no command of the shelf's: FOR A HAND-IN. Each laying: the table of numbers ('.._ren') and one theorem, a field a fact of the dump's own or the kernel's comparison; each contract: ONE APPLICATION.
-/
import Derived.Shelf.Strings.Search1
import Derived.Shelf.Strings.Search2
import Derived.Shelf.Strings.Search3
import Derived.Shelf.LaysM
import Derived.Shelf.Strings.Shaped
import Derived.Shelf.Bits.Mul64
import Derived.Test.YtepflleaeogafaaGreatDoorProg
set_option linter.unusedVariables false
set_option linter.unusedSimpArgs false
set_option linter.unusedSectionVars false
namespace Go.Proofs
open Go.Shelf
def Tryz.lays217_ren:Go.Shelf.Ren:=⟨fun | 217=>219 | 266=>223 | n=>n,fun | 9=>9 | 5=>5 | 3=>3 | n=>n,fun | n=>n⟩
theorem Tryz.lays217:Go.Proofs.Lays.n217 Tryz.prog Tryz.lays217_ren:={
 mixed:=by kernel_rfl
 f217:=Tryz.func219.trans (congrArg some (by kernel_rfl))
 f266:=Tryz.func223.trans (congrArg some (by kernel_rfl))
 t3:=Tryz.underlying3
 a3:=Tryz.isAgg3
 z3:=Tryz.sizeOf3
 v3:=Tryz.zeroValue3
 t5:=Tryz.underlying5
 a5:=Tryz.isAgg5
 z5:=Tryz.sizeOf5
 v5:=Tryz.zeroValue5
 t9:=Tryz.underlying9
 a9:=Tryz.isAgg9
 z9:=Tryz.sizeOf9
 v9:=Tryz.zeroValue9}
open Go.RowKit Go.Lib in
theorem Tryz.stringslite_IndexByte (s:ByteArray) (c:Int) (w:World) :
  Calls Tryz.prog 219 #[.string s,.int .u8 c] w fun e w'=>e = .returned (.int .i64 (Lib.indexByte s.data.toList c.toNat.toUInt8))∧w' = w:=Any.stringslite_IndexByte Tryz.lays217 s c w
def Tryz.lays224_ren:Go.Shelf.Ren:=⟨fun | 224=>221 | n=>n,fun | 3=>3 | n=>n,fun | n=>n⟩
theorem Tryz.lays224:Go.Proofs.Lays.n224 Tryz.prog Tryz.lays224_ren:={
 mixed:=by kernel_rfl
 f224:=Tryz.func221.trans (congrArg some (by kernel_rfl))
 t3:=Tryz.underlying3
 a3:=Tryz.isAgg3
 z3:=Tryz.sizeOf3
 v3:=Tryz.zeroValue3}
open Go.RowKit Go.Lib in
theorem Tryz.bytealg_Cutover (n:Int) (h0:0 ≤ n) (h1:n < 4611686018427387904) (w:World) :
  Calls Tryz.prog 221 #[.int .i64 n] w fun e w'=>e = .returned (.int .i64 ((n + 16) / 8))∧w' = w:=Any.bytealg_Cutover Tryz.lays224 n h0 h1 w
def Tryz.lays314_ren:Go.Shelf.Ren:=⟨fun | 314=>224 | n=>n,fun | 9=>9 | 51=>230 | 3=>3 | 4=>4 | 5=>5 | 46=>93 | n=>n,fun | n=>n⟩
theorem Tryz.lays314:Go.Proofs.Lays.n314 Tryz.prog Tryz.lays314_ren:={
 mixed:=by kernel_rfl
 f314:=Tryz.func224.trans (congrArg some (by kernel_rfl))
 t3:=Tryz.underlying3
 a3:=Tryz.isAgg3
 z3:=Tryz.sizeOf3
 v3:=Tryz.zeroValue3
 t4:=Tryz.underlying4
 a4:=Tryz.isAgg4
 z4:=Tryz.sizeOf4
 v4:=Tryz.zeroValue4
 t5:=Tryz.underlying5
 a5:=Tryz.isAgg5
 z5:=Tryz.sizeOf5
 v5:=Tryz.zeroValue5
 t9:=Tryz.underlying9
 a9:=Tryz.isAgg9
 z9:=Tryz.sizeOf9
 v9:=Tryz.zeroValue9
 t46:=Tryz.underlying93
 a46:=Tryz.isAgg93
 z46:=Tryz.sizeOf93
 v46:=Tryz.zeroValue93
 t51:=Tryz.underlying230
 a51:=Tryz.isAgg230
 z51:=Tryz.sizeOf230
 v51:=Tryz.zeroValue230}
open Go.RowKit Go.Lib in
theorem Tryz.bytealg_hashStr (sep:ByteArray) (hs:sep.size < 4294967281) (w:World) :
  Calls Tryz.prog 224 #[.string sep] w fun e w'=>e = .returned (.tuple #[.int .u32 (RK.H sep.data.toList % 4294967296),.int .u32 (16777619 ^ sep.size % 4294967296)])∧w' = w:=Any.bytealg_hashStr Tryz.lays314 sep hs w
def Tryz.lays267_ren:Go.Shelf.Ren:=⟨fun | 267=>222 | 314=>224 | n=>n,fun | 9=>9 | 3=>3 | 146=>231 | 51=>230 | 4=>4 | 5=>5 | 46=>93 | n=>n,fun | n=>n⟩
theorem Tryz.lays267:Go.Proofs.Lays.n267 Tryz.prog Tryz.lays267_ren:={
 mixed:=by kernel_rfl
 f267:=Tryz.func222.trans (congrArg some (by kernel_rfl))
 f314:=Tryz.func224.trans (congrArg some (by kernel_rfl))
 t3:=Tryz.underlying3
 a3:=Tryz.isAgg3
 z3:=Tryz.sizeOf3
 v3:=Tryz.zeroValue3
 t4:=Tryz.underlying4
 a4:=Tryz.isAgg4
 z4:=Tryz.sizeOf4
 v4:=Tryz.zeroValue4
 t5:=Tryz.underlying5
 a5:=Tryz.isAgg5
 z5:=Tryz.sizeOf5
 v5:=Tryz.zeroValue5
 t9:=Tryz.underlying9
 a9:=Tryz.isAgg9
 z9:=Tryz.sizeOf9
 v9:=Tryz.zeroValue9
 t46:=Tryz.underlying93
 a46:=Tryz.isAgg93
 z46:=Tryz.sizeOf93
 v46:=Tryz.zeroValue93
 t51:=Tryz.underlying230
 a51:=Tryz.isAgg230
 z51:=Tryz.sizeOf230
 v51:=Tryz.zeroValue230
 t146:=Tryz.underlying231
 a146:=Tryz.isAgg231
 z146:=Tryz.sizeOf231
 v146:=Tryz.zeroValue231}
open Go.RowKit Go.Lib in
theorem Tryz.bytealg_IndexRabinKarp (s sep:ByteArray) (h1:1 ≤ sep.size) (h2:sep.size ≤ s.size) (hs:s.size < 4294967281) (w:World) :
  Calls Tryz.prog 222 #[.string s,.string sep] w fun e w'=>e = .returned (.int .i64 (Lib.index s.data.toList sep.data.toList))∧w' = w:=Any.bytealg_IndexRabinKarp Tryz.lays267 s sep h1 h2 hs w
def Tryz.lays219_ren:Go.Shelf.Ren:=⟨fun | 219=>217 | 217=>219 | 225=>220 | 224=>221 | 267=>222 | 266=>223 | 314=>224 | n=>n,fun | 9=>9 | 3=>3 | 4=>4 | 5=>5 | 46=>93 | 146=>231 | 51=>230 | n=>n,fun | 1=>3 | n=>n⟩
theorem Tryz.lays219:Go.Proofs.Lays.n219 Tryz.prog Tryz.lays219_ren:={
 mixed:=by kernel_rfl
 f217:=Tryz.func219.trans (congrArg some (by kernel_rfl))
 f219:=Tryz.func217.trans (congrArg some (by kernel_rfl))
 f224:=Tryz.func221.trans (congrArg some (by kernel_rfl))
 f225:=Tryz.func220.trans (congrArg some (by kernel_rfl))
 f266:=Tryz.func223.trans (congrArg some (by kernel_rfl))
 f267:=Tryz.func222.trans (congrArg some (by kernel_rfl))
 f314:=Tryz.func224.trans (congrArg some (by kernel_rfl))
 t3:=Tryz.underlying3
 a3:=Tryz.isAgg3
 z3:=Tryz.sizeOf3
 v3:=Tryz.zeroValue3
 t4:=Tryz.underlying4
 a4:=Tryz.isAgg4
 z4:=Tryz.sizeOf4
 v4:=Tryz.zeroValue4
 t5:=Tryz.underlying5
 a5:=Tryz.isAgg5
 z5:=Tryz.sizeOf5
 v5:=Tryz.zeroValue5
 t9:=Tryz.underlying9
 a9:=Tryz.isAgg9
 z9:=Tryz.sizeOf9
 v9:=Tryz.zeroValue9
 t46:=Tryz.underlying93
 a46:=Tryz.isAgg93
 z46:=Tryz.sizeOf93
 v46:=Tryz.zeroValue93
 t51:=Tryz.underlying230
 a51:=Tryz.isAgg230
 z51:=Tryz.sizeOf230
 v51:=Tryz.zeroValue230
 t146:=Tryz.underlying231
 a146:=Tryz.isAgg231
 z146:=Tryz.sizeOf231
 v146:=Tryz.zeroValue231
 g1:=by kernel_rfl}
open Go.RowKit Go.Lib in
theorem Tryz.stringslite_Index_one (s:ByteArray) (c:UInt8) (w:World) :
  Calls Tryz.prog 217 #[.string s,.string ⟨#[c]⟩] w fun e w'=>e = .returned (.int .i64 (Lib.indexByte s.data.toList c))∧w' = w:=Any.stringslite_Index_one Tryz.lays219 s c w
open Go.RowKit Go.Lib in
theorem Tryz.stringslite_Index (s sub:ByteArray) (m:Int) (w:World) (hs:s.size < 4294967281) (hm:w.cell? ⟨3,0,none⟩ = some (.int .i64 m)) :
  Calls Tryz.prog 217 #[.string s,.string sub] w fun e w'=>e = .returned (.int .i64 (Lib.index s.data.toList sub.data.toList))∧w' = w:=Any.stringslite_Index Tryz.lays219 s sub m w hs hm
def Tryz.lays143_ren:Go.Shelf.Ren:=⟨fun | 143=>212 | 219=>217 | 217=>219 | 225=>220 | 224=>221 | 267=>222 | 266=>223 | 314=>224 | n=>n,fun | 9=>9 | 3=>3 | 4=>4 | 5=>5 | 46=>93 | 146=>231 | 51=>230 | n=>n,fun | 1=>3 | n=>n⟩
theorem Tryz.lays143:Go.Proofs.Lays.n143 Tryz.prog Tryz.lays143_ren:={
 mixed:=by kernel_rfl
 f143:=Tryz.func212.trans (congrArg some (by kernel_rfl))
 f217:=Tryz.func219.trans (congrArg some (by kernel_rfl))
 f219:=Tryz.func217.trans (congrArg some (by kernel_rfl))
 f224:=Tryz.func221.trans (congrArg some (by kernel_rfl))
 f225:=Tryz.func220.trans (congrArg some (by kernel_rfl))
 f266:=Tryz.func223.trans (congrArg some (by kernel_rfl))
 f267:=Tryz.func222.trans (congrArg some (by kernel_rfl))
 f314:=Tryz.func224.trans (congrArg some (by kernel_rfl))
 t3:=Tryz.underlying3
 a3:=Tryz.isAgg3
 z3:=Tryz.sizeOf3
 v3:=Tryz.zeroValue3
 t4:=Tryz.underlying4
 a4:=Tryz.isAgg4
 z4:=Tryz.sizeOf4
 v4:=Tryz.zeroValue4
 t5:=Tryz.underlying5
 a5:=Tryz.isAgg5
 z5:=Tryz.sizeOf5
 v5:=Tryz.zeroValue5
 t9:=Tryz.underlying9
 a9:=Tryz.isAgg9
 z9:=Tryz.sizeOf9
 v9:=Tryz.zeroValue9
 t46:=Tryz.underlying93
 a46:=Tryz.isAgg93
 z46:=Tryz.sizeOf93
 v46:=Tryz.zeroValue93
 t51:=Tryz.underlying230
 a51:=Tryz.isAgg230
 z51:=Tryz.sizeOf230
 v51:=Tryz.zeroValue230
 t146:=Tryz.underlying231
 a146:=Tryz.isAgg231
 z146:=Tryz.sizeOf231
 v146:=Tryz.zeroValue231
 g1:=by kernel_rfl}
open Go.RowKit Go.Lib in
theorem Tryz.strings_Index_one (s:ByteArray) (c:UInt8) (w:World) :
  Calls Tryz.prog 212 #[.string s,.string ⟨#[c]⟩] w fun e w'=>e = .returned (.int .i64 (Lib.indexByte s.data.toList c))∧w' = w:=Any.strings_Index_one Tryz.lays143 s c w
open Go.RowKit Go.Lib in
theorem Tryz.strings_Index (s sub:ByteArray) (m:Int) (w:World) (hs:s.size < 4294967281) (hm:w.cell? ⟨3,0,none⟩ = some (.int .i64 m)) :
  Calls Tryz.prog 212 #[.string s,.string sub] w fun e w'=>e = .returned (.int .i64 (Lib.index s.data.toList sub.data.toList))∧w' = w:=Any.strings_Index Tryz.lays143 s sub m w hs hm
def Tryz.lays144_ren:Go.Shelf.Ren:=⟨fun | 144=>205 | 143=>212 | 219=>217 | 217=>219 | 225=>220 | 224=>221 | 267=>222 | 266=>223 | 314=>224 | n=>n,fun | 9=>9 | 4=>4 | 3=>3 | 5=>5 | 46=>93 | 146=>231 | 51=>230 | n=>n,fun | 1=>3 | n=>n⟩
theorem Tryz.lays144:Go.Proofs.Lays.n144 Tryz.prog Tryz.lays144_ren:={
 mixed:=by kernel_rfl
 f143:=Tryz.func212.trans (congrArg some (by kernel_rfl))
 f144:=Tryz.func205.trans (congrArg some (by kernel_rfl))
 f217:=Tryz.func219.trans (congrArg some (by kernel_rfl))
 f219:=Tryz.func217.trans (congrArg some (by kernel_rfl))
 f224:=Tryz.func221.trans (congrArg some (by kernel_rfl))
 f225:=Tryz.func220.trans (congrArg some (by kernel_rfl))
 f266:=Tryz.func223.trans (congrArg some (by kernel_rfl))
 f267:=Tryz.func222.trans (congrArg some (by kernel_rfl))
 f314:=Tryz.func224.trans (congrArg some (by kernel_rfl))
 t3:=Tryz.underlying3
 a3:=Tryz.isAgg3
 z3:=Tryz.sizeOf3
 v3:=Tryz.zeroValue3
 t4:=Tryz.underlying4
 a4:=Tryz.isAgg4
 z4:=Tryz.sizeOf4
 v4:=Tryz.zeroValue4
 t5:=Tryz.underlying5
 a5:=Tryz.isAgg5
 z5:=Tryz.sizeOf5
 v5:=Tryz.zeroValue5
 t9:=Tryz.underlying9
 a9:=Tryz.isAgg9
 z9:=Tryz.sizeOf9
 v9:=Tryz.zeroValue9
 t46:=Tryz.underlying93
 a46:=Tryz.isAgg93
 z46:=Tryz.sizeOf93
 v46:=Tryz.zeroValue93
 t51:=Tryz.underlying230
 a51:=Tryz.isAgg230
 z51:=Tryz.sizeOf230
 v51:=Tryz.zeroValue230
 t146:=Tryz.underlying231
 a146:=Tryz.isAgg231
 z146:=Tryz.sizeOf231
 v146:=Tryz.zeroValue231
 g1:=by kernel_rfl}
open Go.RowKit Go.Lib in
theorem Tryz.strings_Contains_one (s:ByteArray) (c:UInt8) (w:World) :
  Calls Tryz.prog 205 #[.string s,.string ⟨#[c]⟩] w fun e w'=>e = .returned (.bool (decide (0 ≤ Lib.indexByte s.data.toList c)))∧w' = w:=Any.strings_Contains_one Tryz.lays144 s c w
open Go.RowKit Go.Lib in
theorem Tryz.strings_Contains (s sub:ByteArray) (m:Int) (w:World) (hs:s.size < 4294967281) (hm:w.cell? ⟨3,0,none⟩ = some (.int .i64 m)) :
  Calls Tryz.prog 205 #[.string s,.string sub] w fun e w'=>e = .returned (.bool (Lib.contains s.data.toList sub.data.toList))∧w' = w:=Any.strings_Contains Tryz.lays144 s sub m w hs hm
def Tryz.laysM219_ren:Go.Shelf.Ren:=⟨fun | 219=>217 | 217=>219 | 225=>220 | 224=>221 | 267=>222 | 266=>223 | 314=>224 | n=>n,fun | 9=>9 | 3=>3 | 4=>4 | 5=>5 | 46=>93 | 146=>231 | 51=>230 | n=>n,fun | 1=>3 | n=>n⟩
theorem Tryz.laysM219:Go.Proofs.LaysM.n219 Tryz.prog Tryz.laysM219_ren:={
 mixed:=by kernel_rfl
 f217:=Tryz.func219.trans (congrArg some (by kernel_rfl))
 f219:=Tryz.func217.trans (congrArg some (by kernel_rfl))
 f224:=Tryz.func221.trans (congrArg some (by kernel_rfl))
 f225:=Tryz.func220.trans (congrArg some (by kernel_rfl))
 f266:=Tryz.func223.trans (congrArg some (by kernel_rfl))
 f267:=Tryz.func222.trans (congrArg some (by kernel_rfl))
 f314:=Tryz.func224.trans (congrArg some (by kernel_rfl))
 t3:=Tryz.underlying3
 a3:=Tryz.isAgg3
 z3:=Tryz.sizeOf3
 v3:=Tryz.zeroValue3
 t4:=Tryz.underlying4
 a4:=Tryz.isAgg4
 z4:=Tryz.sizeOf4
 v4:=Tryz.zeroValue4
 t5:=Tryz.underlying5
 a5:=Tryz.isAgg5
 z5:=Tryz.sizeOf5
 v5:=Tryz.zeroValue5
 t9:=Tryz.underlying9
 a9:=Tryz.isAgg9
 z9:=Tryz.sizeOf9
 v9:=Tryz.zeroValue9
 t46:=Tryz.underlying93
 a46:=Tryz.isAgg93
 z46:=Tryz.sizeOf93
 v46:=Tryz.zeroValue93
 t51:=Tryz.underlying230
 a51:=Tryz.isAgg230
 z51:=Tryz.sizeOf230
 v51:=Tryz.zeroValue230
 t146:=Tryz.underlying231
 a146:=Tryz.isAgg231
 z146:=Tryz.sizeOf231
 v146:=Tryz.zeroValue231
 g1:=by kernel_rfl
 i3:=by kernel_rfl
 i4:=by kernel_rfl
 i5:=by kernel_rfl
 i9:=by kernel_rfl
 i46:=by kernel_rfl
 i51:=by kernel_rfl
 i146:=by kernel_rfl
 m1:=by kernel_rfl
 s1_3:=fun w h=>Go.Proofs.cell_of_shapedOpen_int (zero:=#[.int .i64 0]) (t:=3) h (of_decide_eq_true (by kernel_rfl)) (by kernel_rfl) rfl (by kernel_rfl) (by kernel_rfl) Tryz.underlying3}
open Go.RowKit Go.Lib in
theorem Tryz.stringslite_Index_shaped (s sub:ByteArray) (w:World) (h:w.ShapedOpen Tryz.prog) (hs:s.size < 4294967281) :
  Calls Tryz.prog 217 #[.string s,.string sub] w fun e w'=>e = .returned (.int .i64 (Lib.index s.data.toList sub.data.toList))∧w' = w:=Any.stringslite_Index_shaped Tryz.laysM219 s sub w h hs
def Tryz.laysM143_ren:Go.Shelf.Ren:=⟨fun | 143=>212 | 219=>217 | 217=>219 | 225=>220 | 224=>221 | 267=>222 | 266=>223 | 314=>224 | n=>n,fun | 9=>9 | 3=>3 | 4=>4 | 5=>5 | 46=>93 | 146=>231 | 51=>230 | n=>n,fun | 1=>3 | n=>n⟩
theorem Tryz.laysM143:Go.Proofs.LaysM.n143 Tryz.prog Tryz.laysM143_ren:={
 mixed:=by kernel_rfl
 f143:=Tryz.func212.trans (congrArg some (by kernel_rfl))
 f217:=Tryz.func219.trans (congrArg some (by kernel_rfl))
 f219:=Tryz.func217.trans (congrArg some (by kernel_rfl))
 f224:=Tryz.func221.trans (congrArg some (by kernel_rfl))
 f225:=Tryz.func220.trans (congrArg some (by kernel_rfl))
 f266:=Tryz.func223.trans (congrArg some (by kernel_rfl))
 f267:=Tryz.func222.trans (congrArg some (by kernel_rfl))
 f314:=Tryz.func224.trans (congrArg some (by kernel_rfl))
 t3:=Tryz.underlying3
 a3:=Tryz.isAgg3
 z3:=Tryz.sizeOf3
 v3:=Tryz.zeroValue3
 t4:=Tryz.underlying4
 a4:=Tryz.isAgg4
 z4:=Tryz.sizeOf4
 v4:=Tryz.zeroValue4
 t5:=Tryz.underlying5
 a5:=Tryz.isAgg5
 z5:=Tryz.sizeOf5
 v5:=Tryz.zeroValue5
 t9:=Tryz.underlying9
 a9:=Tryz.isAgg9
 z9:=Tryz.sizeOf9
 v9:=Tryz.zeroValue9
 t46:=Tryz.underlying93
 a46:=Tryz.isAgg93
 z46:=Tryz.sizeOf93
 v46:=Tryz.zeroValue93
 t51:=Tryz.underlying230
 a51:=Tryz.isAgg230
 z51:=Tryz.sizeOf230
 v51:=Tryz.zeroValue230
 t146:=Tryz.underlying231
 a146:=Tryz.isAgg231
 z146:=Tryz.sizeOf231
 v146:=Tryz.zeroValue231
 g1:=by kernel_rfl
 i3:=by kernel_rfl
 i4:=by kernel_rfl
 i5:=by kernel_rfl
 i9:=by kernel_rfl
 i46:=by kernel_rfl
 i51:=by kernel_rfl
 i146:=by kernel_rfl
 m1:=by kernel_rfl
 s1_3:=fun w h=>Go.Proofs.cell_of_shapedOpen_int (zero:=#[.int .i64 0]) (t:=3) h (of_decide_eq_true (by kernel_rfl)) (by kernel_rfl) rfl (by kernel_rfl) (by kernel_rfl) Tryz.underlying3}
open Go.RowKit Go.Lib in
theorem Tryz.strings_Index_shaped (s sub:ByteArray) (w:World) (h:w.ShapedOpen Tryz.prog) (hs:s.size < 4294967281) :
  Calls Tryz.prog 212 #[.string s,.string sub] w fun e w'=>e = .returned (.int .i64 (Lib.index s.data.toList sub.data.toList))∧w' = w:=Any.strings_Index_shaped Tryz.laysM143 s sub w h hs
def Tryz.laysM144_ren:Go.Shelf.Ren:=⟨fun | 144=>205 | 143=>212 | 219=>217 | 217=>219 | 225=>220 | 224=>221 | 267=>222 | 266=>223 | 314=>224 | n=>n,fun | 9=>9 | 4=>4 | 3=>3 | 5=>5 | 46=>93 | 146=>231 | 51=>230 | n=>n,fun | 1=>3 | n=>n⟩
theorem Tryz.laysM144:Go.Proofs.LaysM.n144 Tryz.prog Tryz.laysM144_ren:={
 mixed:=by kernel_rfl
 f143:=Tryz.func212.trans (congrArg some (by kernel_rfl))
 f144:=Tryz.func205.trans (congrArg some (by kernel_rfl))
 f217:=Tryz.func219.trans (congrArg some (by kernel_rfl))
 f219:=Tryz.func217.trans (congrArg some (by kernel_rfl))
 f224:=Tryz.func221.trans (congrArg some (by kernel_rfl))
 f225:=Tryz.func220.trans (congrArg some (by kernel_rfl))
 f266:=Tryz.func223.trans (congrArg some (by kernel_rfl))
 f267:=Tryz.func222.trans (congrArg some (by kernel_rfl))
 f314:=Tryz.func224.trans (congrArg some (by kernel_rfl))
 t3:=Tryz.underlying3
 a3:=Tryz.isAgg3
 z3:=Tryz.sizeOf3
 v3:=Tryz.zeroValue3
 t4:=Tryz.underlying4
 a4:=Tryz.isAgg4
 z4:=Tryz.sizeOf4
 v4:=Tryz.zeroValue4
 t5:=Tryz.underlying5
 a5:=Tryz.isAgg5
 z5:=Tryz.sizeOf5
 v5:=Tryz.zeroValue5
 t9:=Tryz.underlying9
 a9:=Tryz.isAgg9
 z9:=Tryz.sizeOf9
 v9:=Tryz.zeroValue9
 t46:=Tryz.underlying93
 a46:=Tryz.isAgg93
 z46:=Tryz.sizeOf93
 v46:=Tryz.zeroValue93
 t51:=Tryz.underlying230
 a51:=Tryz.isAgg230
 z51:=Tryz.sizeOf230
 v51:=Tryz.zeroValue230
 t146:=Tryz.underlying231
 a146:=Tryz.isAgg231
 z146:=Tryz.sizeOf231
 v146:=Tryz.zeroValue231
 g1:=by kernel_rfl
 i3:=by kernel_rfl
 i4:=by kernel_rfl
 i5:=by kernel_rfl
 i9:=by kernel_rfl
 i46:=by kernel_rfl
 i51:=by kernel_rfl
 i146:=by kernel_rfl
 m1:=by kernel_rfl
 s1_3:=fun w h=>Go.Proofs.cell_of_shapedOpen_int (zero:=#[.int .i64 0]) (t:=3) h (of_decide_eq_true (by kernel_rfl)) (by kernel_rfl) rfl (by kernel_rfl) (by kernel_rfl) Tryz.underlying3}
open Go.RowKit Go.Lib in
theorem Tryz.strings_Contains_shaped (s sub:ByteArray) (w:World) (h:w.ShapedOpen Tryz.prog) (hs:s.size < 4294967281) :
  Calls Tryz.prog 205 #[.string s,.string sub] w fun e w'=>e = .returned (.bool (Lib.contains s.data.toList sub.data.toList))∧w' = w:=Any.strings_Contains_shaped Tryz.laysM144 s sub w h hs
def Tryz.lays264_ren:Go.Shelf.Ren:=⟨fun | 264=>84 | n=>n,fun | 53=>37 | 46=>93 | n=>n,fun | n=>n⟩
theorem Tryz.lays264:Go.Proofs.Lays.n264 Tryz.prog Tryz.lays264_ren:={
 mixed:=by kernel_rfl
 f264:=Tryz.func84.trans (congrArg some (by kernel_rfl))
 t46:=Tryz.underlying93
 a46:=Tryz.isAgg93
 z46:=Tryz.sizeOf93
 v46:=Tryz.zeroValue93
 t53:=Tryz.underlying37
 a53:=Tryz.isAgg37
 z53:=Tryz.sizeOf37
 v53:=Tryz.zeroValue37}
open Go.RowKit Go.Lib in
theorem Tryz.bits_Mul64 (x y:Nat) (hx:x < 18446744073709551616) (hy:y < 18446744073709551616) (w:World) :
  Calls Tryz.prog 84 #[.int .u64 x,.int .u64 y] w fun e w'=>e = .returned (.tuple #[.int .u64 ((x * y / 18446744073709551616:Nat):Int),.int .u64 ((x * y % 18446744073709551616:Nat):Int)])∧w' = w:=Any.bits_Mul64 Tryz.lays264 x y hx hy w
end Go.Proofs
