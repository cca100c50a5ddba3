import Derived.Shelf.Strings.Search1
import Derived.Shelf.Strings.Search2
import Derived.Shelf.Strings.Count
import Derived.Shelf.Strings.OnBuilder
import Derived.Test.YtmpnollfdpdipaaGreatDoorProg
namespace Go.Proofs
open Go.Shelf
def Tryz.lays217_ren:Go.Shelf.Ren:=⟨fun | 217=>189 | 266=>217 | n=>n,fun | 9=>9 | 5=>5 | 3=>3 | n=>n,fun | n=>n⟩
theorem Tryz.lays217:Go.Proofs.Lays.n217 Tryz.prog Tryz.lays217_ren:={
 mixed:=by kernel_rfl
 f217:=Tryz.func189.trans (congrArg some (by kernel_rfl))
 f266:=Tryz.func217.trans (congrArg some (by kernel_rfl))
 t3:=Tryz.underlying3
 a3:=Tryz.isAgg3
 z3:=Tryz.sizeOf3
 v3:=Tryz.zeroValue3
 t5:=Tryz.underlying5
 a5:=Tryz.isAgg5
 z5:=Tryz.sizeOf5
 v5:=Tryz.zeroValue5
 t9:=Tryz.underlying9
 a9:=Tryz.isAgg9
 z9:=Tryz.sizeOf9
 v9:=Tryz.zeroValue9}
open Go.RowKit Go.Lib in
theorem Tryz.stringslite_IndexByte (s:ByteArray)(c:Int)(w:World) :
 Calls Tryz.prog 189 #[.string s,.int .u8 c] w fun e a=>e=.returned (.int .i64 (Lib.indexByte s.data.toList c.toNat.toUInt8))∧a=w:=Any.stringslite_IndexByte Tryz.lays217 s c w
def Tryz.lays219_ren:Go.Shelf.Ren:=⟨fun | 219=>156 | 217=>189 | 225=>190 | 224=>191 | 267=>192 | 266=>217 | 314=>218 | n=>n,fun | 9=>9 | 3=>3 | 4=>4 | 5=>5 | 46=>222 | 146=>243 | 51=>242 | n=>n,fun | 1=>0 | n=>n⟩
theorem Tryz.lays219:Go.Proofs.Lays.n219 Tryz.prog Tryz.lays219_ren:={
 mixed:=by kernel_rfl
 f217:=Tryz.func189.trans (congrArg some (by kernel_rfl))
 f219:=Tryz.func156.trans (congrArg some (by kernel_rfl))
 f224:=Tryz.func191.trans (congrArg some (by kernel_rfl))
 f225:=Tryz.func190.trans (congrArg some (by kernel_rfl))
 f266:=Tryz.func217.trans (congrArg some (by kernel_rfl))
 f267:=Tryz.func192.trans (congrArg some (by kernel_rfl))
 f314:=Tryz.func218.trans (congrArg some (by kernel_rfl))
 t3:=Tryz.underlying3
 a3:=Tryz.isAgg3
 z3:=Tryz.sizeOf3
 v3:=Tryz.zeroValue3
 t4:=Tryz.underlying4
 a4:=Tryz.isAgg4
 z4:=Tryz.sizeOf4
 v4:=Tryz.zeroValue4
 t5:=Tryz.underlying5
 a5:=Tryz.isAgg5
 z5:=Tryz.sizeOf5
 v5:=Tryz.zeroValue5
 t9:=Tryz.underlying9
 a9:=Tryz.isAgg9
 z9:=Tryz.sizeOf9
 v9:=Tryz.zeroValue9
 t46:=Tryz.underlying222
 a46:=Tryz.isAgg222
 z46:=Tryz.sizeOf222
 v46:=Tryz.zeroValue222
 t51:=Tryz.underlying242
 a51:=Tryz.isAgg242
 z51:=Tryz.sizeOf242
 v51:=Tryz.zeroValue242
 t146:=Tryz.underlying243
 a146:=Tryz.isAgg243
 z146:=Tryz.sizeOf243
 v146:=Tryz.zeroValue243
 g1:=by kernel_rfl}
open Go.RowKit Go.Lib in
theorem Tryz.stringslite_Index (s sub:ByteArray)(m:Int)(w:World)(g:s.size<4294967281)(a:w.cell? ⟨0,0,none⟩=some (.int .i64 m)) :
 Calls Tryz.prog 156 #[.string s,.string sub] w fun e h=>e=.returned (.int .i64 (Lib.index s.data.toList sub.data.toList))∧h=w:=Any.stringslite_Index Tryz.lays219 s sub m w g a
def Tryz.lays138_ren:Go.Shelf.Ren:=⟨fun | 138=>224 | 195=>261 | 218=>263 | 143=>58 | 219=>156 | 217=>189 | 225=>190 | 224=>191 | 267=>192 | 266=>217 | 314=>218 | n=>n,fun | 9=>9 | 3=>3 | 4=>4 | 5=>5 | 0=>0 | 46=>222 | 146=>243 | 51=>242 | n=>n,fun | 1=>0 | n=>n⟩
theorem Tryz.lays138:Go.Proofs.Lays.n138 Tryz.prog Tryz.lays138_ren:={
 mixed:=by kernel_rfl
 f138:=Tryz.func224.trans (congrArg some (by kernel_rfl))
 f143:=Tryz.func58.trans (congrArg some (by kernel_rfl))
 f195:=Tryz.func261.trans (congrArg some (by kernel_rfl))
 f217:=Tryz.func189.trans (congrArg some (by kernel_rfl))
 f218:=Tryz.func263.trans (congrArg some (by kernel_rfl))
 f219:=Tryz.func156.trans (congrArg some (by kernel_rfl))
 f224:=Tryz.func191.trans (congrArg some (by kernel_rfl))
 f225:=Tryz.func190.trans (congrArg some (by kernel_rfl))
 f266:=Tryz.func217.trans (congrArg some (by kernel_rfl))
 f267:=Tryz.func192.trans (congrArg some (by kernel_rfl))
 f314:=Tryz.func218.trans (congrArg some (by kernel_rfl))
 t0:=Tryz.underlying0
 a0:=Tryz.isAgg0
 z0:=Tryz.sizeOf0
 v0:=Tryz.zeroValue0
 t3:=Tryz.underlying3
 a3:=Tryz.isAgg3
 z3:=Tryz.sizeOf3
 v3:=Tryz.zeroValue3
 t4:=Tryz.underlying4
 a4:=Tryz.isAgg4
 z4:=Tryz.sizeOf4
 v4:=Tryz.zeroValue4
 t5:=Tryz.underlying5
 a5:=Tryz.isAgg5
 z5:=Tryz.sizeOf5
 v5:=Tryz.zeroValue5
 t9:=Tryz.underlying9
 a9:=Tryz.isAgg9
 z9:=Tryz.sizeOf9
 v9:=Tryz.zeroValue9
 t46:=Tryz.underlying222
 a46:=Tryz.isAgg222
 z46:=Tryz.sizeOf222
 v46:=Tryz.zeroValue222
 t51:=Tryz.underlying242
 a51:=Tryz.isAgg242
 z51:=Tryz.sizeOf242
 v51:=Tryz.zeroValue242
 t146:=Tryz.underlying243
 a146:=Tryz.isAgg243
 z146:=Tryz.sizeOf243
 v146:=Tryz.zeroValue243
 g1:=by kernel_rfl}
open Go.RowKit Go.Lib in
theorem Tryz.strings_Count_one (s:ByteArray)(c:UInt8)(w:World) :
 Calls Tryz.prog 224 #[.string s,.string ⟨#[c]⟩] w fun e a=>e=.returned (.int .i64 (Lib.countByte s.data.toList c))∧a=w:=Any.strings_Count_one Tryz.lays138 s c w
def Tryz.lays156_ren:Go.Shelf.Ren:=⟨fun | 156=>151 | 165=>188 | 166=>124 | 169=>127 | 240=>171 | 241=>216 | 276=>198 | 277=>253 | n=>n,fun | 31=>73 | 9=>9 | 3=>3 | 4=>4 | 0=>0 | 20=>20 | 72=>153 | 76=>156 | 70=>151 | 37=>34 | 75=>155 | 127=>207 | 164=>225 | 5=>5 | 80=>160 | n=>n,fun | n=>n⟩
theorem Tryz.lays156:Go.Proofs.Lays.n156 Tryz.prog Tryz.lays156_ren:={
 mixed:=by kernel_rfl
 f156:=Tryz.func151.trans (congrArg some (by kernel_rfl))
 f165:=Tryz.func188.trans (congrArg some (by kernel_rfl))
 f166:=Tryz.func124.trans (congrArg some (by kernel_rfl))
 f169:=Tryz.func127.trans (congrArg some (by kernel_rfl))
 f240:=Tryz.func171.trans (congrArg some (by kernel_rfl))
 f241:=Tryz.func216.trans (congrArg some (by kernel_rfl))
 f276:=Tryz.func198.trans (congrArg some (by kernel_rfl))
 f277:=Tryz.func253.trans (congrArg some (by kernel_rfl))
 t0:=Tryz.underlying0
 a0:=Tryz.isAgg0
 z0:=Tryz.sizeOf0
 v0:=Tryz.zeroValue0
 t3:=Tryz.underlying3
 a3:=Tryz.isAgg3
 z3:=Tryz.sizeOf3
 v3:=Tryz.zeroValue3
 t4:=Tryz.underlying4
 a4:=Tryz.isAgg4
 z4:=Tryz.sizeOf4
 v4:=Tryz.zeroValue4
 t9:=Tryz.underlying9
 a9:=Tryz.isAgg9
 z9:=Tryz.sizeOf9
 v9:=Tryz.zeroValue9
 t20:=Tryz.underlying20
 a20:=Tryz.isAgg20
 z20:=Tryz.sizeOf20
 v20:=Tryz.zeroValue20
 t31:=Tryz.underlying73
 a31:=Tryz.isAgg73
 z31:=Tryz.sizeOf73
 v31:=Tryz.zeroValue73
 t37:=Tryz.underlying34
 a37:=Tryz.isAgg34
 z37:=Tryz.sizeOf34
 v37:=Tryz.zeroValue34
 t70:=Tryz.underlying151
 a70:=Tryz.isAgg151
 z70:=Tryz.sizeOf151
 v70:=Tryz.zeroValue151
 t72:=Tryz.underlying153
 a72:=Tryz.isAgg153
 z72:=Tryz.sizeOf153
 v72:=Tryz.zeroValue153
 t75:=Tryz.underlying155
 a75:=Tryz.isAgg155
 z75:=Tryz.sizeOf155
 v75:=Tryz.zeroValue155
 t76:=Tryz.underlying156
 a76:=Tryz.isAgg156
 z76:=Tryz.sizeOf156
 v76:=Tryz.zeroValue156
 t127:=Tryz.underlying207
 a127:=Tryz.isAgg207
 z127:=Tryz.sizeOf207
 v127:=Tryz.zeroValue207
 t164:=Tryz.underlying225
 a164:=Tryz.isAgg225
 z164:=Tryz.sizeOf225
 v164:=Tryz.zeroValue225}
theorem Tryz.Builder_Extra_156:Builder.Extra Tryz.prog Tryz.lays156_ren:={
 sizeBuilder:=by kernel_rfl
 liesBuilder:=by kernel_rfl
 t5:=Tryz.underlying5
 a5:=Tryz.isAgg5
 z5:=Tryz.sizeOf5
 v5:=Tryz.zeroValue5
 infoByte:=by kernel_rfl
 cellsByte:=by kernel_rfl
 sizeByte:=by kernel_rfl
 neB5:=by decide}
open Go.RowKit in
theorem Tryz.strings_Join_none (a:Option Addr)(c:Nat)(sep:ByteArray)(w:World) :
  Calls Tryz.prog 151 #[.slice a 0 c,.string sep] w fun e g=>e=.returned (.string ⟨#[]⟩)∧g=w:=Any.strings_Join_none Tryz.lays156 Tryz.Builder_Extra_156 a c sep w
open Go.RowKit in
theorem Tryz.strings_Join (i o c:Nat)(xs:List ByteArray)(sep:ByteArray)(w:World)(a:∀ (j:Nat) x,xs[j]?=some x→w.cell? ⟨i,o+j,none⟩=some (.string x))(m:i<w.heap.size)(q:xs.length≤140737488355328)(g:xs.length≤c)(h:(Lib.join (xs.map (·.data.toList)) sep.data.toList).length≤140737488355328) :
  Calls Tryz.prog 151 #[.slice (some ⟨i,o,none⟩) xs.length c,.string sep] w fun e r=>e=.returned (.string ⟨(Lib.join (xs.map (·.data.toList)) sep.data.toList).toArray⟩)∧Below w.heap.size w r:=Any.strings_Join Tryz.lays156 Tryz.Builder_Extra_156 i o c xs sep w a m q g h
end Go.Proofs
