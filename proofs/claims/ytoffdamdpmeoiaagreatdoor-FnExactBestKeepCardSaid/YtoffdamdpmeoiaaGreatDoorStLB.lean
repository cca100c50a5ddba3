import Derived.Shelf.Strings.Search1
import Derived.Shelf.Strings.Search2
import Derived.Shelf.Strings.Count
import Derived.Test.YtoffdamdpmeoiaaGreatDoorPg39
import Derived.Shelf.Spec.TrailingZeros
import Derived.Test.YtoffdamdpmeoiaaGreatDoorProg
namespace Go.Proofs
open Go.Shelf
def Tryz.lays217_ren:Go.Shelf.Ren:=⟨fun | 217=>175 | 266=>179 | n=>n,fun | 9=>9 | 5=>5 | 3=>3 | n=>n,fun | n=>n⟩
theorem Tryz.lays217:Go.Proofs.Lays.n217 Tryz.prog Tryz.lays217_ren:={
 mixed:=by kernel_rfl
 f217:=Tryz.func175.trans (congrArg some (by kernel_rfl))
 f266:=Tryz.func179.trans (congrArg some (by kernel_rfl))
 t3:=Tryz.underlying3
 a3:=Tryz.isAgg3
 z3:=Tryz.sizeOf3
 v3:=Tryz.zeroValue3
 t5:=Tryz.underlying5
 a5:=Tryz.isAgg5
 z5:=Tryz.sizeOf5
 v5:=Tryz.zeroValue5
 t9:=Tryz.underlying9
 a9:=Tryz.isAgg9
 z9:=Tryz.sizeOf9
 v9:=Tryz.zeroValue9}
open Go.RowKit Go.Lib in
theorem Tryz.stringslite_IndexByte (s:ByteArray)(c:Int)(w:World) :
  Calls Tryz.prog 175 #[.string s,.int .u8 c] w fun e a=>e=.returned (.int .i64 (Lib.indexByte s.data.toList c.toNat.toUInt8))∧a=w:=Any.stringslite_IndexByte Tryz.lays217 s c w
def Tryz.lays219_ren:Go.Shelf.Ren:=⟨fun | 219=>165 | 217=>175 | 225=>176 | 224=>177 | 267=>178 | 266=>179 | 314=>180 | n=>n,fun | 9=>9 | 3=>3 | 4=>4 | 5=>5 | 46=>52 | 146=>193 | 51=>86 | n=>n,fun | 1=>2 | n=>n⟩
theorem Tryz.lays219:Go.Proofs.Lays.n219 Tryz.prog Tryz.lays219_ren:={
 mixed:=by kernel_rfl
 f217:=Tryz.func175.trans (congrArg some (by kernel_rfl))
 f219:=Tryz.func165.trans (congrArg some (by kernel_rfl))
 f224:=Tryz.func177.trans (congrArg some (by kernel_rfl))
 f225:=Tryz.func176.trans (congrArg some (by kernel_rfl))
 f266:=Tryz.func179.trans (congrArg some (by kernel_rfl))
 f267:=Tryz.func178.trans (congrArg some (by kernel_rfl))
 f314:=Tryz.func180.trans (congrArg some (by kernel_rfl))
 t3:=Tryz.underlying3
 a3:=Tryz.isAgg3
 z3:=Tryz.sizeOf3
 v3:=Tryz.zeroValue3
 t4:=Tryz.underlying4
 a4:=Tryz.isAgg4
 z4:=Tryz.sizeOf4
 v4:=Tryz.zeroValue4
 t5:=Tryz.underlying5
 a5:=Tryz.isAgg5
 z5:=Tryz.sizeOf5
 v5:=Tryz.zeroValue5
 t9:=Tryz.underlying9
 a9:=Tryz.isAgg9
 z9:=Tryz.sizeOf9
 v9:=Tryz.zeroValue9
 t46:=Tryz.underlying52
 a46:=Tryz.isAgg52
 z46:=Tryz.sizeOf52
 v46:=Tryz.zeroValue52
 t51:=Tryz.underlying86
 a51:=Tryz.isAgg86
 z51:=Tryz.sizeOf86
 v51:=Tryz.zeroValue86
 t146:=Tryz.underlying193
 a146:=Tryz.isAgg193
 z146:=Tryz.sizeOf193
 v146:=Tryz.zeroValue193
 g1:=by kernel_rfl}
open Go.RowKit Go.Lib in
theorem Tryz.stringslite_Index (s sub:ByteArray)(m:Int)(w:World)(b:s.size<4294967281)(a:w.cell? ⟨2,0,none⟩=some (.int .i64 m)) :
  Calls Tryz.prog 165 #[.string s,.string sub] w fun e h=>e=.returned (.int .i64 (Lib.index s.data.toList sub.data.toList))∧h=w:=Any.stringslite_Index Tryz.lays219 s sub m w b a
def Tryz.lays138_ren:Go.Shelf.Ren:=⟨fun | 138=>220 | 195=>221 | 218=>223 | 143=>151 | 219=>165 | 217=>175 | 225=>176 | 224=>177 | 267=>178 | 266=>179 | 314=>180 | n=>n,fun | 9=>9 | 3=>3 | 4=>4 | 5=>5 | 0=>0 | 46=>52 | 146=>193 | 51=>86 | n=>n,fun | 1=>2 | n=>n⟩
theorem Tryz.lays138:Go.Proofs.Lays.n138 Tryz.prog Tryz.lays138_ren:={
 mixed:=by kernel_rfl
 f138:=Tryz.func220.trans (congrArg some (by kernel_rfl))
 f143:=Tryz.func151.trans (congrArg some (by kernel_rfl))
 f195:=Tryz.func221.trans (congrArg some (by kernel_rfl))
 f217:=Tryz.func175.trans (congrArg some (by kernel_rfl))
 f218:=Tryz.func223.trans (congrArg some (by kernel_rfl))
 f219:=Tryz.func165.trans (congrArg some (by kernel_rfl))
 f224:=Tryz.func177.trans (congrArg some (by kernel_rfl))
 f225:=Tryz.func176.trans (congrArg some (by kernel_rfl))
 f266:=Tryz.func179.trans (congrArg some (by kernel_rfl))
 f267:=Tryz.func178.trans (congrArg some (by kernel_rfl))
 f314:=Tryz.func180.trans (congrArg some (by kernel_rfl))
 t0:=Tryz.underlying0
 a0:=Tryz.isAgg0
 z0:=Tryz.sizeOf0
 v0:=Tryz.zeroValue0
 t3:=Tryz.underlying3
 a3:=Tryz.isAgg3
 z3:=Tryz.sizeOf3
 v3:=Tryz.zeroValue3
 t4:=Tryz.underlying4
 a4:=Tryz.isAgg4
 z4:=Tryz.sizeOf4
 v4:=Tryz.zeroValue4
 t5:=Tryz.underlying5
 a5:=Tryz.isAgg5
 z5:=Tryz.sizeOf5
 v5:=Tryz.zeroValue5
 t9:=Tryz.underlying9
 a9:=Tryz.isAgg9
 z9:=Tryz.sizeOf9
 v9:=Tryz.zeroValue9
 t46:=Tryz.underlying52
 a46:=Tryz.isAgg52
 z46:=Tryz.sizeOf52
 v46:=Tryz.zeroValue52
 t51:=Tryz.underlying86
 a51:=Tryz.isAgg86
 z51:=Tryz.sizeOf86
 v51:=Tryz.zeroValue86
 t146:=Tryz.underlying193
 a146:=Tryz.isAgg193
 z146:=Tryz.sizeOf193
 v146:=Tryz.zeroValue193
 g1:=by kernel_rfl}
open Go.RowKit Go.Lib in
theorem Tryz.strings_Count_one (s:ByteArray)(c:UInt8)(w:World) :
  Calls Tryz.prog 220 #[.string s,.string ⟨#[c]⟩] w fun e a=>e=.returned (.int .i64 (Lib.countByte s.data.toList c))∧a=w:=Any.strings_Count_one Tryz.lays138 s c w
def Tryz.lays727_ren:Go.Shelf.Ren:=⟨fun | 27=>33 | 28=>54 | 29=>55 | n=>n,fun | 22=>88 | 25=>52 | 27=>86 | 53=>107 | 54=>108 | n=>n,fun | 0=>0 | 1=>1 | n=>n⟩
theorem Tryz.lays727:Go.Proofs.Lays7.n27 Tryz.prog Tryz.lays727_ren:={
 mixed:=by kernel_rfl
 f27:=Tryz.func33.trans (congrArg some (by kernel_rfl))
 f28:=Tryz.func54.trans (congrArg some (by kernel_rfl))
 f29:=Tryz.func55.trans (congrArg some (by kernel_rfl))
 t0:=Tryz.underlying0
 a0:=Tryz.isAgg0
 z0:=Tryz.sizeOf0
 v0:=Tryz.zeroValue0
 i0:=by kernel_rfl
 t3:=Tryz.underlying3
 a3:=Tryz.isAgg3
 z3:=Tryz.sizeOf3
 v3:=Tryz.zeroValue3
 i3:=by kernel_rfl
 t4:=Tryz.underlying4
 a4:=Tryz.isAgg4
 z4:=Tryz.sizeOf4
 v4:=Tryz.zeroValue4
 i4:=by kernel_rfl
 t5:=Tryz.underlying5
 a5:=Tryz.isAgg5
 z5:=Tryz.sizeOf5
 v5:=Tryz.zeroValue5
 i5:=by kernel_rfl
 t22:=Tryz.underlying88
 a22:=Tryz.isAgg88
 z22:=Tryz.sizeOf88
 v22:=Tryz.zeroValue88
 i22:=by kernel_rfl
 t25:=Tryz.underlying52
 a25:=Tryz.isAgg52
 z25:=Tryz.sizeOf52
 v25:=Tryz.zeroValue52
 i25:=by kernel_rfl
 t27:=Tryz.underlying86
 a27:=Tryz.isAgg86
 z27:=Tryz.sizeOf86
 v27:=Tryz.zeroValue86
 i27:=by kernel_rfl
 t53:=Tryz.underlying107
 a53:=Tryz.isAgg107
 z53:=Tryz.sizeOf107
 v53:=Tryz.zeroValue107
 i53:=by kernel_rfl
 t54:=Tryz.underlying108
 a54:=Tryz.isAgg108
 z54:=Tryz.sizeOf108
 g0:=by kernel_rfl
 g1:=by kernel_rfl}
open Go.RowKit Go.Lib in
theorem Tryz.bits_TrailingZeros (x:Nat)(b:x<18446744073709551616)(w:World)(a:x≠0→TabAt 1 Go.Lib.deBruijn64tab w) :
 Calls Tryz.prog 33 #[.int .u64 x] w fun e h=>e=.returned (.int .i64 (Go.Lib.ctz 64 x))∧h=w:=Any7.bits_TrailingZeros Tryz.lays727 x b w a
end Go.Proofs
namespace Go.Pg
abbrev gG (m:Int):HP:=gx 2 m 1 Lib.deBruijn64tab
end Go.Pg
