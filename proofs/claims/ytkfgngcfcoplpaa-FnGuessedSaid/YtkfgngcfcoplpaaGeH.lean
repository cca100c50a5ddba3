import Derived.Test.YtkfgngcfcoplpaaPg26
import Derived.Test.YtkfgngcfcoplpaaProg
set_option linter.unusedVariables false
namespace Go.Proofs.Ytkfgngcfcoplpaa
open Go Go.Pg
structure Row where
  Key : (List Int)
  Weights : (List Int)
  deriving Inhabited, DecidableEq
structure Lm where
  Size : Int
  Rows : (List Row)
  deriving Inhabited, DecidableEq
structure Choice where
  Power : Int
  Cut : Int
  Mass : Int
  deriving Inhabited, DecidableEq
structure l1Cur where
  b : (List Int)
  i : Int
  h_ : Int
  deriving Inhabited, DecidableEq
structure talker where
  rows : (List Row)
  choice : Choice
  states : (List Int)
  deriving Inhabited, DecidableEq
def str0 : Str := [0, 1, 2, 2, 3, 3, 3, 3, 4, 4, 4, 4, 4, 4, 4, 4, 5, 5, 5, 5, 5, 5, 5, 5, 5, 5, 5, 5, 5, 5, 5, 5, 6, 6, 6, 6, 6, 6, 6, 6, 6, 6, 6, 6, 6, 6, 6, 6, 6, 6, 6, 6, 6, 6, 6, 6, 6, 6, 6, 6, 6, 6, 6, 6, 7, 7, 7, 7, 7, 7, 7, 7, 7, 7, 7, 7, 7, 7, 7, 7, 7, 7, 7, 7, 7, 7, 7, 7, 7, 7, 7, 7, 7, 7, 7, 7, 7, 7, 7, 7, 7, 7, 7, 7, 7, 7, 7, 7, 7, 7, 7, 7, 7, 7, 7, 7, 7, 7, 7, 7, 7, 7, 7, 7, 7, 7, 7, 7, 8, 8, 8, 8, 8, 8, 8, 8, 8, 8, 8, 8, 8, 8, 8, 8, 8, 8, 8, 8, 8, 8, 8, 8, 8, 8, 8, 8, 8, 8, 8, 8, 8, 8, 8, 8, 8, 8, 8, 8, 8, 8, 8, 8, 8, 8, 8, 8, 8, 8, 8, 8, 8, 8, 8, 8, 8, 8, 8, 8, 8, 8, 8, 8, 8, 8, 8, 8, 8, 8, 8, 8, 8, 8, 8, 8, 8, 8, 8, 8, 8, 8, 8, 8, 8, 8, 8, 8, 8, 8, 8, 8, 8, 8, 8, 8, 8, 8, 8, 8, 8, 8, 8, 8, 8, 8, 8, 8, 8, 8, 8, 8, 8, 8, 8, 8, 8, 8, 8, 8, 8, 8, 8, 8, 8, 8, 8, 8]
theorem mixo : Try.prog.follows .mixedOrders = true := by kernel_rfl
abbrev kT5 : Kind Int := Kind.int .u8
def dT5 : DecK kT5 := DecK.scal _ _
abbrev kT3 : Kind Int := Kind.int .i64
def mS3 : MkS kT3 := MkS.scal _ _
def mO3 : MkO kT3 := MkO.scal _ _
def zT3 : Zr kT3 := Zr.scal _ _ 0
theorem cT3 : kT3.Closed := Kind.scal_closed _ _
abbrev kT29 : Kind (List Int) := Kind.sl 3 kT3
def dT29 : DecK kT29 := DecK.sl 3 kT3
def mS29 : MkS kT29 := MkS.sl 3 kT3
def mO29 : MkO kT29 := MkO.sl 3 kT3
def zT29 : Zr kT29 := Zr.sl 3 kT3
abbrev kT33 : Kind Row := Kind.iso (Kind.pair kT29 kT29) (fun x : Row => (x.Key, x.Weights))
def dT33 : DecK kT33 := DecK.iso (DecK.pair dT29 dT29) _
def mS33 : MkS kT33 := MkS.iso (MkS.pair mS29 mS29) _
def mO33 : MkO kT33 := MkO.iso (MkO.pair mO29 mO29) _
def zT33 : Zr kT33 := Zr.iso (Zr.pair zT29 zT29) _ ⟨zT29.z, zT29.z⟩ rfl
abbrev kT4 : Kind Bool := Kind.bool
def dT4 : DecK kT4 := DecK.scal _ _
def mO4 : MkO kT4 := MkO.scal _ _
def zT4 : Zr kT4 := Zr.scal _ _ false
theorem sl22 : slB Try.prog 22 = some 5 := by kernel_rfl
theorem cb5 : callB Try.prog 5 = true := by kernel_rfl
theorem zc26 : zcB Try.prog 26 = some [(iv 0), (.slice none 0 0)] := by kernel_rfl
theorem zc28 : zcB Try.prog 28 = some [(iv 0), (iv 0), (iv 0)] := by kernel_rfl
theorem sz5 : szB Try.prog 5 = some 1 := by kernel_rfl
theorem ag5 : aggB Try.prog 5 = some false := by kernel_rfl
theorem un5 : Try.prog.underlying 5 = some (.int .u8) := by kernel_rfl
theorem un3 : Try.prog.underlying 3 = some (.int .i64) := by kernel_rfl
theorem pl72 : placesB Try.prog 72 = some [(0, 1), (1, 1), (2, 1)] := by kernel_rfl
theorem zc72 : zcB Try.prog 72 = some [(.slice none 0 0), (iv 0), (iv 0)] := by kernel_rfl
theorem cb20 : callB Try.prog 20 = true := by kernel_rfl
theorem fo72_2 : fieldB Try.prog 72 2 = some 2 := by kernel_rfl
theorem ag3 : aggB Try.prog 3 = some false := by kernel_rfl
theorem sz3 : szB Try.prog 3 = some 1 := by kernel_rfl
theorem fo72_1 : fieldB Try.prog 72 1 = some 1 := by kernel_rfl
theorem fo72_0 : fieldB Try.prog 72 0 = some 0 := by kernel_rfl
theorem ag22 : aggB Try.prog 22 = some false := by kernel_rfl
theorem cb48 : callB Try.prog 48 = true := by kernel_rfl
theorem cb21 : callB Try.prog 21 = true := by kernel_rfl
theorem pl33 : placesB Try.prog 33 = some [(0, 1), (1, 1)] := by kernel_rfl
theorem zc33 : zcB Try.prog 33 = some [(.slice none 0 0), (.slice none 0 0)] := by kernel_rfl
theorem sl24 : slB Try.prog 24 = some 33 := by kernel_rfl
theorem sz33 : szB Try.prog 33 = some 2 := by kernel_rfl
theorem pl26 : placesB Try.prog 26 = some [(0, 1), (1, 1)] := by kernel_rfl
theorem sz26 : szB Try.prog 26 = some 2 := by kernel_rfl
theorem fo26_1 : fieldB Try.prog 26 1 = some 1 := by kernel_rfl
theorem ag24 : aggB Try.prog 24 = some false := by kernel_rfl
theorem sl29 : slB Try.prog 29 = some 3 := by kernel_rfl
theorem zc3 : zcB Try.prog 3 = some [(iv 0)] := by kernel_rfl
theorem by3 : bytesB Try.prog 3 = some 8 := by kernel_rfl
theorem by33 : bytesB Try.prog 33 = some 48 := by kernel_rfl
theorem sz24 : szB Try.prog 24 = some 1 := by kernel_rfl
theorem cb25 : callB Try.prog 25 = true := by kernel_rfl
theorem cb49 : callB Try.prog 49 = true := by kernel_rfl
theorem fo33_1 : fieldB Try.prog 33 1 = some 1 := by kernel_rfl
theorem sz29 : szB Try.prog 29 = some 1 := by kernel_rfl
theorem fo33_0 : fieldB Try.prog 33 0 = some 0 := by kernel_rfl
theorem ag29 : aggB Try.prog 29 = some false := by kernel_rfl
theorem cb50 : callB Try.prog 50 = true := by kernel_rfl
theorem cb23 : callB Try.prog 23 = true := by kernel_rfl
theorem ag33 : aggB Try.prog 33 = some true := by kernel_rfl
theorem fo26_0 : fieldB Try.prog 26 0 = some 0 := by kernel_rfl
theorem ag26 : aggB Try.prog 26 = some true := by kernel_rfl
theorem cb22 : callB Try.prog 22 = true := by kernel_rfl
theorem pl28 : placesB Try.prog 28 = some [(0, 1), (1, 1), (2, 1)] := by kernel_rfl
theorem sz28 : szB Try.prog 28 = some 3 := by kernel_rfl
theorem fo28_2 : fieldB Try.prog 28 2 = some 2 := by kernel_rfl
theorem fo28_0 : fieldB Try.prog 28 0 = some 0 := by kernel_rfl
theorem fo28_1 : fieldB Try.prog 28 1 = some 1 := by kernel_rfl
theorem ag28 : aggB Try.prog 28 = some true := by kernel_rfl
theorem cb24 : callB Try.prog 24 = true := by kernel_rfl
theorem cb26 : callB Try.prog 26 = true := by kernel_rfl
theorem cb6 : callB Try.prog 6 = true := by kernel_rfl
theorem cb31 : callB Try.prog 31 = true := by kernel_rfl
theorem cb71 : callB Try.prog 71 = true := by kernel_rfl
theorem un92 : Try.prog.underlying 92 = some (.int .u64) := by kernel_rfl
theorem un118 : Try.prog.underlying 118 = some (.int .u64) := by kernel_rfl
theorem un9 : Try.prog.underlying 9 = some .string := by kernel_rfl
theorem cb100 : callB Try.prog 100 = true := by kernel_rfl
theorem cb88 : callB Try.prog 88 = true := by kernel_rfl
theorem cb75 : callB Try.prog 75 = true := by kernel_rfl
theorem cb76 : callB Try.prog 76 = true := by kernel_rfl
theorem cb74 : callB Try.prog 74 = true := by kernel_rfl
theorem cb54 : callB Try.prog 54 = true := by kernel_rfl
theorem cb73 : callB Try.prog 73 = true := by kernel_rfl
theorem cb91 : callB Try.prog 91 = true := by kernel_rfl
theorem cb102 : callB Try.prog 102 = true := by kernel_rfl
theorem cb92 : callB Try.prog 92 = true := by kernel_rfl
theorem cb109 : callB Try.prog 109 = true := by kernel_rfl
theorem cb106 : callB Try.prog 106 = true := by kernel_rfl
theorem cb105 : callB Try.prog 105 = true := by kernel_rfl
theorem cb94 : callB Try.prog 94 = true := by kernel_rfl
theorem cb95 : callB Try.prog 95 = true := by kernel_rfl
theorem cb96 : callB Try.prog 96 = true := by kernel_rfl
theorem cb97 : callB Try.prog 97 = true := by kernel_rfl
theorem cb98 : callB Try.prog 98 = true := by kernel_rfl
theorem cb86 : callB Try.prog 86 = true := by kernel_rfl
theorem un120 : Try.prog.underlying 120 = some (.int .u64) := by kernel_rfl
theorem zc120 : zcB Try.prog 120 = some [(.int .u64 (0 : Int))] := by kernel_rfl
theorem sz120 : szB Try.prog 120 = some 1 := by kernel_rfl
theorem cb87 : callB Try.prog 87 = true := by kernel_rfl
theorem cb103 : callB Try.prog 103 = true := by kernel_rfl
theorem ag120 : aggB Try.prog 120 = some false := by kernel_rfl
theorem cb104 : callB Try.prog 104 = true := by kernel_rfl
theorem cb93 : callB Try.prog 93 = true := by kernel_rfl
theorem cb72 : callB Try.prog 72 = true := by kernel_rfl
theorem cb52 : callB Try.prog 52 = true := by kernel_rfl
theorem cb51 : callB Try.prog 51 = true := by kernel_rfl
theorem cb53 : callB Try.prog 53 = true := by kernel_rfl
theorem cb30 : callB Try.prog 30 = true := by kernel_rfl
theorem cb27 : callB Try.prog 27 = true := by kernel_rfl
theorem cb28 : callB Try.prog 28 = true := by kernel_rfl
theorem cb29 : callB Try.prog 29 = true := by kernel_rfl
theorem pl79 : placesB Try.prog 79 = some [(0, 1), (1, 3), (4, 1)] := by kernel_rfl
theorem zc79 : zcB Try.prog 79 = some [(.slice none 0 0), (iv 0), (iv 0), (iv 0), (.slice none 0 0)] := by kernel_rfl
theorem fo79_2 : fieldB Try.prog 79 2 = some 4 := by kernel_rfl
theorem cb55 : callB Try.prog 55 = true := by kernel_rfl
theorem cb32 : callB Try.prog 32 = true := by kernel_rfl
theorem zc29 : zcB Try.prog 29 = some [(.slice none 0 0)] := by kernel_rfl
theorem cb33 : callB Try.prog 33 = true := by kernel_rfl
theorem cb34 : callB Try.prog 34 = true := by kernel_rfl
theorem fo79_1 : fieldB Try.prog 79 1 = some 1 := by kernel_rfl
theorem fo79_0 : fieldB Try.prog 79 0 = some 0 := by kernel_rfl
theorem cb82 : callB Try.prog 82 = true := by kernel_rfl
theorem cb81 : callB Try.prog 81 = true := by kernel_rfl
theorem cb78 : callB Try.prog 78 = true := by kernel_rfl
theorem cb77 : callB Try.prog 77 = true := by kernel_rfl
theorem ag97 : aggB Try.prog 97 = some false := by kernel_rfl
theorem cb80 : callB Try.prog 80 = true := by kernel_rfl
theorem cb90 : callB Try.prog 90 = true := by kernel_rfl
theorem cb107 : callB Try.prog 107 = true := by kernel_rfl
theorem cb111 : callB Try.prog 111 = true := by kernel_rfl
theorem cb110 : callB Try.prog 110 = true := by kernel_rfl
theorem cb108 : callB Try.prog 108 = true := by kernel_rfl
theorem cb101 : callB Try.prog 101 = true := by kernel_rfl
theorem cb89 : callB Try.prog 89 = true := by kernel_rfl
theorem cb79 : callB Try.prog 79 = true := by kernel_rfl
theorem cb57 : callB Try.prog 57 = true := by kernel_rfl
theorem cb56 : callB Try.prog 56 = true := by kernel_rfl
theorem cb58 : callB Try.prog 58 = true := by kernel_rfl
theorem cb59 : callB Try.prog 59 = true := by kernel_rfl
theorem cb35 : callB Try.prog 35 = true := by kernel_rfl
theorem cb7 : callB Try.prog 7 = true := by kernel_rfl
theorem cb8 : callB Try.prog 8 = true := by kernel_rfl
theorem cb40 : callB Try.prog 40 = true := by kernel_rfl
theorem cb66 : callB Try.prog 66 = true := by kernel_rfl
theorem cb60 : callB Try.prog 60 = true := by kernel_rfl
theorem cb61 : callB Try.prog 61 = true := by kernel_rfl
theorem cb39 : callB Try.prog 39 = true := by kernel_rfl
theorem cb36 : callB Try.prog 36 = true := by kernel_rfl
theorem cb37 : callB Try.prog 37 = true := by kernel_rfl
theorem cb38 : callB Try.prog 38 = true := by kernel_rfl
theorem cb42 : callB Try.prog 42 = true := by kernel_rfl
theorem cb62 : callB Try.prog 62 = true := by kernel_rfl
theorem cb84 : callB Try.prog 84 = true := by kernel_rfl
theorem sl103 : slB Try.prog 103 = some 4 := by kernel_rfl
theorem sz4 : szB Try.prog 4 = some 1 := by kernel_rfl
theorem by4 : bytesB Try.prog 4 = some 1 := by kernel_rfl
theorem zc4 : zcB Try.prog 4 = some [(.bool false)] := by kernel_rfl
theorem ag4 : aggB Try.prog 4 = some false := by kernel_rfl
theorem cb83 : callB Try.prog 83 = true := by kernel_rfl
theorem cb64 : callB Try.prog 64 = true := by kernel_rfl
theorem cb63 : callB Try.prog 63 = true := by kernel_rfl
theorem cb65 : callB Try.prog 65 = true := by kernel_rfl
theorem cb67 : callB Try.prog 67 = true := by kernel_rfl
theorem cb43 : callB Try.prog 43 = true := by kernel_rfl
theorem cb41 : callB Try.prog 41 = true := by kernel_rfl
theorem cb9 : callB Try.prog 9 = true := by kernel_rfl
theorem cb10 : callB Try.prog 10 = true := by kernel_rfl
end Go.Proofs.Ytkfgngcfcoplpaa
