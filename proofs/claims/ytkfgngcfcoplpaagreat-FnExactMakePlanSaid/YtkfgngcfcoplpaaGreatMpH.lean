import Derived.Test.YtkfgngcfcoplpaaGreatPg25
import Derived.Test.YtkfgngcfcoplpaaGreatProg
set_option linter.unusedVariables false
namespace Go.Proofs.YtkfgngcfcoplpaaGreat
open Go Go.Pg
structure Fix where
  Buffer : Int
  Data : (List Int)
  deriving Inhabited, DecidableEq
structure Access where
  Buffer : Int
  Offset : Int
  Steps : (List Int)
  deriving Inhabited, DecidableEq
structure Calc where
  Op : Int
  A : Int
  B : Int
  deriving Inhabited, DecidableEq
structure Kernel where
  Loops : (List Int)
  Loads : (List Access)
  Store : Access
  Sum : Bool
  Code : (List Calc)
  deriving Inhabited, DecidableEq
structure Nest where
  Sizes : (List Int)
  Ins : (List Int)
  Fixed : (List Fix)
  Kernels : (List Kernel)
  Outs : (List Int)
  deriving Inhabited, DecidableEq
structure Plan where
  Nest : Nest
  Offsets : (List Int)
  Arena : Int
  deriving Inhabited, DecidableEq
structure Life where
  Buffer : Int
  Size : Int
  From : Int
  To : Int
  deriving Inhabited, DecidableEq
structure hole where
  from_ : Int
  to : Int
  deriving Inhabited, DecidableEq
theorem mixo : Tryz.prog.follows .mixedOrders = true := by kernel_rfl
abbrev kT3 : Kind Int := Kind.int .i64
def dT3 : DecK kT3 := DecK.scal _ _
def mS3 : MkS kT3 := MkS.scal _ _
def mO3 : MkO kT3 := MkO.scal _ _
def sP3 : SpO kT3 := SpO.scal _ _
def zT3 : Zr kT3 := Zr.scal _ _ 0
theorem cT3 : kT3.Closed := Kind.scal_closed _ _
abbrev kT22 : Kind (List Int) := Kind.sl 3 kT3
def dT22 : DecK kT22 := DecK.sl 3 kT3
def mS22 : MkS kT22 := MkS.sl 3 kT3
def mO22 : MkO kT22 := MkO.sl 3 kT3
def sP22 : SpO kT22 := SpO.sl 3 kT3
def zT22 : Zr kT22 := Zr.sl 3 kT3
theorem cT22 : kT22.Closed := Kind.sl_closed cT3 3
abbrev kT115 : Kind Fix := Kind.iso (Kind.pair kT3 kT22) (fun x : Fix => (x.Buffer, x.Data))
def dT115 : DecK kT115 := DecK.iso (DecK.pair dT3 dT22) _
abbrev kT118 : Kind Access := Kind.iso (Kind.pair kT3 (Kind.pair kT3 kT22)) (fun x : Access => (x.Buffer, x.Offset, x.Steps))
def dT118 : DecK kT118 := DecK.iso (DecK.pair dT3 (DecK.pair dT3 dT22)) _
abbrev kT117 : Kind (List Access) := Kind.sl 118 kT118
def dT117 : DecK kT117 := DecK.sl 118 kT118
abbrev kT4 : Kind Bool := Kind.bool
def dT4 : DecK kT4 := DecK.scal _ _
def mO4 : MkO kT4 := MkO.scal _ _
def sP4 : SpO kT4 := SpO.scal _ _
def zT4 : Zr kT4 := Zr.scal _ _ false
theorem cT4 : kT4.Closed := Kind.scal_closed _ _
abbrev kT187 : Kind Calc := Kind.iso (Kind.pair kT3 (Kind.pair kT3 kT3)) (fun x : Calc => (x.Op, x.A, x.B))
def dT187 : DecK kT187 := DecK.iso (DecK.pair dT3 (DecK.pair dT3 dT3)) _
abbrev kT119 : Kind (List Calc) := Kind.sl 187 kT187
def dT119 : DecK kT119 := DecK.sl 187 kT187
abbrev kT121 : Kind Kernel := Kind.iso (Kind.pair kT22 (Kind.pair kT117 (Kind.pair kT118 (Kind.pair kT4 kT119)))) (fun x : Kernel => (x.Loops, x.Loads, x.Store, x.Sum, x.Code))
def dT121 : DecK kT121 := DecK.iso (DecK.pair dT22 (DecK.pair dT117 (DecK.pair dT118 (DecK.pair dT4 dT119)))) _
abbrev kT57 : Kind Fix := Kind.iso (Kind.pair kT3 kT22) (fun x : Fix => (x.Buffer, x.Data))
def dT57 : DecK kT57 := DecK.iso (DecK.pair dT3 dT22) _
def mO57 : MkO kT57 := MkO.iso (MkO.pair mO3 mO22) _
def sP57 : SpO kT57 := SpO.iso (SpO.pair sP3 sP22) _
def zT57 : Zr kT57 := Zr.iso (Zr.pair zT3 zT22) _ ⟨zT3.z, zT22.z⟩ rfl
theorem cT57 : kT57.Closed := Kind.iso_closed (Kind.pair_closed cT3 cT22) _
abbrev kT61 : Kind Access := Kind.iso (Kind.pair kT3 (Kind.pair kT3 kT22)) (fun x : Access => (x.Buffer, x.Offset, x.Steps))
def dT61 : DecK kT61 := DecK.iso (DecK.pair dT3 (DecK.pair dT3 dT22)) _
def mS61 : MkS kT61 := MkS.iso (MkS.pair mS3 (MkS.pair mS3 mS22)) _
def mO61 : MkO kT61 := MkO.iso (MkO.pair mO3 (MkO.pair mO3 mO22)) _
def sP61 : SpO kT61 := SpO.iso (SpO.pair sP3 (SpO.pair sP3 sP22)) _
def zT61 : Zr kT61 := Zr.iso (Zr.pair zT3 (Zr.pair zT3 zT22)) _ ⟨zT3.z, zT3.z, zT22.z⟩ rfl
theorem cT61 : kT61.Closed := Kind.iso_closed (Kind.pair_closed cT3 (Kind.pair_closed cT3 cT22)) _
abbrev kT59 : Kind (List Access) := Kind.sl 61 kT61
def dT59 : DecK kT59 := DecK.sl 61 kT61
def mO59 : MkO kT59 := MkO.sl 61 kT61
def sP59 : SpO kT59 := SpO.sl 61 kT61
def zT59 : Zr kT59 := Zr.sl 61 kT61
theorem cT59 : kT59.Closed := Kind.sl_closed cT61 61
abbrev kT101 : Kind Calc := Kind.iso (Kind.pair kT3 (Kind.pair kT3 kT3)) (fun x : Calc => (x.Op, x.A, x.B))
def dT101 : DecK kT101 := DecK.iso (DecK.pair dT3 (DecK.pair dT3 dT3)) _
def mO101 : MkO kT101 := MkO.iso (MkO.pair mO3 (MkO.pair mO3 mO3)) _
def sP101 : SpO kT101 := SpO.iso (SpO.pair sP3 (SpO.pair sP3 sP3)) _
def zT101 : Zr kT101 := Zr.iso (Zr.pair zT3 (Zr.pair zT3 zT3)) _ ⟨zT3.z, zT3.z, zT3.z⟩ rfl
theorem cT101 : kT101.Closed := Kind.iso_closed (Kind.pair_closed cT3 (Kind.pair_closed cT3 cT3)) _
abbrev kT62 : Kind (List Calc) := Kind.sl 101 kT101
def dT62 : DecK kT62 := DecK.sl 101 kT101
def mO62 : MkO kT62 := MkO.sl 101 kT101
def sP62 : SpO kT62 := SpO.sl 101 kT101
def zT62 : Zr kT62 := Zr.sl 101 kT101
theorem cT62 : kT62.Closed := Kind.sl_closed cT101 101
abbrev kT64 : Kind Kernel := Kind.iso (Kind.pair kT22 (Kind.pair kT59 (Kind.pair kT61 (Kind.pair kT4 kT62)))) (fun x : Kernel => (x.Loops, x.Loads, x.Store, x.Sum, x.Code))
def dT64 : DecK kT64 := DecK.iso (DecK.pair dT22 (DecK.pair dT59 (DecK.pair dT61 (DecK.pair dT4 dT62)))) _
def mO64 : MkO kT64 := MkO.iso (MkO.pair mO22 (MkO.pair mO59 (MkO.pair mO61 (MkO.pair mO4 mO62)))) _
def sP64 : SpO kT64 := SpO.iso (SpO.pair sP22 (SpO.pair sP59 (SpO.pair sP61 (SpO.pair sP4 sP62)))) _
def zT64 : Zr kT64 := Zr.iso (Zr.pair zT22 (Zr.pair zT59 (Zr.pair zT61 (Zr.pair zT4 zT62)))) _ ⟨zT22.z, zT59.z, zT61.z, zT4.z, zT62.z⟩ rfl
theorem cT64 : kT64.Closed := Kind.iso_closed (Kind.pair_closed cT22 (Kind.pair_closed cT59 (Kind.pair_closed cT61 (Kind.pair_closed cT4 cT62)))) _
abbrev kT88 : Kind Life := Kind.iso (Kind.pair kT3 (Kind.pair kT3 (Kind.pair kT3 kT3))) (fun x : Life => (x.Buffer, x.Size, x.From, x.To))
def dT88 : DecK kT88 := DecK.iso (DecK.pair dT3 (DecK.pair dT3 (DecK.pair dT3 dT3))) _
def mO88 : MkO kT88 := MkO.iso (MkO.pair mO3 (MkO.pair mO3 (MkO.pair mO3 mO3))) _
def zT88 : Zr kT88 := Zr.iso (Zr.pair zT3 (Zr.pair zT3 (Zr.pair zT3 zT3))) _ ⟨zT3.z, zT3.z, zT3.z, zT3.z⟩ rfl
abbrev kT136 : Kind hole := Kind.iso (Kind.pair kT3 kT3) (fun x : hole => (x.from_, x.to))
def dT136 : DecK kT136 := DecK.iso (DecK.pair dT3 dT3) _
def mO136 : MkO kT136 := MkO.iso (MkO.pair mO3 mO3) _
def zT136 : Zr kT136 := Zr.iso (Zr.pair zT3 zT3) _ ⟨zT3.z, zT3.z⟩ rfl
theorem ag26 : aggB Tryz.prog 26 = some true := by kernel_rfl
theorem sz26 : szB Tryz.prog 26 = some 5 := by kernel_rfl
theorem fo26_0 : fieldB Tryz.prog 26 0 = some 0 := by kernel_rfl
theorem ag22 : aggB Tryz.prog 22 = some false := by kernel_rfl
theorem sl22 : slB Tryz.prog 22 = some 3 := by kernel_rfl
theorem cb23 : callB Tryz.prog 23 = true := by kernel_rfl
theorem fo26_1 : fieldB Tryz.prog 26 1 = some 1 := by kernel_rfl
theorem fo26_2 : fieldB Tryz.prog 26 2 = some 2 := by kernel_rfl
theorem ag23 : aggB Tryz.prog 23 = some false := by kernel_rfl
theorem sl23 : slB Tryz.prog 23 = some 115 := by kernel_rfl
theorem sz115 : szB Tryz.prog 115 = some 2 := by kernel_rfl
theorem ag115 : aggB Tryz.prog 115 = some true := by kernel_rfl
theorem fo115_1 : fieldB Tryz.prog 115 1 = some 1 := by kernel_rfl
theorem cb84 : callB Tryz.prog 84 = true := by kernel_rfl
theorem cb47 : callB Tryz.prog 47 = true := by kernel_rfl
theorem fo26_3 : fieldB Tryz.prog 26 3 = some 3 := by kernel_rfl
theorem ag24 : aggB Tryz.prog 24 = some false := by kernel_rfl
theorem sl24 : slB Tryz.prog 24 = some 121 := by kernel_rfl
theorem sz121 : szB Tryz.prog 121 = some 7 := by kernel_rfl
theorem ag121 : aggB Tryz.prog 121 = some true := by kernel_rfl
theorem fo121_0 : fieldB Tryz.prog 121 0 = some 0 := by kernel_rfl
theorem fo121_1 : fieldB Tryz.prog 121 1 = some 1 := by kernel_rfl
theorem ag117 : aggB Tryz.prog 117 = some false := by kernel_rfl
theorem sl117 : slB Tryz.prog 117 = some 118 := by kernel_rfl
theorem sz118 : szB Tryz.prog 118 = some 3 := by kernel_rfl
theorem ag118 : aggB Tryz.prog 118 = some true := by kernel_rfl
theorem fo118_2 : fieldB Tryz.prog 118 2 = some 2 := by kernel_rfl
theorem cb135 : callB Tryz.prog 135 = true := by kernel_rfl
theorem cb134 : callB Tryz.prog 134 = true := by kernel_rfl
theorem fo121_2 : fieldB Tryz.prog 121 2 = some 2 := by kernel_rfl
theorem fo121_4 : fieldB Tryz.prog 121 4 = some 6 := by kernel_rfl
theorem ag119 : aggB Tryz.prog 119 = some false := by kernel_rfl
theorem sl119 : slB Tryz.prog 119 = some 187 := by kernel_rfl
theorem cb136 : callB Tryz.prog 136 = true := by kernel_rfl
theorem cb85 : callB Tryz.prog 85 = true := by kernel_rfl
theorem cb48 : callB Tryz.prog 48 = true := by kernel_rfl
theorem fo26_4 : fieldB Tryz.prog 26 4 = some 4 := by kernel_rfl
theorem cb16 : callB Tryz.prog 16 = true := by kernel_rfl
theorem zc36 : zcB Tryz.prog 36 = some [(.slice none 0 0), (.slice none 0 0), (.slice none 0 0), (.slice none 0 0), (.slice none 0 0)] := by kernel_rfl
theorem sz3 : szB Tryz.prog 3 = some 1 := by kernel_rfl
theorem by3 : bytesB Tryz.prog 3 = some 8 := by kernel_rfl
theorem zc3 : zcB Tryz.prog 3 = some [(iv 0)] := by kernel_rfl
theorem ag3 : aggB Tryz.prog 3 = some false := by kernel_rfl
theorem fo36_0 : fieldB Tryz.prog 36 0 = some 0 := by kernel_rfl
theorem sz22 : szB Tryz.prog 22 = some 1 := by kernel_rfl
theorem cb35 : callB Tryz.prog 35 = true := by kernel_rfl
theorem fo36_1 : fieldB Tryz.prog 36 1 = some 1 := by kernel_rfl
theorem sl33 : slB Tryz.prog 33 = some 57 := by kernel_rfl
theorem sz57 : szB Tryz.prog 57 = some 2 := by kernel_rfl
theorem by57 : bytesB Tryz.prog 57 = some 32 := by kernel_rfl
theorem zc57 : zcB Tryz.prog 57 = some [(iv 0), (.slice none 0 0)] := by kernel_rfl
theorem fo115_0 : fieldB Tryz.prog 115 0 = some 0 := by kernel_rfl
theorem fo57_0 : fieldB Tryz.prog 57 0 = some 0 := by kernel_rfl
theorem fo57_1 : fieldB Tryz.prog 57 1 = some 1 := by kernel_rfl
theorem ag57 : aggB Tryz.prog 57 = some true := by kernel_rfl
theorem cb93 : callB Tryz.prog 93 = true := by kernel_rfl
theorem fo36_2 : fieldB Tryz.prog 36 2 = some 2 := by kernel_rfl
theorem sz33 : szB Tryz.prog 33 = some 1 := by kernel_rfl
theorem cb53 : callB Tryz.prog 53 = true := by kernel_rfl
theorem sl34 : slB Tryz.prog 34 = some 64 := by kernel_rfl
theorem sz64 : szB Tryz.prog 64 = some 7 := by kernel_rfl
theorem by64 : bytesB Tryz.prog 64 = some 120 := by kernel_rfl
theorem zc64 : zcB Tryz.prog 64 = some [(.slice none 0 0), (.slice none 0 0), (iv 0), (iv 0), (.slice none 0 0), (.bool false), (.slice none 0 0)] := by kernel_rfl
theorem fo64_0 : fieldB Tryz.prog 64 0 = some 0 := by kernel_rfl
theorem sl59 : slB Tryz.prog 59 = some 61 := by kernel_rfl
theorem sz61 : szB Tryz.prog 61 = some 3 := by kernel_rfl
theorem by61 : bytesB Tryz.prog 61 = some 40 := by kernel_rfl
theorem zc61 : zcB Tryz.prog 61 = some [(iv 0), (iv 0), (.slice none 0 0)] := by kernel_rfl
theorem fo118_0 : fieldB Tryz.prog 118 0 = some 0 := by kernel_rfl
theorem fo61_0 : fieldB Tryz.prog 61 0 = some 0 := by kernel_rfl
theorem fo118_1 : fieldB Tryz.prog 118 1 = some 1 := by kernel_rfl
theorem fo61_1 : fieldB Tryz.prog 61 1 = some 1 := by kernel_rfl
theorem fo61_2 : fieldB Tryz.prog 61 2 = some 2 := by kernel_rfl
theorem ag61 : aggB Tryz.prog 61 = some true := by kernel_rfl
theorem cb141 : callB Tryz.prog 141 = true := by kernel_rfl
theorem fo64_1 : fieldB Tryz.prog 64 1 = some 1 := by kernel_rfl
theorem sz59 : szB Tryz.prog 59 = some 1 := by kernel_rfl
theorem cb140 : callB Tryz.prog 140 = true := by kernel_rfl
theorem fo64_2 : fieldB Tryz.prog 64 2 = some 2 := by kernel_rfl
theorem fo121_3 : fieldB Tryz.prog 121 3 = some 5 := by kernel_rfl
theorem ag4 : aggB Tryz.prog 4 = some false := by kernel_rfl
theorem fo64_3 : fieldB Tryz.prog 64 3 = some 5 := by kernel_rfl
theorem sz4 : szB Tryz.prog 4 = some 1 := by kernel_rfl
theorem sl62 : slB Tryz.prog 62 = some 101 := by kernel_rfl
theorem sz101 : szB Tryz.prog 101 = some 3 := by kernel_rfl
theorem by101 : bytesB Tryz.prog 101 = some 24 := by kernel_rfl
theorem zc101 : zcB Tryz.prog 101 = some [(iv 0), (iv 0), (iv 0)] := by kernel_rfl
theorem sz187 : szB Tryz.prog 187 = some 3 := by kernel_rfl
theorem ag187 : aggB Tryz.prog 187 = some true := by kernel_rfl
theorem fo187_0 : fieldB Tryz.prog 187 0 = some 0 := by kernel_rfl
theorem fo101_0 : fieldB Tryz.prog 101 0 = some 0 := by kernel_rfl
theorem fo187_1 : fieldB Tryz.prog 187 1 = some 1 := by kernel_rfl
theorem fo101_1 : fieldB Tryz.prog 101 1 = some 1 := by kernel_rfl
theorem fo187_2 : fieldB Tryz.prog 187 2 = some 2 := by kernel_rfl
theorem fo101_2 : fieldB Tryz.prog 101 2 = some 2 := by kernel_rfl
theorem ag101 : aggB Tryz.prog 101 = some true := by kernel_rfl
theorem cb170 : callB Tryz.prog 170 = true := by kernel_rfl
theorem fo64_4 : fieldB Tryz.prog 64 4 = some 6 := by kernel_rfl
theorem sz62 : szB Tryz.prog 62 = some 1 := by kernel_rfl
theorem cb142 : callB Tryz.prog 142 = true := by kernel_rfl
theorem ag64 : aggB Tryz.prog 64 = some true := by kernel_rfl
theorem cb94 : callB Tryz.prog 94 = true := by kernel_rfl
theorem fo36_3 : fieldB Tryz.prog 36 3 = some 3 := by kernel_rfl
theorem sz34 : szB Tryz.prog 34 = some 1 := by kernel_rfl
theorem cb54 : callB Tryz.prog 54 = true := by kernel_rfl
theorem fo36_4 : fieldB Tryz.prog 36 4 = some 4 := by kernel_rfl
theorem ag36 : aggB Tryz.prog 36 = some true := by kernel_rfl
theorem sz36 : szB Tryz.prog 36 = some 5 := by kernel_rfl
theorem zc38 : zcB Tryz.prog 38 = some [(.slice none 0 0), (.slice none 0 0), (.slice none 0 0), (.slice none 0 0), (.slice none 0 0), (.slice none 0 0), (iv 0)] := by kernel_rfl
theorem ag34 : aggB Tryz.prog 34 = some false := by kernel_rfl
theorem cb86 : callB Tryz.prog 86 = true := by kernel_rfl
theorem cb87 : callB Tryz.prog 87 = true := by kernel_rfl
theorem ag33 : aggB Tryz.prog 33 = some false := by kernel_rfl
theorem cb25 : callB Tryz.prog 25 = true := by kernel_rfl
theorem ag59 : aggB Tryz.prog 59 = some false := by kernel_rfl
theorem ag62 : aggB Tryz.prog 62 = some false := by kernel_rfl
theorem cb28 : callB Tryz.prog 28 = true := by kernel_rfl
theorem cb137 : callB Tryz.prog 137 = true := by kernel_rfl
theorem cb138 : callB Tryz.prog 138 = true := by kernel_rfl
theorem cb88 : callB Tryz.prog 88 = true := by kernel_rfl
theorem cb49 : callB Tryz.prog 49 = true := by kernel_rfl
theorem pl38 : placesB Tryz.prog 38 = some [(0, 5), (5, 1), (6, 1)] := by kernel_rfl
theorem sz38 : szB Tryz.prog 38 = some 7 := by kernel_rfl
theorem pl36 : placesB Tryz.prog 36 = some [(0, 1), (1, 1), (2, 1), (3, 1), (4, 1)] := by kernel_rfl
theorem cb34 : callB Tryz.prog 34 = true := by kernel_rfl
theorem pl57 : placesB Tryz.prog 57 = some [(0, 1), (1, 1)] := by kernel_rfl
theorem pl61 : placesB Tryz.prog 61 = some [(0, 1), (1, 1), (2, 1)] := by kernel_rfl
theorem pl64 : placesB Tryz.prog 64 = some [(0, 1), (1, 1), (2, 3), (5, 1), (6, 1)] := by kernel_rfl
theorem cb89 : callB Tryz.prog 89 = true := by kernel_rfl
theorem cb50 : callB Tryz.prog 50 = true := by kernel_rfl
theorem fo38_1 : fieldB Tryz.prog 38 1 = some 5 := by kernel_rfl
theorem sl83 : slB Tryz.prog 83 = some 88 := by kernel_rfl
theorem sz88 : szB Tryz.prog 88 = some 4 := by kernel_rfl
theorem zc88 : zcB Tryz.prog 88 = some [(iv 0), (iv 0), (iv 0), (iv 0)] := by kernel_rfl
theorem pl88 : placesB Tryz.prog 88 = some [(0, 1), (1, 1), (2, 1), (3, 1)] := by kernel_rfl
theorem cb163 : callB Tryz.prog 163 = true := by kernel_rfl
theorem cb118 : callB Tryz.prog 118 = true := by kernel_rfl
theorem fo88_3 : fieldB Tryz.prog 88 3 = some 3 := by kernel_rfl
theorem cb67 : callB Tryz.prog 67 = true := by kernel_rfl
theorem fo88_2 : fieldB Tryz.prog 88 2 = some 2 := by kernel_rfl
theorem ag88 : aggB Tryz.prog 88 = some true := by kernel_rfl
theorem fo88_1 : fieldB Tryz.prog 88 1 = some 1 := by kernel_rfl
theorem cb65 : callB Tryz.prog 65 = true := by kernel_rfl
theorem by88 : bytesB Tryz.prog 88 = some 32 := by kernel_rfl
theorem cb51 : callB Tryz.prog 51 = true := by kernel_rfl
theorem cb90 : callB Tryz.prog 90 = true := by kernel_rfl
theorem cb91 : callB Tryz.prog 91 = true := by kernel_rfl
theorem cb139 : callB Tryz.prog 139 = true := by kernel_rfl
theorem cb92 : callB Tryz.prog 92 = true := by kernel_rfl
theorem cb52 : callB Tryz.prog 52 = true := by kernel_rfl
theorem fo88_0 : fieldB Tryz.prog 88 0 = some 0 := by kernel_rfl
theorem fo38_2 : fieldB Tryz.prog 38 2 = some 6 := by kernel_rfl
theorem ag38 : aggB Tryz.prog 38 = some true := by kernel_rfl
theorem cb18 : callB Tryz.prog 18 = true := by kernel_rfl
theorem cb17 : callB Tryz.prog 17 = true := by kernel_rfl
theorem sl104 : slB Tryz.prog 104 = some 4 := by kernel_rfl
theorem by4 : bytesB Tryz.prog 4 = some 1 := by kernel_rfl
theorem zc4 : zcB Tryz.prog 4 = some [(.bool false)] := by kernel_rfl
theorem zc104 : zcB Tryz.prog 104 = some [(.slice none 0 0)] := by kernel_rfl
theorem sz104 : szB Tryz.prog 104 = some 1 := by kernel_rfl
theorem ag104 : aggB Tryz.prog 104 = some false := by kernel_rfl
theorem cb125 : callB Tryz.prog 125 = true := by kernel_rfl
theorem cb124 : callB Tryz.prog 124 = true := by kernel_rfl
theorem cb72 : callB Tryz.prog 72 = true := by kernel_rfl
theorem cb73 : callB Tryz.prog 73 = true := by kernel_rfl
theorem cb143 : callB Tryz.prog 143 = true := by kernel_rfl
theorem cb144 : callB Tryz.prog 144 = true := by kernel_rfl
theorem cb74 : callB Tryz.prog 74 = true := by kernel_rfl
theorem cb145 : callB Tryz.prog 145 = true := by kernel_rfl
theorem cb95 : callB Tryz.prog 95 = true := by kernel_rfl
theorem cb55 : callB Tryz.prog 55 = true := by kernel_rfl
theorem cb146 : callB Tryz.prog 146 = true := by kernel_rfl
theorem cb96 : callB Tryz.prog 96 = true := by kernel_rfl
theorem cb147 : callB Tryz.prog 147 = true := by kernel_rfl
theorem cb97 : callB Tryz.prog 97 = true := by kernel_rfl
theorem cb56 : callB Tryz.prog 56 = true := by kernel_rfl
theorem ag83 : aggB Tryz.prog 83 = some false := by kernel_rfl
theorem cb98 : callB Tryz.prog 98 = true := by kernel_rfl
theorem ag134 : aggB Tryz.prog 134 = some false := by kernel_rfl
theorem cb150 : callB Tryz.prog 150 = true := by kernel_rfl
theorem cb102 : callB Tryz.prog 102 = true := by kernel_rfl
theorem cb101 : callB Tryz.prog 101 = true := by kernel_rfl
theorem cb100 : callB Tryz.prog 100 = true := by kernel_rfl
theorem cb149 : callB Tryz.prog 149 = true := by kernel_rfl
theorem cb177 : callB Tryz.prog 177 = true := by kernel_rfl
theorem un3 : Tryz.prog.underlying 3 = some (.int .i64) := by kernel_rfl
theorem un145 : Tryz.prog.underlying 145 = some (.int .u64) := by kernel_rfl
theorem cb182 : callB Tryz.prog 182 = true := by kernel_rfl
theorem cb180 : callB Tryz.prog 180 = true := by kernel_rfl
theorem cb178 : callB Tryz.prog 178 = true := by kernel_rfl
theorem cb171 : callB Tryz.prog 171 = true := by kernel_rfl
theorem cb148 : callB Tryz.prog 148 = true := by kernel_rfl
theorem cb99 : callB Tryz.prog 99 = true := by kernel_rfl
theorem pl136 : placesB Tryz.prog 136 = some [(0, 1), (1, 1)] := by kernel_rfl
theorem zc136 : zcB Tryz.prog 136 = some [(iv 0), (iv 0)] := by kernel_rfl
theorem sl137 : slB Tryz.prog 137 = some 136 := by kernel_rfl
theorem sz136 : szB Tryz.prog 136 = some 2 := by kernel_rfl
theorem cb103 : callB Tryz.prog 103 = true := by kernel_rfl
theorem ag136 : aggB Tryz.prog 136 = some true := by kernel_rfl
theorem fo136_0 : fieldB Tryz.prog 136 0 = some 0 := by kernel_rfl
theorem fo136_1 : fieldB Tryz.prog 136 1 = some 1 := by kernel_rfl
theorem cb151 : callB Tryz.prog 151 = true := by kernel_rfl
theorem by136 : bytesB Tryz.prog 136 = some 16 := by kernel_rfl
theorem cb152 : callB Tryz.prog 152 = true := by kernel_rfl
theorem cb104 : callB Tryz.prog 104 = true := by kernel_rfl
theorem cb106 : callB Tryz.prog 106 = true := by kernel_rfl
theorem cb105 : callB Tryz.prog 105 = true := by kernel_rfl
theorem cb57 : callB Tryz.prog 57 = true := by kernel_rfl
theorem cb83 : callB Tryz.prog 83 = true := by kernel_rfl
theorem cb108 : callB Tryz.prog 108 = true := by kernel_rfl
theorem cb107 : callB Tryz.prog 107 = true := by kernel_rfl
theorem cb154 : callB Tryz.prog 154 = true := by kernel_rfl
theorem cb153 : callB Tryz.prog 153 = true := by kernel_rfl
theorem cb155 : callB Tryz.prog 155 = true := by kernel_rfl
theorem cb110 : callB Tryz.prog 110 = true := by kernel_rfl
theorem cb109 : callB Tryz.prog 109 = true := by kernel_rfl
theorem cb157 : callB Tryz.prog 157 = true := by kernel_rfl
theorem cb111 : callB Tryz.prog 111 = true := by kernel_rfl
theorem cb58 : callB Tryz.prog 58 = true := by kernel_rfl
theorem cb59 : callB Tryz.prog 59 = true := by kernel_rfl
theorem cb19 : callB Tryz.prog 19 = true := by kernel_rfl
theorem fo38_0 : fieldB Tryz.prog 38 0 = some 0 := by kernel_rfl
theorem cb44 : callB Tryz.prog 44 = true := by kernel_rfl
theorem cb112 : callB Tryz.prog 112 = true := by kernel_rfl
theorem cb60 : callB Tryz.prog 60 = true := by kernel_rfl
theorem cb159 : callB Tryz.prog 159 = true := by kernel_rfl
theorem cb158 : callB Tryz.prog 158 = true := by kernel_rfl
theorem un4 : Tryz.prog.underlying 4 = some .bool := by kernel_rfl
theorem cb174 : callB Tryz.prog 174 = true := by kernel_rfl
theorem cb160 : callB Tryz.prog 160 = true := by kernel_rfl
theorem cb113 : callB Tryz.prog 113 = true := by kernel_rfl
theorem cb61 : callB Tryz.prog 61 = true := by kernel_rfl
theorem cb20 : callB Tryz.prog 20 = true := by kernel_rfl
theorem cb12 : callB Tryz.prog 12 = true := by kernel_rfl
theorem cb45 : callB Tryz.prog 45 = true := by kernel_rfl
theorem cb62 : callB Tryz.prog 62 = true := by kernel_rfl
theorem cb114 : callB Tryz.prog 114 = true := by kernel_rfl
theorem cb115 : callB Tryz.prog 115 = true := by kernel_rfl
theorem cb63 : callB Tryz.prog 63 = true := by kernel_rfl
theorem cb21 : callB Tryz.prog 21 = true := by kernel_rfl
theorem cb13 : callB Tryz.prog 13 = true := by kernel_rfl
theorem cb46 : callB Tryz.prog 46 = true := by kernel_rfl
theorem cb116 : callB Tryz.prog 116 = true := by kernel_rfl
theorem cb161 : callB Tryz.prog 161 = true := by kernel_rfl
theorem cb162 : callB Tryz.prog 162 = true := by kernel_rfl
theorem cb117 : callB Tryz.prog 117 = true := by kernel_rfl
theorem cb64 : callB Tryz.prog 64 = true := by kernel_rfl
theorem cb22 : callB Tryz.prog 22 = true := by kernel_rfl
end Go.Proofs.YtkfgngcfcoplpaaGreat
