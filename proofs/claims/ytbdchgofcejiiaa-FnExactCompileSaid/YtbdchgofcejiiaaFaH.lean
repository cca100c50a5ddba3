import Derived.Test.YtbdchgofcejiiaaPg22
import Derived.Test.YtbdchgofcejiiaaProg
set_option linter.unusedVariables false
namespace Go.Proofs.Ytbdchgofcejiiaa
open Go Go.Pg
structure Fix where
  Buffer : Int
  Data : (List Int)
  deriving Inhabited, DecidableEq
structure Access where
  Buffer : Int
  Offset : Int
  Steps : (List Int)
  deriving Inhabited, DecidableEq
structure Calc where
  Op : Int
  A : Int
  B : Int
  deriving Inhabited, DecidableEq
structure Kernel where
  Loops : (List Int)
  Loads : (List Access)
  Store : Access
  Sum : Bool
  Code : (List Calc)
  deriving Inhabited, DecidableEq
structure Nest where
  Sizes : (List Int)
  Ins : (List Int)
  Fixed : (List Fix)
  Kernels : (List Kernel)
  Outs : (List Int)
  deriving Inhabited, DecidableEq
structure Plan where
  Nest : Nest
  Offsets : (List Int)
  Arena : Int
  deriving Inhabited, DecidableEq
structure Instr where
  Op : Int
  A : Int
  B : Int
  C : Int
  deriving Inhabited, DecidableEq
structure Life where
  Buffer : Int
  Size : Int
  From : Int
  To : Int
  deriving Inhabited, DecidableEq
structure writer where
  code : (List Instr)
  deriving Inhabited, DecidableEq
theorem mixo : Try.prog.follows .mixedOrders = true := by kernel_rfl
abbrev kT3 : Kind Int := Kind.int .i64
def dT3 : DecK kT3 := DecK.scal _ _
def mS3 : MkS kT3 := MkS.scal _ _
def mO3 : MkO kT3 := MkO.scal _ _
def sP3 : SpO kT3 := SpO.scal _ _
def zT3 : Zr kT3 := Zr.scal _ _ 0
theorem cT3 : kT3.Closed := Kind.scal_closed _ _
abbrev kT29 : Kind (List Int) := Kind.sl 3 kT3
def dT29 : DecK kT29 := DecK.sl 3 kT3
def mS29 : MkS kT29 := MkS.sl 3 kT3
def mO29 : MkO kT29 := MkO.sl 3 kT3
def sP29 : SpO kT29 := SpO.sl 3 kT3
def zT29 : Zr kT29 := Zr.sl 3 kT3
abbrev kT152 : Kind Fix := Kind.iso (Kind.pair kT3 kT29) (fun x : Fix => (x.Buffer, x.Data))
def dT152 : DecK kT152 := DecK.iso (DecK.pair dT3 dT29) _
abbrev kT155 : Kind Access := Kind.iso (Kind.pair kT3 (Kind.pair kT3 kT29)) (fun x : Access => (x.Buffer, x.Offset, x.Steps))
def dT155 : DecK kT155 := DecK.iso (DecK.pair dT3 (DecK.pair dT3 dT29)) _
abbrev kT154 : Kind (List Access) := Kind.sl 155 kT155
def dT154 : DecK kT154 := DecK.sl 155 kT155
abbrev kT4 : Kind Bool := Kind.bool
def dT4 : DecK kT4 := DecK.scal _ _
def mO4 : MkO kT4 := MkO.scal _ _
def sP4 : SpO kT4 := SpO.scal _ _
def zT4 : Zr kT4 := Zr.scal _ _ false
abbrev kT239 : Kind Calc := Kind.iso (Kind.pair kT3 (Kind.pair kT3 kT3)) (fun x : Calc => (x.Op, x.A, x.B))
def dT239 : DecK kT239 := DecK.iso (DecK.pair dT3 (DecK.pair dT3 dT3)) _
abbrev kT156 : Kind (List Calc) := Kind.sl 239 kT239
def dT156 : DecK kT156 := DecK.sl 239 kT239
abbrev kT158 : Kind Kernel := Kind.iso (Kind.pair kT29 (Kind.pair kT154 (Kind.pair kT155 (Kind.pair kT4 kT156)))) (fun x : Kernel => (x.Loops, x.Loads, x.Store, x.Sum, x.Code))
def dT158 : DecK kT158 := DecK.iso (DecK.pair dT29 (DecK.pair dT154 (DecK.pair dT155 (DecK.pair dT4 dT156)))) _
abbrev kT159 : Kind Fix := Kind.iso (Kind.pair kT3 kT29) (fun x : Fix => (x.Buffer, x.Data))
def dT159 : DecK kT159 := DecK.iso (DecK.pair dT3 dT29) _
def mO159 : MkO kT159 := MkO.iso (MkO.pair mO3 mO29) _
def sP159 : SpO kT159 := SpO.iso (SpO.pair sP3 sP29) _
def zT159 : Zr kT159 := Zr.iso (Zr.pair zT3 zT29) _ ⟨zT3.z, zT29.z⟩ rfl
abbrev kT124 : Kind Access := Kind.iso (Kind.pair kT3 (Kind.pair kT3 kT29)) (fun x : Access => (x.Buffer, x.Offset, x.Steps))
def dT124 : DecK kT124 := DecK.iso (DecK.pair dT3 (DecK.pair dT3 dT29)) _
def mS124 : MkS kT124 := MkS.iso (MkS.pair mS3 (MkS.pair mS3 mS29)) _
def mO124 : MkO kT124 := MkO.iso (MkO.pair mO3 (MkO.pair mO3 mO29)) _
def sP124 : SpO kT124 := SpO.iso (SpO.pair sP3 (SpO.pair sP3 sP29)) _
def zT124 : Zr kT124 := Zr.iso (Zr.pair zT3 (Zr.pair zT3 zT29)) _ ⟨zT3.z, zT3.z, zT29.z⟩ rfl
abbrev kT122 : Kind (List Access) := Kind.sl 124 kT124
def dT122 : DecK kT122 := DecK.sl 124 kT124
def mO122 : MkO kT122 := MkO.sl 124 kT124
def sP122 : SpO kT122 := SpO.sl 124 kT124
def zT122 : Zr kT122 := Zr.sl 124 kT124
abbrev kT216 : Kind Calc := Kind.iso (Kind.pair kT3 (Kind.pair kT3 kT3)) (fun x : Calc => (x.Op, x.A, x.B))
def dT216 : DecK kT216 := DecK.iso (DecK.pair dT3 (DecK.pair dT3 dT3)) _
def mO216 : MkO kT216 := MkO.iso (MkO.pair mO3 (MkO.pair mO3 mO3)) _
def sP216 : SpO kT216 := SpO.iso (SpO.pair sP3 (SpO.pair sP3 sP3)) _
def zT216 : Zr kT216 := Zr.iso (Zr.pair zT3 (Zr.pair zT3 zT3)) _ ⟨zT3.z, zT3.z, zT3.z⟩ rfl
abbrev kT125 : Kind (List Calc) := Kind.sl 216 kT216
def dT125 : DecK kT125 := DecK.sl 216 kT216
def mO125 : MkO kT125 := MkO.sl 216 kT216
def sP125 : SpO kT125 := SpO.sl 216 kT216
def zT125 : Zr kT125 := Zr.sl 216 kT216
abbrev kT127 : Kind Kernel := Kind.iso (Kind.pair kT29 (Kind.pair kT122 (Kind.pair kT124 (Kind.pair kT4 kT125)))) (fun x : Kernel => (x.Loops, x.Loads, x.Store, x.Sum, x.Code))
def dT127 : DecK kT127 := DecK.iso (DecK.pair dT29 (DecK.pair dT122 (DecK.pair dT124 (DecK.pair dT4 dT125)))) _
def mO127 : MkO kT127 := MkO.iso (MkO.pair mO29 (MkO.pair mO122 (MkO.pair mO124 (MkO.pair mO4 mO125)))) _
def sP127 : SpO kT127 := SpO.iso (SpO.pair sP29 (SpO.pair sP122 (SpO.pair sP124 (SpO.pair sP4 sP125)))) _
def zT127 : Zr kT127 := Zr.iso (Zr.pair zT29 (Zr.pair zT122 (Zr.pair zT124 (Zr.pair zT4 zT125)))) _ ⟨zT29.z, zT122.z, zT124.z, zT4.z, zT125.z⟩ rfl
abbrev kT119 : Kind Instr := Kind.iso (Kind.pair kT3 (Kind.pair kT3 (Kind.pair kT3 kT3))) (fun x : Instr => (x.Op, x.A, x.B, x.C))
def dT119 : DecK kT119 := DecK.iso (DecK.pair dT3 (DecK.pair dT3 (DecK.pair dT3 dT3))) _
def mO119 : MkO kT119 := MkO.iso (MkO.pair mO3 (MkO.pair mO3 (MkO.pair mO3 mO3))) _
def sP119 : SpO kT119 := SpO.iso (SpO.pair sP3 (SpO.pair sP3 (SpO.pair sP3 sP3))) _
def zT119 : Zr kT119 := Zr.iso (Zr.pair zT3 (Zr.pair zT3 (Zr.pair zT3 zT3))) _ ⟨zT3.z, zT3.z, zT3.z, zT3.z⟩ rfl
theorem cT119 : kT119.Closed := Kind.iso_closed (Kind.pair_closed cT3 (Kind.pair_closed cT3 (Kind.pair_closed cT3 cT3))) _
abbrev kT114 : Kind Life := Kind.iso (Kind.pair kT3 (Kind.pair kT3 (Kind.pair kT3 kT3))) (fun x : Life => (x.Buffer, x.Size, x.From, x.To))
def dT114 : DecK kT114 := DecK.iso (DecK.pair dT3 (DecK.pair dT3 (DecK.pair dT3 dT3))) _
def mO114 : MkO kT114 := MkO.iso (MkO.pair mO3 (MkO.pair mO3 (MkO.pair mO3 mO3))) _
def zT114 : Zr kT114 := Zr.iso (Zr.pair zT3 (Zr.pair zT3 (Zr.pair zT3 zT3))) _ ⟨zT3.z, zT3.z, zT3.z, zT3.z⟩ rfl
theorem ag53 : aggB Try.prog 53 = some true := by kernel_rfl
theorem sz53 : szB Try.prog 53 = some 5 := by kernel_rfl
theorem fo53_0 : fieldB Try.prog 53 0 = some 0 := by kernel_rfl
theorem ag29 : aggB Try.prog 29 = some false := by kernel_rfl
theorem sl29 : slB Try.prog 29 = some 3 := by kernel_rfl
theorem cb66 : callB Try.prog 66 = true := by kernel_rfl
theorem fo53_1 : fieldB Try.prog 53 1 = some 1 := by kernel_rfl
theorem fo53_2 : fieldB Try.prog 53 2 = some 2 := by kernel_rfl
theorem ag50 : aggB Try.prog 50 = some false := by kernel_rfl
theorem sl50 : slB Try.prog 50 = some 152 := by kernel_rfl
theorem sz152 : szB Try.prog 152 = some 2 := by kernel_rfl
theorem ag152 : aggB Try.prog 152 = some true := by kernel_rfl
theorem fo152_1 : fieldB Try.prog 152 1 = some 1 := by kernel_rfl
theorem cb114 : callB Try.prog 114 = true := by kernel_rfl
theorem cb67 : callB Try.prog 67 = true := by kernel_rfl
theorem fo53_3 : fieldB Try.prog 53 3 = some 3 := by kernel_rfl
theorem ag51 : aggB Try.prog 51 = some false := by kernel_rfl
theorem sl51 : slB Try.prog 51 = some 158 := by kernel_rfl
theorem sz158 : szB Try.prog 158 = some 7 := by kernel_rfl
theorem ag158 : aggB Try.prog 158 = some true := by kernel_rfl
theorem fo158_0 : fieldB Try.prog 158 0 = some 0 := by kernel_rfl
theorem fo158_1 : fieldB Try.prog 158 1 = some 1 := by kernel_rfl
theorem ag154 : aggB Try.prog 154 = some false := by kernel_rfl
theorem sl154 : slB Try.prog 154 = some 155 := by kernel_rfl
theorem sz155 : szB Try.prog 155 = some 3 := by kernel_rfl
theorem ag155 : aggB Try.prog 155 = some true := by kernel_rfl
theorem fo155_2 : fieldB Try.prog 155 2 = some 2 := by kernel_rfl
theorem cb172 : callB Try.prog 172 = true := by kernel_rfl
theorem cb171 : callB Try.prog 171 = true := by kernel_rfl
theorem fo158_2 : fieldB Try.prog 158 2 = some 2 := by kernel_rfl
theorem fo158_4 : fieldB Try.prog 158 4 = some 6 := by kernel_rfl
theorem ag156 : aggB Try.prog 156 = some false := by kernel_rfl
theorem sl156 : slB Try.prog 156 = some 239 := by kernel_rfl
theorem cb173 : callB Try.prog 173 = true := by kernel_rfl
theorem cb115 : callB Try.prog 115 = true := by kernel_rfl
theorem cb68 : callB Try.prog 68 = true := by kernel_rfl
theorem fo53_4 : fieldB Try.prog 53 4 = some 4 := by kernel_rfl
theorem cb22 : callB Try.prog 22 = true := by kernel_rfl
theorem zc58 : zcB Try.prog 58 = some [(.slice none 0 0), (.slice none 0 0), (.slice none 0 0), (.slice none 0 0), (.slice none 0 0)] := by kernel_rfl
theorem sz3 : szB Try.prog 3 = some 1 := by kernel_rfl
theorem by3 : bytesB Try.prog 3 = some 8 := by kernel_rfl
theorem zc3 : zcB Try.prog 3 = some [(iv 0)] := by kernel_rfl
theorem ag3 : aggB Try.prog 3 = some false := by kernel_rfl
theorem fo58_0 : fieldB Try.prog 58 0 = some 0 := by kernel_rfl
theorem sz29 : szB Try.prog 29 = some 1 := by kernel_rfl
theorem cb16 : callB Try.prog 16 = true := by kernel_rfl
theorem fo58_1 : fieldB Try.prog 58 1 = some 1 := by kernel_rfl
theorem sl55 : slB Try.prog 55 = some 159 := by kernel_rfl
theorem sz159 : szB Try.prog 159 = some 2 := by kernel_rfl
theorem by159 : bytesB Try.prog 159 = some 32 := by kernel_rfl
theorem zc159 : zcB Try.prog 159 = some [(iv 0), (.slice none 0 0)] := by kernel_rfl
theorem fo152_0 : fieldB Try.prog 152 0 = some 0 := by kernel_rfl
theorem fo159_0 : fieldB Try.prog 159 0 = some 0 := by kernel_rfl
theorem fo159_1 : fieldB Try.prog 159 1 = some 1 := by kernel_rfl
theorem ag159 : aggB Try.prog 159 = some true := by kernel_rfl
theorem cb127 : callB Try.prog 127 = true := by kernel_rfl
theorem fo58_2 : fieldB Try.prog 58 2 = some 2 := by kernel_rfl
theorem sz55 : szB Try.prog 55 = some 1 := by kernel_rfl
theorem cb72 : callB Try.prog 72 = true := by kernel_rfl
theorem sl56 : slB Try.prog 56 = some 127 := by kernel_rfl
theorem sz127 : szB Try.prog 127 = some 7 := by kernel_rfl
theorem by127 : bytesB Try.prog 127 = some 120 := by kernel_rfl
theorem zc127 : zcB Try.prog 127 = some [(.slice none 0 0), (.slice none 0 0), (iv 0), (iv 0), (.slice none 0 0), (.bool false), (.slice none 0 0)] := by kernel_rfl
theorem fo127_0 : fieldB Try.prog 127 0 = some 0 := by kernel_rfl
theorem sl122 : slB Try.prog 122 = some 124 := by kernel_rfl
theorem sz124 : szB Try.prog 124 = some 3 := by kernel_rfl
theorem by124 : bytesB Try.prog 124 = some 40 := by kernel_rfl
theorem zc124 : zcB Try.prog 124 = some [(iv 0), (iv 0), (.slice none 0 0)] := by kernel_rfl
theorem fo155_0 : fieldB Try.prog 155 0 = some 0 := by kernel_rfl
theorem fo124_0 : fieldB Try.prog 124 0 = some 0 := by kernel_rfl
theorem fo155_1 : fieldB Try.prog 155 1 = some 1 := by kernel_rfl
theorem fo124_1 : fieldB Try.prog 124 1 = some 1 := by kernel_rfl
theorem fo124_2 : fieldB Try.prog 124 2 = some 2 := by kernel_rfl
theorem ag124 : aggB Try.prog 124 = some true := by kernel_rfl
theorem cb178 : callB Try.prog 178 = true := by kernel_rfl
theorem fo127_1 : fieldB Try.prog 127 1 = some 1 := by kernel_rfl
theorem sz122 : szB Try.prog 122 = some 1 := by kernel_rfl
theorem cb177 : callB Try.prog 177 = true := by kernel_rfl
theorem fo127_2 : fieldB Try.prog 127 2 = some 2 := by kernel_rfl
theorem fo158_3 : fieldB Try.prog 158 3 = some 5 := by kernel_rfl
theorem ag4 : aggB Try.prog 4 = some false := by kernel_rfl
theorem fo127_3 : fieldB Try.prog 127 3 = some 5 := by kernel_rfl
theorem sz4 : szB Try.prog 4 = some 1 := by kernel_rfl
theorem sl125 : slB Try.prog 125 = some 216 := by kernel_rfl
theorem sz216 : szB Try.prog 216 = some 3 := by kernel_rfl
theorem by216 : bytesB Try.prog 216 = some 24 := by kernel_rfl
theorem zc216 : zcB Try.prog 216 = some [(iv 0), (iv 0), (iv 0)] := by kernel_rfl
theorem sz239 : szB Try.prog 239 = some 3 := by kernel_rfl
theorem ag239 : aggB Try.prog 239 = some true := by kernel_rfl
theorem fo239_0 : fieldB Try.prog 239 0 = some 0 := by kernel_rfl
theorem fo216_0 : fieldB Try.prog 216 0 = some 0 := by kernel_rfl
theorem fo239_1 : fieldB Try.prog 239 1 = some 1 := by kernel_rfl
theorem fo216_1 : fieldB Try.prog 216 1 = some 1 := by kernel_rfl
theorem fo239_2 : fieldB Try.prog 239 2 = some 2 := by kernel_rfl
theorem fo216_2 : fieldB Try.prog 216 2 = some 2 := by kernel_rfl
theorem ag216 : aggB Try.prog 216 = some true := by kernel_rfl
theorem cb210 : callB Try.prog 210 = true := by kernel_rfl
theorem fo127_4 : fieldB Try.prog 127 4 = some 6 := by kernel_rfl
theorem sz125 : szB Try.prog 125 = some 1 := by kernel_rfl
theorem cb179 : callB Try.prog 179 = true := by kernel_rfl
theorem ag127 : aggB Try.prog 127 = some true := by kernel_rfl
theorem cb128 : callB Try.prog 128 = true := by kernel_rfl
theorem fo58_3 : fieldB Try.prog 58 3 = some 3 := by kernel_rfl
theorem sz56 : szB Try.prog 56 = some 1 := by kernel_rfl
theorem cb73 : callB Try.prog 73 = true := by kernel_rfl
theorem fo58_4 : fieldB Try.prog 58 4 = some 4 := by kernel_rfl
theorem ag58 : aggB Try.prog 58 = some true := by kernel_rfl
theorem sz58 : szB Try.prog 58 = some 5 := by kernel_rfl
theorem ag56 : aggB Try.prog 56 = some false := by kernel_rfl
theorem cb116 : callB Try.prog 116 = true := by kernel_rfl
theorem cb117 : callB Try.prog 117 = true := by kernel_rfl
theorem ag55 : aggB Try.prog 55 = some false := by kernel_rfl
theorem cb118 : callB Try.prog 118 = true := by kernel_rfl
theorem ag122 : aggB Try.prog 122 = some false := by kernel_rfl
theorem ag125 : aggB Try.prog 125 = some false := by kernel_rfl
theorem cb120 : callB Try.prog 120 = true := by kernel_rfl
theorem cb174 : callB Try.prog 174 = true := by kernel_rfl
theorem cb175 : callB Try.prog 175 = true := by kernel_rfl
theorem cb119 : callB Try.prog 119 = true := by kernel_rfl
theorem cb69 : callB Try.prog 69 = true := by kernel_rfl
theorem cb123 : callB Try.prog 123 = true := by kernel_rfl
theorem cb24 : callB Try.prog 24 = true := by kernel_rfl
theorem sl168 : slB Try.prog 168 = some 4 := by kernel_rfl
theorem by4 : bytesB Try.prog 4 = some 1 := by kernel_rfl
theorem zc4 : zcB Try.prog 4 = some [(.bool false)] := by kernel_rfl
theorem zc168 : zcB Try.prog 168 = some [(.slice none 0 0)] := by kernel_rfl
theorem sz168 : szB Try.prog 168 = some 1 := by kernel_rfl
theorem ag168 : aggB Try.prog 168 = some false := by kernel_rfl
theorem cb180 : callB Try.prog 180 = true := by kernel_rfl
theorem cb211 : callB Try.prog 211 = true := by kernel_rfl
theorem cb181 : callB Try.prog 181 = true := by kernel_rfl
theorem cb129 : callB Try.prog 129 = true := by kernel_rfl
theorem cb182 : callB Try.prog 182 = true := by kernel_rfl
theorem cb183 : callB Try.prog 183 = true := by kernel_rfl
theorem cb184 : callB Try.prog 184 = true := by kernel_rfl
theorem cb185 : callB Try.prog 185 = true := by kernel_rfl
theorem cb130 : callB Try.prog 130 = true := by kernel_rfl
theorem cb74 : callB Try.prog 74 = true := by kernel_rfl
theorem cb212 : callB Try.prog 212 = true := by kernel_rfl
theorem cb191 : callB Try.prog 191 = true := by kernel_rfl
theorem cb213 : callB Try.prog 213 = true := by kernel_rfl
theorem cb192 : callB Try.prog 192 = true := by kernel_rfl
theorem cb17 : callB Try.prog 17 = true := by kernel_rfl
theorem cb138 : callB Try.prog 138 = true := by kernel_rfl
theorem cb77 : callB Try.prog 77 = true := by kernel_rfl
theorem cb195 : callB Try.prog 195 = true := by kernel_rfl
theorem cb194 : callB Try.prog 194 = true := by kernel_rfl
theorem un4 : Try.prog.underlying 4 = some .bool := by kernel_rfl
theorem cb214 : callB Try.prog 214 = true := by kernel_rfl
theorem cb196 : callB Try.prog 196 = true := by kernel_rfl
theorem cb139 : callB Try.prog 139 = true := by kernel_rfl
theorem cb78 : callB Try.prog 78 = true := by kernel_rfl
theorem cb26 : callB Try.prog 26 = true := by kernel_rfl
theorem cb20 : callB Try.prog 20 = true := by kernel_rfl
theorem cb79 : callB Try.prog 79 = true := by kernel_rfl
theorem cb140 : callB Try.prog 140 = true := by kernel_rfl
theorem cb141 : callB Try.prog 141 = true := by kernel_rfl
theorem cb80 : callB Try.prog 80 = true := by kernel_rfl
theorem cb27 : callB Try.prog 27 = true := by kernel_rfl
theorem ag65 : aggB Try.prog 65 = some true := by kernel_rfl
theorem sz65 : szB Try.prog 65 = some 7 := by kernel_rfl
theorem fo65_0 : fieldB Try.prog 65 0 = some 0 := by kernel_rfl
theorem fo65_1 : fieldB Try.prog 65 1 = some 5 := by kernel_rfl
theorem cb29 : callB Try.prog 29 = true := by kernel_rfl
theorem zc71 : zcB Try.prog 71 = some [(.slice none 0 0), (.slice none 0 0), (.slice none 0 0), (.slice none 0 0), (.slice none 0 0), (.slice none 0 0), (iv 0)] := by kernel_rfl
theorem fo71_0 : fieldB Try.prog 71 0 = some 0 := by kernel_rfl
theorem fo71_1 : fieldB Try.prog 71 1 = some 5 := by kernel_rfl
theorem fo65_2 : fieldB Try.prog 65 2 = some 6 := by kernel_rfl
theorem fo71_2 : fieldB Try.prog 71 2 = some 6 := by kernel_rfl
theorem ag71 : aggB Try.prog 71 = some true := by kernel_rfl
theorem sz71 : szB Try.prog 71 = some 7 := by kernel_rfl
theorem sl67 : slB Try.prog 67 = some 119 := by kernel_rfl
theorem sz119 : szB Try.prog 119 = some 4 := by kernel_rfl
theorem zc119 : zcB Try.prog 119 = some [(iv 0), (iv 0), (iv 0), (iv 0)] := by kernel_rfl
theorem sl183 : slB Try.prog 183 = some 114 := by kernel_rfl
theorem sz114 : szB Try.prog 114 = some 4 := by kernel_rfl
theorem zc114 : zcB Try.prog 114 = some [(iv 0), (iv 0), (iv 0), (iv 0)] := by kernel_rfl
theorem pl114 : placesB Try.prog 114 = some [(0, 1), (1, 1), (2, 1), (3, 1)] := by kernel_rfl
theorem cb146 : callB Try.prog 146 = true := by kernel_rfl
theorem fo114_3 : fieldB Try.prog 114 3 = some 3 := by kernel_rfl
theorem cb85 : callB Try.prog 85 = true := by kernel_rfl
theorem fo114_2 : fieldB Try.prog 114 2 = some 2 := by kernel_rfl
theorem ag114 : aggB Try.prog 114 = some true := by kernel_rfl
theorem fo114_1 : fieldB Try.prog 114 1 = some 1 := by kernel_rfl
theorem cb84 : callB Try.prog 84 = true := by kernel_rfl
theorem by114 : bytesB Try.prog 114 = some 32 := by kernel_rfl
theorem cb144 : callB Try.prog 144 = true := by kernel_rfl
theorem fo114_0 : fieldB Try.prog 114 0 = some 0 := by kernel_rfl
theorem cb197 : callB Try.prog 197 = true := by kernel_rfl
theorem cb215 : callB Try.prog 215 = true := by kernel_rfl
theorem cb198 : callB Try.prog 198 = true := by kernel_rfl
theorem cb145 : callB Try.prog 145 = true := by kernel_rfl
theorem cb83 : callB Try.prog 83 = true := by kernel_rfl
theorem pl119 : placesB Try.prog 119 = some [(0, 1), (1, 1), (2, 1), (3, 1)] := by kernel_rfl
theorem by119 : bytesB Try.prog 119 = some 32 := by kernel_rfl
theorem ag119 : aggB Try.prog 119 = some true := by kernel_rfl
theorem cb147 : callB Try.prog 147 = true := by kernel_rfl
theorem cb148 : callB Try.prog 148 = true := by kernel_rfl
theorem cb199 : callB Try.prog 199 = true := by kernel_rfl
theorem cb149 : callB Try.prog 149 = true := by kernel_rfl
theorem cb86 : callB Try.prog 86 = true := by kernel_rfl
theorem cb150 : callB Try.prog 150 = true := by kernel_rfl
theorem cb87 : callB Try.prog 87 = true := by kernel_rfl
theorem cb31 : callB Try.prog 31 = true := by kernel_rfl
theorem cb30 : callB Try.prog 30 = true := by kernel_rfl
theorem cb151 : callB Try.prog 151 = true := by kernel_rfl
theorem cb200 : callB Try.prog 200 = true := by kernel_rfl
theorem cb201 : callB Try.prog 201 = true := by kernel_rfl
theorem cb152 : callB Try.prog 152 = true := by kernel_rfl
theorem cb88 : callB Try.prog 88 = true := by kernel_rfl
theorem pl193 : placesB Try.prog 193 = some [(0, 1)] := by kernel_rfl
theorem zc193 : zcB Try.prog 193 = some [(.slice none 0 0)] := by kernel_rfl
theorem sl194 : slB Try.prog 194 = some 29 := by kernel_rfl
theorem by29 : bytesB Try.prog 29 = some 24 := by kernel_rfl
theorem zc29 : zcB Try.prog 29 = some [(.slice none 0 0)] := by kernel_rfl
theorem cb153 : callB Try.prog 153 = true := by kernel_rfl
theorem fo193_0 : fieldB Try.prog 193 0 = some 0 := by kernel_rfl
theorem ag67 : aggB Try.prog 67 = some false := by kernel_rfl
theorem sz67 : szB Try.prog 67 = some 1 := by kernel_rfl
theorem cb154 : callB Try.prog 154 = true := by kernel_rfl
theorem cb202 : callB Try.prog 202 = true := by kernel_rfl
theorem cb155 : callB Try.prog 155 = true := by kernel_rfl
theorem cb204 : callB Try.prog 204 = true := by kernel_rfl
theorem cb203 : callB Try.prog 203 = true := by kernel_rfl
theorem cb156 : callB Try.prog 156 = true := by kernel_rfl
theorem cb89 : callB Try.prog 89 = true := by kernel_rfl
theorem cb32 : callB Try.prog 32 = true := by kernel_rfl
theorem fo119_0 : fieldB Try.prog 119 0 = some 0 := by kernel_rfl
theorem fo119_1 : fieldB Try.prog 119 1 = some 1 := by kernel_rfl
theorem fo119_2 : fieldB Try.prog 119 2 = some 2 := by kernel_rfl
theorem fo119_3 : fieldB Try.prog 119 3 = some 3 := by kernel_rfl
theorem cb90 : callB Try.prog 90 = true := by kernel_rfl
theorem cb33 : callB Try.prog 33 = true := by kernel_rfl
theorem cb34 : callB Try.prog 34 = true := by kernel_rfl
theorem cb35 : callB Try.prog 35 = true := by kernel_rfl
theorem cb36 : callB Try.prog 36 = true := by kernel_rfl
theorem cb37 : callB Try.prog 37 = true := by kernel_rfl
end Go.Proofs.Ytbdchgofcejiiaa
