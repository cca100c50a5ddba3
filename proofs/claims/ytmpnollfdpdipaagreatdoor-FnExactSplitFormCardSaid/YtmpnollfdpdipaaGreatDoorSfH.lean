import Derived.Test.YtmpnollfdpdipaaGreatDoorPg22
import Derived.Test.YtmpnollfdpdipaaGreatDoorStLE
import Derived.Test.YtmpnollfdpdipaaGreatDoorPg38
import Derived.Test.YtmpnollfdpdipaaGreatDoorProg
set_option linter.unusedVariables false
namespace Go.Proofs.YtmpnollfdpdipaaGreatDoor
open Go Go.Pg
structure Tensor where
 Dims:(List Int)
 Data:(List Int)
 deriving Inhabited,DecidableEq
structure form where
 groups:(List aD)
 out_:aD
 order:aD
 loops:(List Int)
 dims:(List Int)
 steps:(List (List Int))
 store:(List Int)
 deriving Inhabited,DecidableEq
structure View where
 Dims:(List Int)
 Strides:(List Int)
 Offset:Int
 Base:Int
 deriving Inhabited,DecidableEq
def str0:aD:=[45,62]
def str1:aD:=[44]
theorem b':Tryz.prog.follows .mixedOrders=true:=by kernel_rfl
abbrev kT3:Kind Int:=Kind.int .i64
def i7:MkO kT3:=MkO.scal _ _
def zT3:Zr kT3:=Zr.scal _ _ 0
theorem jT:kT3.Closed:=Kind.scal_closed _ _
abbrev kT36:Kind (List Int):=Kind.sl 3 kT3
def dT36:DecK kT36:=DecK.sl 3 kT3
def oC:MkS kT36:=MkS.sl 3 kT3
def oD:MkO kT36:=MkO.sl 3 kT3
def sN:SpO kT36:=SpO.sl 3 kT3
def zT36:Zr kT36:=Zr.sl 3 kT3
theorem sO:kT36.Closed:=Kind.sl_closed jT 3
abbrev g9:Kind Tensor:=Kind.iso (Kind.pair kT36 kT36) (fun x:Tensor=>(x.Dims,x.Data))
def dT72:DecK g9:=DecK.iso (DecK.pair dT36 dT36) _
abbrev kT38:Kind Tensor:=Kind.iso (Kind.pair kT36 kT36) (fun x:Tensor=>(x.Dims,x.Data))
def dT38:DecK kT38:=DecK.iso (DecK.pair dT36 dT36) _
def uE:MkS kT38:=MkS.iso (MkS.pair oC oC) _
def me:MkO kT38:=MkO.iso (MkO.pair oD oD) _
def sQ:SpO kT38:=SpO.iso (SpO.pair sN sN) _
def zT38:Zr kT38:=Zr.iso (Zr.pair zT36 zT36) _ ⟨zT36.z,zT36.z⟩ rfl
theorem uF:kT38.Closed:=Kind.iso_closed (Kind.pair_closed sO sO) _
abbrev kT27:Kind (List Tensor):=Kind.sl 38 kT38
def dT27:DecK kT27:=DecK.sl 38 kT38
def uG:MkS kT27:=MkS.sl 38 kT38
def n8:MkO kT27:=MkO.sl 38 kT38
def uH:SpO kT27:=SpO.sl 38 kT38
def sS:Zr kT27:=Zr.sl 38 kT38
theorem sT:kT27.Closed:=Kind.sl_closed uF 38
abbrev bI:Kind aD:=Kind.str
def dT9:DecK bI:=DecK.scal _ _
def qG:MkO bI:=MkO.scal _ _
def uI:Zr bI:=Zr.scal _ _ []
theorem cR:Tryz.prog.underlying 9=some .string:=by kernel_rfl
theorem uJ:iP Tryz.prog 22=some 72:=by kernel_rfl
theorem qH:fI Tryz.prog 72=some 2:=by kernel_rfl
theorem qK:eG Tryz.prog 72=some true:=by kernel_rfl
theorem qL:dH Tryz.prog 72 0=some 0:=by kernel_rfl
theorem fW:eG Tryz.prog 36=some false:=by kernel_rfl
theorem cW:iP Tryz.prog 36=some 3:=by kernel_rfl
theorem pH:aO Tryz.prog 135=true:=by kernel_rfl
theorem qO:dH Tryz.prog 72 1=some 1:=by kernel_rfl
theorem uK:aO Tryz.prog 45=true:=by kernel_rfl
theorem cb8:aO Tryz.prog 8=true:=by kernel_rfl
theorem iA:iP Tryz.prog 27=some 38:=by kernel_rfl
theorem cP:fI Tryz.prog 38=some 2:=by kernel_rfl
theorem qP:eQ Tryz.prog 38=some 48:=by kernel_rfl
theorem dL:iX Tryz.prog 38=some [(.slice none 0 0),(.slice none 0 0)]:=by kernel_rfl
theorem eC:fI Tryz.prog 3=some 1:=by kernel_rfl
theorem jt:eQ Tryz.prog 3=some 8:=by kernel_rfl
theorem gN:iX Tryz.prog 3=some [(iv 0)]:=by kernel_rfl
theorem oE:eG Tryz.prog 3=some false:=by kernel_rfl
theorem iB:dH Tryz.prog 38 0=some 0:=by kernel_rfl
theorem gx:fI Tryz.prog 36=some 1:=by kernel_rfl
theorem pI:aO Tryz.prog 139=true:=by kernel_rfl
theorem jv:dH Tryz.prog 38 1=some 1:=by kernel_rfl
theorem hW:eG Tryz.prog 38=some true:=by kernel_rfl
theorem uL:aO Tryz.prog 52=true:=by kernel_rfl
theorem kl:iP Tryz.prog 24=some 27:=by kernel_rfl
theorem km:fI Tryz.prog 27=some 1:=by kernel_rfl
theorem kS:iX Tryz.prog 27=some [(.slice none 0 0)]:=by kernel_rfl
theorem jw:iP Tryz.prog 73=some 9:=by kernel_rfl
theorem lz:fI Tryz.prog 9=some 1:=by kernel_rfl
theorem r':iX Tryz.prog 9=some [(aA ([]:aD))]:=by kernel_rfl
theorem uM:eQ Tryz.prog 9=some 16:=by kernel_rfl
theorem pJ:aO Tryz.prog 146=true:=by kernel_rfl
theorem jx:eG Tryz.prog 9=some false:=by kernel_rfl
theorem n9:aO Tryz.prog 147=true:=by kernel_rfl
theorem sU:aO Tryz.prog 46=true:=by kernel_rfl
theorem iC:gM Tryz.prog 38=some [(0,1),(1,1)]:=by kernel_rfl
theorem kT:iP Tryz.prog 84=some 36:=by kernel_rfl
theorem mf:iX Tryz.prog 36=some [(.slice none 0 0)]:=by kernel_rfl
theorem qQ:aO Tryz.prog 79=true:=by kernel_rfl
theorem oG:aO Tryz.prog 78=true:=by kernel_rfl
theorem sW:aO Tryz.prog 38=true:=by kernel_rfl
theorem qR:eQ Tryz.prog 36=some 24:=by kernel_rfl
theorem sX:aO Tryz.prog 114=true:=by kernel_rfl
theorem lA:aO Tryz.prog 108=true:=by kernel_rfl
theorem sY:aO Tryz.prog 80=true:=by kernel_rfl
theorem sZ:aO Tryz.prog 81=true:=by kernel_rfl
theorem pK:aO Tryz.prog 116=true:=by kernel_rfl
theorem j1:aO Tryz.prog 163=true:=by kernel_rfl
theorem t2:aO Tryz.prog 115=true:=by kernel_rfl
theorem t6:aO Tryz.prog 85=true:=by kernel_rfl
theorem uN:aO Tryz.prog 84=true:=by kernel_rfl
theorem uO:aO Tryz.prog 83=true:=by kernel_rfl
theorem qT:kR Tryz.prog 38 1=some (36,1):=by kernel_rfl
theorem uP:aO Tryz.prog 47=true:=by kernel_rfl
theorem uQ:aO Tryz.prog 48=true:=by kernel_rfl
theorem uR:aO Tryz.prog 32=true:=by kernel_rfl
theorem uS:aO Tryz.prog 49=true:=by kernel_rfl
theorem t7:aO Tryz.prog 104=true:=by kernel_rfl
theorem t8:aO Tryz.prog 148=true:=by kernel_rfl
theorem pL:aO Tryz.prog 105=true:=by kernel_rfl
theorem ta:aO Tryz.prog 51=true:=by kernel_rfl
theorem tb:aO Tryz.prog 50=true:=by kernel_rfl
theorem tc:eQ Tryz.prog 27=some 24:=by kernel_rfl
theorem oH:aO Tryz.prog 10=true:=by kernel_rfl
theorem cb9:aO Tryz.prog 9=true:=by kernel_rfl
theorem pM:aO Tryz.prog 156=true:=by kernel_rfl
theorem te:aO Tryz.prog 175=true:=by kernel_rfl
theorem tf:aO Tryz.prog 128=true:=by kernel_rfl
theorem tg:aO Tryz.prog 261=true:=by kernel_rfl
theorem un5:Tryz.prog.underlying 5=some (.int .u8):=by kernel_rfl
theorem uT:Tryz.prog.underlying 21=some (.int .i32):=by kernel_rfl
theorem th:aO Tryz.prog 262=true:=by kernel_rfl
theorem tj:aO Tryz.prog 223=true:=by kernel_rfl
theorem tl:aO Tryz.prog 224=true:=by kernel_rfl
theorem qU:aO Tryz.prog 58=true:=by kernel_rfl
theorem tm:aO Tryz.prog 203=true:=by kernel_rfl
theorem tn:aO Tryz.prog 176=true:=by kernel_rfl
theorem tp:aO Tryz.prog 189=true:=by kernel_rfl
theorem lD:aO Tryz.prog 152=true:=by kernel_rfl
theorem pN:aO Tryz.prog 149=true:=by kernel_rfl
theorem tq:aO Tryz.prog 151=true:=by kernel_rfl
theorem tr:aO Tryz.prog 150=true:=by kernel_rfl
theorem uU:aO Tryz.prog 53=true:=by kernel_rfl
theorem tt:aO Tryz.prog 196=true:=by kernel_rfl
theorem mg:aO Tryz.prog 96=true:=by kernel_rfl
theorem mh:aO Tryz.prog 99=true:=by kernel_rfl
theorem tu:aO Tryz.prog 167=true:=by kernel_rfl
theorem uV:aO Tryz.prog 89=true:=by kernel_rfl
theorem uW:aO Tryz.prog 54=true:=by kernel_rfl
theorem uX:aO Tryz.prog 55=true:=by kernel_rfl
theorem tv:aO Tryz.prog 155=true:=by kernel_rfl
theorem tw:aO Tryz.prog 154=true:=by kernel_rfl
theorem jy:iX Tryz.prog 86=some [(.slice none 0 0),(aA ([]:aD)),(aA ([]:aD)),(.slice none 0 0),(.slice none 0 0),(.slice none 0 0),(.slice none 0 0)]:=by kernel_rfl
theorem mi:gM Tryz.prog 86=some [(0,1),(1,1),(2,1),(3,1),(4,1),(5,1),(6,1)]:=by kernel_rfl
theorem gy:fI Tryz.prog 86=some 7:=by kernel_rfl
theorem na:sw Tryz.prog 184=some (26,3):=by kernel_rfl
theorem pO:iX Tryz.prog 184=some [(iv 0),(iv 0),(iv 0),(iv 0),(iv 0),(iv 0),(iv 0),(iv 0),(iv 0),(iv 0),(iv 0),(iv 0),(iv 0),(iv 0),(iv 0),(iv 0),(iv 0),(iv 0),(iv 0),(iv 0),(iv 0),(iv 0),(iv 0),(iv 0),(iv 0),(iv 0)]:=by kernel_rfl
theorem pP:fI Tryz.prog 184=some 26:=by kernel_rfl
theorem qV:dH Tryz.prog 86 2=some 2:=by kernel_rfl
theorem qW:dH Tryz.prog 86 3=some 3:=by kernel_rfl
theorem qX:dH Tryz.prog 86 4=some 4:=by kernel_rfl
theorem jz:aO Tryz.prog 97=true:=by kernel_rfl
theorem nb:dH Tryz.prog 86 5=some 5:=by kernel_rfl
theorem uY:eG Tryz.prog 84=some false:=by kernel_rfl
theorem kU:eG Tryz.prog 86=some true:=by kernel_rfl
theorem tx:fI Tryz.prog 84=some 1:=by kernel_rfl
theorem qY:aO Tryz.prog 98=true:=by kernel_rfl
theorem pQ:aO Tryz.prog 153=true:=by kernel_rfl
theorem nc:dH Tryz.prog 86 6=some 6:=by kernel_rfl
theorem uZ:aO Tryz.prog 57=true:=by kernel_rfl
theorem u':aO Tryz.prog 56=true:=by kernel_rfl
theorem tz:aO Tryz.prog 59=true:=by kernel_rfl
theorem gO:iX Tryz.prog 47=some [(.slice none 0 0),(.slice none 0 0),(iv 0),(iv 0)]:=by kernel_rfl
theorem kV:gM Tryz.prog 47=some [(0,1),(1,1),(2,1),(3,1)]:=by kernel_rfl
theorem hB:fI Tryz.prog 47=some 4:=by kernel_rfl
theorem tA:eG Tryz.prog 47=some true:=by kernel_rfl
theorem v6:aO Tryz.prog 26=true:=by kernel_rfl
theorem qZ:dH Tryz.prog 47 0=some 0:=by kernel_rfl
theorem r0:dH Tryz.prog 47 1=some 1:=by kernel_rfl
theorem ra:dH Tryz.prog 47 3=some 3:=by kernel_rfl
theorem rb:dH Tryz.prog 47 2=some 2:=by kernel_rfl
theorem tB:aO Tryz.prog 90=true:=by kernel_rfl
theorem re:aO Tryz.prog 93=true:=by kernel_rfl
theorem v7:aO Tryz.prog 94=true:=by kernel_rfl
theorem tC:aO Tryz.prog 157=true:=by kernel_rfl
theorem v8:aO Tryz.prog 91=true:=by kernel_rfl
theorem va:aO Tryz.prog 60=true:=by kernel_rfl
theorem tD:aO Tryz.prog 158=true:=by kernel_rfl
theorem tF:aO Tryz.prog 193=true:=by kernel_rfl
theorem vc:aO Tryz.prog 61=true:=by kernel_rfl
theorem tG:aO Tryz.prog 11=true:=by kernel_rfl
theorem nd:eG Tryz.prog 27=some false:=by kernel_rfl
theorem pR:aO Tryz.prog 145=true:=by kernel_rfl
theorem vd:aO Tryz.prog 62=true:=by kernel_rfl
theorem tH:aO Tryz.prog 13=true:=by kernel_rfl
theorem ve:Tryz.prog.underlying 4=some .bool:=by kernel_rfl
theorem rf:aO Tryz.prog 12=true:=by kernel_rfl
theorem tJ:aO Tryz.prog 63=true:=by kernel_rfl
theorem tK:aO Tryz.prog 14=true:=by kernel_rfl
theorem vf:aO Tryz.prog 15=true:=by kernel_rfl
theorem pS:aO Tryz.prog 159=true:=by kernel_rfl
theorem vh:aO Tryz.prog 64=true:=by kernel_rfl
theorem tL:aO Tryz.prog 16=true:=by kernel_rfl
instance:HSl Tryz.prog 22 72:=⟨uJ⟩
instance:HSz Tryz.prog 72 2:=⟨qH⟩
instance:HAg Tryz.prog 72 true:=⟨qK⟩
instance:HFo Tryz.prog 72 0 0:=⟨qL⟩
instance:HAg Tryz.prog 36 false:=⟨fW⟩
instance:HSl Tryz.prog 36 3:=⟨cW⟩
instance:HFo Tryz.prog 72 1 1:=⟨qO⟩
instance:HSl Tryz.prog 27 38:=⟨iA⟩
instance:HSz Tryz.prog 38 2:=⟨cP⟩
instance:HSz Tryz.prog 3 1:=⟨eC⟩
instance:HAg Tryz.prog 3 false:=⟨oE⟩
instance:HFo Tryz.prog 38 0 0:=⟨iB⟩
instance:HSz Tryz.prog 36 1:=⟨gx⟩
instance:HFo Tryz.prog 38 1 1:=⟨jv⟩
instance:HAg Tryz.prog 38 true:=⟨hW⟩
instance:HSl Tryz.prog 24 27:=⟨kl⟩
instance:HSz Tryz.prog 27 1:=⟨km⟩
instance:HSl Tryz.prog 73 9:=⟨jw⟩
instance:HSz Tryz.prog 9 1:=⟨lz⟩
instance:HAg Tryz.prog 9 false:=⟨jx⟩
instance:HSl Tryz.prog 84 36:=⟨kT⟩
instance:HSz Tryz.prog 86 7:=⟨gy⟩
instance:HSz Tryz.prog 184 26:=⟨pP⟩
instance:HFo Tryz.prog 86 2 2:=⟨qV⟩
instance:HFo Tryz.prog 86 3 3:=⟨qW⟩
instance:HFo Tryz.prog 86 4 4:=⟨qX⟩
instance:HFo Tryz.prog 86 5 5:=⟨nb⟩
instance:HAg Tryz.prog 84 false:=⟨uY⟩
instance:HAg Tryz.prog 86 true:=⟨kU⟩
instance:HSz Tryz.prog 84 1:=⟨tx⟩
instance:HFo Tryz.prog 86 6 6:=⟨nc⟩
instance:HSz Tryz.prog 47 4:=⟨hB⟩
instance:HAg Tryz.prog 47 true:=⟨tA⟩
instance:HFo Tryz.prog 47 0 0:=⟨qZ⟩
instance:HFo Tryz.prog 47 1 1:=⟨r0⟩
instance:HFo Tryz.prog 47 3 3:=⟨ra⟩
instance:HFo Tryz.prog 47 2 2:=⟨rb⟩
instance:HAg Tryz.prog 27 false:=⟨nd⟩
end Go.Proofs.YtmpnollfdpdipaaGreatDoor
