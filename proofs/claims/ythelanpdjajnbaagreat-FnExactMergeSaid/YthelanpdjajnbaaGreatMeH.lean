import Derived.Test.YthelanpdjajnbaaGreatPg19
import Derived.Test.YthelanpdjajnbaaGreatStLK
import Derived.Test.YthelanpdjajnbaaGreatPg33
import Derived.Test.YthelanpdjajnbaaGreatProg
set_option linter.unusedVariables false
namespace Go.Proofs.YthelanpdjajnbaaGreat
open Go Go.Pg
structure Node where
 Op:Int
 Args:(List Int)
 Dims:(List Int)
 Ints:(List Int)
 Form:aP
 Data:(List Int)
 deriving Inhabited,DecidableEq
structure Graph where
 Nodes:(List Node)
 Outs:(List Int)
 deriving Inhabited,DecidableEq
structure Tensor where
 Dims:(List Int)
 Data:(List Int)
 deriving Inhabited,DecidableEq
structure View where
 Dims:(List Int)
 Strides:(List Int)
 Offset:Int
 Base:Int
 deriving Inhabited,DecidableEq
structure leafKind where
 data:Bool
 deriving Inhabited,DecidableEq
structure pairKind where
 op:Int
 deriving Inhabited,DecidableEq
structure soloKind where
 op:Int
 deriving Inhabited,DecidableEq
structure topKind where
 deriving Inhabited,DecidableEq
structure formKind where
 deriving Inhabited,DecidableEq
structure shiftKind where
 use:aP
 deriving Inhabited,DecidableEq
structure form where
 groups:(List aP)
 out_:aP
 order:aP
 loops:(List Int)
 dims:(List Int)
 steps:(List (List Int))
 store:(List Int)
 deriving Inhabited,DecidableEq
structure pair where
 from_:Int
 to:Int
 deriving Inhabited,DecidableEq
def str0:aP:=[45,62]
def hW:aP:=[100]
def fF:aP:=[105]
def pg:aP:=[100,120]
def kB:aP:=[102]
def ph:aP:=[120]
def str6:aP:=[44]
def zm:aP:=[109,48]
def str8:aP:=[109]
theorem bQ:Tryz.prog.follows .mixedOrders=true:=by kernel_rfl
abbrev kT3:Kind Int:=Kind.int .i64
def B7:DecK kT3:=DecK.scal _ _
def mS3:MkS kT3:=MkS.scal _ _
def gF:MkO kT3:=MkO.scal _ _
def sP3:SpO kT3:=SpO.scal _ _
def zT3:Zr kT3:=Zr.scal _ _ 0
theorem iP:kT3.Closed:=Kind.scal_closed _ _
abbrev kT23:Kind (List Int):=Kind.sl 3 kT3
def dT23:DecK kT23:=DecK.sl 3 kT3
def nD:MkS kT23:=MkS.sl 3 kT3
def mZ:MkO kT23:=MkO.sl 3 kT3
def va:SpO kT23:=SpO.sl 3 kT3
def zT23:Zr kT23:=Zr.sl 3 kT3
theorem vc:kT23.Closed:=Kind.sl_closed iP 3
abbrev kT9:Kind aP:=Kind.str
def dT9:DecK kT9:=DecK.scal _ _
def mS9:MkS kT9:=MkS.scal _ _
def yP:MkO kT9:=MkO.scal _ _
def sP9:SpO kT9:=SpO.scal _ _
def zT9:Zr kT9:=Zr.scal _ _ []
theorem cT9:kT9.Closed:=Kind.scal_closed _ _
abbrev gG:Kind Node:=Kind.iso (Kind.pair kT3 (Kind.pair kT23 (Kind.pair kT23 (Kind.pair kT23 (Kind.pair kT9 kT23))))) (fun x:Node=>(x.Op,x.Args,x.Dims,x.Ints,x.Form,x.Data))
def dT75:DecK gG:=DecK.iso (DecK.pair B7 (DecK.pair dT23 (DecK.pair dT23 (DecK.pair dT23 (DecK.pair dT9 dT23))))) _
abbrev kT65:Kind Node:=Kind.iso (Kind.pair kT3 (Kind.pair kT23 (Kind.pair kT23 (Kind.pair kT23 (Kind.pair kT9 kT23))))) (fun x:Node=>(x.Op,x.Args,x.Dims,x.Ints,x.Form,x.Data))
def dT65:DecK kT65:=DecK.iso (DecK.pair B7 (DecK.pair dT23 (DecK.pair dT23 (DecK.pair dT23 (DecK.pair dT9 dT23))))) _
def Bt:MkS kT65:=MkS.iso (MkS.pair mS3 (MkS.pair nD (MkS.pair nD (MkS.pair nD (MkS.pair mS9 nD))))) _
def nE:MkO kT65:=MkO.iso (MkO.pair gF (MkO.pair mZ (MkO.pair mZ (MkO.pair mZ (MkO.pair yP mZ))))) _
def rN:SpO kT65:=SpO.iso (SpO.pair sP3 (SpO.pair va (SpO.pair va (SpO.pair va (SpO.pair sP9 va))))) _
def zT65:Zr kT65:=Zr.iso (Zr.pair zT3 (Zr.pair zT23 (Zr.pair zT23 (Zr.pair zT23 (Zr.pair zT9 zT23))))) _ ⟨zT3.z,zT23.z,zT23.z,zT23.z,zT9.z,zT23.z⟩ rfl
theorem t8:kT65.Closed:=Kind.iso_closed (Kind.pair_closed iP (Kind.pair_closed vc (Kind.pair_closed vc (Kind.pair_closed vc (Kind.pair_closed cT9 vc))))) _
abbrev dQ:Kind Tensor:=Kind.iso (Kind.pair kT23 kT23) (fun x:Tensor=>(x.Dims,x.Data))
def dT42:DecK dQ:=DecK.iso (DecK.pair dT23 dT23) _
def zn:MkS dQ:=MkS.iso (MkS.pair nD nD) _
def vd:MkO dQ:=MkO.iso (MkO.pair mZ mZ) _
def zo:Zr dQ:=Zr.iso (Zr.pair zT23 zT23) _ ⟨zT23.z,zT23.z⟩ rfl
abbrev kT165:Kind pair:=Kind.iso (Kind.pair kT3 kT3) (fun x:pair=>(x.from_,x.to))
def zp:DecK kT165:=DecK.iso (DecK.pair B7 B7) _
def jB:MkO kT165:=MkO.iso (MkO.pair gF gF) _
def zT165:Zr kT165:=Zr.iso (Zr.pair zT3 zT3) _ ⟨zT3.z,zT3.z⟩ rfl
theorem ta:kT165.Closed:=Kind.iso_closed (Kind.pair_closed iP iP) _
abbrev Cw:Kind Int:=Kind.int .u8
def mO5:MkO Cw:=MkO.scal _ _
theorem m':fP Tryz.prog 25=some true:=by kernel_rfl
theorem n0:iK Tryz.prog 25=some 2:=by kernel_rfl
theorem xw:dC Tryz.prog 25 0=some 0:=by kernel_rfl
theorem Bu:fP Tryz.prog 22=some false:=by kernel_rfl
theorem Bv:mo Tryz.prog 22=some 75:=by kernel_rfl
theorem xx:iK Tryz.prog 75=some 6:=by kernel_rfl
theorem xy:fP Tryz.prog 75=some true:=by kernel_rfl
theorem xz:dC Tryz.prog 75 1=some 1:=by kernel_rfl
theorem bZ:fP Tryz.prog 23=some false:=by kernel_rfl
theorem bI:mo Tryz.prog 23=some 3:=by kernel_rfl
theorem tb:aZ Tryz.prog 24=true:=by kernel_rfl
theorem xA:dC Tryz.prog 75 2=some 2:=by kernel_rfl
theorem xB:dC Tryz.prog 75 3=some 3:=by kernel_rfl
theorem xC:dC Tryz.prog 75 4=some 4:=by kernel_rfl
theorem pI:fP Tryz.prog 9=some false:=by kernel_rfl
theorem gH:Tryz.prog.underlying 9=some .string:=by kernel_rfl
theorem xD:dC Tryz.prog 75 5=some 5:=by kernel_rfl
theorem Bw:aZ Tryz.prog 54=true:=by kernel_rfl
theorem Bx:aZ Tryz.prog 23=true:=by kernel_rfl
theorem xE:dC Tryz.prog 25 1=some 1:=by kernel_rfl
theorem Cy:aZ Tryz.prog 6=true:=by kernel_rfl
theorem hX:kX Tryz.prog 31=some [(.slice none 0 0),(.slice none 0 0)]:=by kernel_rfl
theorem gQ:mo Tryz.prog 29=some 65:=by kernel_rfl
theorem eN:iK Tryz.prog 65=some 6:=by kernel_rfl
theorem tc:hT Tryz.prog 65=some 120:=by kernel_rfl
theorem jC:kX Tryz.prog 65=some [(iv 0),(.slice none 0 0),(.slice none 0 0),(.slice none 0 0),(aH ([]:aP)),(.slice none 0 0)]:=by kernel_rfl
theorem te:dC Tryz.prog 75 0=some 0:=by kernel_rfl
theorem fC:fP Tryz.prog 3=some false:=by kernel_rfl
theorem gR:dC Tryz.prog 65 0=some 0:=by kernel_rfl
theorem cI:iK Tryz.prog 3=some 1:=by kernel_rfl
theorem jN:hT Tryz.prog 3=some 8:=by kernel_rfl
theorem gB:kX Tryz.prog 3=some [(iv 0)]:=by kernel_rfl
theorem jl:dC Tryz.prog 65 1=some 1:=by kernel_rfl
theorem eX:iK Tryz.prog 23=some 1:=by kernel_rfl
theorem zq:aZ Tryz.prog 9=true:=by kernel_rfl
theorem i':dC Tryz.prog 65 2=some 2:=by kernel_rfl
theorem gS:dC Tryz.prog 65 3=some 3:=by kernel_rfl
theorem lQ:dC Tryz.prog 65 4=some 4:=by kernel_rfl
theorem rO:iK Tryz.prog 9=some 1:=by kernel_rfl
theorem kN:dC Tryz.prog 65 5=some 5:=by kernel_rfl
theorem kC:fP Tryz.prog 65=some true:=by kernel_rfl
theorem By:aZ Tryz.prog 61=true:=by kernel_rfl
theorem fI:dC Tryz.prog 31 0=some 0:=by kernel_rfl
theorem tf:iK Tryz.prog 29=some 1:=by kernel_rfl
theorem Bz:aZ Tryz.prog 28=true:=by kernel_rfl
theorem gT:dC Tryz.prog 31 1=some 1:=by kernel_rfl
theorem fB:fP Tryz.prog 31=some true:=by kernel_rfl
theorem dN:iK Tryz.prog 31=some 2:=by kernel_rfl
theorem jp:mo Tryz.prog 54=some 23:=by kernel_rfl
theorem kO:kX Tryz.prog 23=some [(.slice none 0 0)]:=by kernel_rfl
theorem gX:mo Tryz.prog 79=some 42:=by kernel_rfl
theorem bX:iK Tryz.prog 42=some 2:=by kernel_rfl
theorem dZ:kX Tryz.prog 42=some [(.slice none 0 0),(.slice none 0 0)]:=by kernel_rfl
theorem kh:fP Tryz.prog 29=some false:=by kernel_rfl
theorem BA:aZ Tryz.prog 85=true:=by kernel_rfl
theorem BC:aZ Tryz.prog 86=true:=by kernel_rfl
theorem BD:aZ Tryz.prog 87=true:=by kernel_rfl
theorem BE:aZ Tryz.prog 76=true:=by kernel_rfl
theorem ve:aZ Tryz.prog 77=true:=by kernel_rfl
theorem gA:fP Tryz.prog 42=some true:=by kernel_rfl
theorem zr:hT Tryz.prog 42=some 48:=by kernel_rfl
theorem hM:fX Tryz.prog 42=some [(0,1),(1,1)]:=by kernel_rfl
theorem j0:dC Tryz.prog 42 0=some 0:=by kernel_rfl
theorem oe:aZ Tryz.prog 58=true:=by kernel_rfl
theorem tg:dC Tryz.prog 42 1=some 1:=by kernel_rfl
theorem kD:aZ Tryz.prog 71=true:=by kernel_rfl
theorem og:aZ Tryz.prog 35=true:=by kernel_rfl
theorem jr:aZ Tryz.prog 37=true:=by kernel_rfl
theorem vf:aZ Tryz.prog 36=true:=by kernel_rfl
theorem wv:aZ Tryz.prog 149=true:=by kernel_rfl
theorem zt:aZ Tryz.prog 118=true:=by kernel_rfl
theorem la:aZ Tryz.prog 102=true:=by kernel_rfl
theorem mh:aZ Tryz.prog 119=true:=by kernel_rfl
theorem th:aZ Tryz.prog 131=true:=by kernel_rfl
theorem nO:aZ Tryz.prog 129=true:=by kernel_rfl
theorem jX:aZ Tryz.prog 103=true:=by kernel_rfl
theorem pi:aZ Tryz.prog 125=true:=by kernel_rfl
theorem qT:aZ Tryz.prog 132=true:=by kernel_rfl
theorem ww:aZ Tryz.prog 150=true:=by kernel_rfl
theorem pj:aZ Tryz.prog 128=true:=by kernel_rfl
theorem wx:aZ Tryz.prog 163=true:=by kernel_rfl
theorem wy:aZ Tryz.prog 152=true:=by kernel_rfl
theorem zu:aZ Tryz.prog 151=true:=by kernel_rfl
theorem wz:aZ Tryz.prog 121=true:=by kernel_rfl
theorem zw:aZ Tryz.prog 120=true:=by kernel_rfl
theorem BF:aZ Tryz.prog 88=true:=by kernel_rfl
theorem zx:aZ Tryz.prog 122=true:=by kernel_rfl
theorem BG:aZ Tryz.prog 89=true:=by kernel_rfl
theorem pl:aZ Tryz.prog 123=true:=by kernel_rfl
theorem lb:aZ Tryz.prog 139=true:=by kernel_rfl
theorem zy:aZ Tryz.prog 124=true:=by kernel_rfl
theorem BH:aZ Tryz.prog 90=true:=by kernel_rfl
theorem mi:mo Tryz.prog 149=some 9:=by kernel_rfl
theorem zz:kX Tryz.prog 9=some [(aH ([]:aP))]:=by kernel_rfl
theorem Cz:hT Tryz.prog 9=some 16:=by kernel_rfl
theorem wA:aZ Tryz.prog 153=true:=by kernel_rfl
theorem wB:aZ Tryz.prog 154=true:=by kernel_rfl
theorem zA:aZ Tryz.prog 126=true:=by kernel_rfl
theorem tj:hT Tryz.prog 23=some 24:=by kernel_rfl
theorem zB:aZ Tryz.prog 127=true:=by kernel_rfl
theorem zC:aZ Tryz.prog 130=true:=by kernel_rfl
theorem BI:aZ Tryz.prog 91=true:=by kernel_rfl
theorem cF:kX Tryz.prog 111=some [(.slice none 0 0),(.slice none 0 0),(iv 0),(iv 0)]:=by kernel_rfl
theorem eE:fX Tryz.prog 111=some [(0,1),(1,1),(2,1),(3,1)]:=by kernel_rfl
theorem bW:iK Tryz.prog 111=some 4:=by kernel_rfl
theorem fN:dC Tryz.prog 111 1=some 1:=by kernel_rfl
theorem eY:fP Tryz.prog 111=some true:=by kernel_rfl
theorem f':dC Tryz.prog 111 0=some 0:=by kernel_rfl
theorem zD:aZ Tryz.prog 135=true:=by kernel_rfl
theorem vg:dC Tryz.prog 111 3=some 3:=by kernel_rfl
theorem mC:dC Tryz.prog 111 2=some 2:=by kernel_rfl
theorem zE:aZ Tryz.prog 155=true:=by kernel_rfl
theorem qU:aZ Tryz.prog 134=true:=by kernel_rfl
theorem mj:aZ Tryz.prog 133=true:=by kernel_rfl
theorem vi:aZ Tryz.prog 94=true:=by kernel_rfl
theorem BJ:aZ Tryz.prog 93=true:=by kernel_rfl
theorem vj:aZ Tryz.prog 92=true:=by kernel_rfl
theorem BK:aZ Tryz.prog 95=true:=by kernel_rfl
theorem wC:aZ Tryz.prog 136=true:=by kernel_rfl
theorem wD:aZ Tryz.prog 137=true:=by kernel_rfl
theorem wE:aZ Tryz.prog 138=true:=by kernel_rfl
theorem BL:aZ Tryz.prog 96=true:=by kernel_rfl
theorem tl:aZ Tryz.prog 140=true:=by kernel_rfl
theorem BM:aZ Tryz.prog 97=true:=by kernel_rfl
theorem BN:aZ Tryz.prog 98=true:=by kernel_rfl
theorem BO:aZ Tryz.prog 99=true:=by kernel_rfl
theorem zF:aZ Tryz.prog 100=true:=by kernel_rfl
theorem zG:aZ Tryz.prog 101=true:=by kernel_rfl
theorem BP:aZ Tryz.prog 78=true:=by kernel_rfl
theorem BQ:aZ Tryz.prog 79=true:=by kernel_rfl
theorem zH:aZ Tryz.prog 60=true:=by kernel_rfl
theorem BR:aZ Tryz.prog 27=true:=by kernel_rfl
theorem pT:aZ Tryz.prog 34=true:=by kernel_rfl
theorem BS:aZ Tryz.prog 48=true:=by kernel_rfl
theorem oh:fX Tryz.prog 31=some [(0,1),(1,1)]:=by kernel_rfl
theorem zI:fX Tryz.prog 65=some [(0,1),(1,1),(2,1),(3,1),(4,1),(5,1)]:=by kernel_rfl
theorem zJ:aZ Tryz.prog 38=true:=by kernel_rfl
theorem qV:aZ Tryz.prog 8=true:=by kernel_rfl
theorem vk:aZ Tryz.prog 21=true:=by kernel_rfl
theorem wF:fX Tryz.prog 122=some [(0,1)]:=by kernel_rfl
theorem wG:kX Tryz.prog 122=some [(.bool false)]:=by kernel_rfl
theorem wH:Tryz.prog.concrete 122=true:=by kernel_rfl
theorem zK:fX Tryz.prog 124=some [(0,1)]:=by kernel_rfl
theorem zL:kX Tryz.prog 124=some [(iv 0)]:=by kernel_rfl
theorem zM:Tryz.prog.concrete 124=true:=by kernel_rfl
theorem zN:fX Tryz.prog 125=some [(0,1)]:=by kernel_rfl
theorem zO:kX Tryz.prog 125=some [(iv 0)]:=by kernel_rfl
theorem zP:Tryz.prog.concrete 125=true:=by kernel_rfl
theorem zQ:fX Tryz.prog 127=some []:=by kernel_rfl
theorem zR:kX Tryz.prog 127=some []:=by kernel_rfl
theorem zS:Tryz.prog.concrete 127=true:=by kernel_rfl
theorem zT:fX Tryz.prog 128=some []:=by kernel_rfl
theorem zU:kX Tryz.prog 128=some []:=by kernel_rfl
theorem zV:Tryz.prog.concrete 128=true:=by kernel_rfl
theorem n5:fX Tryz.prog 131=some [(0,1),(1,1)]:=by kernel_rfl
theorem n6:kX Tryz.prog 131=some [(aH ([]:aP)),.nilFunc]:=by kernel_rfl
theorem n8:Tryz.prog.concrete 131=true:=by kernel_rfl
theorem qW:aZ Tryz.prog 106=true:=by kernel_rfl
theorem BT:aZ Tryz.prog 80=true:=by kernel_rfl
theorem vl:dC Tryz.prog 122 0=some 0:=by kernel_rfl
theorem ag4:fP Tryz.prog 4=some false:=by kernel_rfl
theorem vm:dC Tryz.prog 131 0=some 0:=by kernel_rfl
theorem pU (v:Value)(args:Array Value)(w:World):(callMethod (.iface 122 v) "loop.example/g00033/impl.uses" args).run Tryz.prog w=.ok (.enter 194 (#[v]++args)) w:=by kernel_rfl
theorem pV (v:Value)(args:Array Value)(w:World):(callMethod (.iface 124 v) "loop.example/g00033/impl.uses" args).run Tryz.prog w=.ok (.enter 196 (#[v]++args)) w:=by kernel_rfl
theorem pW (v:Value)(args:Array Value)(w:World):(callMethod (.iface 125 v) "loop.example/g00033/impl.uses" args).run Tryz.prog w=.ok (.enter 198 (#[v]++args)) w:=by kernel_rfl
theorem pX (v:Value)(args:Array Value)(w:World):(callMethod (.iface 127 v) "loop.example/g00033/impl.uses" args).run Tryz.prog w=.ok (.enter 200 (#[v]++args)) w:=by kernel_rfl
theorem pY (v:Value)(args:Array Value)(w:World):(callMethod (.iface 128 v) "loop.example/g00033/impl.uses" args).run Tryz.prog w=.ok (.enter 202 (#[v]++args)) w:=by kernel_rfl
theorem hY (v:Value)(args:Array Value)(w:World):(callMethod (.iface 131 v) "loop.example/g00033/impl.uses" args).run Tryz.prog w=.ok (.enter 218 (#[v]++args)) w:=by kernel_rfl
theorem wI:aZ Tryz.prog 162=true:=by kernel_rfl
theorem wJ:aZ Tryz.prog 148=true:=by kernel_rfl
theorem zW:aZ Tryz.prog 116=true:=by kernel_rfl
theorem j3:aZ Tryz.prog 115=true:=by kernel_rfl
theorem zX:aZ Tryz.prog 81=true:=by kernel_rfl
theorem BU:aZ Tryz.prog 84=true:=by kernel_rfl
theorem lR:aZ Tryz.prog 72=true:=by kernel_rfl
theorem mq:aZ Tryz.prog 65=true:=by kernel_rfl
theorem BV:aZ Tryz.prog 73=true:=by kernel_rfl
theorem BW:aZ Tryz.prog 40=true:=by kernel_rfl
theorem xF:aZ Tryz.prog 41=true:=by kernel_rfl
theorem hN:aZ Tryz.prog 144=true:=by kernel_rfl
theorem lc:kX Tryz.prog 198=some [(.slice none 0 0),(aH ([]:aP)),(aH ([]:aP)),(.slice none 0 0),(.slice none 0 0),(.slice none 0 0),(.slice none 0 0)]:=by kernel_rfl
theorem zY:aZ Tryz.prog 209=true:=by kernel_rfl
theorem zZ:aZ Tryz.prog 207=true:=by kernel_rfl
theorem z':aZ Tryz.prog 212=true:=by kernel_rfl
theorem A0:aZ Tryz.prog 210=true:=by kernel_rfl
theorem A1:aZ Tryz.prog 208=true:=by kernel_rfl
theorem Aa:aZ Tryz.prog 172=true:=by kernel_rfl
theorem qX:aZ Tryz.prog 205=true:=by kernel_rfl
theorem Ab:aZ Tryz.prog 204=true:=by kernel_rfl
theorem nP:fX Tryz.prog 198=some [(0,1),(1,1),(2,1),(3,1),(4,1),(5,1),(6,1)]:=by kernel_rfl
theorem j4:iK Tryz.prog 198=some 7:=by kernel_rfl
theorem tm:zd Tryz.prog 201=some (26,3):=by kernel_rfl
theorem wK:kX Tryz.prog 201=some [(iv 0),(iv 0),(iv 0),(iv 0),(iv 0),(iv 0),(iv 0),(iv 0),(iv 0),(iv 0),(iv 0),(iv 0),(iv 0),(iv 0),(iv 0),(iv 0),(iv 0),(iv 0),(iv 0),(iv 0),(iv 0),(iv 0),(iv 0),(iv 0),(iv 0),(iv 0)]:=by kernel_rfl
theorem wL:iK Tryz.prog 201=some 26:=by kernel_rfl
theorem vn:dC Tryz.prog 198 2=some 2:=by kernel_rfl
theorem vo:dC Tryz.prog 198 3=some 3:=by kernel_rfl
theorem vq:dC Tryz.prog 198 4=some 4:=by kernel_rfl
theorem iQ:aZ Tryz.prog 43=true:=by kernel_rfl
theorem qY:dC Tryz.prog 198 5=some 5:=by kernel_rfl
theorem BX:fP Tryz.prog 54=some false:=by kernel_rfl
theorem n9:fP Tryz.prog 198=some true:=by kernel_rfl
theorem Ac:iK Tryz.prog 54=some 1:=by kernel_rfl
theorem tn:aZ Tryz.prog 165=true:=by kernel_rfl
theorem wM:aZ Tryz.prog 206=true:=by kernel_rfl
theorem qZ:dC Tryz.prog 198 6=some 6:=by kernel_rfl
theorem Ad:aZ Tryz.prog 203=true:=by kernel_rfl
theorem vr:dC Tryz.prog 131 1=some 1:=by kernel_rfl
theorem Ae:fP Tryz.prog 129=some false:=by kernel_rfl
theorem Af:aZ Tryz.prog 158=true:=by kernel_rfl
theorem na:aZ Tryz.prog 156=true:=by kernel_rfl
theorem Ag:aZ Tryz.prog 167=true:=by kernel_rfl
theorem tp:aZ Tryz.prog 166=true:=by kernel_rfl
theorem Ah:aZ Tryz.prog 159=true:=by kernel_rfl
theorem tq:aZ Tryz.prog 169=true:=by kernel_rfl
theorem Ai:aZ Tryz.prog 168=true:=by kernel_rfl
theorem Aj:aZ Tryz.prog 160=true:=by kernel_rfl
theorem Ak:aZ Tryz.prog 171=true:=by kernel_rfl
theorem Al:aZ Tryz.prog 170=true:=by kernel_rfl
theorem Am:aZ Tryz.prog 161=true:=by kernel_rfl
theorem fT:mo Tryz.prog 133=some 165:=by kernel_rfl
theorem fU:iK Tryz.prog 165=some 2:=by kernel_rfl
theorem eZ:kX Tryz.prog 165=some [(iv 0),(iv 0)]:=by kernel_rfl
theorem An:kX Tryz.prog 133=some [(.slice none 0 0)]:=by kernel_rfl
theorem ts:iK Tryz.prog 133=some 1:=by kernel_rfl
theorem Ao:aZ Tryz.prog 157=true:=by kernel_rfl
theorem Ap:fP Tryz.prog 133=some false:=by kernel_rfl
theorem nb:fX Tryz.prog 165=some [(0,1),(1,1)]:=by kernel_rfl
theorem ml:hT Tryz.prog 165=some 16:=by kernel_rfl
theorem Aq:aZ Tryz.prog 164=true:=by kernel_rfl
theorem Ar:aZ Tryz.prog 142=true:=by kernel_rfl
theorem As:aZ Tryz.prog 141=true:=by kernel_rfl
theorem At:aZ Tryz.prog 104=true:=by kernel_rfl
theorem Au:aZ Tryz.prog 105=true:=by kernel_rfl
theorem Av:fP Tryz.prog 136=some false:=by kernel_rfl
theorem r0:aZ Tryz.prog 145=true:=by kernel_rfl
theorem wN:aZ Tryz.prog 147=true:=by kernel_rfl
theorem wO:fP Tryz.prog 165=some true:=by kernel_rfl
theorem ra:dC Tryz.prog 165 0=some 0:=by kernel_rfl
theorem rb:dC Tryz.prog 165 1=some 1:=by kernel_rfl
theorem tt:aZ Tryz.prog 146=true:=by kernel_rfl
theorem Aw:aZ Tryz.prog 108=true:=by kernel_rfl
theorem Ax:aZ Tryz.prog 107=true:=by kernel_rfl
theorem re:aZ Tryz.prog 143=true:=by kernel_rfl
theorem Ay:aZ Tryz.prog 110=true:=by kernel_rfl
theorem Az:aZ Tryz.prog 109=true:=by kernel_rfl
theorem AA:aZ Tryz.prog 112=true:=by kernel_rfl
theorem AB:aZ Tryz.prog 111=true:=by kernel_rfl
theorem AC:aZ Tryz.prog 114=true:=by kernel_rfl
theorem AD:aZ Tryz.prog 113=true:=by kernel_rfl
theorem pm (v:Value)(args:Array Value)(w:World):(callMethod (.iface 122 v) "loop.example/g00033/impl.shape" args).run Tryz.prog w=.ok (.enter 193 (#[v]++args)) w:=by kernel_rfl
theorem pn (v:Value)(args:Array Value)(w:World):(callMethod (.iface 124 v) "loop.example/g00033/impl.shape" args).run Tryz.prog w=.ok (.enter 195 (#[v]++args)) w:=by kernel_rfl
theorem po (v:Value)(args:Array Value)(w:World):(callMethod (.iface 125 v) "loop.example/g00033/impl.shape" args).run Tryz.prog w=.ok (.enter 197 (#[v]++args)) w:=by kernel_rfl
theorem pq (v:Value)(args:Array Value)(w:World):(callMethod (.iface 127 v) "loop.example/g00033/impl.shape" args).run Tryz.prog w=.ok (.enter 199 (#[v]++args)) w:=by kernel_rfl
theorem pu (v:Value)(args:Array Value)(w:World):(callMethod (.iface 128 v) "loop.example/g00033/impl.shape" args).run Tryz.prog w=.ok (.enter 201 (#[v]++args)) w:=by kernel_rfl
theorem hB (v:Value)(args:Array Value)(w:World):(callMethod (.iface 131 v) "loop.example/g00033/impl.shape" args).run Tryz.prog w=.ok (.enter 217 (#[v]++args)) w:=by kernel_rfl
theorem BY:aZ Tryz.prog 63=true:=by kernel_rfl
theorem xG:aZ Tryz.prog 30=true:=by kernel_rfl
theorem BZ:aZ Tryz.prog 49=true:=by kernel_rfl
theorem AE:aZ Tryz.prog 50=true:=by kernel_rfl
theorem B':aZ Tryz.prog 74=true:=by kernel_rfl
theorem C0:aZ Tryz.prog 42=true:=by kernel_rfl
theorem C1:aZ Tryz.prog 52=true:=by kernel_rfl
theorem AF:aZ Tryz.prog 51=true:=by kernel_rfl
theorem C2:aZ Tryz.prog 53=true:=by kernel_rfl
theorem C3:aZ Tryz.prog 39=true:=by kernel_rfl
theorem tu:aZ Tryz.prog 22=true:=by kernel_rfl
theorem tv:aZ Tryz.prog 12=true:=by kernel_rfl
theorem C4:aZ Tryz.prog 70=true:=by kernel_rfl
theorem C5:aZ Tryz.prog 33=true:=by kernel_rfl
theorem C6:Tryz.prog.underlying 4=some .bool:=by kernel_rfl
theorem tw:aZ Tryz.prog 11=true:=by kernel_rfl
theorem tx:aZ Tryz.prog 45=true:=by kernel_rfl
theorem un3:Tryz.prog.underlying 3=some (.int .i64):=by kernel_rfl
theorem CA:Tryz.prog.underlying 5=some (.int .u8):=by kernel_rfl
theorem tz:mo Tryz.prog 103=some 5:=by kernel_rfl
theorem CB:iK Tryz.prog 5=some 1:=by kernel_rfl
theorem zc5:kX Tryz.prog 5=some [(.int .u8 (0:Int))]:=by kernel_rfl
theorem AG:aZ Tryz.prog 75=true:=by kernel_rfl
theorem C7:aZ Tryz.prog 44=true:=by kernel_rfl
theorem xH:aZ Tryz.prog 18=true:=by kernel_rfl
theorem tA:aZ Tryz.prog 47=true:=by kernel_rfl
theorem C8:aZ Tryz.prog 46=true:=by kernel_rfl
theorem AH:aZ Tryz.prog 20=true:=by kernel_rfl
structure kindOfR where
 t:Nat
 b0:Bool
 i0:Int
 i1:Int
 s0:aP
 deriving Inhabited,DecidableEq
def dG (r:kindOfR)(h:Nat×Nat×Nat):Value:=cond (Nat.beq r.t 0) .nilIface (cond (Nat.beq r.t 1) (.iface 122 (.agg [(.bool r.b0)].toArray)) (cond (Nat.beq r.t 2) (.iface 124 (.agg [(iv r.i0)].toArray)) (cond (Nat.beq r.t 3) (.iface 125 (.agg [(iv r.i0)].toArray)) (cond (Nat.beq r.t 4) (.iface 127 (.agg [].toArray)) (cond (Nat.beq r.t 5) (.iface 128 (.agg [].toArray)) (cond (Nat.beq r.t 6) (.iface 131 (.agg [(aH r.s0),(.func (.func 104) [].toArray [].toArray)].toArray)) (cond (Nat.beq r.t 7) (.iface 131 (.agg [(aH r.s0),(.func (.func 105) [].toArray [].toArray)].toArray)) (cond (Nat.beq r.t 8) (.iface 131 (.agg [(aH r.s0),(.func (.func 143) [].toArray [(pt h.1 0),(pt h.2.1 0),(pt h.2.2 0)].toArray)].toArray)) (cond (Nat.beq r.t 9) (.iface 131 (.agg [(aH r.s0),(.func (.func 143) [].toArray [(pt h.1 0),(pt h.2.1 0),(pt h.2.2 0)].toArray)].toArray)) (cond (Nat.beq r.t 10) (.iface 131 (.agg [(aH r.s0),(.func (.func 143) [].toArray [(pt h.1 0),(pt h.2.1 0),(pt h.2.2 0)].toArray)].toArray)) ((.iface 131 (.agg [(aH r.s0),(.func (.func 143) [].toArray [(pt h.1 0),(pt h.2.1 0),(pt h.2.2 0)].toArray)].toArray)))))))))))))
def fJ (r:kindOfR)(h:Nat×Nat×Nat):HP:=cond (Nat.beq r.t 0) (pk []) (cond (Nat.beq r.t 1) (pk []) (cond (Nat.beq r.t 2) (pk []) (cond (Nat.beq r.t 3) (pk []) (cond (Nat.beq r.t 4) (pk []) (cond (Nat.beq r.t 5) (pk []) (cond (Nat.beq r.t 6) (pk []) (cond (Nat.beq r.t 7) (pk []) (cond (Nat.beq r.t 8) (pk [aJ h.1 [(iv r.i0)] 3,aJ h.2.1 [(iv r.i1)] 3,aJ h.2.2 [(.func (.func 107) [].toArray [].toArray)] 136]) (cond (Nat.beq r.t 9) (pk [aJ h.1 [(iv r.i0)] 3,aJ h.2.1 [(iv r.i1)] 3,aJ h.2.2 [(.func (.func 109) [].toArray [].toArray)] 136]) (cond (Nat.beq r.t 10) (pk [aJ h.1 [(iv r.i0)] 3,aJ h.2.1 [(iv r.i1)] 3,aJ h.2.2 [(.func (.func 111) [].toArray [].toArray)] 136]) ((pk [aJ h.1 [(iv r.i0)] 3,aJ h.2.1 [(iv r.i1)] 3,aJ h.2.2 [(.func (.func 113) [].toArray [].toArray)] 136]))))))))))))
theorem nc {C:World}{n:Nn}{V:List HP}{σ:dI}{d:Option Nat}{ty:TypeId}{pos:String}{af:Array Edge}{gd:Option (Nat×Bool)}{x:Operand}{D:TypeId}{r:kindOfR}{h:Nat×Nat×Nat}(e:ev σ x=dG r h):VO ⟨Tryz.prog,n,C⟩ V σ ⟨d,.binOp .eql 97 x (.const .nilIface) D,ty,pos,af,gd⟩ (.bool (Nat.beq r.t 0)):=by
 rcases bo (Nat.beq r.t 0) with a | a
 ·rw [a]; exact uX (by kernel_rfl) (by rw [e]; simp only [dG,a,cond_true])
 rcases bo (Nat.beq r.t 1) with b | b
 ·rw [a]; exact iY (by kernel_rfl) (by rw [e]; simp only [dG,a,b,cond_true,cond_false]; rfl)
 rcases bo (Nat.beq r.t 2) with g | g
 ·rw [a]; exact iY (by kernel_rfl) (by rw [e]; simp only [dG,a,b,g,cond_true,cond_false]; rfl)
 rcases bo (Nat.beq r.t 3) with i | i
 ·rw [a]; exact iY (by kernel_rfl) (by rw [e]; simp only [dG,a,b,g,i,cond_true,cond_false]; rfl)
 rcases bo (Nat.beq r.t 4) with j | j
 ·rw [a]; exact iY (by kernel_rfl) (by rw [e]; simp only [dG,a,b,g,i,j,cond_true,cond_false]; rfl)
 rcases bo (Nat.beq r.t 5) with l | l
 ·rw [a]; exact iY (by kernel_rfl) (by rw [e]; simp only [dG,a,b,g,i,j,l,cond_true,cond_false]; rfl)
 rcases bo (Nat.beq r.t 6) with q | q
 ·rw [a]; exact iY (by kernel_rfl) (by rw [e]; simp only [dG,a,b,g,i,j,l,q,cond_true,cond_false]; rfl)
 rcases bo (Nat.beq r.t 7) with s | s
 ·rw [a]; exact iY (by kernel_rfl) (by rw [e]; simp only [dG,a,b,g,i,j,l,q,s,cond_true,cond_false]; rfl)
 rcases bo (Nat.beq r.t 8) with u | u
 ·rw [a]; exact iY (by kernel_rfl) (by rw [e]; simp only [dG,a,b,g,i,j,l,q,s,u,cond_true,cond_false]; rfl)
 rcases bo (Nat.beq r.t 9) with B | B
 ·rw [a]; exact iY (by kernel_rfl) (by rw [e]; simp only [dG,a,b,g,i,j,l,q,s,u,B,cond_true,cond_false]; rfl)
 rcases bo (Nat.beq r.t 10) with m | m
 ·rw [a]; exact iY (by kernel_rfl) (by rw [e]; simp only [dG,a,b,g,i,j,l,q,s,u,B,m,cond_true,cond_false]; rfl)
 rw [a]; exact iY (by kernel_rfl) (by rw [e]; simp only [dG,a,b,g,i,j,l,q,s,u,B,m,cond_false]; rfl)
instance:HAg Tryz.prog 25 true:=⟨m'⟩
instance:HSz Tryz.prog 25 2:=⟨n0⟩
instance:HFo Tryz.prog 25 0 0:=⟨xw⟩
instance:HAg Tryz.prog 22 false:=⟨Bu⟩
instance:HSl Tryz.prog 22 75:=⟨Bv⟩
instance:HSz Tryz.prog 75 6:=⟨xx⟩
instance:HAg Tryz.prog 75 true:=⟨xy⟩
instance:HFo Tryz.prog 75 1 1:=⟨xz⟩
instance:HAg Tryz.prog 23 false:=⟨bZ⟩
instance:HSl Tryz.prog 23 3:=⟨bI⟩
instance:HFo Tryz.prog 75 2 2:=⟨xA⟩
instance:HFo Tryz.prog 75 3 3:=⟨xB⟩
instance:HFo Tryz.prog 75 4 4:=⟨xC⟩
instance:HAg Tryz.prog 9 false:=⟨pI⟩
instance:HFo Tryz.prog 75 5 5:=⟨xD⟩
instance:HFo Tryz.prog 25 1 1:=⟨xE⟩
instance:HSl Tryz.prog 29 65:=⟨gQ⟩
instance:HSz Tryz.prog 65 6:=⟨eN⟩
instance:HFo Tryz.prog 75 0 0:=⟨te⟩
instance:HAg Tryz.prog 3 false:=⟨fC⟩
instance:HFo Tryz.prog 65 0 0:=⟨gR⟩
instance:HSz Tryz.prog 3 1:=⟨cI⟩
instance:HFo Tryz.prog 65 1 1:=⟨jl⟩
instance:HSz Tryz.prog 23 1:=⟨eX⟩
instance:HFo Tryz.prog 65 2 2:=⟨i'⟩
instance:HFo Tryz.prog 65 3 3:=⟨gS⟩
instance:HFo Tryz.prog 65 4 4:=⟨lQ⟩
instance:HSz Tryz.prog 9 1:=⟨rO⟩
instance:HFo Tryz.prog 65 5 5:=⟨kN⟩
instance:HAg Tryz.prog 65 true:=⟨kC⟩
instance:HFo Tryz.prog 31 0 0:=⟨fI⟩
instance:HSz Tryz.prog 29 1:=⟨tf⟩
instance:HFo Tryz.prog 31 1 1:=⟨gT⟩
instance:HAg Tryz.prog 31 true:=⟨fB⟩
instance:HSz Tryz.prog 31 2:=⟨dN⟩
instance:HSl Tryz.prog 54 23:=⟨jp⟩
instance:HSl Tryz.prog 79 42:=⟨gX⟩
instance:HSz Tryz.prog 42 2:=⟨bX⟩
instance:HAg Tryz.prog 29 false:=⟨kh⟩
instance:HAg Tryz.prog 42 true:=⟨gA⟩
instance:HFo Tryz.prog 42 0 0:=⟨j0⟩
instance:HFo Tryz.prog 42 1 1:=⟨tg⟩
instance:HSl Tryz.prog 149 9:=⟨mi⟩
instance:HSz Tryz.prog 111 4:=⟨bW⟩
instance:HFo Tryz.prog 111 1 1:=⟨fN⟩
instance:HAg Tryz.prog 111 true:=⟨eY⟩
instance:HFo Tryz.prog 111 0 0:=⟨f'⟩
instance:HFo Tryz.prog 111 3 3:=⟨vg⟩
instance:HFo Tryz.prog 111 2 2:=⟨mC⟩
instance:HFo Tryz.prog 122 0 0:=⟨vl⟩
instance:HAg Tryz.prog 4 false:=⟨ag4⟩
instance:HFo Tryz.prog 131 0 0:=⟨vm⟩
instance:HSz Tryz.prog 198 7:=⟨j4⟩
instance:HSz Tryz.prog 201 26:=⟨wL⟩
instance:HFo Tryz.prog 198 2 2:=⟨vn⟩
instance:HFo Tryz.prog 198 3 3:=⟨vo⟩
instance:HFo Tryz.prog 198 4 4:=⟨vq⟩
instance:HFo Tryz.prog 198 5 5:=⟨qY⟩
instance:HAg Tryz.prog 54 false:=⟨BX⟩
instance:HAg Tryz.prog 198 true:=⟨n9⟩
instance:HSz Tryz.prog 54 1:=⟨Ac⟩
instance:HFo Tryz.prog 198 6 6:=⟨qZ⟩
instance:HFo Tryz.prog 131 1 1:=⟨vr⟩
instance:HAg Tryz.prog 129 false:=⟨Ae⟩
instance:HSl Tryz.prog 133 165:=⟨fT⟩
instance:HSz Tryz.prog 165 2:=⟨fU⟩
instance:HSz Tryz.prog 133 1:=⟨ts⟩
instance:HAg Tryz.prog 133 false:=⟨Ap⟩
instance:HAg Tryz.prog 136 false:=⟨Av⟩
instance:HAg Tryz.prog 165 true:=⟨wO⟩
instance:HFo Tryz.prog 165 0 0:=⟨ra⟩
instance:HFo Tryz.prog 165 1 1:=⟨rb⟩
instance:HSl Tryz.prog 103 5:=⟨tz⟩
instance:HSz Tryz.prog 5 1:=⟨CB⟩
end Go.Proofs.YthelanpdjajnbaaGreat
