import Derived.Test.YtmpnollfdpdipaaGreatPg20
import Derived.Test.YtmpnollfdpdipaaGreatStL
import Derived.Test.YtmpnollfdpdipaaGreatPg33
import Derived.Test.YtmpnollfdpdipaaGreatProg
set_option linter.unusedVariables false
namespace Go.Proofs.YtmpnollfdpdipaaGreat
open Go Go.Pg
structure Node where
 Op:Int
 Args:(List Int)
 Dims:(List Int)
 Ints:(List Int)
 Form:aN
 Data:(List Int)
 deriving Inhabited,DecidableEq
structure Graph where
 Nodes:(List Node)
 Outs:(List Int)
 deriving Inhabited,DecidableEq
structure Tensor where
 Dims:(List Int)
 Data:(List Int)
 deriving Inhabited,DecidableEq
structure View where
 Dims:(List Int)
 Strides:(List Int)
 Offset:Int
 Base:Int
 deriving Inhabited,DecidableEq
structure leafKind where
 data:Bool
 deriving Inhabited,DecidableEq
structure pairKind where
 op:Int
 deriving Inhabited,DecidableEq
structure soloKind where
 op:Int
 deriving Inhabited,DecidableEq
structure topKind where
 deriving Inhabited,DecidableEq
structure formKind where
 deriving Inhabited,DecidableEq
structure shiftKind where
 use:aN
 deriving Inhabited,DecidableEq
structure form where
 groups:(List aN)
 out_:aN
 order:aN
 loops:(List Int)
 dims:(List Int)
 steps:(List (List Int))
 store:(List Int)
 deriving Inhabited,DecidableEq
structure pair where
 from_:Int
 to:Int
 deriving Inhabited,DecidableEq
def str0:aN:=[45,62]
def gU:aN:=[100]
def eQ:aN:=[105]
def oB:aN:=[100,120]
def ki:aN:=[102]
def oC:aN:=[120]
def str6:aN:=[44]
def yA:aN:=[109,48]
def str8:aN:=[109]
theorem bP:Tryz.prog.follows .mixedOrders=true:=by kernel_rfl
abbrev kT3:Kind Int:=Kind.int .i64
def Aq:DecK kT3:=DecK.scal _ _
def gD:MkO kT3:=MkO.scal _ _
def sP3:SpO kT3:=SpO.scal _ _
def zT3:Zr kT3:=Zr.scal _ _ 0
theorem iW:kT3.Closed:=Kind.scal_closed _ _
abbrev bL:Kind (List Int):=Kind.sl 3 kT3
def dT23:DecK bL:=DecK.sl 3 kT3
def sw:MkS bL:=MkS.sl 3 kT3
def mZ:MkO bL:=MkO.sl 3 kT3
def uw:SpO bL:=SpO.sl 3 kT3
def zT23:Zr bL:=Zr.sl 3 kT3
abbrev dQ:Kind aN:=Kind.str
def dT9:DecK dQ:=DecK.scal _ _
def y7:MkO dQ:=MkO.scal _ _
def sP9:SpO dQ:=SpO.scal _ _
def zT9:Zr dQ:=Zr.scal _ _ []
abbrev jV:Kind Node:=Kind.iso (Kind.pair kT3 (Kind.pair bL (Kind.pair bL (Kind.pair bL (Kind.pair dQ bL))))) (fun x:Node=>(x.Op,x.Args,x.Dims,x.Ints,x.Form,x.Data))
def dT70:DecK jV:=DecK.iso (DecK.pair Aq (DecK.pair dT23 (DecK.pair dT23 (DecK.pair dT23 (DecK.pair dT9 dT23))))) _
abbrev cJ:Kind Node:=Kind.iso (Kind.pair kT3 (Kind.pair bL (Kind.pair bL (Kind.pair bL (Kind.pair dQ bL))))) (fun x:Node=>(x.Op,x.Args,x.Dims,x.Ints,x.Form,x.Data))
def dT54:DecK cJ:=DecK.iso (DecK.pair Aq (DecK.pair dT23 (DecK.pair dT23 (DecK.pair dT23 (DecK.pair dT9 dT23))))) _
def pl:MkO cJ:=MkO.iso (MkO.pair gD (MkO.pair mZ (MkO.pair mZ (MkO.pair mZ (MkO.pair y7 mZ))))) _
def rb:SpO cJ:=SpO.iso (SpO.pair sP3 (SpO.pair uw (SpO.pair uw (SpO.pair uw (SpO.pair sP9 uw))))) _
def zT54:Zr cJ:=Zr.iso (Zr.pair zT3 (Zr.pair zT23 (Zr.pair zT23 (Zr.pair zT23 (Zr.pair zT9 zT23))))) _ ⟨zT3.z,zT23.z,zT23.z,zT23.z,zT9.z,zT23.z⟩ rfl
abbrev dX:Kind Tensor:=Kind.iso (Kind.pair bL bL) (fun x:Tensor=>(x.Dims,x.Data))
def dT58:DecK dX:=DecK.iso (DecK.pair dT23 dT23) _
def yB:MkS dX:=MkS.iso (MkS.pair sw sw) _
def wK:MkO dX:=MkO.iso (MkO.pair mZ mZ) _
def yC:Zr dX:=Zr.iso (Zr.pair zT23 zT23) _ ⟨zT23.z,zT23.z⟩ rfl
abbrev kT161:Kind pair:=Kind.iso (Kind.pair kT3 kT3) (fun x:pair=>(x.from_,x.to))
def yD:DecK kT161:=DecK.iso (DecK.pair Aq Aq) _
def j7:MkO kT161:=MkO.iso (MkO.pair gD gD) _
def zT161:Zr kT161:=Zr.iso (Zr.pair zT3 zT3) _ ⟨zT3.z,zT3.z⟩ rfl
theorem sx:kT161.Closed:=Kind.iso_closed (Kind.pair_closed iW iW) _
abbrev BR:Kind Int:=Kind.int .u8
def mO5:MkO BR:=MkO.scal _ _
abbrev iy:Kind Bool:=Kind.bool
def dT4:DecK iy:=DecK.scal _ _
def Ar:MkO iy:=MkO.scal _ _
def BS:Zr iy:=Zr.scal _ _ false
theorem AN:eX Tryz.prog 25=some true:=by kernel_rfl
theorem AO:hN Tryz.prog 25=some 2:=by kernel_rfl
theorem wL:cV Tryz.prog 25 0=some 0:=by kernel_rfl
theorem AP:eX Tryz.prog 22=some false:=by kernel_rfl
theorem AQ:lv Tryz.prog 22=some 70:=by kernel_rfl
theorem wM:hN Tryz.prog 70=some 6:=by kernel_rfl
theorem wN:eX Tryz.prog 70=some true:=by kernel_rfl
theorem wO:cV Tryz.prog 70 1=some 1:=by kernel_rfl
theorem cO:eX Tryz.prog 23=some false:=by kernel_rfl
theorem bK:lv Tryz.prog 23=some 3:=by kernel_rfl
theorem sy:aX Tryz.prog 33=true:=by kernel_rfl
theorem wP:cV Tryz.prog 70 2=some 2:=by kernel_rfl
theorem wQ:cV Tryz.prog 70 3=some 3:=by kernel_rfl
theorem wR:cV Tryz.prog 70 4=some 4:=by kernel_rfl
theorem re:eX Tryz.prog 9=some false:=by kernel_rfl
theorem fJ:Tryz.prog.underlying 9=some .string:=by kernel_rfl
theorem wS:cV Tryz.prog 70 5=some 5:=by kernel_rfl
theorem AR:aX Tryz.prog 50=true:=by kernel_rfl
theorem AS:aX Tryz.prog 32=true:=by kernel_rfl
theorem wT:cV Tryz.prog 25 1=some 1:=by kernel_rfl
theorem cb9:aX Tryz.prog 9=true:=by kernel_rfl
theorem wU:kp Tryz.prog 30=some [(.slice none 0 0),(.slice none 0 0)]:=by kernel_rfl
theorem sA:lv Tryz.prog 28=some 54:=by kernel_rfl
theorem lL:hN Tryz.prog 54=some 6:=by kernel_rfl
theorem AT:gH Tryz.prog 54=some 120:=by kernel_rfl
theorem sB:kp Tryz.prog 54=some [(iv 0),(.slice none 0 0),(.slice none 0 0),(.slice none 0 0),(aD ([]:aN)),(.slice none 0 0)]:=by kernel_rfl
theorem sC:cV Tryz.prog 70 0=some 0:=by kernel_rfl
theorem fP:eX Tryz.prog 3=some false:=by kernel_rfl
theorem jw:cV Tryz.prog 54 0=some 0:=by kernel_rfl
theorem cC:hN Tryz.prog 3=some 1:=by kernel_rfl
theorem kl:gH Tryz.prog 3=some 8:=by kernel_rfl
theorem gF:kp Tryz.prog 3=some [(iv 0)]:=by kernel_rfl
theorem mw:cV Tryz.prog 54 1=some 1:=by kernel_rfl
theorem fU:hN Tryz.prog 23=some 1:=by kernel_rfl
theorem sD:aX Tryz.prog 28=true:=by kernel_rfl
theorem ks:cV Tryz.prog 54 2=some 2:=by kernel_rfl
theorem gV:cV Tryz.prog 54 3=some 3:=by kernel_rfl
theorem pm:cV Tryz.prog 54 4=some 4:=by kernel_rfl
theorem rh:hN Tryz.prog 9=some 1:=by kernel_rfl
theorem nB:cV Tryz.prog 54 5=some 5:=by kernel_rfl
theorem sE:eX Tryz.prog 54=some true:=by kernel_rfl
theorem AU:aX Tryz.prog 58=true:=by kernel_rfl
theorem nC:cV Tryz.prog 30 0=some 0:=by kernel_rfl
theorem yE:hN Tryz.prog 28=some 1:=by kernel_rfl
theorem AV:aX Tryz.prog 35=true:=by kernel_rfl
theorem pn:cV Tryz.prog 30 1=some 1:=by kernel_rfl
theorem po:eX Tryz.prog 30=some true:=by kernel_rfl
theorem nD:hN Tryz.prog 30=some 2:=by kernel_rfl
theorem gI:lv Tryz.prog 46=some 58:=by kernel_rfl
theorem bS:hN Tryz.prog 58=some 2:=by kernel_rfl
theorem dT:kp Tryz.prog 58=some [(.slice none 0 0),(.slice none 0 0)]:=by kernel_rfl
theorem ux:eX Tryz.prog 28=some false:=by kernel_rfl
theorem AW:aX Tryz.prog 75=true:=by kernel_rfl
theorem AX:aX Tryz.prog 76=true:=by kernel_rfl
theorem AY:aX Tryz.prog 77=true:=by kernel_rfl
theorem AZ:aX Tryz.prog 51=true:=by kernel_rfl
theorem uy:aX Tryz.prog 52=true:=by kernel_rfl
theorem fG:eX Tryz.prog 58=some true:=by kernel_rfl
theorem yF:gH Tryz.prog 58=some 48:=by kernel_rfl
theorem gO:fY Tryz.prog 58=some [(0,1),(1,1)]:=by kernel_rfl
theorem iX:cV Tryz.prog 58 0=some 0:=by kernel_rfl
theorem nE:aX Tryz.prog 95=true:=by kernel_rfl
theorem sF:cV Tryz.prog 58 1=some 1:=by kernel_rfl
theorem kj:aX Tryz.prog 92=true:=by kernel_rfl
theorem nG:aX Tryz.prog 55=true:=by kernel_rfl
theorem jW:aX Tryz.prog 57=true:=by kernel_rfl
theorem wV:aX Tryz.prog 56=true:=by kernel_rfl
theorem vE:aX Tryz.prog 138=true:=by kernel_rfl
theorem yG:aX Tryz.prog 101=true:=by kernel_rfl
theorem nH:aX Tryz.prog 93=true:=by kernel_rfl
theorem lA:aX Tryz.prog 102=true:=by kernel_rfl
theorem sG:aX Tryz.prog 114=true:=by kernel_rfl
theorem nb:aX Tryz.prog 112=true:=by kernel_rfl
theorem lQ:aX Tryz.prog 94=true:=by kernel_rfl
theorem oD:aX Tryz.prog 108=true:=by kernel_rfl
theorem qk:aX Tryz.prog 115=true:=by kernel_rfl
theorem vF:aX Tryz.prog 139=true:=by kernel_rfl
theorem oE:aX Tryz.prog 111=true:=by kernel_rfl
theorem vG:aX Tryz.prog 155=true:=by kernel_rfl
theorem vH:aX Tryz.prog 141=true:=by kernel_rfl
theorem yH:aX Tryz.prog 140=true:=by kernel_rfl
theorem vJ:aX Tryz.prog 104=true:=by kernel_rfl
theorem yI:aX Tryz.prog 103=true:=by kernel_rfl
theorem B0:aX Tryz.prog 78=true:=by kernel_rfl
theorem yJ:aX Tryz.prog 105=true:=by kernel_rfl
theorem B1:aX Tryz.prog 79=true:=by kernel_rfl
theorem oG:aX Tryz.prog 106=true:=by kernel_rfl
theorem kM:aX Tryz.prog 122=true:=by kernel_rfl
theorem yK:aX Tryz.prog 107=true:=by kernel_rfl
theorem B2:aX Tryz.prog 80=true:=by kernel_rfl
theorem lD:lv Tryz.prog 122=some 9:=by kernel_rfl
theorem yL:kp Tryz.prog 9=some [(aD ([]:aN))]:=by kernel_rfl
theorem BT:gH Tryz.prog 9=some 16:=by kernel_rfl
theorem vK:aX Tryz.prog 142=true:=by kernel_rfl
theorem vL:aX Tryz.prog 143=true:=by kernel_rfl
theorem yM:aX Tryz.prog 109=true:=by kernel_rfl
theorem kt:lv Tryz.prog 38=some 23:=by kernel_rfl
theorem mx:kp Tryz.prog 23=some [(.slice none 0 0)]:=by kernel_rfl
theorem uz:gH Tryz.prog 23=some 24:=by kernel_rfl
theorem yN:aX Tryz.prog 110=true:=by kernel_rfl
theorem yO:aX Tryz.prog 113=true:=by kernel_rfl
theorem B3:aX Tryz.prog 81=true:=by kernel_rfl
theorem cY:kp Tryz.prog 96=some [(.slice none 0 0),(.slice none 0 0),(iv 0),(iv 0)]:=by kernel_rfl
theorem fE:fY Tryz.prog 96=some [(0,1),(1,1),(2,1),(3,1)]:=by kernel_rfl
theorem cH:hN Tryz.prog 96=some 4:=by kernel_rfl
theorem fZ:cV Tryz.prog 96 1=some 1:=by kernel_rfl
theorem gJ:eX Tryz.prog 96=some true:=by kernel_rfl
theorem gK:cV Tryz.prog 96 0=some 0:=by kernel_rfl
theorem yP:aX Tryz.prog 118=true:=by kernel_rfl
theorem wW:cV Tryz.prog 96 3=some 3:=by kernel_rfl
theorem nI:cV Tryz.prog 96 2=some 2:=by kernel_rfl
theorem yQ:aX Tryz.prog 144=true:=by kernel_rfl
theorem ql:aX Tryz.prog 117=true:=by kernel_rfl
theorem lE:aX Tryz.prog 116=true:=by kernel_rfl
theorem uA:aX Tryz.prog 84=true:=by kernel_rfl
theorem B4:aX Tryz.prog 83=true:=by kernel_rfl
theorem uB:aX Tryz.prog 82=true:=by kernel_rfl
theorem B5:aX Tryz.prog 85=true:=by kernel_rfl
theorem vM:aX Tryz.prog 119=true:=by kernel_rfl
theorem vN:aX Tryz.prog 120=true:=by kernel_rfl
theorem vO:aX Tryz.prog 121=true:=by kernel_rfl
theorem B6:aX Tryz.prog 86=true:=by kernel_rfl
theorem sH:aX Tryz.prog 123=true:=by kernel_rfl
theorem B7:aX Tryz.prog 87=true:=by kernel_rfl
theorem B8:aX Tryz.prog 88=true:=by kernel_rfl
theorem B9:aX Tryz.prog 89=true:=by kernel_rfl
theorem Ba:aX Tryz.prog 90=true:=by kernel_rfl
theorem Bb:aX Tryz.prog 91=true:=by kernel_rfl
theorem Bc:aX Tryz.prog 53=true:=by kernel_rfl
theorem Bd:aX Tryz.prog 54=true:=by kernel_rfl
theorem Be:aX Tryz.prog 34=true:=by kernel_rfl
theorem uC:aX Tryz.prog 11=true:=by kernel_rfl
theorem Bf:aX Tryz.prog 10=true:=by kernel_rfl
theorem vQ:fY Tryz.prog 136=some [(0,1)]:=by kernel_rfl
theorem vR:kp Tryz.prog 136=some [(.bool false)]:=by kernel_rfl
theorem vU:Tryz.prog.concrete 136=true:=by kernel_rfl
theorem yR:fY Tryz.prog 138=some [(0,1)]:=by kernel_rfl
theorem yS:kp Tryz.prog 138=some [(iv 0)]:=by kernel_rfl
theorem yT:Tryz.prog.concrete 138=true:=by kernel_rfl
theorem yU:fY Tryz.prog 139=some [(0,1)]:=by kernel_rfl
theorem yV:kp Tryz.prog 139=some [(iv 0)]:=by kernel_rfl
theorem yW:Tryz.prog.concrete 139=true:=by kernel_rfl
theorem yX:fY Tryz.prog 141=some []:=by kernel_rfl
theorem yY:kp Tryz.prog 141=some []:=by kernel_rfl
theorem yZ:Tryz.prog.concrete 141=true:=by kernel_rfl
theorem y':fY Tryz.prog 142=some []:=by kernel_rfl
theorem z6:kp Tryz.prog 142=some []:=by kernel_rfl
theorem z7:Tryz.prog.concrete 142=true:=by kernel_rfl
theorem my:fY Tryz.prog 145=some [(0,1),(1,1)]:=by kernel_rfl
theorem mz:kp Tryz.prog 145=some [(aD ([]:aN)),.nilFunc]:=by kernel_rfl
theorem mA:Tryz.prog.concrete 145=true:=by kernel_rfl
theorem qm:aX Tryz.prog 126=true:=by kernel_rfl
theorem Bg:aX Tryz.prog 96=true:=by kernel_rfl
theorem uD:cV Tryz.prog 136 0=some 0:=by kernel_rfl
theorem y8:eX Tryz.prog 4=some false:=by kernel_rfl
theorem uE:cV Tryz.prog 145 0=some 0:=by kernel_rfl
theorem pq (v:Value)(args:Array Value)(w:World):(callMethod (.iface 136 v) "loop.example/g00033/impl.uses" args).run Tryz.prog w=.ok (.enter 193 (#[v]++args)) w:=by kernel_rfl
theorem pu (v:Value)(args:Array Value)(w:World):(callMethod (.iface 138 v) "loop.example/g00033/impl.uses" args).run Tryz.prog w=.ok (.enter 198 (#[v]++args)) w:=by kernel_rfl
theorem pw (v:Value)(args:Array Value)(w:World):(callMethod (.iface 139 v) "loop.example/g00033/impl.uses" args).run Tryz.prog w=.ok (.enter 201 (#[v]++args)) w:=by kernel_rfl
theorem px (v:Value)(args:Array Value)(w:World):(callMethod (.iface 141 v) "loop.example/g00033/impl.uses" args).run Tryz.prog w=.ok (.enter 203 (#[v]++args)) w:=by kernel_rfl
theorem py (v:Value)(args:Array Value)(w:World):(callMethod (.iface 142 v) "loop.example/g00033/impl.uses" args).run Tryz.prog w=.ok (.enter 205 (#[v]++args)) w:=by kernel_rfl
theorem gW (v:Value)(args:Array Value)(w:World):(callMethod (.iface 145 v) "loop.example/g00033/impl.uses" args).run Tryz.prog w=.ok (.enter 221 (#[v]++args)) w:=by kernel_rfl
theorem vV:aX Tryz.prog 162=true:=by kernel_rfl
theorem vW:aX Tryz.prog 154=true:=by kernel_rfl
theorem z8:aX Tryz.prog 136=true:=by kernel_rfl
theorem iL:aX Tryz.prog 135=true:=by kernel_rfl
theorem za:aX Tryz.prog 97=true:=by kernel_rfl
theorem zb:aX Tryz.prog 196=true:=by kernel_rfl
theorem j8:aX Tryz.prog 147=true:=by kernel_rfl
theorem jI:aX Tryz.prog 148=true:=by kernel_rfl
theorem zd:aX Tryz.prog 195=true:=by kernel_rfl
theorem ze:aX Tryz.prog 194=true:=by kernel_rfl
theorem zf:aX Tryz.prog 199=true:=by kernel_rfl
theorem gQ:aX Tryz.prog 150=true:=by kernel_rfl
theorem kN:kp Tryz.prog 192=some [(.slice none 0 0),(aD ([]:aN)),(aD ([]:aN)),(.slice none 0 0),(.slice none 0 0),(.slice none 0 0),(.slice none 0 0)]:=by kernel_rfl
theorem zg:aX Tryz.prog 212=true:=by kernel_rfl
theorem zh:aX Tryz.prog 210=true:=by kernel_rfl
theorem zi:aX Tryz.prog 215=true:=by kernel_rfl
theorem zj:aX Tryz.prog 213=true:=by kernel_rfl
theorem zl:aX Tryz.prog 211=true:=by kernel_rfl
theorem zm:aX Tryz.prog 171=true:=by kernel_rfl
theorem qn:aX Tryz.prog 208=true:=by kernel_rfl
theorem zn:aX Tryz.prog 207=true:=by kernel_rfl
theorem nc:fY Tryz.prog 192=some [(0,1),(1,1),(2,1),(3,1),(4,1),(5,1),(6,1)]:=by kernel_rfl
theorem iM:hN Tryz.prog 192=some 7:=by kernel_rfl
theorem sI:yr Tryz.prog 195=some (26,3):=by kernel_rfl
theorem vX:kp Tryz.prog 195=some [(iv 0),(iv 0),(iv 0),(iv 0),(iv 0),(iv 0),(iv 0),(iv 0),(iv 0),(iv 0),(iv 0),(iv 0),(iv 0),(iv 0),(iv 0),(iv 0),(iv 0),(iv 0),(iv 0),(iv 0),(iv 0),(iv 0),(iv 0),(iv 0),(iv 0),(iv 0)]:=by kernel_rfl
theorem vY:hN Tryz.prog 195=some 26:=by kernel_rfl
theorem uF:cV Tryz.prog 192 2=some 2:=by kernel_rfl
theorem uG:cV Tryz.prog 192 3=some 3:=by kernel_rfl
theorem uH:cV Tryz.prog 192 4=some 4:=by kernel_rfl
theorem jx:aX Tryz.prog 64=true:=by kernel_rfl
theorem qo:cV Tryz.prog 192 5=some 5:=by kernel_rfl
theorem Bh:eX Tryz.prog 38=some false:=by kernel_rfl
theorem mB:eX Tryz.prog 192=some true:=by kernel_rfl
theorem zo:hN Tryz.prog 38=some 1:=by kernel_rfl
theorem sJ:aX Tryz.prog 164=true:=by kernel_rfl
theorem vZ:aX Tryz.prog 209=true:=by kernel_rfl
theorem qp:cV Tryz.prog 192 6=some 6:=by kernel_rfl
theorem zp:aX Tryz.prog 206=true:=by kernel_rfl
theorem uI:cV Tryz.prog 145 1=some 1:=by kernel_rfl
theorem zq:eX Tryz.prog 143=some false:=by kernel_rfl
theorem zr:aX Tryz.prog 158=true:=by kernel_rfl
theorem mC:aX Tryz.prog 156=true:=by kernel_rfl
theorem zt:aX Tryz.prog 166=true:=by kernel_rfl
theorem sK:aX Tryz.prog 165=true:=by kernel_rfl
theorem zu:aX Tryz.prog 159=true:=by kernel_rfl
theorem sM:aX Tryz.prog 168=true:=by kernel_rfl
theorem zw:aX Tryz.prog 167=true:=by kernel_rfl
theorem zx:aX Tryz.prog 160=true:=by kernel_rfl
theorem zy:aX Tryz.prog 170=true:=by kernel_rfl
theorem zz:aX Tryz.prog 169=true:=by kernel_rfl
theorem zA:aX Tryz.prog 161=true:=by kernel_rfl
theorem fB:lv Tryz.prog 147=some 161:=by kernel_rfl
theorem fC:hN Tryz.prog 161=some 2:=by kernel_rfl
theorem eN:kp Tryz.prog 161=some [(iv 0),(iv 0)]:=by kernel_rfl
theorem zB:kp Tryz.prog 147=some [(.slice none 0 0)]:=by kernel_rfl
theorem sN:hN Tryz.prog 147=some 1:=by kernel_rfl
theorem zC:aX Tryz.prog 157=true:=by kernel_rfl
theorem zD:eX Tryz.prog 147=some false:=by kernel_rfl
theorem mD:fY Tryz.prog 161=some [(0,1),(1,1)]:=by kernel_rfl
theorem lF:gH Tryz.prog 161=some 16:=by kernel_rfl
theorem zE:aX Tryz.prog 163=true:=by kernel_rfl
theorem zF:aX Tryz.prog 146=true:=by kernel_rfl
theorem zG:aX Tryz.prog 145=true:=by kernel_rfl
theorem zH:aX Tryz.prog 124=true:=by kernel_rfl
theorem zI:aX Tryz.prog 125=true:=by kernel_rfl
theorem zJ:eX Tryz.prog 150=some false:=by kernel_rfl
theorem qq:aX Tryz.prog 151=true:=by kernel_rfl
theorem v':aX Tryz.prog 153=true:=by kernel_rfl
theorem w0:eX Tryz.prog 161=some true:=by kernel_rfl
theorem qr:cV Tryz.prog 161 0=some 0:=by kernel_rfl
theorem qt:cV Tryz.prog 161 1=some 1:=by kernel_rfl
theorem sO:aX Tryz.prog 152=true:=by kernel_rfl
theorem zK:aX Tryz.prog 128=true:=by kernel_rfl
theorem zL:aX Tryz.prog 127=true:=by kernel_rfl
theorem qu:aX Tryz.prog 149=true:=by kernel_rfl
theorem zM:aX Tryz.prog 130=true:=by kernel_rfl
theorem zN:aX Tryz.prog 129=true:=by kernel_rfl
theorem zO:aX Tryz.prog 132=true:=by kernel_rfl
theorem zP:aX Tryz.prog 131=true:=by kernel_rfl
theorem zQ:aX Tryz.prog 134=true:=by kernel_rfl
theorem zR:aX Tryz.prog 133=true:=by kernel_rfl
theorem oH (v:Value)(args:Array Value)(w:World):(callMethod (.iface 136 v) "loop.example/g00033/impl.shape" args).run Tryz.prog w=.ok (.enter 192 (#[v]++args)) w:=by kernel_rfl
theorem oI (v:Value)(args:Array Value)(w:World):(callMethod (.iface 138 v) "loop.example/g00033/impl.shape" args).run Tryz.prog w=.ok (.enter 197 (#[v]++args)) w:=by kernel_rfl
theorem oJ (v:Value)(args:Array Value)(w:World):(callMethod (.iface 139 v) "loop.example/g00033/impl.shape" args).run Tryz.prog w=.ok (.enter 200 (#[v]++args)) w:=by kernel_rfl
theorem oK (v:Value)(args:Array Value)(w:World):(callMethod (.iface 141 v) "loop.example/g00033/impl.shape" args).run Tryz.prog w=.ok (.enter 202 (#[v]++args)) w:=by kernel_rfl
theorem oL (v:Value)(args:Array Value)(w:World):(callMethod (.iface 142 v) "loop.example/g00033/impl.shape" args).run Tryz.prog w=.ok (.enter 204 (#[v]++args)) w:=by kernel_rfl
theorem gC (v:Value)(args:Array Value)(w:World):(callMethod (.iface 145 v) "loop.example/g00033/impl.shape" args).run Tryz.prog w=.ok (.enter 220 (#[v]++args)) w:=by kernel_rfl
theorem Bi:aX Tryz.prog 59=true:=by kernel_rfl
theorem Bj:aX Tryz.prog 36=true:=by kernel_rfl
theorem Bk:aX Tryz.prog 12=true:=by kernel_rfl
theorem oM:aX Tryz.prog 16=true:=by kernel_rfl
theorem Bl:aX Tryz.prog 60=true:=by kernel_rfl
theorem Bm:aX Tryz.prog 37=true:=by kernel_rfl
theorem Bn:aX Tryz.prog 13=true:=by kernel_rfl
theorem ri:aX Tryz.prog 18=true:=by kernel_rfl
theorem un3:Tryz.prog.underlying 3=some (.int .i64):=by kernel_rfl
theorem BU:Tryz.prog.underlying 5=some (.int .u8):=by kernel_rfl
theorem sQ:lv Tryz.prog 112=some 5:=by kernel_rfl
theorem BV:hN Tryz.prog 5=some 1:=by kernel_rfl
theorem zc5:kp Tryz.prog 5=some [(.int .u8 (0:Int))]:=by kernel_rfl
theorem Bo:aX Tryz.prog 61=true:=by kernel_rfl
theorem Bp:aX Tryz.prog 39=true:=by kernel_rfl
theorem Bq:aX Tryz.prog 17=true:=by kernel_rfl
theorem zS:aX Tryz.prog 19=true:=by kernel_rfl
theorem m':lv Tryz.prog 60=some 4:=by kernel_rfl
theorem rK:hN Tryz.prog 4=some 1:=by kernel_rfl
theorem BW:gH Tryz.prog 4=some 1:=by kernel_rfl
theorem BX:kp Tryz.prog 4=some [(.bool false)]:=by kernel_rfl
theorem zT:aX Tryz.prog 65=true:=by kernel_rfl
theorem Br:aX Tryz.prog 41=true:=by kernel_rfl
theorem Bs:aX Tryz.prog 25=true:=by kernel_rfl
theorem Bt:aX Tryz.prog 42=true:=by kernel_rfl
theorem zU:aX Tryz.prog 26=true:=by kernel_rfl
structure kindOfR where
 t:Nat
 b0:Bool
 i0:Int
 i1:Int
 s0:aN
 deriving Inhabited,DecidableEq
def cW (r:kindOfR)(h:Nat×Nat×Nat):Value:=cond (Nat.beq r.t 0) .nilIface (cond (Nat.beq r.t 1) (.iface 136 (.agg [(.bool r.b0)].toArray)) (cond (Nat.beq r.t 2) (.iface 138 (.agg [(iv r.i0)].toArray)) (cond (Nat.beq r.t 3) (.iface 139 (.agg [(iv r.i0)].toArray)) (cond (Nat.beq r.t 4) (.iface 141 (.agg [].toArray)) (cond (Nat.beq r.t 5) (.iface 142 (.agg [].toArray)) (cond (Nat.beq r.t 6) (.iface 145 (.agg [(aD r.s0),(.func (.func 124) [].toArray [].toArray)].toArray)) (cond (Nat.beq r.t 7) (.iface 145 (.agg [(aD r.s0),(.func (.func 125) [].toArray [].toArray)].toArray)) (cond (Nat.beq r.t 8) (.iface 145 (.agg [(aD r.s0),(.func (.func 149) [].toArray [(pt h.1 0),(pt h.2.1 0),(pt h.2.2 0)].toArray)].toArray)) (cond (Nat.beq r.t 9) (.iface 145 (.agg [(aD r.s0),(.func (.func 149) [].toArray [(pt h.1 0),(pt h.2.1 0),(pt h.2.2 0)].toArray)].toArray)) (cond (Nat.beq r.t 10) (.iface 145 (.agg [(aD r.s0),(.func (.func 149) [].toArray [(pt h.1 0),(pt h.2.1 0),(pt h.2.2 0)].toArray)].toArray)) ((.iface 145 (.agg [(aD r.s0),(.func (.func 149) [].toArray [(pt h.1 0),(pt h.2.1 0),(pt h.2.2 0)].toArray)].toArray)))))))))))))
def eS (r:kindOfR)(h:Nat×Nat×Nat):HP:=cond (Nat.beq r.t 0) (pk []) (cond (Nat.beq r.t 1) (pk []) (cond (Nat.beq r.t 2) (pk []) (cond (Nat.beq r.t 3) (pk []) (cond (Nat.beq r.t 4) (pk []) (cond (Nat.beq r.t 5) (pk []) (cond (Nat.beq r.t 6) (pk []) (cond (Nat.beq r.t 7) (pk []) (cond (Nat.beq r.t 8) (pk [aJ h.1 [(iv r.i0)] 3,aJ h.2.1 [(iv r.i1)] 3,aJ h.2.2 [(.func (.func 127) [].toArray [].toArray)] 150]) (cond (Nat.beq r.t 9) (pk [aJ h.1 [(iv r.i0)] 3,aJ h.2.1 [(iv r.i1)] 3,aJ h.2.2 [(.func (.func 129) [].toArray [].toArray)] 150]) (cond (Nat.beq r.t 10) (pk [aJ h.1 [(iv r.i0)] 3,aJ h.2.1 [(iv r.i1)] 3,aJ h.2.2 [(.func (.func 131) [].toArray [].toArray)] 150]) ((pk [aJ h.1 [(iv r.i0)] 3,aJ h.2.1 [(iv r.i1)] 3,aJ h.2.2 [(.func (.func 133) [].toArray [].toArray)] 150]))))))))))))
theorem mE {C:World}{n:Nn}{V:List HP}{σ:dA}{d:Option Nat}{ty:TypeId}{pos:String}{af:Array Edge}{gd:Option (Nat×Bool)}{x:Operand}{D:TypeId}{r:kindOfR}{h:Nat×Nat×Nat}(b:ev σ x=cW r h):VO ⟨Tryz.prog,n,C⟩ V σ ⟨d,.binOp .eql 108 x (.const .nilIface) D,ty,pos,af,gd⟩ (.bool (Nat.beq r.t 0)):=by
 rcases bo (Nat.beq r.t 0) with a | a
 ·rw [a]; exact uo (by kernel_rfl) (by rw [b]; simp only [cW,a,cond_true])
 rcases bo (Nat.beq r.t 1) with e | e
 ·rw [a]; exact iJ (by kernel_rfl) (by rw [b]; simp only [cW,a,e,cond_true,cond_false]; rfl)
 rcases bo (Nat.beq r.t 2) with g | g
 ·rw [a]; exact iJ (by kernel_rfl) (by rw [b]; simp only [cW,a,e,g,cond_true,cond_false]; rfl)
 rcases bo (Nat.beq r.t 3) with i | i
 ·rw [a]; exact iJ (by kernel_rfl) (by rw [b]; simp only [cW,a,e,g,i,cond_true,cond_false]; rfl)
 rcases bo (Nat.beq r.t 4) with j | j
 ·rw [a]; exact iJ (by kernel_rfl) (by rw [b]; simp only [cW,a,e,g,i,j,cond_true,cond_false]; rfl)
 rcases bo (Nat.beq r.t 5) with l | l
 ·rw [a]; exact iJ (by kernel_rfl) (by rw [b]; simp only [cW,a,e,g,i,j,l,cond_true,cond_false]; rfl)
 rcases bo (Nat.beq r.t 6) with m | m
 ·rw [a]; exact iJ (by kernel_rfl) (by rw [b]; simp only [cW,a,e,g,i,j,l,m,cond_true,cond_false]; rfl)
 rcases bo (Nat.beq r.t 7) with s | s
 ·rw [a]; exact iJ (by kernel_rfl) (by rw [b]; simp only [cW,a,e,g,i,j,l,m,s,cond_true,cond_false]; rfl)
 rcases bo (Nat.beq r.t 8) with u | u
 ·rw [a]; exact iJ (by kernel_rfl) (by rw [b]; simp only [cW,a,e,g,i,j,l,m,s,u,cond_true,cond_false]; rfl)
 rcases bo (Nat.beq r.t 9) with B | B
 ·rw [a]; exact iJ (by kernel_rfl) (by rw [b]; simp only [cW,a,e,g,i,j,l,m,s,u,B,cond_true,cond_false]; rfl)
 rcases bo (Nat.beq r.t 10) with q | q
 ·rw [a]; exact iJ (by kernel_rfl) (by rw [b]; simp only [cW,a,e,g,i,j,l,m,s,u,B,q,cond_true,cond_false]; rfl)
 rw [a]; exact iJ (by kernel_rfl) (by rw [b]; simp only [cW,a,e,g,i,j,l,m,s,u,B,q,cond_false]; rfl)
instance:HAg Tryz.prog 25 true:=⟨AN⟩
instance:HSz Tryz.prog 25 2:=⟨AO⟩
instance:HFo Tryz.prog 25 0 0:=⟨wL⟩
instance:HAg Tryz.prog 22 false:=⟨AP⟩
instance:HSl Tryz.prog 22 70:=⟨AQ⟩
instance:HSz Tryz.prog 70 6:=⟨wM⟩
instance:HAg Tryz.prog 70 true:=⟨wN⟩
instance:HFo Tryz.prog 70 1 1:=⟨wO⟩
instance:HAg Tryz.prog 23 false:=⟨cO⟩
instance:HSl Tryz.prog 23 3:=⟨bK⟩
instance:HFo Tryz.prog 70 2 2:=⟨wP⟩
instance:HFo Tryz.prog 70 3 3:=⟨wQ⟩
instance:HFo Tryz.prog 70 4 4:=⟨wR⟩
instance:HAg Tryz.prog 9 false:=⟨re⟩
instance:HFo Tryz.prog 70 5 5:=⟨wS⟩
instance:HFo Tryz.prog 25 1 1:=⟨wT⟩
instance:HSl Tryz.prog 28 54:=⟨sA⟩
instance:HSz Tryz.prog 54 6:=⟨lL⟩
instance:HFo Tryz.prog 70 0 0:=⟨sC⟩
instance:HAg Tryz.prog 3 false:=⟨fP⟩
instance:HFo Tryz.prog 54 0 0:=⟨jw⟩
instance:HSz Tryz.prog 3 1:=⟨cC⟩
instance:HFo Tryz.prog 54 1 1:=⟨mw⟩
instance:HSz Tryz.prog 23 1:=⟨fU⟩
instance:HFo Tryz.prog 54 2 2:=⟨ks⟩
instance:HFo Tryz.prog 54 3 3:=⟨gV⟩
instance:HFo Tryz.prog 54 4 4:=⟨pm⟩
instance:HSz Tryz.prog 9 1:=⟨rh⟩
instance:HFo Tryz.prog 54 5 5:=⟨nB⟩
instance:HAg Tryz.prog 54 true:=⟨sE⟩
instance:HFo Tryz.prog 30 0 0:=⟨nC⟩
instance:HSz Tryz.prog 28 1:=⟨yE⟩
instance:HFo Tryz.prog 30 1 1:=⟨pn⟩
instance:HAg Tryz.prog 30 true:=⟨po⟩
instance:HSz Tryz.prog 30 2:=⟨nD⟩
instance:HSl Tryz.prog 46 58:=⟨gI⟩
instance:HSz Tryz.prog 58 2:=⟨bS⟩
instance:HAg Tryz.prog 28 false:=⟨ux⟩
instance:HAg Tryz.prog 58 true:=⟨fG⟩
instance:HFo Tryz.prog 58 0 0:=⟨iX⟩
instance:HFo Tryz.prog 58 1 1:=⟨sF⟩
instance:HSl Tryz.prog 122 9:=⟨lD⟩
instance:HSl Tryz.prog 38 23:=⟨kt⟩
instance:HSz Tryz.prog 96 4:=⟨cH⟩
instance:HFo Tryz.prog 96 1 1:=⟨fZ⟩
instance:HAg Tryz.prog 96 true:=⟨gJ⟩
instance:HFo Tryz.prog 96 0 0:=⟨gK⟩
instance:HFo Tryz.prog 96 3 3:=⟨wW⟩
instance:HFo Tryz.prog 96 2 2:=⟨nI⟩
instance:HFo Tryz.prog 136 0 0:=⟨uD⟩
instance:HAg Tryz.prog 4 false:=⟨y8⟩
instance:HFo Tryz.prog 145 0 0:=⟨uE⟩
instance:HSz Tryz.prog 192 7:=⟨iM⟩
instance:HSz Tryz.prog 195 26:=⟨vY⟩
instance:HFo Tryz.prog 192 2 2:=⟨uF⟩
instance:HFo Tryz.prog 192 3 3:=⟨uG⟩
instance:HFo Tryz.prog 192 4 4:=⟨uH⟩
instance:HFo Tryz.prog 192 5 5:=⟨qo⟩
instance:HAg Tryz.prog 38 false:=⟨Bh⟩
instance:HAg Tryz.prog 192 true:=⟨mB⟩
instance:HSz Tryz.prog 38 1:=⟨zo⟩
instance:HFo Tryz.prog 192 6 6:=⟨qp⟩
instance:HFo Tryz.prog 145 1 1:=⟨uI⟩
instance:HAg Tryz.prog 143 false:=⟨zq⟩
instance:HSl Tryz.prog 147 161:=⟨fB⟩
instance:HSz Tryz.prog 161 2:=⟨fC⟩
instance:HSz Tryz.prog 147 1:=⟨sN⟩
instance:HAg Tryz.prog 147 false:=⟨zD⟩
instance:HAg Tryz.prog 150 false:=⟨zJ⟩
instance:HAg Tryz.prog 161 true:=⟨w0⟩
instance:HFo Tryz.prog 161 0 0:=⟨qr⟩
instance:HFo Tryz.prog 161 1 1:=⟨qt⟩
instance:HSl Tryz.prog 112 5:=⟨sQ⟩
instance:HSz Tryz.prog 5 1:=⟨BV⟩
instance:HSl Tryz.prog 60 4:=⟨m'⟩
instance:HSz Tryz.prog 4 1:=⟨rK⟩
end Go.Proofs.YtmpnollfdpdipaaGreat
