import Derived.Test.YtmpnollfdpdipaaGreatDoorPg22
import Derived.Test.YtmpnollfdpdipaaGreatDoorStLD
import Derived.Test.YtmpnollfdpdipaaGreatDoorPg33
import Derived.Test.YtmpnollfdpdipaaGreatDoorProg
set_option linter.unusedVariables false
namespace Go.Proofs.YtmpnollfdpdipaaGreatDoor
open Go Go.Pg
structure Node where
 Op:Int
 Args:(List Int)
 Dims:(List Int)
 Ints:(List Int)
 Form:aN
 Data:(List Int)
 deriving Inhabited,DecidableEq
structure Graph where
 Nodes:(List Node)
 Outs:(List Int)
 deriving Inhabited,DecidableEq
structure Tensor where
 Dims:(List Int)
 Data:(List Int)
 deriving Inhabited,DecidableEq
structure View where
 Dims:(List Int)
 Strides:(List Int)
 Offset:Int
 Base:Int
 deriving Inhabited,DecidableEq
structure leafKind where
 data:Bool
 deriving Inhabited,DecidableEq
structure pairKind where
 op:Int
 deriving Inhabited,DecidableEq
structure soloKind where
 op:Int
 deriving Inhabited,DecidableEq
structure topKind where
 deriving Inhabited,DecidableEq
structure formKind where
 deriving Inhabited,DecidableEq
structure shiftKind where
 use:aN
 deriving Inhabited,DecidableEq
structure form where
 groups:(List aN)
 out_:aN
 order:aN
 loops:(List Int)
 dims:(List Int)
 steps:(List (List Int))
 store:(List Int)
 deriving Inhabited,DecidableEq
structure pair where
 from_:Int
 to:Int
 deriving Inhabited,DecidableEq
def str0:aN:=[45,62]
def gX:aN:=[100]
def eN:aN:=[105]
def o9:aN:=[100,120]
def ki:aN:=[102]
def oa:aN:=[120]
def str6:aN:=[44]
theorem bO:Tryz.prog.follows .mixedOrders=true:=by kernel_rfl
abbrev kT3:Kind Int:=Kind.int .i64
def Av:DecK kT3:=DecK.scal _ _
def gO:MkO kT3:=MkO.scal _ _
def zT3:Zr kT3:=Zr.scal _ _ 0
theorem j9:kT3.Closed:=Kind.scal_closed _ _
abbrev bG:Kind (List Int):=Kind.sl 3 kT3
def dT36:DecK bG:=DecK.sl 3 kT3
def oc:MkS bG:=MkS.sl 3 kT3
def lL:MkO bG:=MkO.sl 3 kT3
def zT36:Zr bG:=Zr.sl 3 kT3
abbrev dQ:Kind aN:=Kind.str
def dT9:DecK dQ:=DecK.scal _ _
def xR:MkO dQ:=MkO.scal _ _
def zT9:Zr dQ:=Zr.scal _ _ []
abbrev hO:Kind Node:=Kind.iso (Kind.pair kT3 (Kind.pair bG (Kind.pair bG (Kind.pair bG (Kind.pair dQ bG))))) (fun x:Node=>(x.Op,x.Args,x.Dims,x.Ints,x.Form,x.Data))
def dT213:DecK hO:=DecK.iso (DecK.pair Av (DecK.pair dT36 (DecK.pair dT36 (DecK.pair dT36 (DecK.pair dT9 dT36))))) _
abbrev cB:Kind Node:=Kind.iso (Kind.pair kT3 (Kind.pair bG (Kind.pair bG (Kind.pair bG (Kind.pair dQ bG))))) (fun x:Node=>(x.Op,x.Args,x.Dims,x.Ints,x.Form,x.Data))
def dT171:DecK cB:=DecK.iso (DecK.pair Av (DecK.pair dT36 (DecK.pair dT36 (DecK.pair dT36 (DecK.pair dT9 dT36))))) _
def yn:MkO cB:=MkO.iso (MkO.pair gO (MkO.pair lL (MkO.pair lL (MkO.pair lL (MkO.pair xR lL))))) _
def zT171:Zr cB:=Zr.iso (Zr.pair zT3 (Zr.pair zT36 (Zr.pair zT36 (Zr.pair zT36 (Zr.pair zT9 zT36))))) _ ⟨zT3.z,zT36.z,zT36.z,zT36.z,zT9.z,zT36.z⟩ rfl
abbrev dK:Kind Tensor:=Kind.iso (Kind.pair bG bG) (fun x:Tensor=>(x.Dims,x.Data))
def dT38:DecK dK:=DecK.iso (DecK.pair dT36 dT36) _
def yo:MkS dK:=MkS.iso (MkS.pair oc oc) _
def uf:MkO dK:=MkO.iso (MkO.pair lL lL) _
def yp:Zr dK:=Zr.iso (Zr.pair zT36 zT36) _ ⟨zT36.z,zT36.z⟩ rfl
abbrev iy:Kind Bool:=Kind.bool
def dT4:DecK iy:=DecK.scal _ _
def Aw:MkO iy:=MkO.scal _ _
def Bv:Zr iy:=Zr.scal _ _ false
abbrev kT197:Kind pair:=Kind.iso (Kind.pair kT3 kT3) (fun x:pair=>(x.from_,x.to))
def yq:DecK kT197:=DecK.iso (DecK.pair Av Av) _
def ja:MkO kT197:=MkO.iso (MkO.pair gO gO) _
def zT197:Zr kT197:=Zr.iso (Zr.pair zT3 zT3) _ ⟨zT3.z,zT3.z⟩ rfl
theorem s6:kT197.Closed:=Kind.iso_closed (Kind.pair_closed j9 j9) _
theorem AR:fE Tryz.prog 62=some true:=by kernel_rfl
theorem AS:iC Tryz.prog 62=some 2:=by kernel_rfl
theorem wA:cS Tryz.prog 62 0=some 0:=by kernel_rfl
theorem AT:fE Tryz.prog 60=some false:=by kernel_rfl
theorem AU:lZ Tryz.prog 60=some 213:=by kernel_rfl
theorem s7:iC Tryz.prog 213=some 6:=by kernel_rfl
theorem s8:fE Tryz.prog 213=some true:=by kernel_rfl
theorem ug:cS Tryz.prog 213 1=some 1:=by kernel_rfl
theorem cK:fE Tryz.prog 36=some false:=by kernel_rfl
theorem bM:lZ Tryz.prog 36=some 3:=by kernel_rfl
theorem od:aX Tryz.prog 135=true:=by kernel_rfl
theorem uh:cS Tryz.prog 213 2=some 2:=by kernel_rfl
theorem uk:cS Tryz.prog 213 3=some 3:=by kernel_rfl
theorem ul:cS Tryz.prog 213 4=some 4:=by kernel_rfl
theorem qH:fE Tryz.prog 9=some false:=by kernel_rfl
theorem fK:Tryz.prog.underlying 9=some .string:=by kernel_rfl
theorem um:cS Tryz.prog 213 5=some 5:=by kernel_rfl
theorem yr:aX Tryz.prog 181=true:=by kernel_rfl
theorem yt:aX Tryz.prog 134=true:=by kernel_rfl
theorem wB:cS Tryz.prog 62 1=some 1:=by kernel_rfl
theorem AV:aX Tryz.prog 40=true:=by kernel_rfl
theorem wC:ko Tryz.prog 67=some [(.slice none 0 0),(.slice none 0 0)]:=by kernel_rfl
theorem s9:lZ Tryz.prog 65=some 171:=by kernel_rfl
theorem iz:iC Tryz.prog 171=some 6:=by kernel_rfl
theorem yu:gG Tryz.prog 171=some 120:=by kernel_rfl
theorem mw:ko Tryz.prog 171=some [(iv 0),(.slice none 0 0),(.slice none 0 0),(.slice none 0 0),(aD ([]:aN)),(.slice none 0 0)]:=by kernel_rfl
theorem pT:cS Tryz.prog 213 0=some 0:=by kernel_rfl
theorem fO:fE Tryz.prog 3=some false:=by kernel_rfl
theorem iU:cS Tryz.prog 171 0=some 0:=by kernel_rfl
theorem cE:iC Tryz.prog 3=some 1:=by kernel_rfl
theorem kr:gG Tryz.prog 3=some 8:=by kernel_rfl
theorem gR:ko Tryz.prog 3=some [(iv 0)]:=by kernel_rfl
theorem m7:cS Tryz.prog 171 1=some 1:=by kernel_rfl
theorem eR:iC Tryz.prog 36=some 1:=by kernel_rfl
theorem oe:aX Tryz.prog 139=true:=by kernel_rfl
theorem kc:cS Tryz.prog 171 2=some 2:=by kernel_rfl
theorem fZ:cS Tryz.prog 171 3=some 3:=by kernel_rfl
theorem pU:cS Tryz.prog 171 4=some 4:=by kernel_rfl
theorem rr:iC Tryz.prog 9=some 1:=by kernel_rfl
theorem nw:cS Tryz.prog 171 5=some 5:=by kernel_rfl
theorem mx:fE Tryz.prog 171=some true:=by kernel_rfl
theorem yv:aX Tryz.prog 185=true:=by kernel_rfl
theorem nx:cS Tryz.prog 67 0=some 0:=by kernel_rfl
theorem yw:iC Tryz.prog 65=some 1:=by kernel_rfl
theorem yx:aX Tryz.prog 138=true:=by kernel_rfl
theorem p6:cS Tryz.prog 67 1=some 1:=by kernel_rfl
theorem qK:fE Tryz.prog 67=some true:=by kernel_rfl
theorem og:iC Tryz.prog 67=some 2:=by kernel_rfl
theorem iT:lZ Tryz.prog 84=some 36:=by kernel_rfl
theorem jK:ko Tryz.prog 36=some [(.slice none 0 0)]:=by kernel_rfl
theorem fX:lZ Tryz.prog 27=some 38:=by kernel_rfl
theorem bS:iC Tryz.prog 38=some 2:=by kernel_rfl
theorem dS:ko Tryz.prog 38=some [(.slice none 0 0),(.slice none 0 0)]:=by kernel_rfl
theorem un:fE Tryz.prog 65=some false:=by kernel_rfl
theorem yy:aX Tryz.prog 231=true:=by kernel_rfl
theorem yz:aX Tryz.prog 232=true:=by kernel_rfl
theorem yA:aX Tryz.prog 233=true:=by kernel_rfl
theorem yB:aX Tryz.prog 209=true:=by kernel_rfl
theorem pV:aX Tryz.prog 148=true:=by kernel_rfl
theorem fG:fE Tryz.prog 38=some true:=by kernel_rfl
theorem yC:gG Tryz.prog 38=some 48:=by kernel_rfl
theorem gS:fY Tryz.prog 38=some [(0,1),(1,1)]:=by kernel_rfl
theorem iM:cS Tryz.prog 38 0=some 0:=by kernel_rfl
theorem mW:aX Tryz.prog 79=true:=by kernel_rfl
theorem sd:cS Tryz.prog 38 1=some 1:=by kernel_rfl
theorem kj:aX Tryz.prog 78=true:=by kernel_rfl
theorem ny:aX Tryz.prog 38=true:=by kernel_rfl
theorem hR:aX Tryz.prog 108=true:=by kernel_rfl
theorem se:aX Tryz.prog 212=true:=by kernel_rfl
theorem vm:aX Tryz.prog 286=true:=by kernel_rfl
theorem yD:aX Tryz.prog 268=true:=by kernel_rfl
theorem nz:aX Tryz.prog 80=true:=by kernel_rfl
theorem oh:aX Tryz.prog 81=true:=by kernel_rfl
theorem sf:aX Tryz.prog 116=true:=by kernel_rfl
theorem qL:aX Tryz.prog 85=true:=by kernel_rfl
theorem jE:aX Tryz.prog 163=true:=by kernel_rfl
theorem oi:aX Tryz.prog 273=true:=by kernel_rfl
theorem uo:aX Tryz.prog 83=true:=by kernel_rfl
theorem vn:aX Tryz.prog 195=true:=by kernel_rfl
theorem sg:aX Tryz.prog 84=true:=by kernel_rfl
theorem vo:aX Tryz.prog 254=true:=by kernel_rfl
theorem vq:aX Tryz.prog 219=true:=by kernel_rfl
theorem yE:aX Tryz.prog 194=true:=by kernel_rfl
theorem vr:aX Tryz.prog 270=true:=by kernel_rfl
theorem yF:aX Tryz.prog 269=true:=by kernel_rfl
theorem yG:aX Tryz.prog 234=true:=by kernel_rfl
theorem yH:aX Tryz.prog 271=true:=by kernel_rfl
theorem yI:aX Tryz.prog 235=true:=by kernel_rfl
theorem oj:aX Tryz.prog 104=true:=by kernel_rfl
theorem kK:aX Tryz.prog 105=true:=by kernel_rfl
theorem yJ:aX Tryz.prog 272=true:=by kernel_rfl
theorem yK:aX Tryz.prog 236=true:=by kernel_rfl
theorem om:lZ Tryz.prog 73=some 9:=by kernel_rfl
theorem yL:ko Tryz.prog 9=some [(aD ([]:aN))]:=by kernel_rfl
theorem Bw:gG Tryz.prog 9=some 16:=by kernel_rfl
theorem vt:aX Tryz.prog 146=true:=by kernel_rfl
theorem vu:aX Tryz.prog 147=true:=by kernel_rfl
theorem yM:aX Tryz.prog 46=true:=by kernel_rfl
theorem p7:gG Tryz.prog 36=some 24:=by kernel_rfl
theorem vv:aX Tryz.prog 114=true:=by kernel_rfl
theorem yN:aX Tryz.prog 115=true:=by kernel_rfl
theorem AW:aX Tryz.prog 32=true:=by kernel_rfl
theorem cX:ko Tryz.prog 47=some [(.slice none 0 0),(.slice none 0 0),(iv 0),(iv 0)]:=by kernel_rfl
theorem fF:fY Tryz.prog 47=some [(0,1),(1,1),(2,1),(3,1)]:=by kernel_rfl
theorem cG:iC Tryz.prog 47=some 4:=by kernel_rfl
theorem gA:cS Tryz.prog 47 1=some 1:=by kernel_rfl
theorem gH:fE Tryz.prog 47=some true:=by kernel_rfl
theorem gI:cS Tryz.prog 47 0=some 0:=by kernel_rfl
theorem yO:aX Tryz.prog 113=true:=by kernel_rfl
theorem wD:cS Tryz.prog 47 3=some 3:=by kernel_rfl
theorem nA:cS Tryz.prog 47 2=some 2:=by kernel_rfl
theorem yP:aX Tryz.prog 168=true:=by kernel_rfl
theorem pW:aX Tryz.prog 109=true:=by kernel_rfl
theorem lD:aX Tryz.prog 107=true:=by kernel_rfl
theorem uq:aX Tryz.prog 31=true:=by kernel_rfl
theorem yQ:aX Tryz.prog 237=true:=by kernel_rfl
theorem ur:aX Tryz.prog 29=true:=by kernel_rfl
theorem yR:aX Tryz.prog 238=true:=by kernel_rfl
theorem vw:aX Tryz.prog 110=true:=by kernel_rfl
theorem vx:aX Tryz.prog 111=true:=by kernel_rfl
theorem vy:aX Tryz.prog 112=true:=by kernel_rfl
theorem yS:aX Tryz.prog 239=true:=by kernel_rfl
theorem sj:aX Tryz.prog 106=true:=by kernel_rfl
theorem AX:aX Tryz.prog 28=true:=by kernel_rfl
theorem AY:aX Tryz.prog 50=true:=by kernel_rfl
theorem yT:aX Tryz.prog 240=true:=by kernel_rfl
theorem AZ:aX Tryz.prog 30=true:=by kernel_rfl
theorem yU:aX Tryz.prog 241=true:=by kernel_rfl
theorem yV:aX Tryz.prog 210=true:=by kernel_rfl
theorem yW:aX Tryz.prog 211=true:=by kernel_rfl
theorem vC:aX Tryz.prog 182=true:=by kernel_rfl
theorem yX:aX Tryz.prog 136=true:=by kernel_rfl
theorem yY:aX Tryz.prog 183=true:=by kernel_rfl
theorem lE:lZ Tryz.prog 175=some 4:=by kernel_rfl
theorem sk:iC Tryz.prog 4=some 1:=by kernel_rfl
theorem Bx:gG Tryz.prog 4=some 1:=by kernel_rfl
theorem By:ko Tryz.prog 4=some [(.bool false)]:=by kernel_rfl
theorem xS:fE Tryz.prog 4=some false:=by kernel_rfl
theorem vD:aX Tryz.prog 213=true:=by kernel_rfl
theorem yZ:aX Tryz.prog 184=true:=by kernel_rfl
theorem y':aX Tryz.prog 137=true:=by kernel_rfl
theorem wE:aX Tryz.prog 42=true:=by kernel_rfl
theorem B0:aX Tryz.prog 41=true:=by kernel_rfl
theorem vE:fY Tryz.prog 262=some [(0,1)]:=by kernel_rfl
theorem vF:ko Tryz.prog 262=some [(.bool false)]:=by kernel_rfl
theorem vG:Tryz.prog.concrete 262=true:=by kernel_rfl
theorem z6:fY Tryz.prog 264=some [(0,1)]:=by kernel_rfl
theorem z7:ko Tryz.prog 264=some [(iv 0)]:=by kernel_rfl
theorem z8:Tryz.prog.concrete 264=true:=by kernel_rfl
theorem za:fY Tryz.prog 265=some [(0,1)]:=by kernel_rfl
theorem zb:ko Tryz.prog 265=some [(iv 0)]:=by kernel_rfl
theorem zd:Tryz.prog.concrete 265=true:=by kernel_rfl
theorem ze:fY Tryz.prog 267=some []:=by kernel_rfl
theorem zf:ko Tryz.prog 267=some []:=by kernel_rfl
theorem zg:Tryz.prog.concrete 267=true:=by kernel_rfl
theorem zh:fY Tryz.prog 268=some []:=by kernel_rfl
theorem zi:ko Tryz.prog 268=some []:=by kernel_rfl
theorem zj:Tryz.prog.concrete 268=true:=by kernel_rfl
theorem my:fY Tryz.prog 271=some [(0,1),(1,1)]:=by kernel_rfl
theorem mz:ko Tryz.prog 271=some [(aD ([]:aN)),.nilFunc]:=by kernel_rfl
theorem mA:Tryz.prog.concrete 271=true:=by kernel_rfl
theorem pX:aX Tryz.prog 244=true:=by kernel_rfl
theorem zl:aX Tryz.prog 214=true:=by kernel_rfl
theorem us:cS Tryz.prog 262 0=some 0:=by kernel_rfl
theorem ut:cS Tryz.prog 271 0=some 0:=by kernel_rfl
theorem p8 (v:Value)(args:Array Value)(w:World):(callMethod (.iface 262 v) "loop.example/g00033/impl.uses" args).run Tryz.prog w=.ok (.enter 312 (#[v]++args)) w:=by kernel_rfl
theorem p9 (v:Value)(args:Array Value)(w:World):(callMethod (.iface 264 v) "loop.example/g00033/impl.uses" args).run Tryz.prog w=.ok (.enter 314 (#[v]++args)) w:=by kernel_rfl
theorem pa (v:Value)(args:Array Value)(w:World):(callMethod (.iface 265 v) "loop.example/g00033/impl.uses" args).run Tryz.prog w=.ok (.enter 316 (#[v]++args)) w:=by kernel_rfl
theorem pb (v:Value)(args:Array Value)(w:World):(callMethod (.iface 267 v) "loop.example/g00033/impl.uses" args).run Tryz.prog w=.ok (.enter 318 (#[v]++args)) w:=by kernel_rfl
theorem pc (v:Value)(args:Array Value)(w:World):(callMethod (.iface 268 v) "loop.example/g00033/impl.uses" args).run Tryz.prog w=.ok (.enter 320 (#[v]++args)) w:=by kernel_rfl
theorem gY (v:Value)(args:Array Value)(w:World):(callMethod (.iface 271 v) "loop.example/g00033/impl.uses" args).run Tryz.prog w=.ok (.enter 322 (#[v]++args)) w:=by kernel_rfl
theorem vH:aX Tryz.prog 156=true:=by kernel_rfl
theorem zm:aX Tryz.prog 58=true:=by kernel_rfl
theorem zn:aX Tryz.prog 150=true:=by kernel_rfl
theorem iN:aX Tryz.prog 252=true:=by kernel_rfl
theorem vJ:aX Tryz.prog 215=true:=by kernel_rfl
theorem zo:aX Tryz.prog 196=true:=by kernel_rfl
theorem lg:aX Tryz.prog 96=true:=by kernel_rfl
theorem kL:aX Tryz.prog 99=true:=by kernel_rfl
theorem zp:aX Tryz.prog 167=true:=by kernel_rfl
theorem B1:aX Tryz.prog 89=true:=by kernel_rfl
theorem zq:aX Tryz.prog 121=true:=by kernel_rfl
theorem jL:aX Tryz.prog 93=true:=by kernel_rfl
theorem lQ:ko Tryz.prog 86=some [(.slice none 0 0),(aD ([]:aN)),(aD ([]:aN)),(.slice none 0 0),(.slice none 0 0),(.slice none 0 0),(.slice none 0 0)]:=by kernel_rfl
theorem zr:aX Tryz.prog 175=true:=by kernel_rfl
theorem zt:aX Tryz.prog 128=true:=by kernel_rfl
theorem zu:aX Tryz.prog 224=true:=by kernel_rfl
theorem zw:aX Tryz.prog 203=true:=by kernel_rfl
theorem zx:aX Tryz.prog 176=true:=by kernel_rfl
theorem zy:aX Tryz.prog 189=true:=by kernel_rfl
theorem pY:aX Tryz.prog 152=true:=by kernel_rfl
theorem zz:aX Tryz.prog 149=true:=by kernel_rfl
theorem qO:fY Tryz.prog 86=some [(0,1),(1,1),(2,1),(3,1),(4,1),(5,1),(6,1)]:=by kernel_rfl
theorem jM:iC Tryz.prog 86=some 7:=by kernel_rfl
theorem sn:ye Tryz.prog 184=some (26,3):=by kernel_rfl
theorem vK:ko Tryz.prog 184=some [(iv 0),(iv 0),(iv 0),(iv 0),(iv 0),(iv 0),(iv 0),(iv 0),(iv 0),(iv 0),(iv 0),(iv 0),(iv 0),(iv 0),(iv 0),(iv 0),(iv 0),(iv 0),(iv 0),(iv 0),(iv 0),(iv 0),(iv 0),(iv 0),(iv 0),(iv 0)]:=by kernel_rfl
theorem vL:iC Tryz.prog 184=some 26:=by kernel_rfl
theorem wF:cS Tryz.prog 86 2=some 2:=by kernel_rfl
theorem wG:cS Tryz.prog 86 3=some 3:=by kernel_rfl
theorem wH:cS Tryz.prog 86 4=some 4:=by kernel_rfl
theorem jw:aX Tryz.prog 97=true:=by kernel_rfl
theorem sq:cS Tryz.prog 86 5=some 5:=by kernel_rfl
theorem B2:fE Tryz.prog 84=some false:=by kernel_rfl
theorem pd:fE Tryz.prog 86=some true:=by kernel_rfl
theorem wI:iC Tryz.prog 84=some 1:=by kernel_rfl
theorem wJ:aX Tryz.prog 98=true:=by kernel_rfl
theorem vM:aX Tryz.prog 153=true:=by kernel_rfl
theorem sr:cS Tryz.prog 86 6=some 6:=by kernel_rfl
theorem uu:aX Tryz.prog 56=true:=by kernel_rfl
theorem uv:cS Tryz.prog 271 1=some 1:=by kernel_rfl
theorem zA:fE Tryz.prog 269=some false:=by kernel_rfl
theorem B3:aX Tryz.prog 26=true:=by kernel_rfl
theorem pg:aX Tryz.prog 90=true:=by kernel_rfl
theorem zB:aX Tryz.prog 290=true:=by kernel_rfl
theorem wK:aX Tryz.prog 91=true:=by kernel_rfl
theorem zC:aX Tryz.prog 287=true:=by kernel_rfl
theorem wL:aX Tryz.prog 94=true:=by kernel_rfl
theorem zD:aX Tryz.prog 157=true:=by kernel_rfl
theorem B4:aX Tryz.prog 60=true:=by kernel_rfl
theorem B5:aX Tryz.prog 95=true:=by kernel_rfl
theorem B6:aX Tryz.prog 92=true:=by kernel_rfl
theorem B7:aX Tryz.prog 25=true:=by kernel_rfl
theorem fC:lZ Tryz.prog 119=some 197:=by kernel_rfl
theorem fD:iC Tryz.prog 197=some 2:=by kernel_rfl
theorem eL:ko Tryz.prog 197=some [(iv 0),(iv 0)]:=by kernel_rfl
theorem zE:ko Tryz.prog 119=some [(.slice none 0 0)]:=by kernel_rfl
theorem su:iC Tryz.prog 119=some 1:=by kernel_rfl
theorem zF:aX Tryz.prog 158=true:=by kernel_rfl
theorem zG:fE Tryz.prog 119=some false:=by kernel_rfl
theorem mB:fY Tryz.prog 197=some [(0,1),(1,1)]:=by kernel_rfl
theorem lF:gG Tryz.prog 197=some 16:=by kernel_rfl
theorem zH:aX Tryz.prog 193=true:=by kernel_rfl
theorem zI:aX Tryz.prog 275=true:=by kernel_rfl
theorem zJ:aX Tryz.prog 274=true:=by kernel_rfl
theorem zK:aX Tryz.prog 242=true:=by kernel_rfl
theorem zL:aX Tryz.prog 243=true:=by kernel_rfl
theorem zM:fE Tryz.prog 273=some false:=by kernel_rfl
theorem pZ:aX Tryz.prog 165=true:=by kernel_rfl
theorem vN:aX Tryz.prog 169=true:=by kernel_rfl
theorem vO:fE Tryz.prog 197=some true:=by kernel_rfl
theorem q8:cS Tryz.prog 197 0=some 0:=by kernel_rfl
theorem qa:cS Tryz.prog 197 1=some 1:=by kernel_rfl
theorem sv:aX Tryz.prog 166=true:=by kernel_rfl
theorem B8:aX Tryz.prog 88=true:=by kernel_rfl
theorem zN:aX Tryz.prog 245=true:=by kernel_rfl
theorem qb:aX Tryz.prog 276=true:=by kernel_rfl
theorem zO:aX Tryz.prog 247=true:=by kernel_rfl
theorem zP:aX Tryz.prog 246=true:=by kernel_rfl
theorem zQ:aX Tryz.prog 249=true:=by kernel_rfl
theorem zR:aX Tryz.prog 248=true:=by kernel_rfl
theorem zS:aX Tryz.prog 251=true:=by kernel_rfl
theorem zT:aX Tryz.prog 250=true:=by kernel_rfl
theorem oo (v:Value)(args:Array Value)(w:World):(callMethod (.iface 262 v) "loop.example/g00033/impl.shape" args).run Tryz.prog w=.ok (.enter 311 (#[v]++args)) w:=by kernel_rfl
theorem oq (v:Value)(args:Array Value)(w:World):(callMethod (.iface 264 v) "loop.example/g00033/impl.shape" args).run Tryz.prog w=.ok (.enter 313 (#[v]++args)) w:=by kernel_rfl
theorem ou (v:Value)(args:Array Value)(w:World):(callMethod (.iface 265 v) "loop.example/g00033/impl.shape" args).run Tryz.prog w=.ok (.enter 315 (#[v]++args)) w:=by kernel_rfl
theorem ov (v:Value)(args:Array Value)(w:World):(callMethod (.iface 267 v) "loop.example/g00033/impl.shape" args).run Tryz.prog w=.ok (.enter 317 (#[v]++args)) w:=by kernel_rfl
theorem oy (v:Value)(args:Array Value)(w:World):(callMethod (.iface 268 v) "loop.example/g00033/impl.shape" args).run Tryz.prog w=.ok (.enter 319 (#[v]++args)) w:=by kernel_rfl
theorem gE (v:Value)(args:Array Value)(w:World):(callMethod (.iface 271 v) "loop.example/g00033/impl.shape" args).run Tryz.prog w=.ok (.enter 321 (#[v]++args)) w:=by kernel_rfl
theorem zU:aX Tryz.prog 186=true:=by kernel_rfl
theorem B9:ko Tryz.prog 84=some [(.slice none 0 0)]:=by kernel_rfl
theorem zV:aX Tryz.prog 140=true:=by kernel_rfl
theorem zW:aX Tryz.prog 141=true:=by kernel_rfl
theorem zX:aX Tryz.prog 143=true:=by kernel_rfl
theorem vQ:aX Tryz.prog 142=true:=by kernel_rfl
theorem Ba:aX Tryz.prog 43=true:=by kernel_rfl
theorem oz:aX Tryz.prog 145=true:=by kernel_rfl
theorem zY:aX Tryz.prog 187=true:=by kernel_rfl
theorem zZ:aX Tryz.prog 144=true:=by kernel_rfl
theorem Bb:aX Tryz.prog 44=true:=by kernel_rfl
structure kindOfR where
 t:Nat
 b0:Bool
 i0:Int
 i1:Int
 s0:aN
 deriving Inhabited,DecidableEq
def cV (r:kindOfR)(h:Nat×Nat×Nat):Value:=cond (Nat.beq r.t 0) .nilIface (cond (Nat.beq r.t 1) (.iface 262 (.agg [(.bool r.b0)].toArray)) (cond (Nat.beq r.t 2) (.iface 264 (.agg [(iv r.i0)].toArray)) (cond (Nat.beq r.t 3) (.iface 265 (.agg [(iv r.i0)].toArray)) (cond (Nat.beq r.t 4) (.iface 267 (.agg [].toArray)) (cond (Nat.beq r.t 5) (.iface 268 (.agg [].toArray)) (cond (Nat.beq r.t 6) (.iface 271 (.agg [(aD r.s0),(.func (.func 242) [].toArray [].toArray)].toArray)) (cond (Nat.beq r.t 7) (.iface 271 (.agg [(aD r.s0),(.func (.func 243) [].toArray [].toArray)].toArray)) (cond (Nat.beq r.t 8) (.iface 271 (.agg [(aD r.s0),(.func (.func 276) [].toArray [(pt h.1 0),(pt h.2.1 0),(pt h.2.2 0)].toArray)].toArray)) (cond (Nat.beq r.t 9) (.iface 271 (.agg [(aD r.s0),(.func (.func 276) [].toArray [(pt h.1 0),(pt h.2.1 0),(pt h.2.2 0)].toArray)].toArray)) (cond (Nat.beq r.t 10) (.iface 271 (.agg [(aD r.s0),(.func (.func 276) [].toArray [(pt h.1 0),(pt h.2.1 0),(pt h.2.2 0)].toArray)].toArray)) ((.iface 271 (.agg [(aD r.s0),(.func (.func 276) [].toArray [(pt h.1 0),(pt h.2.1 0),(pt h.2.2 0)].toArray)].toArray)))))))))))))
def eS (r:kindOfR)(h:Nat×Nat×Nat):HP:=cond (Nat.beq r.t 0) (pk []) (cond (Nat.beq r.t 1) (pk []) (cond (Nat.beq r.t 2) (pk []) (cond (Nat.beq r.t 3) (pk []) (cond (Nat.beq r.t 4) (pk []) (cond (Nat.beq r.t 5) (pk []) (cond (Nat.beq r.t 6) (pk []) (cond (Nat.beq r.t 7) (pk []) (cond (Nat.beq r.t 8) (pk [aJ h.1 [(iv r.i0)] 3,aJ h.2.1 [(iv r.i1)] 3,aJ h.2.2 [(.func (.func 245) [].toArray [].toArray)] 273]) (cond (Nat.beq r.t 9) (pk [aJ h.1 [(iv r.i0)] 3,aJ h.2.1 [(iv r.i1)] 3,aJ h.2.2 [(.func (.func 246) [].toArray [].toArray)] 273]) (cond (Nat.beq r.t 10) (pk [aJ h.1 [(iv r.i0)] 3,aJ h.2.1 [(iv r.i1)] 3,aJ h.2.2 [(.func (.func 248) [].toArray [].toArray)] 273]) ((pk [aJ h.1 [(iv r.i0)] 3,aJ h.2.1 [(iv r.i1)] 3,aJ h.2.2 [(.func (.func 250) [].toArray [].toArray)] 273]))))))))))))
theorem mC {C:World}{n:Nn}{V:List HP}{σ:cZ}{d:Option Nat}{ty:TypeId}{pos:String}{af:Array Edge}{gd:Option (Nat×Bool)}{x:Operand}{D:TypeId}{r:kindOfR}{h:Nat×Nat×Nat}(e:ev σ x=cV r h):VO ⟨Tryz.prog,n,C⟩ V σ ⟨d,.binOp .eql 239 x (.const .nilIface) D,ty,pos,af,gd⟩ (.bool (Nat.beq r.t 0)):=by
 rcases bo (Nat.beq r.t 0) with a | a
 ·rw [a]; exact u6 (by kernel_rfl) (by rw [e]; simp only [cV,a,cond_true])
 rcases bo (Nat.beq r.t 1) with b | b
 ·rw [a]; exact iL (by kernel_rfl) (by rw [e]; simp only [cV,a,b,cond_true,cond_false]; rfl)
 rcases bo (Nat.beq r.t 2) with g | g
 ·rw [a]; exact iL (by kernel_rfl) (by rw [e]; simp only [cV,a,b,g,cond_true,cond_false]; rfl)
 rcases bo (Nat.beq r.t 3) with i | i
 ·rw [a]; exact iL (by kernel_rfl) (by rw [e]; simp only [cV,a,b,g,i,cond_true,cond_false]; rfl)
 rcases bo (Nat.beq r.t 4) with j | j
 ·rw [a]; exact iL (by kernel_rfl) (by rw [e]; simp only [cV,a,b,g,i,j,cond_true,cond_false]; rfl)
 rcases bo (Nat.beq r.t 5) with l | l
 ·rw [a]; exact iL (by kernel_rfl) (by rw [e]; simp only [cV,a,b,g,i,j,l,cond_true,cond_false]; rfl)
 rcases bo (Nat.beq r.t 6) with q | q
 ·rw [a]; exact iL (by kernel_rfl) (by rw [e]; simp only [cV,a,b,g,i,j,l,q,cond_true,cond_false]; rfl)
 rcases bo (Nat.beq r.t 7) with s | s
 ·rw [a]; exact iL (by kernel_rfl) (by rw [e]; simp only [cV,a,b,g,i,j,l,q,s,cond_true,cond_false]; rfl)
 rcases bo (Nat.beq r.t 8) with u | u
 ·rw [a]; exact iL (by kernel_rfl) (by rw [e]; simp only [cV,a,b,g,i,j,l,q,s,u,cond_true,cond_false]; rfl)
 rcases bo (Nat.beq r.t 9) with B | B
 ·rw [a]; exact iL (by kernel_rfl) (by rw [e]; simp only [cV,a,b,g,i,j,l,q,s,u,B,cond_true,cond_false]; rfl)
 rcases bo (Nat.beq r.t 10) with m | m
 ·rw [a]; exact iL (by kernel_rfl) (by rw [e]; simp only [cV,a,b,g,i,j,l,q,s,u,B,m,cond_true,cond_false]; rfl)
 rw [a]; exact iL (by kernel_rfl) (by rw [e]; simp only [cV,a,b,g,i,j,l,q,s,u,B,m,cond_false]; rfl)
instance:HAg Tryz.prog 62 true:=⟨AR⟩
instance:HSz Tryz.prog 62 2:=⟨AS⟩
instance:HFo Tryz.prog 62 0 0:=⟨wA⟩
instance:HAg Tryz.prog 60 false:=⟨AT⟩
instance:HSl Tryz.prog 60 213:=⟨AU⟩
instance:HSz Tryz.prog 213 6:=⟨s7⟩
instance:HAg Tryz.prog 213 true:=⟨s8⟩
instance:HFo Tryz.prog 213 1 1:=⟨ug⟩
instance:HAg Tryz.prog 36 false:=⟨cK⟩
instance:HSl Tryz.prog 36 3:=⟨bM⟩
instance:HFo Tryz.prog 213 2 2:=⟨uh⟩
instance:HFo Tryz.prog 213 3 3:=⟨uk⟩
instance:HFo Tryz.prog 213 4 4:=⟨ul⟩
instance:HAg Tryz.prog 9 false:=⟨qH⟩
instance:HFo Tryz.prog 213 5 5:=⟨um⟩
instance:HFo Tryz.prog 62 1 1:=⟨wB⟩
instance:HSl Tryz.prog 65 171:=⟨s9⟩
instance:HSz Tryz.prog 171 6:=⟨iz⟩
instance:HFo Tryz.prog 213 0 0:=⟨pT⟩
instance:HAg Tryz.prog 3 false:=⟨fO⟩
instance:HFo Tryz.prog 171 0 0:=⟨iU⟩
instance:HSz Tryz.prog 3 1:=⟨cE⟩
instance:HFo Tryz.prog 171 1 1:=⟨m7⟩
instance:HSz Tryz.prog 36 1:=⟨eR⟩
instance:HFo Tryz.prog 171 2 2:=⟨kc⟩
instance:HFo Tryz.prog 171 3 3:=⟨fZ⟩
instance:HFo Tryz.prog 171 4 4:=⟨pU⟩
instance:HSz Tryz.prog 9 1:=⟨rr⟩
instance:HFo Tryz.prog 171 5 5:=⟨nw⟩
instance:HAg Tryz.prog 171 true:=⟨mx⟩
instance:HFo Tryz.prog 67 0 0:=⟨nx⟩
instance:HSz Tryz.prog 65 1:=⟨yw⟩
instance:HFo Tryz.prog 67 1 1:=⟨p6⟩
instance:HAg Tryz.prog 67 true:=⟨qK⟩
instance:HSz Tryz.prog 67 2:=⟨og⟩
instance:HSl Tryz.prog 84 36:=⟨iT⟩
instance:HSl Tryz.prog 27 38:=⟨fX⟩
instance:HSz Tryz.prog 38 2:=⟨bS⟩
instance:HAg Tryz.prog 65 false:=⟨un⟩
instance:HAg Tryz.prog 38 true:=⟨fG⟩
instance:HFo Tryz.prog 38 0 0:=⟨iM⟩
instance:HFo Tryz.prog 38 1 1:=⟨sd⟩
instance:HSl Tryz.prog 73 9:=⟨om⟩
instance:HSz Tryz.prog 47 4:=⟨cG⟩
instance:HFo Tryz.prog 47 1 1:=⟨gA⟩
instance:HAg Tryz.prog 47 true:=⟨gH⟩
instance:HFo Tryz.prog 47 0 0:=⟨gI⟩
instance:HFo Tryz.prog 47 3 3:=⟨wD⟩
instance:HFo Tryz.prog 47 2 2:=⟨nA⟩
instance:HSl Tryz.prog 175 4:=⟨lE⟩
instance:HSz Tryz.prog 4 1:=⟨sk⟩
instance:HAg Tryz.prog 4 false:=⟨xS⟩
instance:HFo Tryz.prog 262 0 0:=⟨us⟩
instance:HFo Tryz.prog 271 0 0:=⟨ut⟩
instance:HSz Tryz.prog 86 7:=⟨jM⟩
instance:HSz Tryz.prog 184 26:=⟨vL⟩
instance:HFo Tryz.prog 86 2 2:=⟨wF⟩
instance:HFo Tryz.prog 86 3 3:=⟨wG⟩
instance:HFo Tryz.prog 86 4 4:=⟨wH⟩
instance:HFo Tryz.prog 86 5 5:=⟨sq⟩
instance:HAg Tryz.prog 84 false:=⟨B2⟩
instance:HAg Tryz.prog 86 true:=⟨pd⟩
instance:HSz Tryz.prog 84 1:=⟨wI⟩
instance:HFo Tryz.prog 86 6 6:=⟨sr⟩
instance:HFo Tryz.prog 271 1 1:=⟨uv⟩
instance:HAg Tryz.prog 269 false:=⟨zA⟩
instance:HSl Tryz.prog 119 197:=⟨fC⟩
instance:HSz Tryz.prog 197 2:=⟨fD⟩
instance:HSz Tryz.prog 119 1:=⟨su⟩
instance:HAg Tryz.prog 119 false:=⟨zG⟩
instance:HAg Tryz.prog 273 false:=⟨zM⟩
instance:HAg Tryz.prog 197 true:=⟨vO⟩
instance:HFo Tryz.prog 197 0 0:=⟨q8⟩
instance:HFo Tryz.prog 197 1 1:=⟨qa⟩
end Go.Proofs.YtmpnollfdpdipaaGreatDoor
