import Derived.Test.YtmpnollfdpdipaaGreatPg20
import Derived.Test.YtmpnollfdpdipaaGreatStL
import Derived.Test.YtmpnollfdpdipaaGreatPg33
import Derived.Test.YtmpnollfdpdipaaGreatProg
set_option linter.unusedVariables false
namespace Go.Proofs.YtmpnollfdpdipaaGreat
open Go Go.Pg
structure Node where
 Op:Int
 Args:(List Int)
 Dims:(List Int)
 Ints:(List Int)
 Form:aM
 Data:(List Int)
 deriving Inhabited,DecidableEq
structure Graph where
 Nodes:(List Node)
 Outs:(List Int)
 deriving Inhabited,DecidableEq
structure Tensor where
 Dims:(List Int)
 Data:(List Int)
 deriving Inhabited,DecidableEq
structure View where
 Dims:(List Int)
 Strides:(List Int)
 Offset:Int
 Base:Int
 deriving Inhabited,DecidableEq
structure leafKind where
 data:Bool
 deriving Inhabited,DecidableEq
structure pairKind where
 op:Int
 deriving Inhabited,DecidableEq
structure soloKind where
 op:Int
 deriving Inhabited,DecidableEq
structure topKind where
 deriving Inhabited,DecidableEq
structure formKind where
 deriving Inhabited,DecidableEq
structure shiftKind where
 use:aM
 deriving Inhabited,DecidableEq
structure form where
 groups:(List aM)
 out_:aM
 order:aM
 loops:(List Int)
 dims:(List Int)
 steps:(List (List Int))
 store:(List Int)
 deriving Inhabited,DecidableEq
structure pair where
 from_:Int
 to:Int
 deriving Inhabited,DecidableEq
def str0:aM:=[45,62]
def gP:aM:=[100]
def eP:aM:=[105]
def oh:aM:=[100,120]
def k8:aM:=[102]
def oi:aM:=[120]
def str6:aM:=[44]
def yh:aM:=[109,48]
def str8:aM:=[109]
theorem bO:Tryz.prog.follows .mixedOrders=true:=by kernel_rfl
abbrev kT3:Kind Int:=Kind.int .i64
def z':DecK kT3:=DecK.scal _ _
def gJ:MkO kT3:=MkO.scal _ _
def sP3:SpO kT3:=SpO.scal _ _
def zT3:Zr kT3:=Zr.scal _ _ 0
theorem j0:kT3.Closed:=Kind.scal_closed _ _
abbrev kT23:Kind (List Int):=Kind.sl 3 kT3
def dT23:DecK kT23:=DecK.sl 3 kT3
def qK:MkS kT23:=MkS.sl 3 kT3
def l3:MkO kT23:=MkO.sl 3 kT3
def s8:SpO kT23:=SpO.sl 3 kT3
def zT23:Zr kT23:=Zr.sl 3 kT3
theorem wt:kT23.Closed:=Kind.sl_closed j0 3
abbrev dM:Kind aM:=Kind.str
def dT9:DecK dM:=DecK.scal _ _
def xP:MkO dM:=MkO.scal _ _
def sP9:SpO dM:=SpO.scal _ _
def zT9:Zr dM:=Zr.scal _ _ []
abbrev jL:Kind Node:=Kind.iso (Kind.pair kT3 (Kind.pair kT23 (Kind.pair kT23 (Kind.pair kT23 (Kind.pair dM kT23))))) (fun x:Node=>(x.Op,x.Args,x.Dims,x.Ints,x.Form,x.Data))
def dT70:DecK jL:=DecK.iso (DecK.pair z' (DecK.pair dT23 (DecK.pair dT23 (DecK.pair dT23 (DecK.pair dT9 dT23))))) _
abbrev dL:Kind Node:=Kind.iso (Kind.pair kT3 (Kind.pair kT23 (Kind.pair kT23 (Kind.pair kT23 (Kind.pair dM kT23))))) (fun x:Node=>(x.Op,x.Args,x.Dims,x.Ints,x.Form,x.Data))
def dT54:DecK dL:=DecK.iso (DecK.pair z' (DecK.pair dT23 (DecK.pair dT23 (DecK.pair dT23 (DecK.pair dT9 dT23))))) _
def oY:MkO dL:=MkO.iso (MkO.pair gJ (MkO.pair l3 (MkO.pair l3 (MkO.pair l3 (MkO.pair xP l3))))) _
def qL:SpO dL:=SpO.iso (SpO.pair sP3 (SpO.pair s8 (SpO.pair s8 (SpO.pair s8 (SpO.pair sP9 s8))))) _
def zT54:Zr dL:=Zr.iso (Zr.pair zT3 (Zr.pair zT23 (Zr.pair zT23 (Zr.pair zT23 (Zr.pair zT9 zT23))))) _ ⟨zT3.z,zT23.z,zT23.z,zT23.z,zT9.z,zT23.z⟩ rfl
abbrev dK:Kind Tensor:=Kind.iso (Kind.pair kT23 kT23) (fun x:Tensor=>(x.Dims,x.Data))
def dT58:DecK dK:=DecK.iso (DecK.pair dT23 dT23) _
def yi:MkS dK:=MkS.iso (MkS.pair qK qK) _
def wu:MkO dK:=MkO.iso (MkO.pair l3 l3) _
def yj:Zr dK:=Zr.iso (Zr.pair zT23 zT23) _ ⟨zT23.z,zT23.z⟩ rfl
abbrev kT161:Kind pair:=Kind.iso (Kind.pair kT3 kT3) (fun x:pair=>(x.from_,x.to))
def yk:DecK kT161:=DecK.iso (DecK.pair z' z') _
def j1:MkO kT161:=MkO.iso (MkO.pair gJ gJ) _
def zT161:Zr kT161:=Zr.iso (Zr.pair zT3 zT3) _ ⟨zT3.z,zT3.z⟩ rfl
theorem s9:kT161.Closed:=Kind.iso_closed (Kind.pair_closed j0 j0) _
abbrev Bz:Kind Int:=Kind.int .u8
def mO5:MkO Bz:=MkO.scal _ _
theorem As:eW Tryz.prog 25=some true:=by kernel_rfl
theorem At:hK Tryz.prog 25=some 2:=by kernel_rfl
theorem wv:cS Tryz.prog 25 0=some 0:=by kernel_rfl
theorem Au:eW Tryz.prog 22=some false:=by kernel_rfl
theorem Av:li Tryz.prog 22=some 70:=by kernel_rfl
theorem ww:hK Tryz.prog 70=some 6:=by kernel_rfl
theorem wx:eW Tryz.prog 70=some true:=by kernel_rfl
theorem wy:cS Tryz.prog 70 1=some 1:=by kernel_rfl
theorem cH:eW Tryz.prog 23=some false:=by kernel_rfl
theorem bL:li Tryz.prog 23=some 3:=by kernel_rfl
theorem sd:aX Tryz.prog 33=true:=by kernel_rfl
theorem wz:cS Tryz.prog 70 2=some 2:=by kernel_rfl
theorem wA:cS Tryz.prog 70 3=some 3:=by kernel_rfl
theorem wB:cS Tryz.prog 70 4=some 4:=by kernel_rfl
theorem qO:eW Tryz.prog 9=some false:=by kernel_rfl
theorem fJ:Tryz.prog.underlying 9=some .string:=by kernel_rfl
theorem wC:cS Tryz.prog 70 5=some 5:=by kernel_rfl
theorem Aw:aX Tryz.prog 50=true:=by kernel_rfl
theorem Ax:aX Tryz.prog 32=true:=by kernel_rfl
theorem wD:cS Tryz.prog 25 1=some 1:=by kernel_rfl
theorem cb9:aX Tryz.prog 9=true:=by kernel_rfl
theorem wE:ku Tryz.prog 30=some [(.slice none 0 0),(.slice none 0 0)]:=by kernel_rfl
theorem ym:li Tryz.prog 28=some 54:=by kernel_rfl
theorem mT:hK Tryz.prog 54=some 6:=by kernel_rfl
theorem Ay:gM Tryz.prog 54=some 120:=by kernel_rfl
theorem se:ku Tryz.prog 54=some [(iv 0),(.slice none 0 0),(.slice none 0 0),(.slice none 0 0),(aD ([]:aM)),(.slice none 0 0)]:=by kernel_rfl
theorem sf:cS Tryz.prog 70 0=some 0:=by kernel_rfl
theorem fS:eW Tryz.prog 3=some false:=by kernel_rfl
theorem jh:cS Tryz.prog 54 0=some 0:=by kernel_rfl
theorem cE:hK Tryz.prog 3=some 1:=by kernel_rfl
theorem kv:gM Tryz.prog 3=some 8:=by kernel_rfl
theorem gZ:ku Tryz.prog 3=some [(iv 0)]:=by kernel_rfl
theorem sg:cS Tryz.prog 54 1=some 1:=by kernel_rfl
theorem eZ:hK Tryz.prog 23=some 1:=by kernel_rfl
theorem sh:aX Tryz.prog 28=true:=by kernel_rfl
theorem ki:cS Tryz.prog 54 2=some 2:=by kernel_rfl
theorem gQ:cS Tryz.prog 54 3=some 3:=by kernel_rfl
theorem oZ:cS Tryz.prog 54 4=some 4:=by kernel_rfl
theorem qP:hK Tryz.prog 9=some 1:=by kernel_rfl
theorem nw:cS Tryz.prog 54 5=some 5:=by kernel_rfl
theorem si:eW Tryz.prog 54=some true:=by kernel_rfl
theorem Az:aX Tryz.prog 58=true:=by kernel_rfl
theorem wF:cS Tryz.prog 30 0=some 0:=by kernel_rfl
theorem yn:hK Tryz.prog 28=some 1:=by kernel_rfl
theorem AA:aX Tryz.prog 35=true:=by kernel_rfl
theorem wG:cS Tryz.prog 30 1=some 1:=by kernel_rfl
theorem wH:eW Tryz.prog 30=some true:=by kernel_rfl
theorem sj:hK Tryz.prog 30=some 2:=by kernel_rfl
theorem fV:li Tryz.prog 46=some 58:=by kernel_rfl
theorem bQ:hK Tryz.prog 58=some 2:=by kernel_rfl
theorem dP:ku Tryz.prog 58=some [(.slice none 0 0),(.slice none 0 0)]:=by kernel_rfl
theorem AB:eW Tryz.prog 28=some false:=by kernel_rfl
theorem AC:aX Tryz.prog 75=true:=by kernel_rfl
theorem AD:aX Tryz.prog 76=true:=by kernel_rfl
theorem AE:aX Tryz.prog 77=true:=by kernel_rfl
theorem AF:aX Tryz.prog 51=true:=by kernel_rfl
theorem ue:aX Tryz.prog 52=true:=by kernel_rfl
theorem fF:eW Tryz.prog 58=some true:=by kernel_rfl
theorem yo:gM Tryz.prog 58=some 48:=by kernel_rfl
theorem gK:fU Tryz.prog 58=some [(0,1),(1,1)]:=by kernel_rfl
theorem iH:cS Tryz.prog 58 0=some 0:=by kernel_rfl
theorem nx:aX Tryz.prog 95=true:=by kernel_rfl
theorem sk:cS Tryz.prog 58 1=some 1:=by kernel_rfl
theorem k9:aX Tryz.prog 92=true:=by kernel_rfl
theorem ny:aX Tryz.prog 55=true:=by kernel_rfl
theorem jM:aX Tryz.prog 57=true:=by kernel_rfl
theorem wI:aX Tryz.prog 56=true:=by kernel_rfl
theorem vj:aX Tryz.prog 138=true:=by kernel_rfl
theorem yp:aX Tryz.prog 101=true:=by kernel_rfl
theorem nz:aX Tryz.prog 93=true:=by kernel_rfl
theorem lr:aX Tryz.prog 102=true:=by kernel_rfl
theorem sn:aX Tryz.prog 114=true:=by kernel_rfl
theorem n0:aX Tryz.prog 112=true:=by kernel_rfl
theorem lD:aX Tryz.prog 94=true:=by kernel_rfl
theorem oj:aX Tryz.prog 108=true:=by kernel_rfl
theorem pU:aX Tryz.prog 115=true:=by kernel_rfl
theorem vk:aX Tryz.prog 139=true:=by kernel_rfl
theorem om:aX Tryz.prog 111=true:=by kernel_rfl
theorem vl:aX Tryz.prog 155=true:=by kernel_rfl
theorem vm:aX Tryz.prog 141=true:=by kernel_rfl
theorem yq:aX Tryz.prog 140=true:=by kernel_rfl
theorem vn:aX Tryz.prog 104=true:=by kernel_rfl
theorem yr:aX Tryz.prog 103=true:=by kernel_rfl
theorem AG:aX Tryz.prog 78=true:=by kernel_rfl
theorem yt:aX Tryz.prog 105=true:=by kernel_rfl
theorem AH:aX Tryz.prog 79=true:=by kernel_rfl
theorem oq:aX Tryz.prog 106=true:=by kernel_rfl
theorem kG:aX Tryz.prog 122=true:=by kernel_rfl
theorem yu:aX Tryz.prog 107=true:=by kernel_rfl
theorem AI:aX Tryz.prog 80=true:=by kernel_rfl
theorem lu:li Tryz.prog 122=some 9:=by kernel_rfl
theorem yv:ku Tryz.prog 9=some [(aD ([]:aM))]:=by kernel_rfl
theorem BA:gM Tryz.prog 9=some 16:=by kernel_rfl
theorem vo:aX Tryz.prog 142=true:=by kernel_rfl
theorem vq:aX Tryz.prog 143=true:=by kernel_rfl
theorem yw:aX Tryz.prog 109=true:=by kernel_rfl
theorem ji:li Tryz.prog 38=some 23:=by kernel_rfl
theorem kj:ku Tryz.prog 23=some [(.slice none 0 0)]:=by kernel_rfl
theorem qQ:gM Tryz.prog 23=some 24:=by kernel_rfl
theorem yx:aX Tryz.prog 110=true:=by kernel_rfl
theorem yy:aX Tryz.prog 113=true:=by kernel_rfl
theorem AJ:aX Tryz.prog 81=true:=by kernel_rfl
theorem cW:ku Tryz.prog 96=some [(.slice none 0 0),(.slice none 0 0),(iv 0),(iv 0)]:=by kernel_rfl
theorem fD:fU Tryz.prog 96=some [(0,1),(1,1),(2,1),(3,1)]:=by kernel_rfl
theorem cF:hK Tryz.prog 96=some 4:=by kernel_rfl
theorem fW:cS Tryz.prog 96 1=some 1:=by kernel_rfl
theorem gC:eW Tryz.prog 96=some true:=by kernel_rfl
theorem gD:cS Tryz.prog 96 0=some 0:=by kernel_rfl
theorem yz:aX Tryz.prog 118=true:=by kernel_rfl
theorem wJ:cS Tryz.prog 96 3=some 3:=by kernel_rfl
theorem nA:cS Tryz.prog 96 2=some 2:=by kernel_rfl
theorem yA:aX Tryz.prog 144=true:=by kernel_rfl
theorem pV:aX Tryz.prog 117=true:=by kernel_rfl
theorem lv:aX Tryz.prog 116=true:=by kernel_rfl
theorem uf:aX Tryz.prog 84=true:=by kernel_rfl
theorem AK:aX Tryz.prog 83=true:=by kernel_rfl
theorem ug:aX Tryz.prog 82=true:=by kernel_rfl
theorem AL:aX Tryz.prog 85=true:=by kernel_rfl
theorem vr:aX Tryz.prog 119=true:=by kernel_rfl
theorem vt:aX Tryz.prog 120=true:=by kernel_rfl
theorem vu:aX Tryz.prog 121=true:=by kernel_rfl
theorem AM:aX Tryz.prog 86=true:=by kernel_rfl
theorem sq:aX Tryz.prog 123=true:=by kernel_rfl
theorem AN:aX Tryz.prog 87=true:=by kernel_rfl
theorem AO:aX Tryz.prog 88=true:=by kernel_rfl
theorem AP:aX Tryz.prog 89=true:=by kernel_rfl
theorem AQ:aX Tryz.prog 90=true:=by kernel_rfl
theorem AR:aX Tryz.prog 91=true:=by kernel_rfl
theorem AS:aX Tryz.prog 53=true:=by kernel_rfl
theorem AT:aX Tryz.prog 54=true:=by kernel_rfl
theorem AU:aX Tryz.prog 34=true:=by kernel_rfl
theorem uh:aX Tryz.prog 11=true:=by kernel_rfl
theorem vv:fU Tryz.prog 136=some [(0,1)]:=by kernel_rfl
theorem vw:ku Tryz.prog 136=some [(.bool false)]:=by kernel_rfl
theorem vx:Tryz.prog.concrete 136=true:=by kernel_rfl
theorem yB:fU Tryz.prog 138=some [(0,1)]:=by kernel_rfl
theorem yC:ku Tryz.prog 138=some [(iv 0)]:=by kernel_rfl
theorem yD:Tryz.prog.concrete 138=true:=by kernel_rfl
theorem yE:fU Tryz.prog 139=some [(0,1)]:=by kernel_rfl
theorem yF:ku Tryz.prog 139=some [(iv 0)]:=by kernel_rfl
theorem yG:Tryz.prog.concrete 139=true:=by kernel_rfl
theorem yH:fU Tryz.prog 141=some []:=by kernel_rfl
theorem yI:ku Tryz.prog 141=some []:=by kernel_rfl
theorem yJ:Tryz.prog.concrete 141=true:=by kernel_rfl
theorem yK:fU Tryz.prog 142=some []:=by kernel_rfl
theorem yL:ku Tryz.prog 142=some []:=by kernel_rfl
theorem yM:Tryz.prog.concrete 142=true:=by kernel_rfl
theorem ms:fU Tryz.prog 145=some [(0,1),(1,1)]:=by kernel_rfl
theorem mt:ku Tryz.prog 145=some [(aD ([]:aM)),.nilFunc]:=by kernel_rfl
theorem mu:Tryz.prog.concrete 145=true:=by kernel_rfl
theorem pW:aX Tryz.prog 126=true:=by kernel_rfl
theorem AV:aX Tryz.prog 96=true:=by kernel_rfl
theorem uk:cS Tryz.prog 136 0=some 0:=by kernel_rfl
theorem ag4:eW Tryz.prog 4=some false:=by kernel_rfl
theorem ul:cS Tryz.prog 145 0=some 0:=by kernel_rfl
theorem p0 (v:Value)(args:Array Value)(w:World):(callMethod (.iface 136 v) "loop.example/g00033/impl.uses" args).run Tryz.prog w=.ok (.enter 193 (#[v]++args)) w:=by kernel_rfl
theorem p6 (v:Value)(args:Array Value)(w:World):(callMethod (.iface 138 v) "loop.example/g00033/impl.uses" args).run Tryz.prog w=.ok (.enter 198 (#[v]++args)) w:=by kernel_rfl
theorem p7 (v:Value)(args:Array Value)(w:World):(callMethod (.iface 139 v) "loop.example/g00033/impl.uses" args).run Tryz.prog w=.ok (.enter 201 (#[v]++args)) w:=by kernel_rfl
theorem p8 (v:Value)(args:Array Value)(w:World):(callMethod (.iface 141 v) "loop.example/g00033/impl.uses" args).run Tryz.prog w=.ok (.enter 203 (#[v]++args)) w:=by kernel_rfl
theorem p9 (v:Value)(args:Array Value)(w:World):(callMethod (.iface 142 v) "loop.example/g00033/impl.uses" args).run Tryz.prog w=.ok (.enter 205 (#[v]++args)) w:=by kernel_rfl
theorem gR (v:Value)(args:Array Value)(w:World):(callMethod (.iface 145 v) "loop.example/g00033/impl.uses" args).run Tryz.prog w=.ok (.enter 221 (#[v]++args)) w:=by kernel_rfl
theorem vy:aX Tryz.prog 162=true:=by kernel_rfl
theorem vC:aX Tryz.prog 154=true:=by kernel_rfl
theorem yN:aX Tryz.prog 136=true:=by kernel_rfl
theorem iI:aX Tryz.prog 135=true:=by kernel_rfl
theorem yO:aX Tryz.prog 97=true:=by kernel_rfl
theorem yP:aX Tryz.prog 196=true:=by kernel_rfl
theorem j2:aX Tryz.prog 147=true:=by kernel_rfl
theorem jw:aX Tryz.prog 148=true:=by kernel_rfl
theorem yQ:aX Tryz.prog 195=true:=by kernel_rfl
theorem yR:aX Tryz.prog 194=true:=by kernel_rfl
theorem yS:aX Tryz.prog 199=true:=by kernel_rfl
theorem gL:aX Tryz.prog 150=true:=by kernel_rfl
theorem kH:ku Tryz.prog 192=some [(.slice none 0 0),(aD ([]:aM)),(aD ([]:aM)),(.slice none 0 0),(.slice none 0 0),(.slice none 0 0),(.slice none 0 0)]:=by kernel_rfl
theorem yT:aX Tryz.prog 212=true:=by kernel_rfl
theorem yU:aX Tryz.prog 210=true:=by kernel_rfl
theorem yV:aX Tryz.prog 215=true:=by kernel_rfl
theorem yW:aX Tryz.prog 213=true:=by kernel_rfl
theorem yX:aX Tryz.prog 211=true:=by kernel_rfl
theorem yY:aX Tryz.prog 171=true:=by kernel_rfl
theorem pX:aX Tryz.prog 208=true:=by kernel_rfl
theorem yZ:aX Tryz.prog 207=true:=by kernel_rfl
theorem n5:fU Tryz.prog 192=some [(0,1),(1,1),(2,1),(3,1),(4,1),(5,1),(6,1)]:=by kernel_rfl
theorem iJ:hK Tryz.prog 192=some 7:=by kernel_rfl
theorem sr:y9 Tryz.prog 195=some (26,3):=by kernel_rfl
theorem vD:ku Tryz.prog 195=some [(iv 0),(iv 0),(iv 0),(iv 0),(iv 0),(iv 0),(iv 0),(iv 0),(iv 0),(iv 0),(iv 0),(iv 0),(iv 0),(iv 0),(iv 0),(iv 0),(iv 0),(iv 0),(iv 0),(iv 0),(iv 0),(iv 0),(iv 0),(iv 0),(iv 0),(iv 0)]:=by kernel_rfl
theorem vE:hK Tryz.prog 195=some 26:=by kernel_rfl
theorem um:cS Tryz.prog 192 2=some 2:=by kernel_rfl
theorem un:cS Tryz.prog 192 3=some 3:=by kernel_rfl
theorem uo:cS Tryz.prog 192 4=some 4:=by kernel_rfl
theorem j3:aX Tryz.prog 64=true:=by kernel_rfl
theorem pY:cS Tryz.prog 192 5=some 5:=by kernel_rfl
theorem AW:eW Tryz.prog 38=some false:=by kernel_rfl
theorem mw:eW Tryz.prog 192=some true:=by kernel_rfl
theorem y':hK Tryz.prog 38=some 1:=by kernel_rfl
theorem su:aX Tryz.prog 164=true:=by kernel_rfl
theorem vF:aX Tryz.prog 209=true:=by kernel_rfl
theorem pZ:cS Tryz.prog 192 6=some 6:=by kernel_rfl
theorem z6:aX Tryz.prog 206=true:=by kernel_rfl
theorem uq:cS Tryz.prog 145 1=some 1:=by kernel_rfl
theorem z7:eW Tryz.prog 143=some false:=by kernel_rfl
theorem z8:aX Tryz.prog 158=true:=by kernel_rfl
theorem mx:aX Tryz.prog 156=true:=by kernel_rfl
theorem za:aX Tryz.prog 166=true:=by kernel_rfl
theorem sv:aX Tryz.prog 165=true:=by kernel_rfl
theorem zb:aX Tryz.prog 159=true:=by kernel_rfl
theorem sw:aX Tryz.prog 168=true:=by kernel_rfl
theorem zd:aX Tryz.prog 167=true:=by kernel_rfl
theorem ze:aX Tryz.prog 160=true:=by kernel_rfl
theorem zf:aX Tryz.prog 170=true:=by kernel_rfl
theorem zg:aX Tryz.prog 169=true:=by kernel_rfl
theorem zh:aX Tryz.prog 161=true:=by kernel_rfl
theorem fA:li Tryz.prog 147=some 161:=by kernel_rfl
theorem fB:hK Tryz.prog 161=some 2:=by kernel_rfl
theorem eL:ku Tryz.prog 161=some [(iv 0),(iv 0)]:=by kernel_rfl
theorem zi:ku Tryz.prog 147=some [(.slice none 0 0)]:=by kernel_rfl
theorem sx:hK Tryz.prog 147=some 1:=by kernel_rfl
theorem zj:aX Tryz.prog 157=true:=by kernel_rfl
theorem zl:eW Tryz.prog 147=some false:=by kernel_rfl
theorem my:fU Tryz.prog 161=some [(0,1),(1,1)]:=by kernel_rfl
theorem lx:gM Tryz.prog 161=some 16:=by kernel_rfl
theorem zm:aX Tryz.prog 163=true:=by kernel_rfl
theorem zn:aX Tryz.prog 146=true:=by kernel_rfl
theorem zo:aX Tryz.prog 145=true:=by kernel_rfl
theorem zp:aX Tryz.prog 124=true:=by kernel_rfl
theorem zq:aX Tryz.prog 125=true:=by kernel_rfl
theorem zr:eW Tryz.prog 150=some false:=by kernel_rfl
theorem p':aX Tryz.prog 151=true:=by kernel_rfl
theorem vG:aX Tryz.prog 153=true:=by kernel_rfl
theorem vH:eW Tryz.prog 161=some true:=by kernel_rfl
theorem q8:cS Tryz.prog 161 0=some 0:=by kernel_rfl
theorem qa:cS Tryz.prog 161 1=some 1:=by kernel_rfl
theorem sy:aX Tryz.prog 152=true:=by kernel_rfl
theorem zt:aX Tryz.prog 128=true:=by kernel_rfl
theorem zu:aX Tryz.prog 127=true:=by kernel_rfl
theorem qb:aX Tryz.prog 149=true:=by kernel_rfl
theorem zw:aX Tryz.prog 130=true:=by kernel_rfl
theorem zx:aX Tryz.prog 129=true:=by kernel_rfl
theorem zy:aX Tryz.prog 132=true:=by kernel_rfl
theorem zz:aX Tryz.prog 131=true:=by kernel_rfl
theorem zA:aX Tryz.prog 134=true:=by kernel_rfl
theorem zB:aX Tryz.prog 133=true:=by kernel_rfl
theorem ou (v:Value)(args:Array Value)(w:World):(callMethod (.iface 136 v) "loop.example/g00033/impl.shape" args).run Tryz.prog w=.ok (.enter 192 (#[v]++args)) w:=by kernel_rfl
theorem ov (v:Value)(args:Array Value)(w:World):(callMethod (.iface 138 v) "loop.example/g00033/impl.shape" args).run Tryz.prog w=.ok (.enter 197 (#[v]++args)) w:=by kernel_rfl
theorem oy (v:Value)(args:Array Value)(w:World):(callMethod (.iface 139 v) "loop.example/g00033/impl.shape" args).run Tryz.prog w=.ok (.enter 200 (#[v]++args)) w:=by kernel_rfl
theorem oz (v:Value)(args:Array Value)(w:World):(callMethod (.iface 141 v) "loop.example/g00033/impl.shape" args).run Tryz.prog w=.ok (.enter 202 (#[v]++args)) w:=by kernel_rfl
theorem oA (v:Value)(args:Array Value)(w:World):(callMethod (.iface 142 v) "loop.example/g00033/impl.shape" args).run Tryz.prog w=.ok (.enter 204 (#[v]++args)) w:=by kernel_rfl
theorem f' (v:Value)(args:Array Value)(w:World):(callMethod (.iface 145 v) "loop.example/g00033/impl.shape" args).run Tryz.prog w=.ok (.enter 220 (#[v]++args)) w:=by kernel_rfl
theorem AX:aX Tryz.prog 59=true:=by kernel_rfl
theorem AY:aX Tryz.prog 36=true:=by kernel_rfl
theorem qR:aX Tryz.prog 16=true:=by kernel_rfl
theorem AZ:aX Tryz.prog 60=true:=by kernel_rfl
theorem B0:aX Tryz.prog 37=true:=by kernel_rfl
theorem B1:aX Tryz.prog 13=true:=by kernel_rfl
theorem qT:aX Tryz.prog 18=true:=by kernel_rfl
theorem un3:Tryz.prog.underlying 3=some (.int .i64):=by kernel_rfl
theorem BC:Tryz.prog.underlying 5=some (.int .u8):=by kernel_rfl
theorem sA:li Tryz.prog 112=some 5:=by kernel_rfl
theorem BD:hK Tryz.prog 5=some 1:=by kernel_rfl
theorem zc5:ku Tryz.prog 5=some [(.int .u8 (0:Int))]:=by kernel_rfl
theorem B2:aX Tryz.prog 61=true:=by kernel_rfl
theorem B3:aX Tryz.prog 39=true:=by kernel_rfl
theorem B4:aX Tryz.prog 17=true:=by kernel_rfl
theorem B5:aX Tryz.prog 19=true:=by kernel_rfl
theorem B6:aX Tryz.prog 20=true:=by kernel_rfl
theorem B7:aX Tryz.prog 63=true:=by kernel_rfl
theorem B8:aX Tryz.prog 62=true:=by kernel_rfl
theorem B9:aX Tryz.prog 40=true:=by kernel_rfl
theorem zC:aX Tryz.prog 21=true:=by kernel_rfl
theorem wK:aX Tryz.prog 22=true:=by kernel_rfl
theorem Ba:aX Tryz.prog 23=true:=by kernel_rfl
theorem zD:aX Tryz.prog 24=true:=by kernel_rfl
theorem Bb:li Tryz.prog 60=some 4:=by kernel_rfl
theorem sz4:hK Tryz.prog 4=some 1:=by kernel_rfl
structure kindOfR where
 t:Nat
 b0:Bool
 i0:Int
 i1:Int
 s0:aM
 deriving Inhabited,DecidableEq
def cU (r:kindOfR)(h:Nat×Nat×Nat):Value:=cond (Nat.beq r.t 0) .nilIface (cond (Nat.beq r.t 1) (.iface 136 (.agg [(.bool r.b0)].toArray)) (cond (Nat.beq r.t 2) (.iface 138 (.agg [(iv r.i0)].toArray)) (cond (Nat.beq r.t 3) (.iface 139 (.agg [(iv r.i0)].toArray)) (cond (Nat.beq r.t 4) (.iface 141 (.agg [].toArray)) (cond (Nat.beq r.t 5) (.iface 142 (.agg [].toArray)) (cond (Nat.beq r.t 6) (.iface 145 (.agg [(aD r.s0),(.func (.func 124) [].toArray [].toArray)].toArray)) (cond (Nat.beq r.t 7) (.iface 145 (.agg [(aD r.s0),(.func (.func 125) [].toArray [].toArray)].toArray)) (cond (Nat.beq r.t 8) (.iface 145 (.agg [(aD r.s0),(.func (.func 149) [].toArray [(pt h.1 0),(pt h.2.1 0),(pt h.2.2 0)].toArray)].toArray)) (cond (Nat.beq r.t 9) (.iface 145 (.agg [(aD r.s0),(.func (.func 149) [].toArray [(pt h.1 0),(pt h.2.1 0),(pt h.2.2 0)].toArray)].toArray)) (cond (Nat.beq r.t 10) (.iface 145 (.agg [(aD r.s0),(.func (.func 149) [].toArray [(pt h.1 0),(pt h.2.1 0),(pt h.2.2 0)].toArray)].toArray)) ((.iface 145 (.agg [(aD r.s0),(.func (.func 149) [].toArray [(pt h.1 0),(pt h.2.1 0),(pt h.2.2 0)].toArray)].toArray)))))))))))))
def eS (r:kindOfR)(h:Nat×Nat×Nat):HP:=cond (Nat.beq r.t 0) (pk []) (cond (Nat.beq r.t 1) (pk []) (cond (Nat.beq r.t 2) (pk []) (cond (Nat.beq r.t 3) (pk []) (cond (Nat.beq r.t 4) (pk []) (cond (Nat.beq r.t 5) (pk []) (cond (Nat.beq r.t 6) (pk []) (cond (Nat.beq r.t 7) (pk []) (cond (Nat.beq r.t 8) (pk [aJ h.1 [(iv r.i0)] 3,aJ h.2.1 [(iv r.i1)] 3,aJ h.2.2 [(.func (.func 127) [].toArray [].toArray)] 150]) (cond (Nat.beq r.t 9) (pk [aJ h.1 [(iv r.i0)] 3,aJ h.2.1 [(iv r.i1)] 3,aJ h.2.2 [(.func (.func 129) [].toArray [].toArray)] 150]) (cond (Nat.beq r.t 10) (pk [aJ h.1 [(iv r.i0)] 3,aJ h.2.1 [(iv r.i1)] 3,aJ h.2.2 [(.func (.func 131) [].toArray [].toArray)] 150]) ((pk [aJ h.1 [(iv r.i0)] 3,aJ h.2.1 [(iv r.i1)] 3,aJ h.2.2 [(.func (.func 133) [].toArray [].toArray)] 150]))))))))))))
theorem mz {C:World}{n:Nn}{V:List HP}{σ:cY}{d:Option Nat}{ty:TypeId}{pos:String}{af:Array Edge}{gd:Option (Nat×Bool)}{x:Operand}{D:TypeId}{r:kindOfR}{h:Nat×Nat×Nat}(b:ev σ x=cU r h):VO ⟨Tryz.prog,n,C⟩ V σ ⟨d,.binOp .eql 108 x (.const .nilIface) D,ty,pos,af,gd⟩ (.bool (Nat.beq r.t 0)):=by
 rcases bo (Nat.beq r.t 0) with a | a
 ·rw [a]; exact u5 (by kernel_rfl) (by rw [b]; simp only [cU,a,cond_true])
 rcases bo (Nat.beq r.t 1) with e | e
 ·rw [a]; exact iF (by kernel_rfl) (by rw [b]; simp only [cU,a,e,cond_true,cond_false]; rfl)
 rcases bo (Nat.beq r.t 2) with g | g
 ·rw [a]; exact iF (by kernel_rfl) (by rw [b]; simp only [cU,a,e,g,cond_true,cond_false]; rfl)
 rcases bo (Nat.beq r.t 3) with i | i
 ·rw [a]; exact iF (by kernel_rfl) (by rw [b]; simp only [cU,a,e,g,i,cond_true,cond_false]; rfl)
 rcases bo (Nat.beq r.t 4) with j | j
 ·rw [a]; exact iF (by kernel_rfl) (by rw [b]; simp only [cU,a,e,g,i,j,cond_true,cond_false]; rfl)
 rcases bo (Nat.beq r.t 5) with l | l
 ·rw [a]; exact iF (by kernel_rfl) (by rw [b]; simp only [cU,a,e,g,i,j,l,cond_true,cond_false]; rfl)
 rcases bo (Nat.beq r.t 6) with m | m
 ·rw [a]; exact iF (by kernel_rfl) (by rw [b]; simp only [cU,a,e,g,i,j,l,m,cond_true,cond_false]; rfl)
 rcases bo (Nat.beq r.t 7) with s | s
 ·rw [a]; exact iF (by kernel_rfl) (by rw [b]; simp only [cU,a,e,g,i,j,l,m,s,cond_true,cond_false]; rfl)
 rcases bo (Nat.beq r.t 8) with u | u
 ·rw [a]; exact iF (by kernel_rfl) (by rw [b]; simp only [cU,a,e,g,i,j,l,m,s,u,cond_true,cond_false]; rfl)
 rcases bo (Nat.beq r.t 9) with B | B
 ·rw [a]; exact iF (by kernel_rfl) (by rw [b]; simp only [cU,a,e,g,i,j,l,m,s,u,B,cond_true,cond_false]; rfl)
 rcases bo (Nat.beq r.t 10) with q | q
 ·rw [a]; exact iF (by kernel_rfl) (by rw [b]; simp only [cU,a,e,g,i,j,l,m,s,u,B,q,cond_true,cond_false]; rfl)
 rw [a]; exact iF (by kernel_rfl) (by rw [b]; simp only [cU,a,e,g,i,j,l,m,s,u,B,q,cond_false]; rfl)
instance:HAg Tryz.prog 25 true:=⟨As⟩
instance:HSz Tryz.prog 25 2:=⟨At⟩
instance:HFo Tryz.prog 25 0 0:=⟨wv⟩
instance:HAg Tryz.prog 22 false:=⟨Au⟩
instance:HSl Tryz.prog 22 70:=⟨Av⟩
instance:HSz Tryz.prog 70 6:=⟨ww⟩
instance:HAg Tryz.prog 70 true:=⟨wx⟩
instance:HFo Tryz.prog 70 1 1:=⟨wy⟩
instance:HAg Tryz.prog 23 false:=⟨cH⟩
instance:HSl Tryz.prog 23 3:=⟨bL⟩
instance:HFo Tryz.prog 70 2 2:=⟨wz⟩
instance:HFo Tryz.prog 70 3 3:=⟨wA⟩
instance:HFo Tryz.prog 70 4 4:=⟨wB⟩
instance:HAg Tryz.prog 9 false:=⟨qO⟩
instance:HFo Tryz.prog 70 5 5:=⟨wC⟩
instance:HFo Tryz.prog 25 1 1:=⟨wD⟩
instance:HSl Tryz.prog 28 54:=⟨ym⟩
instance:HSz Tryz.prog 54 6:=⟨mT⟩
instance:HFo Tryz.prog 70 0 0:=⟨sf⟩
instance:HAg Tryz.prog 3 false:=⟨fS⟩
instance:HFo Tryz.prog 54 0 0:=⟨jh⟩
instance:HSz Tryz.prog 3 1:=⟨cE⟩
instance:HFo Tryz.prog 54 1 1:=⟨sg⟩
instance:HSz Tryz.prog 23 1:=⟨eZ⟩
instance:HFo Tryz.prog 54 2 2:=⟨ki⟩
instance:HFo Tryz.prog 54 3 3:=⟨gQ⟩
instance:HFo Tryz.prog 54 4 4:=⟨oZ⟩
instance:HSz Tryz.prog 9 1:=⟨qP⟩
instance:HFo Tryz.prog 54 5 5:=⟨nw⟩
instance:HAg Tryz.prog 54 true:=⟨si⟩
instance:HFo Tryz.prog 30 0 0:=⟨wF⟩
instance:HSz Tryz.prog 28 1:=⟨yn⟩
instance:HFo Tryz.prog 30 1 1:=⟨wG⟩
instance:HAg Tryz.prog 30 true:=⟨wH⟩
instance:HSz Tryz.prog 30 2:=⟨sj⟩
instance:HSl Tryz.prog 46 58:=⟨fV⟩
instance:HSz Tryz.prog 58 2:=⟨bQ⟩
instance:HAg Tryz.prog 28 false:=⟨AB⟩
instance:HAg Tryz.prog 58 true:=⟨fF⟩
instance:HFo Tryz.prog 58 0 0:=⟨iH⟩
instance:HFo Tryz.prog 58 1 1:=⟨sk⟩
instance:HSl Tryz.prog 122 9:=⟨lu⟩
instance:HSl Tryz.prog 38 23:=⟨ji⟩
instance:HSz Tryz.prog 96 4:=⟨cF⟩
instance:HFo Tryz.prog 96 1 1:=⟨fW⟩
instance:HAg Tryz.prog 96 true:=⟨gC⟩
instance:HFo Tryz.prog 96 0 0:=⟨gD⟩
instance:HFo Tryz.prog 96 3 3:=⟨wJ⟩
instance:HFo Tryz.prog 96 2 2:=⟨nA⟩
instance:HFo Tryz.prog 136 0 0:=⟨uk⟩
instance:HAg Tryz.prog 4 false:=⟨ag4⟩
instance:HFo Tryz.prog 145 0 0:=⟨ul⟩
instance:HSz Tryz.prog 192 7:=⟨iJ⟩
instance:HSz Tryz.prog 195 26:=⟨vE⟩
instance:HFo Tryz.prog 192 2 2:=⟨um⟩
instance:HFo Tryz.prog 192 3 3:=⟨un⟩
instance:HFo Tryz.prog 192 4 4:=⟨uo⟩
instance:HFo Tryz.prog 192 5 5:=⟨pY⟩
instance:HAg Tryz.prog 38 false:=⟨AW⟩
instance:HAg Tryz.prog 192 true:=⟨mw⟩
instance:HSz Tryz.prog 38 1:=⟨y'⟩
instance:HFo Tryz.prog 192 6 6:=⟨pZ⟩
instance:HFo Tryz.prog 145 1 1:=⟨uq⟩
instance:HAg Tryz.prog 143 false:=⟨z7⟩
instance:HSl Tryz.prog 147 161:=⟨fA⟩
instance:HSz Tryz.prog 161 2:=⟨fB⟩
instance:HSz Tryz.prog 147 1:=⟨sx⟩
instance:HAg Tryz.prog 147 false:=⟨zl⟩
instance:HAg Tryz.prog 150 false:=⟨zr⟩
instance:HAg Tryz.prog 161 true:=⟨vH⟩
instance:HFo Tryz.prog 161 0 0:=⟨q8⟩
instance:HFo Tryz.prog 161 1 1:=⟨qa⟩
instance:HSl Tryz.prog 112 5:=⟨sA⟩
instance:HSz Tryz.prog 5 1:=⟨BD⟩
instance:HSl Tryz.prog 60 4:=⟨Bb⟩
instance:HSz Tryz.prog 4 1:=⟨sz4⟩
end Go.Proofs.YtmpnollfdpdipaaGreat
