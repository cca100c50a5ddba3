import Derived.Test.YtmpnollfdpdipaaGreatPg20
import Derived.Test.YtmpnollfdpdipaaGreatStL
import Derived.Test.YtmpnollfdpdipaaGreatPg33
import Derived.Test.YtmpnollfdpdipaaGreatProg
set_option linter.unusedVariables false
namespace Go.Proofs.YtmpnollfdpdipaaGreat
open Go Go.Pg
structure Node where
 Op:Int
 Args:(List Int)
 Dims:(List Int)
 Ints:(List Int)
 Form:aM
 Data:(List Int)
 deriving Inhabited,DecidableEq
structure Graph where
 Nodes:(List Node)
 Outs:(List Int)
 deriving Inhabited,DecidableEq
structure Tensor where
 Dims:(List Int)
 Data:(List Int)
 deriving Inhabited,DecidableEq
structure View where
 Dims:(List Int)
 Strides:(List Int)
 Offset:Int
 Base:Int
 deriving Inhabited,DecidableEq
structure leafKind where
 data:Bool
 deriving Inhabited,DecidableEq
structure pairKind where
 op:Int
 deriving Inhabited,DecidableEq
structure soloKind where
 op:Int
 deriving Inhabited,DecidableEq
structure topKind where
 deriving Inhabited,DecidableEq
structure formKind where
 deriving Inhabited,DecidableEq
structure shiftKind where
 use:aM
 deriving Inhabited,DecidableEq
structure form where
 groups:(List aM)
 out_:aM
 order:aM
 loops:(List Int)
 dims:(List Int)
 steps:(List (List Int))
 store:(List Int)
 deriving Inhabited,DecidableEq
structure pair where
 from_:Int
 to:Int
 deriving Inhabited,DecidableEq
def str0:aM:=[45,62]
def gS:aM:=[100]
def eR:aM:=[105]
def ou:aM:=[100,120]
def ka:aM:=[102]
def ov:aM:=[120]
def str6:aM:=[44]
def yt:aM:=[109,48]
def str8:aM:=[109]
theorem bP:Tryz.prog.follows .mixedOrders=true:=by kernel_rfl
abbrev kT3:Kind Int:=Kind.int .i64
def Ak:DecK kT3:=DecK.scal _ _
def fZ:MkO kT3:=MkO.scal _ _
def sP3:SpO kT3:=SpO.scal _ _
def zT3:Zr kT3:=Zr.scal _ _ 0
theorem iM:kT3.Closed:=Kind.scal_closed _ _
abbrev bL:Kind (List Int):=Kind.sl 3 kT3
def dT23:DecK bL:=DecK.sl 3 kT3
def sj:MkS bL:=MkS.sl 3 kT3
def mR:MkO bL:=MkO.sl 3 kT3
def ul:SpO bL:=SpO.sl 3 kT3
def zT23:Zr bL:=Zr.sl 3 kT3
abbrev dO:Kind aM:=Kind.str
def dT9:DecK dO:=DecK.scal _ _
def xX:MkO dO:=MkO.scal _ _
def sP9:SpO dO:=SpO.scal _ _
def zT9:Zr dO:=Zr.scal _ _ []
abbrev jM:Kind Node:=Kind.iso (Kind.pair kT3 (Kind.pair bL (Kind.pair bL (Kind.pair bL (Kind.pair dO bL))))) (fun x:Node=>(x.Op,x.Args,x.Dims,x.Ints,x.Form,x.Data))
def dT70:DecK jM:=DecK.iso (DecK.pair Ak (DecK.pair dT23 (DecK.pair dT23 (DecK.pair dT23 (DecK.pair dT9 dT23))))) _
abbrev dA:Kind Node:=Kind.iso (Kind.pair kT3 (Kind.pair bL (Kind.pair bL (Kind.pair bL (Kind.pair dO bL))))) (fun x:Node=>(x.Op,x.Args,x.Dims,x.Ints,x.Form,x.Data))
def dT54:DecK dA:=DecK.iso (DecK.pair Ak (DecK.pair dT23 (DecK.pair dT23 (DecK.pair dT23 (DecK.pair dT9 dT23))))) _
def pd:MkO dA:=MkO.iso (MkO.pair fZ (MkO.pair mR (MkO.pair mR (MkO.pair mR (MkO.pair xX mR))))) _
def qW:SpO dA:=SpO.iso (SpO.pair sP3 (SpO.pair ul (SpO.pair ul (SpO.pair ul (SpO.pair sP9 ul))))) _
def zT54:Zr dA:=Zr.iso (Zr.pair zT3 (Zr.pair zT23 (Zr.pair zT23 (Zr.pair zT23 (Zr.pair zT9 zT23))))) _ ⟨zT3.z,zT23.z,zT23.z,zT23.z,zT9.z,zT23.z⟩ rfl
abbrev dV:Kind Tensor:=Kind.iso (Kind.pair bL bL) (fun x:Tensor=>(x.Dims,x.Data))
def dT58:DecK dV:=DecK.iso (DecK.pair dT23 dT23) _
def yu:MkS dV:=MkS.iso (MkS.pair sj sj) _
def wD:MkO dV:=MkO.iso (MkO.pair mR mR) _
def yv:Zr dV:=Zr.iso (Zr.pair zT23 zT23) _ ⟨zT23.z,zT23.z⟩ rfl
abbrev kT161:Kind pair:=Kind.iso (Kind.pair kT3 kT3) (fun x:pair=>(x.from_,x.to))
def yw:DecK kT161:=DecK.iso (DecK.pair Ak Ak) _
def iZ:MkO kT161:=MkO.iso (MkO.pair fZ fZ) _
def zT161:Zr kT161:=Zr.iso (Zr.pair zT3 zT3) _ ⟨zT3.z,zT3.z⟩ rfl
theorem sk:kT161.Closed:=Kind.iso_closed (Kind.pair_closed iM iM) _
abbrev BO:Kind Int:=Kind.int .u8
def mO5:MkO BO:=MkO.scal _ _
theorem AF:eX Tryz.prog 25=some true:=by kernel_rfl
theorem AG:hK Tryz.prog 25=some 2:=by kernel_rfl
theorem wE:cW Tryz.prog 25 0=some 0:=by kernel_rfl
theorem AH:eX Tryz.prog 22=some false:=by kernel_rfl
theorem AI:li Tryz.prog 22=some 70:=by kernel_rfl
theorem wF:hK Tryz.prog 70=some 6:=by kernel_rfl
theorem wG:eX Tryz.prog 70=some true:=by kernel_rfl
theorem wH:cW Tryz.prog 70 1=some 1:=by kernel_rfl
theorem cJ:eX Tryz.prog 23=some false:=by kernel_rfl
theorem bI:li Tryz.prog 23=some 3:=by kernel_rfl
theorem sn:aW Tryz.prog 33=true:=by kernel_rfl
theorem wI:cW Tryz.prog 70 2=some 2:=by kernel_rfl
theorem wJ:cW Tryz.prog 70 3=some 3:=by kernel_rfl
theorem wK:cW Tryz.prog 70 4=some 4:=by kernel_rfl
theorem qX:eX Tryz.prog 9=some false:=by kernel_rfl
theorem fJ:Tryz.prog.underlying 9=some .string:=by kernel_rfl
theorem wL:cW Tryz.prog 70 5=some 5:=by kernel_rfl
theorem AJ:aW Tryz.prog 50=true:=by kernel_rfl
theorem AK:aW Tryz.prog 32=true:=by kernel_rfl
theorem wM:cW Tryz.prog 25 1=some 1:=by kernel_rfl
theorem cb9:aW Tryz.prog 9=true:=by kernel_rfl
theorem wN:kv Tryz.prog 30=some [(.slice none 0 0),(.slice none 0 0)]:=by kernel_rfl
theorem oy:li Tryz.prog 28=some 54:=by kernel_rfl
theorem jE:hK Tryz.prog 54=some 6:=by kernel_rfl
theorem AL:gQ Tryz.prog 54=some 120:=by kernel_rfl
theorem qY:kv Tryz.prog 54=some [(iv 0),(.slice none 0 0),(.slice none 0 0),(.slice none 0 0),(aD ([]:aM)),(.slice none 0 0)]:=by kernel_rfl
theorem sq:cW Tryz.prog 70 0=some 0:=by kernel_rfl
theorem fQ:eX Tryz.prog 3=some false:=by kernel_rfl
theorem ji:cW Tryz.prog 54 0=some 0:=by kernel_rfl
theorem cB:hK Tryz.prog 3=some 1:=by kernel_rfl
theorem jZ:gQ Tryz.prog 3=some 8:=by kernel_rfl
theorem f':kv Tryz.prog 3=some [(iv 0)]:=by kernel_rfl
theorem mm:cW Tryz.prog 54 1=some 1:=by kernel_rfl
theorem fK:hK Tryz.prog 23=some 1:=by kernel_rfl
theorem sr:aW Tryz.prog 28=true:=by kernel_rfl
theorem kl:cW Tryz.prog 54 2=some 2:=by kernel_rfl
theorem gT:cW Tryz.prog 54 3=some 3:=by kernel_rfl
theorem pg:cW Tryz.prog 54 4=some 4:=by kernel_rfl
theorem qZ:hK Tryz.prog 9=some 1:=by kernel_rfl
theorem nx:cW Tryz.prog 54 5=some 5:=by kernel_rfl
theorem oz:eX Tryz.prog 54=some true:=by kernel_rfl
theorem AM:aW Tryz.prog 58=true:=by kernel_rfl
theorem l4:cW Tryz.prog 30 0=some 0:=by kernel_rfl
theorem yx:hK Tryz.prog 28=some 1:=by kernel_rfl
theorem AN:aW Tryz.prog 35=true:=by kernel_rfl
theorem wO:cW Tryz.prog 30 1=some 1:=by kernel_rfl
theorem wP:eX Tryz.prog 30=some true:=by kernel_rfl
theorem su:hK Tryz.prog 30=some 2:=by kernel_rfl
theorem gH:li Tryz.prog 46=some 58:=by kernel_rfl
theorem bR:hK Tryz.prog 58=some 2:=by kernel_rfl
theorem dQ:kv Tryz.prog 58=some [(.slice none 0 0),(.slice none 0 0)]:=by kernel_rfl
theorem r0:eX Tryz.prog 28=some false:=by kernel_rfl
theorem AO:aW Tryz.prog 75=true:=by kernel_rfl
theorem AP:aW Tryz.prog 76=true:=by kernel_rfl
theorem AQ:aW Tryz.prog 77=true:=by kernel_rfl
theorem AR:aW Tryz.prog 51=true:=by kernel_rfl
theorem um:aW Tryz.prog 52=true:=by kernel_rfl
theorem fF:eX Tryz.prog 58=some true:=by kernel_rfl
theorem yy:gQ Tryz.prog 58=some 48:=by kernel_rfl
theorem gN:fY Tryz.prog 58=some [(0,1),(1,1)]:=by kernel_rfl
theorem iS:cW Tryz.prog 58 0=some 0:=by kernel_rfl
theorem ny:aW Tryz.prog 95=true:=by kernel_rfl
theorem sv:cW Tryz.prog 58 1=some 1:=by kernel_rfl
theorem kb:aW Tryz.prog 92=true:=by kernel_rfl
theorem nz:aW Tryz.prog 55=true:=by kernel_rfl
theorem jN:aW Tryz.prog 57=true:=by kernel_rfl
theorem wQ:aW Tryz.prog 56=true:=by kernel_rfl
theorem vt:aW Tryz.prog 138=true:=by kernel_rfl
theorem yz:aW Tryz.prog 101=true:=by kernel_rfl
theorem nA:aW Tryz.prog 93=true:=by kernel_rfl
theorem ln:aW Tryz.prog 102=true:=by kernel_rfl
theorem sw:aW Tryz.prog 114=true:=by kernel_rfl
theorem m':aW Tryz.prog 112=true:=by kernel_rfl
theorem lz:aW Tryz.prog 94=true:=by kernel_rfl
theorem oA:aW Tryz.prog 108=true:=by kernel_rfl
theorem qc:aW Tryz.prog 115=true:=by kernel_rfl
theorem vu:aW Tryz.prog 139=true:=by kernel_rfl
theorem oB:aW Tryz.prog 111=true:=by kernel_rfl
theorem vv:aW Tryz.prog 155=true:=by kernel_rfl
theorem vw:aW Tryz.prog 141=true:=by kernel_rfl
theorem yA:aW Tryz.prog 140=true:=by kernel_rfl
theorem vx:aW Tryz.prog 104=true:=by kernel_rfl
theorem yB:aW Tryz.prog 103=true:=by kernel_rfl
theorem AS:aW Tryz.prog 78=true:=by kernel_rfl
theorem yC:aW Tryz.prog 105=true:=by kernel_rfl
theorem AT:aW Tryz.prog 79=true:=by kernel_rfl
theorem oC:aW Tryz.prog 106=true:=by kernel_rfl
theorem kF:aW Tryz.prog 122=true:=by kernel_rfl
theorem yD:aW Tryz.prog 107=true:=by kernel_rfl
theorem AU:aW Tryz.prog 80=true:=by kernel_rfl
theorem lq:li Tryz.prog 122=some 9:=by kernel_rfl
theorem yE:kv Tryz.prog 9=some [(aD ([]:aM))]:=by kernel_rfl
theorem BP:gQ Tryz.prog 9=some 16:=by kernel_rfl
theorem vy:aW Tryz.prog 142=true:=by kernel_rfl
theorem vC:aW Tryz.prog 143=true:=by kernel_rfl
theorem yF:aW Tryz.prog 109=true:=by kernel_rfl
theorem km:li Tryz.prog 38=some 23:=by kernel_rfl
theorem lA:kv Tryz.prog 23=some [(.slice none 0 0)]:=by kernel_rfl
theorem un:gQ Tryz.prog 23=some 24:=by kernel_rfl
theorem yG:aW Tryz.prog 110=true:=by kernel_rfl
theorem yH:aW Tryz.prog 113=true:=by kernel_rfl
theorem AV:aW Tryz.prog 81=true:=by kernel_rfl
theorem cY:kv Tryz.prog 96=some [(.slice none 0 0),(.slice none 0 0),(iv 0),(iv 0)]:=by kernel_rfl
theorem fD:fY Tryz.prog 96=some [(0,1),(1,1),(2,1),(3,1)]:=by kernel_rfl
theorem cG:hK Tryz.prog 96=some 4:=by kernel_rfl
theorem gA:cW Tryz.prog 96 1=some 1:=by kernel_rfl
theorem gI:eX Tryz.prog 96=some true:=by kernel_rfl
theorem gJ:cW Tryz.prog 96 0=some 0:=by kernel_rfl
theorem yI:aW Tryz.prog 118=true:=by kernel_rfl
theorem wR:cW Tryz.prog 96 3=some 3:=by kernel_rfl
theorem nB:cW Tryz.prog 96 2=some 2:=by kernel_rfl
theorem yJ:aW Tryz.prog 144=true:=by kernel_rfl
theorem qd:aW Tryz.prog 117=true:=by kernel_rfl
theorem lr:aW Tryz.prog 116=true:=by kernel_rfl
theorem uo:aW Tryz.prog 84=true:=by kernel_rfl
theorem AW:aW Tryz.prog 83=true:=by kernel_rfl
theorem uq:aW Tryz.prog 82=true:=by kernel_rfl
theorem AX:aW Tryz.prog 85=true:=by kernel_rfl
theorem vD:aW Tryz.prog 119=true:=by kernel_rfl
theorem vE:aW Tryz.prog 120=true:=by kernel_rfl
theorem vF:aW Tryz.prog 121=true:=by kernel_rfl
theorem AY:aW Tryz.prog 86=true:=by kernel_rfl
theorem sx:aW Tryz.prog 123=true:=by kernel_rfl
theorem AZ:aW Tryz.prog 87=true:=by kernel_rfl
theorem B0:aW Tryz.prog 88=true:=by kernel_rfl
theorem B1:aW Tryz.prog 89=true:=by kernel_rfl
theorem B2:aW Tryz.prog 90=true:=by kernel_rfl
theorem B3:aW Tryz.prog 91=true:=by kernel_rfl
theorem B4:aW Tryz.prog 53=true:=by kernel_rfl
theorem B5:aW Tryz.prog 54=true:=by kernel_rfl
theorem B6:aW Tryz.prog 34=true:=by kernel_rfl
theorem ur:aW Tryz.prog 11=true:=by kernel_rfl
theorem B7:aW Tryz.prog 10=true:=by kernel_rfl
theorem vG:fY Tryz.prog 136=some [(0,1)]:=by kernel_rfl
theorem vH:kv Tryz.prog 136=some [(.bool false)]:=by kernel_rfl
theorem vJ:Tryz.prog.concrete 136=true:=by kernel_rfl
theorem yK:fY Tryz.prog 138=some [(0,1)]:=by kernel_rfl
theorem yL:kv Tryz.prog 138=some [(iv 0)]:=by kernel_rfl
theorem yM:Tryz.prog.concrete 138=true:=by kernel_rfl
theorem yN:fY Tryz.prog 139=some [(0,1)]:=by kernel_rfl
theorem yO:kv Tryz.prog 139=some [(iv 0)]:=by kernel_rfl
theorem yP:Tryz.prog.concrete 139=true:=by kernel_rfl
theorem yQ:fY Tryz.prog 141=some []:=by kernel_rfl
theorem yR:kv Tryz.prog 141=some []:=by kernel_rfl
theorem yS:Tryz.prog.concrete 141=true:=by kernel_rfl
theorem yT:fY Tryz.prog 142=some []:=by kernel_rfl
theorem yU:kv Tryz.prog 142=some []:=by kernel_rfl
theorem yV:Tryz.prog.concrete 142=true:=by kernel_rfl
theorem mn:fY Tryz.prog 145=some [(0,1),(1,1)]:=by kernel_rfl
theorem mo:kv Tryz.prog 145=some [(aD ([]:aM)),.nilFunc]:=by kernel_rfl
theorem mq:Tryz.prog.concrete 145=true:=by kernel_rfl
theorem qe:aW Tryz.prog 126=true:=by kernel_rfl
theorem B8:aW Tryz.prog 96=true:=by kernel_rfl
theorem us:cW Tryz.prog 136 0=some 0:=by kernel_rfl
theorem ag4:eX Tryz.prog 4=some false:=by kernel_rfl
theorem ut:cW Tryz.prog 145 0=some 0:=by kernel_rfl
theorem ph (v:Value)(args:Array Value)(w:World):(callMethod (.iface 136 v) "loop.example/g00033/impl.uses" args).run Tryz.prog w=.ok (.enter 193 (#[v]++args)) w:=by kernel_rfl
theorem pi (v:Value)(args:Array Value)(w:World):(callMethod (.iface 138 v) "loop.example/g00033/impl.uses" args).run Tryz.prog w=.ok (.enter 198 (#[v]++args)) w:=by kernel_rfl
theorem pj (v:Value)(args:Array Value)(w:World):(callMethod (.iface 139 v) "loop.example/g00033/impl.uses" args).run Tryz.prog w=.ok (.enter 201 (#[v]++args)) w:=by kernel_rfl
theorem pl (v:Value)(args:Array Value)(w:World):(callMethod (.iface 141 v) "loop.example/g00033/impl.uses" args).run Tryz.prog w=.ok (.enter 203 (#[v]++args)) w:=by kernel_rfl
theorem pm (v:Value)(args:Array Value)(w:World):(callMethod (.iface 142 v) "loop.example/g00033/impl.uses" args).run Tryz.prog w=.ok (.enter 205 (#[v]++args)) w:=by kernel_rfl
theorem gU (v:Value)(args:Array Value)(w:World):(callMethod (.iface 145 v) "loop.example/g00033/impl.uses" args).run Tryz.prog w=.ok (.enter 221 (#[v]++args)) w:=by kernel_rfl
theorem vK:aW Tryz.prog 162=true:=by kernel_rfl
theorem vL:aW Tryz.prog 154=true:=by kernel_rfl
theorem yW:aW Tryz.prog 136=true:=by kernel_rfl
theorem iG:aW Tryz.prog 135=true:=by kernel_rfl
theorem yX:aW Tryz.prog 97=true:=by kernel_rfl
theorem yY:aW Tryz.prog 196=true:=by kernel_rfl
theorem i':aW Tryz.prog 147=true:=by kernel_rfl
theorem jy:aW Tryz.prog 148=true:=by kernel_rfl
theorem yZ:aW Tryz.prog 195=true:=by kernel_rfl
theorem y':aW Tryz.prog 194=true:=by kernel_rfl
theorem z6:aW Tryz.prog 199=true:=by kernel_rfl
theorem gP:aW Tryz.prog 150=true:=by kernel_rfl
theorem kG:kv Tryz.prog 192=some [(.slice none 0 0),(aD ([]:aM)),(aD ([]:aM)),(.slice none 0 0),(.slice none 0 0),(.slice none 0 0),(.slice none 0 0)]:=by kernel_rfl
theorem z7:aW Tryz.prog 212=true:=by kernel_rfl
theorem z8:aW Tryz.prog 210=true:=by kernel_rfl
theorem za:aW Tryz.prog 215=true:=by kernel_rfl
theorem zb:aW Tryz.prog 213=true:=by kernel_rfl
theorem zd:aW Tryz.prog 211=true:=by kernel_rfl
theorem ze:aW Tryz.prog 171=true:=by kernel_rfl
theorem qf:aW Tryz.prog 208=true:=by kernel_rfl
theorem zf:aW Tryz.prog 207=true:=by kernel_rfl
theorem n5:fY Tryz.prog 192=some [(0,1),(1,1),(2,1),(3,1),(4,1),(5,1),(6,1)]:=by kernel_rfl
theorem iH:hK Tryz.prog 192=some 7:=by kernel_rfl
theorem sy:yi Tryz.prog 195=some (26,3):=by kernel_rfl
theorem vM:kv Tryz.prog 195=some [(iv 0),(iv 0),(iv 0),(iv 0),(iv 0),(iv 0),(iv 0),(iv 0),(iv 0),(iv 0),(iv 0),(iv 0),(iv 0),(iv 0),(iv 0),(iv 0),(iv 0),(iv 0),(iv 0),(iv 0),(iv 0),(iv 0),(iv 0),(iv 0),(iv 0),(iv 0)]:=by kernel_rfl
theorem vN:hK Tryz.prog 195=some 26:=by kernel_rfl
theorem uu:cW Tryz.prog 192 2=some 2:=by kernel_rfl
theorem uv:cW Tryz.prog 192 3=some 3:=by kernel_rfl
theorem uw:cW Tryz.prog 192 4=some 4:=by kernel_rfl
theorem jk:aW Tryz.prog 64=true:=by kernel_rfl
theorem qg:cW Tryz.prog 192 5=some 5:=by kernel_rfl
theorem B9:eX Tryz.prog 38=some false:=by kernel_rfl
theorem mr:eX Tryz.prog 192=some true:=by kernel_rfl
theorem zg:hK Tryz.prog 38=some 1:=by kernel_rfl
theorem sA:aW Tryz.prog 164=true:=by kernel_rfl
theorem vO:aW Tryz.prog 209=true:=by kernel_rfl
theorem qh:cW Tryz.prog 192 6=some 6:=by kernel_rfl
theorem zh:aW Tryz.prog 206=true:=by kernel_rfl
theorem ux:cW Tryz.prog 145 1=some 1:=by kernel_rfl
theorem zi:eX Tryz.prog 143=some false:=by kernel_rfl
theorem zj:aW Tryz.prog 158=true:=by kernel_rfl
theorem ms:aW Tryz.prog 156=true:=by kernel_rfl
theorem zl:aW Tryz.prog 166=true:=by kernel_rfl
theorem sB:aW Tryz.prog 165=true:=by kernel_rfl
theorem zm:aW Tryz.prog 159=true:=by kernel_rfl
theorem sC:aW Tryz.prog 168=true:=by kernel_rfl
theorem zn:aW Tryz.prog 167=true:=by kernel_rfl
theorem zo:aW Tryz.prog 160=true:=by kernel_rfl
theorem zp:aW Tryz.prog 170=true:=by kernel_rfl
theorem zq:aW Tryz.prog 169=true:=by kernel_rfl
theorem zr:aW Tryz.prog 161=true:=by kernel_rfl
theorem fA:li Tryz.prog 147=some 161:=by kernel_rfl
theorem fB:hK Tryz.prog 161=some 2:=by kernel_rfl
theorem eO:kv Tryz.prog 161=some [(iv 0),(iv 0)]:=by kernel_rfl
theorem zt:kv Tryz.prog 147=some [(.slice none 0 0)]:=by kernel_rfl
theorem sD:hK Tryz.prog 147=some 1:=by kernel_rfl
theorem zu:aW Tryz.prog 157=true:=by kernel_rfl
theorem zw:eX Tryz.prog 147=some false:=by kernel_rfl
theorem mt:fY Tryz.prog 161=some [(0,1),(1,1)]:=by kernel_rfl
theorem lu:gQ Tryz.prog 161=some 16:=by kernel_rfl
theorem zx:aW Tryz.prog 163=true:=by kernel_rfl
theorem zy:aW Tryz.prog 146=true:=by kernel_rfl
theorem zz:aW Tryz.prog 145=true:=by kernel_rfl
theorem zA:aW Tryz.prog 124=true:=by kernel_rfl
theorem zB:aW Tryz.prog 125=true:=by kernel_rfl
theorem zC:eX Tryz.prog 150=some false:=by kernel_rfl
theorem qi:aW Tryz.prog 151=true:=by kernel_rfl
theorem vQ:aW Tryz.prog 153=true:=by kernel_rfl
theorem vR:eX Tryz.prog 161=some true:=by kernel_rfl
theorem qk:cW Tryz.prog 161 0=some 0:=by kernel_rfl
theorem ql:cW Tryz.prog 161 1=some 1:=by kernel_rfl
theorem sE:aW Tryz.prog 152=true:=by kernel_rfl
theorem zD:aW Tryz.prog 128=true:=by kernel_rfl
theorem zE:aW Tryz.prog 127=true:=by kernel_rfl
theorem qm:aW Tryz.prog 149=true:=by kernel_rfl
theorem zF:aW Tryz.prog 130=true:=by kernel_rfl
theorem zG:aW Tryz.prog 129=true:=by kernel_rfl
theorem zH:aW Tryz.prog 132=true:=by kernel_rfl
theorem zI:aW Tryz.prog 131=true:=by kernel_rfl
theorem zJ:aW Tryz.prog 134=true:=by kernel_rfl
theorem zK:aW Tryz.prog 133=true:=by kernel_rfl
theorem oD (v:Value)(args:Array Value)(w:World):(callMethod (.iface 136 v) "loop.example/g00033/impl.shape" args).run Tryz.prog w=.ok (.enter 192 (#[v]++args)) w:=by kernel_rfl
theorem oE (v:Value)(args:Array Value)(w:World):(callMethod (.iface 138 v) "loop.example/g00033/impl.shape" args).run Tryz.prog w=.ok (.enter 197 (#[v]++args)) w:=by kernel_rfl
theorem oG (v:Value)(args:Array Value)(w:World):(callMethod (.iface 139 v) "loop.example/g00033/impl.shape" args).run Tryz.prog w=.ok (.enter 200 (#[v]++args)) w:=by kernel_rfl
theorem oH (v:Value)(args:Array Value)(w:World):(callMethod (.iface 141 v) "loop.example/g00033/impl.shape" args).run Tryz.prog w=.ok (.enter 202 (#[v]++args)) w:=by kernel_rfl
theorem oI (v:Value)(args:Array Value)(w:World):(callMethod (.iface 142 v) "loop.example/g00033/impl.shape" args).run Tryz.prog w=.ok (.enter 204 (#[v]++args)) w:=by kernel_rfl
theorem gD (v:Value)(args:Array Value)(w:World):(callMethod (.iface 145 v) "loop.example/g00033/impl.shape" args).run Tryz.prog w=.ok (.enter 220 (#[v]++args)) w:=by kernel_rfl
theorem Ba:aW Tryz.prog 59=true:=by kernel_rfl
theorem Bb:aW Tryz.prog 36=true:=by kernel_rfl
theorem Bc:aW Tryz.prog 12=true:=by kernel_rfl
theorem oJ:aW Tryz.prog 16=true:=by kernel_rfl
theorem Bd:aW Tryz.prog 60=true:=by kernel_rfl
theorem Be:aW Tryz.prog 37=true:=by kernel_rfl
theorem Bf:aW Tryz.prog 13=true:=by kernel_rfl
theorem r1:aW Tryz.prog 18=true:=by kernel_rfl
theorem un3:Tryz.prog.underlying 3=some (.int .i64):=by kernel_rfl
theorem BQ:Tryz.prog.underlying 5=some (.int .u8):=by kernel_rfl
theorem sF:li Tryz.prog 112=some 5:=by kernel_rfl
theorem BR:hK Tryz.prog 5=some 1:=by kernel_rfl
theorem zc5:kv Tryz.prog 5=some [(.int .u8 (0:Int))]:=by kernel_rfl
theorem Bg:aW Tryz.prog 61=true:=by kernel_rfl
theorem Bh:aW Tryz.prog 39=true:=by kernel_rfl
theorem Bi:aW Tryz.prog 17=true:=by kernel_rfl
theorem zL:aW Tryz.prog 19=true:=by kernel_rfl
theorem Bj:li Tryz.prog 60=some 4:=by kernel_rfl
theorem sz4:hK Tryz.prog 4=some 1:=by kernel_rfl
theorem Bk:aW Tryz.prog 46=true:=by kernel_rfl
theorem Bl:aW Tryz.prog 30=true:=by kernel_rfl
theorem Bm:aW Tryz.prog 49=true:=by kernel_rfl
theorem zM:aW Tryz.prog 100=true:=by kernel_rfl
theorem Bn:aW Tryz.prog 73=true:=by kernel_rfl
theorem Bo:aW Tryz.prog 74=true:=by kernel_rfl
theorem Bp:aW Tryz.prog 48=true:=by kernel_rfl
theorem Bq:aW Tryz.prog 47=true:=by kernel_rfl
theorem zN:aW Tryz.prog 31=true:=by kernel_rfl
structure kindOfR where
 t:Nat
 b0:Bool
 i0:Int
 i1:Int
 s0:aM
 deriving Inhabited,DecidableEq
def cX (r:kindOfR)(h:Nat×Nat×Nat):Value:=cond (Nat.beq r.t 0) .nilIface (cond (Nat.beq r.t 1) (.iface 136 (.agg [(.bool r.b0)].toArray)) (cond (Nat.beq r.t 2) (.iface 138 (.agg [(iv r.i0)].toArray)) (cond (Nat.beq r.t 3) (.iface 139 (.agg [(iv r.i0)].toArray)) (cond (Nat.beq r.t 4) (.iface 141 (.agg [].toArray)) (cond (Nat.beq r.t 5) (.iface 142 (.agg [].toArray)) (cond (Nat.beq r.t 6) (.iface 145 (.agg [(aD r.s0),(.func (.func 124) [].toArray [].toArray)].toArray)) (cond (Nat.beq r.t 7) (.iface 145 (.agg [(aD r.s0),(.func (.func 125) [].toArray [].toArray)].toArray)) (cond (Nat.beq r.t 8) (.iface 145 (.agg [(aD r.s0),(.func (.func 149) [].toArray [(pt h.1 0),(pt h.2.1 0),(pt h.2.2 0)].toArray)].toArray)) (cond (Nat.beq r.t 9) (.iface 145 (.agg [(aD r.s0),(.func (.func 149) [].toArray [(pt h.1 0),(pt h.2.1 0),(pt h.2.2 0)].toArray)].toArray)) (cond (Nat.beq r.t 10) (.iface 145 (.agg [(aD r.s0),(.func (.func 149) [].toArray [(pt h.1 0),(pt h.2.1 0),(pt h.2.2 0)].toArray)].toArray)) ((.iface 145 (.agg [(aD r.s0),(.func (.func 149) [].toArray [(pt h.1 0),(pt h.2.1 0),(pt h.2.2 0)].toArray)].toArray)))))))))))))
def eT (r:kindOfR)(h:Nat×Nat×Nat):HP:=cond (Nat.beq r.t 0) (pk []) (cond (Nat.beq r.t 1) (pk []) (cond (Nat.beq r.t 2) (pk []) (cond (Nat.beq r.t 3) (pk []) (cond (Nat.beq r.t 4) (pk []) (cond (Nat.beq r.t 5) (pk []) (cond (Nat.beq r.t 6) (pk []) (cond (Nat.beq r.t 7) (pk []) (cond (Nat.beq r.t 8) (pk [aJ h.1 [(iv r.i0)] 3,aJ h.2.1 [(iv r.i1)] 3,aJ h.2.2 [(.func (.func 127) [].toArray [].toArray)] 150]) (cond (Nat.beq r.t 9) (pk [aJ h.1 [(iv r.i0)] 3,aJ h.2.1 [(iv r.i1)] 3,aJ h.2.2 [(.func (.func 129) [].toArray [].toArray)] 150]) (cond (Nat.beq r.t 10) (pk [aJ h.1 [(iv r.i0)] 3,aJ h.2.1 [(iv r.i1)] 3,aJ h.2.2 [(.func (.func 131) [].toArray [].toArray)] 150]) ((pk [aJ h.1 [(iv r.i0)] 3,aJ h.2.1 [(iv r.i1)] 3,aJ h.2.2 [(.func (.func 133) [].toArray [].toArray)] 150]))))))))))))
theorem mu {C:World}{n:Nn}{V:List HP}{σ:cZ}{d:Option Nat}{ty:TypeId}{pos:String}{af:Array Edge}{gd:Option (Nat×Bool)}{x:Operand}{D:TypeId}{r:kindOfR}{h:Nat×Nat×Nat}(e:ev σ x=cX r h):VO ⟨Tryz.prog,n,C⟩ V σ ⟨d,.binOp .eql 108 x (.const .nilIface) D,ty,pos,af,gd⟩ (.bool (Nat.beq r.t 0)):=by
 rcases bo (Nat.beq r.t 0) with a | a
 ·rw [a]; exact ub (by kernel_rfl) (by rw [e]; simp only [cX,a,cond_true])
 rcases bo (Nat.beq r.t 1) with b | b
 ·rw [a]; exact iF (by kernel_rfl) (by rw [e]; simp only [cX,a,b,cond_true,cond_false]; rfl)
 rcases bo (Nat.beq r.t 2) with g | g
 ·rw [a]; exact iF (by kernel_rfl) (by rw [e]; simp only [cX,a,b,g,cond_true,cond_false]; rfl)
 rcases bo (Nat.beq r.t 3) with i | i
 ·rw [a]; exact iF (by kernel_rfl) (by rw [e]; simp only [cX,a,b,g,i,cond_true,cond_false]; rfl)
 rcases bo (Nat.beq r.t 4) with j | j
 ·rw [a]; exact iF (by kernel_rfl) (by rw [e]; simp only [cX,a,b,g,i,j,cond_true,cond_false]; rfl)
 rcases bo (Nat.beq r.t 5) with l | l
 ·rw [a]; exact iF (by kernel_rfl) (by rw [e]; simp only [cX,a,b,g,i,j,l,cond_true,cond_false]; rfl)
 rcases bo (Nat.beq r.t 6) with m | m
 ·rw [a]; exact iF (by kernel_rfl) (by rw [e]; simp only [cX,a,b,g,i,j,l,m,cond_true,cond_false]; rfl)
 rcases bo (Nat.beq r.t 7) with s | s
 ·rw [a]; exact iF (by kernel_rfl) (by rw [e]; simp only [cX,a,b,g,i,j,l,m,s,cond_true,cond_false]; rfl)
 rcases bo (Nat.beq r.t 8) with u | u
 ·rw [a]; exact iF (by kernel_rfl) (by rw [e]; simp only [cX,a,b,g,i,j,l,m,s,u,cond_true,cond_false]; rfl)
 rcases bo (Nat.beq r.t 9) with B | B
 ·rw [a]; exact iF (by kernel_rfl) (by rw [e]; simp only [cX,a,b,g,i,j,l,m,s,u,B,cond_true,cond_false]; rfl)
 rcases bo (Nat.beq r.t 10) with q | q
 ·rw [a]; exact iF (by kernel_rfl) (by rw [e]; simp only [cX,a,b,g,i,j,l,m,s,u,B,q,cond_true,cond_false]; rfl)
 rw [a]; exact iF (by kernel_rfl) (by rw [e]; simp only [cX,a,b,g,i,j,l,m,s,u,B,q,cond_false]; rfl)
instance:HAg Tryz.prog 25 true:=⟨AF⟩
instance:HSz Tryz.prog 25 2:=⟨AG⟩
instance:HFo Tryz.prog 25 0 0:=⟨wE⟩
instance:HAg Tryz.prog 22 false:=⟨AH⟩
instance:HSl Tryz.prog 22 70:=⟨AI⟩
instance:HSz Tryz.prog 70 6:=⟨wF⟩
instance:HAg Tryz.prog 70 true:=⟨wG⟩
instance:HFo Tryz.prog 70 1 1:=⟨wH⟩
instance:HAg Tryz.prog 23 false:=⟨cJ⟩
instance:HSl Tryz.prog 23 3:=⟨bI⟩
instance:HFo Tryz.prog 70 2 2:=⟨wI⟩
instance:HFo Tryz.prog 70 3 3:=⟨wJ⟩
instance:HFo Tryz.prog 70 4 4:=⟨wK⟩
instance:HAg Tryz.prog 9 false:=⟨qX⟩
instance:HFo Tryz.prog 70 5 5:=⟨wL⟩
instance:HFo Tryz.prog 25 1 1:=⟨wM⟩
instance:HSl Tryz.prog 28 54:=⟨oy⟩
instance:HSz Tryz.prog 54 6:=⟨jE⟩
instance:HFo Tryz.prog 70 0 0:=⟨sq⟩
instance:HAg Tryz.prog 3 false:=⟨fQ⟩
instance:HFo Tryz.prog 54 0 0:=⟨ji⟩
instance:HSz Tryz.prog 3 1:=⟨cB⟩
instance:HFo Tryz.prog 54 1 1:=⟨mm⟩
instance:HSz Tryz.prog 23 1:=⟨fK⟩
instance:HFo Tryz.prog 54 2 2:=⟨kl⟩
instance:HFo Tryz.prog 54 3 3:=⟨gT⟩
instance:HFo Tryz.prog 54 4 4:=⟨pg⟩
instance:HSz Tryz.prog 9 1:=⟨qZ⟩
instance:HFo Tryz.prog 54 5 5:=⟨nx⟩
instance:HAg Tryz.prog 54 true:=⟨oz⟩
instance:HFo Tryz.prog 30 0 0:=⟨l4⟩
instance:HSz Tryz.prog 28 1:=⟨yx⟩
instance:HFo Tryz.prog 30 1 1:=⟨wO⟩
instance:HAg Tryz.prog 30 true:=⟨wP⟩
instance:HSz Tryz.prog 30 2:=⟨su⟩
instance:HSl Tryz.prog 46 58:=⟨gH⟩
instance:HSz Tryz.prog 58 2:=⟨bR⟩
instance:HAg Tryz.prog 28 false:=⟨r0⟩
instance:HAg Tryz.prog 58 true:=⟨fF⟩
instance:HFo Tryz.prog 58 0 0:=⟨iS⟩
instance:HFo Tryz.prog 58 1 1:=⟨sv⟩
instance:HSl Tryz.prog 122 9:=⟨lq⟩
instance:HSl Tryz.prog 38 23:=⟨km⟩
instance:HSz Tryz.prog 96 4:=⟨cG⟩
instance:HFo Tryz.prog 96 1 1:=⟨gA⟩
instance:HAg Tryz.prog 96 true:=⟨gI⟩
instance:HFo Tryz.prog 96 0 0:=⟨gJ⟩
instance:HFo Tryz.prog 96 3 3:=⟨wR⟩
instance:HFo Tryz.prog 96 2 2:=⟨nB⟩
instance:HFo Tryz.prog 136 0 0:=⟨us⟩
instance:HAg Tryz.prog 4 false:=⟨ag4⟩
instance:HFo Tryz.prog 145 0 0:=⟨ut⟩
instance:HSz Tryz.prog 192 7:=⟨iH⟩
instance:HSz Tryz.prog 195 26:=⟨vN⟩
instance:HFo Tryz.prog 192 2 2:=⟨uu⟩
instance:HFo Tryz.prog 192 3 3:=⟨uv⟩
instance:HFo Tryz.prog 192 4 4:=⟨uw⟩
instance:HFo Tryz.prog 192 5 5:=⟨qg⟩
instance:HAg Tryz.prog 38 false:=⟨B9⟩
instance:HAg Tryz.prog 192 true:=⟨mr⟩
instance:HSz Tryz.prog 38 1:=⟨zg⟩
instance:HFo Tryz.prog 192 6 6:=⟨qh⟩
instance:HFo Tryz.prog 145 1 1:=⟨ux⟩
instance:HAg Tryz.prog 143 false:=⟨zi⟩
instance:HSl Tryz.prog 147 161:=⟨fA⟩
instance:HSz Tryz.prog 161 2:=⟨fB⟩
instance:HSz Tryz.prog 147 1:=⟨sD⟩
instance:HAg Tryz.prog 147 false:=⟨zw⟩
instance:HAg Tryz.prog 150 false:=⟨zC⟩
instance:HAg Tryz.prog 161 true:=⟨vR⟩
instance:HFo Tryz.prog 161 0 0:=⟨qk⟩
instance:HFo Tryz.prog 161 1 1:=⟨ql⟩
instance:HSl Tryz.prog 112 5:=⟨sF⟩
instance:HSz Tryz.prog 5 1:=⟨BR⟩
instance:HSl Tryz.prog 60 4:=⟨Bj⟩
instance:HSz Tryz.prog 4 1:=⟨sz4⟩
end Go.Proofs.YtmpnollfdpdipaaGreat
