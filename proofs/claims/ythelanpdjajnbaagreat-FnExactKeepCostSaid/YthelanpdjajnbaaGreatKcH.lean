import Derived.Test.YthelanpdjajnbaaGreatPg22
import Derived.Test.YthelanpdjajnbaaGreatStLK
import Derived.Test.YthelanpdjajnbaaGreatPg33
import Derived.Test.YthelanpdjajnbaaGreatProg
set_option linter.unusedVariables false
namespace Go.Proofs.YthelanpdjajnbaaGreat
open Go Go.Pg
structure Node where
 Op:Int
 Args:(List Int)
 Dims:(List Int)
 Ints:(List Int)
 Form:aO
 Data:(List Int)
 deriving Inhabited,DecidableEq
structure Graph where
 Nodes:(List Node)
 Outs:(List Int)
 deriving Inhabited,DecidableEq
structure Tensor where
 Dims:(List Int)
 Data:(List Int)
 deriving Inhabited,DecidableEq
structure View where
 Dims:(List Int)
 Strides:(List Int)
 Offset:Int
 Base:Int
 deriving Inhabited,DecidableEq
structure leafKind where
 data:Bool
 deriving Inhabited,DecidableEq
structure pairKind where
 op:Int
 deriving Inhabited,DecidableEq
structure soloKind where
 op:Int
 deriving Inhabited,DecidableEq
structure topKind where
 deriving Inhabited,DecidableEq
structure formKind where
 deriving Inhabited,DecidableEq
structure shiftKind where
 use:aO
 deriving Inhabited,DecidableEq
structure form where
 groups:(List aO)
 out_:aO
 order:aO
 loops:(List Int)
 dims:(List Int)
 steps:(List (List Int))
 store:(List Int)
 deriving Inhabited,DecidableEq
structure pair where
 from_:Int
 to:Int
 deriving Inhabited,DecidableEq
def str0:aO:=[45,62]
def hB:aO:=[100]
def eV:aO:=[105]
def oB:aO:=[100,120]
def ki:aO:=[102]
def oC:aO:=[120]
def str6:aO:=[44]
theorem bO:Tryz.prog.follows .mixedOrders=true:=by kernel_rfl
abbrev kT3:Kind Int:=Kind.int .i64
def AI:DecK kT3:=DecK.scal _ _
def gR:MkO kT3:=MkO.scal _ _
def zT3:Zr kT3:=Zr.scal _ _ 0
theorem ji:kT3.Closed:=Kind.scal_closed _ _
abbrev bH:Kind (List Int):=Kind.sl 3 kT3
def dT23:DecK bH:=DecK.sl 3 kT3
def rn:MkS bH:=MkS.sl 3 kT3
def mB:MkO bH:=MkO.sl 3 kT3
def zT23:Zr bH:=Zr.sl 3 kT3
abbrev dV:Kind aO:=Kind.str
def dT9:DecK dV:=DecK.scal _ _
def ym:MkO dV:=MkO.scal _ _
def zT9:Zr dV:=Zr.scal _ _ []
abbrev j0:Kind Node:=Kind.iso (Kind.pair kT3 (Kind.pair bH (Kind.pair bH (Kind.pair bH (Kind.pair dV bH))))) (fun x:Node=>(x.Op,x.Args,x.Dims,x.Ints,x.Form,x.Data))
def dT75:DecK j0:=DecK.iso (DecK.pair AI (DecK.pair dT23 (DecK.pair dT23 (DecK.pair dT23 (DecK.pair dT9 dT23))))) _
abbrev cP:Kind Node:=Kind.iso (Kind.pair kT3 (Kind.pair bH (Kind.pair bH (Kind.pair bH (Kind.pair dV bH))))) (fun x:Node=>(x.Op,x.Args,x.Dims,x.Ints,x.Form,x.Data))
def dT65:DecK cP:=DecK.iso (DecK.pair AI (DecK.pair dT23 (DecK.pair dT23 (DecK.pair dT23 (DecK.pair dT9 dT23))))) _
def B5:MkO cP:=MkO.iso (MkO.pair gR (MkO.pair mB (MkO.pair mB (MkO.pair mB (MkO.pair ym mB))))) _
def zT65:Zr cP:=Zr.iso (Zr.pair zT3 (Zr.pair zT23 (Zr.pair zT23 (Zr.pair zT23 (Zr.pair zT9 zT23))))) _ ⟨zT3.z,zT23.z,zT23.z,zT23.z,zT9.z,zT23.z⟩ rfl
abbrev dP:Kind Tensor:=Kind.iso (Kind.pair bH bH) (fun x:Tensor=>(x.Dims,x.Data))
def dT42:DecK dP:=DecK.iso (DecK.pair dT23 dT23) _
def yN:MkS dP:=MkS.iso (MkS.pair rn rn) _
def uD:MkO dP:=MkO.iso (MkO.pair mB mB) _
def yO:Zr dP:=Zr.iso (Zr.pair zT23 zT23) _ ⟨zT23.z,zT23.z⟩ rfl
abbrev kT165:Kind pair:=Kind.iso (Kind.pair kT3 kT3) (fun x:pair=>(x.from_,x.to))
def yP:DecK kT165:=DecK.iso (DecK.pair AI AI) _
def j9:MkO kT165:=MkO.iso (MkO.pair gR gR) _
def zT165:Zr kT165:=Zr.iso (Zr.pair zT3 zT3) _ ⟨zT3.z,zT3.z⟩ rfl
theorem sI:kT165.Closed:=Kind.iso_closed (Kind.pair_closed ji ji) _
theorem bM:mq Tryz.prog 23=some 3:=by kernel_rfl
theorem sJ:fM Tryz.prog 25=some true:=by kernel_rfl
theorem sK:iI Tryz.prog 25=some 2:=by kernel_rfl
theorem wZ:dB Tryz.prog 25 0=some 0:=by kernel_rfl
theorem B6:fM Tryz.prog 22=some false:=by kernel_rfl
theorem B7:mq Tryz.prog 22=some 75:=by kernel_rfl
theorem x0:iI Tryz.prog 75=some 6:=by kernel_rfl
theorem x5:fM Tryz.prog 75=some true:=by kernel_rfl
theorem x7:dB Tryz.prog 75 1=some 1:=by kernel_rfl
theorem cY:fM Tryz.prog 23=some false:=by kernel_rfl
theorem sM:aV Tryz.prog 24=true:=by kernel_rfl
theorem x8:dB Tryz.prog 75 2=some 2:=by kernel_rfl
theorem x9:dB Tryz.prog 75 3=some 3:=by kernel_rfl
theorem xa:dB Tryz.prog 75 4=some 4:=by kernel_rfl
theorem rp:fM Tryz.prog 9=some false:=by kernel_rfl
theorem fW:Tryz.prog.underlying 9=some .string:=by kernel_rfl
theorem xb:dB Tryz.prog 75 5=some 5:=by kernel_rfl
theorem B8:aV Tryz.prog 54=true:=by kernel_rfl
theorem B9:aV Tryz.prog 23=true:=by kernel_rfl
theorem xc:dB Tryz.prog 25 1=some 1:=by kernel_rfl
theorem cb6:aV Tryz.prog 6=true:=by kernel_rfl
theorem xd:kC Tryz.prog 31=some [(.slice none 0 0),(.slice none 0 0)]:=by kernel_rfl
theorem mC:mq Tryz.prog 29=some 65:=by kernel_rfl
theorem iW:iI Tryz.prog 65=some 6:=by kernel_rfl
theorem Ba:gY Tryz.prog 65=some 120:=by kernel_rfl
theorem pu:kC Tryz.prog 65=some [(iv 0),(.slice none 0 0),(.slice none 0 0),(.slice none 0 0),(aE ([]:aO)),(.slice none 0 0)]:=by kernel_rfl
theorem sN:dB Tryz.prog 75 0=some 0:=by kernel_rfl
theorem fP:fM Tryz.prog 3=some false:=by kernel_rfl
theorem jR:dB Tryz.prog 65 0=some 0:=by kernel_rfl
theorem cJ:iI Tryz.prog 3=some 1:=by kernel_rfl
theorem kk:gY Tryz.prog 3=some 8:=by kernel_rfl
theorem gV:kC Tryz.prog 3=some [(iv 0)]:=by kernel_rfl
theorem pw:dB Tryz.prog 65 1=some 1:=by kernel_rfl
theorem fJ:iI Tryz.prog 23=some 1:=by kernel_rfl
theorem vQ:aV Tryz.prog 9=true:=by kernel_rfl
theorem ld:dB Tryz.prog 65 2=some 2:=by kernel_rfl
theorem hU:dB Tryz.prog 65 3=some 3:=by kernel_rfl
theorem sO:dB Tryz.prog 65 4=some 4:=by kernel_rfl
theorem rQ:iI Tryz.prog 9=some 1:=by kernel_rfl
theorem px:dB Tryz.prog 65 5=some 5:=by kernel_rfl
theorem mD:fM Tryz.prog 65=some true:=by kernel_rfl
theorem Bb:aV Tryz.prog 61=true:=by kernel_rfl
theorem jS:dB Tryz.prog 31 0=some 0:=by kernel_rfl
theorem yQ:iI Tryz.prog 29=some 1:=by kernel_rfl
theorem Bc:aV Tryz.prog 28=true:=by kernel_rfl
theorem xe:dB Tryz.prog 31 1=some 1:=by kernel_rfl
theorem n8:fM Tryz.prog 31=some true:=by kernel_rfl
theorem lT:iI Tryz.prog 31=some 2:=by kernel_rfl
theorem gD:mq Tryz.prog 79=some 42:=by kernel_rfl
theorem bT:iI Tryz.prog 42=some 2:=by kernel_rfl
theorem dX:kC Tryz.prog 42=some [(.slice none 0 0),(.slice none 0 0)]:=by kernel_rfl
theorem oD:fM Tryz.prog 29=some false:=by kernel_rfl
theorem Bd:aV Tryz.prog 85=true:=by kernel_rfl
theorem Be:aV Tryz.prog 86=true:=by kernel_rfl
theorem Bf:aV Tryz.prog 87=true:=by kernel_rfl
theorem Bg:aV Tryz.prog 76=true:=by kernel_rfl
theorem uE:aV Tryz.prog 77=true:=by kernel_rfl
theorem fR:fM Tryz.prog 42=some true:=by kernel_rfl
theorem yR:gY Tryz.prog 42=some 48:=by kernel_rfl
theorem gU:gE Tryz.prog 42=some [(0,1),(1,1)]:=by kernel_rfl
theorem iN:dB Tryz.prog 42 0=some 0:=by kernel_rfl
theorem n9:aV Tryz.prog 58=true:=by kernel_rfl
theorem sQ:dB Tryz.prog 42 1=some 1:=by kernel_rfl
theorem kj:aV Tryz.prog 71=true:=by kernel_rfl
theorem nJ:aV Tryz.prog 35=true:=by kernel_rfl
theorem jT:aV Tryz.prog 37=true:=by kernel_rfl
theorem xf:aV Tryz.prog 36=true:=by kernel_rfl
theorem vR:aV Tryz.prog 149=true:=by kernel_rfl
theorem yS:aV Tryz.prog 118=true:=by kernel_rfl
theorem kK:aV Tryz.prog 102=true:=by kernel_rfl
theorem lF:aV Tryz.prog 119=true:=by kernel_rfl
theorem sS:aV Tryz.prog 131=true:=by kernel_rfl
theorem ni:aV Tryz.prog 129=true:=by kernel_rfl
theorem jD:aV Tryz.prog 103=true:=by kernel_rfl
theorem oE:aV Tryz.prog 125=true:=by kernel_rfl
theorem qo:aV Tryz.prog 132=true:=by kernel_rfl
theorem vU:aV Tryz.prog 150=true:=by kernel_rfl
theorem oG:aV Tryz.prog 128=true:=by kernel_rfl
theorem vV:aV Tryz.prog 163=true:=by kernel_rfl
theorem vW:aV Tryz.prog 152=true:=by kernel_rfl
theorem yT:aV Tryz.prog 151=true:=by kernel_rfl
theorem vX:aV Tryz.prog 121=true:=by kernel_rfl
theorem yU:aV Tryz.prog 120=true:=by kernel_rfl
theorem Bh:aV Tryz.prog 88=true:=by kernel_rfl
theorem yV:aV Tryz.prog 122=true:=by kernel_rfl
theorem Bi:aV Tryz.prog 89=true:=by kernel_rfl
theorem oH:aV Tryz.prog 123=true:=by kernel_rfl
theorem kL:aV Tryz.prog 139=true:=by kernel_rfl
theorem yW:aV Tryz.prog 124=true:=by kernel_rfl
theorem Bj:aV Tryz.prog 90=true:=by kernel_rfl
theorem lG:mq Tryz.prog 149=some 9:=by kernel_rfl
theorem yX:kC Tryz.prog 9=some [(aE ([]:aO))]:=by kernel_rfl
theorem Cg:gY Tryz.prog 9=some 16:=by kernel_rfl
theorem vY:aV Tryz.prog 153=true:=by kernel_rfl
theorem vZ:aV Tryz.prog 154=true:=by kernel_rfl
theorem yY:aV Tryz.prog 126=true:=by kernel_rfl
theorem ja:mq Tryz.prog 54=some 23:=by kernel_rfl
theorem kM:kC Tryz.prog 23=some [(.slice none 0 0)]:=by kernel_rfl
theorem sT:gY Tryz.prog 23=some 24:=by kernel_rfl
theorem yZ:aV Tryz.prog 127=true:=by kernel_rfl
theorem y':aV Tryz.prog 130=true:=by kernel_rfl
theorem Bk:aV Tryz.prog 91=true:=by kernel_rfl
theorem cB:kC Tryz.prog 111=some [(.slice none 0 0),(.slice none 0 0),(iv 0),(iv 0)]:=by kernel_rfl
theorem eE:gE Tryz.prog 111=some [(0,1),(1,1),(2,1),(3,1)]:=by kernel_rfl
theorem bS:iI Tryz.prog 111=some 4:=by kernel_rfl
theorem fF:dB Tryz.prog 111 1=some 1:=by kernel_rfl
theorem eS:fM Tryz.prog 111=some true:=by kernel_rfl
theorem fQ:dB Tryz.prog 111 0=some 0:=by kernel_rfl
theorem z6:aV Tryz.prog 135=true:=by kernel_rfl
theorem uF:dB Tryz.prog 111 3=some 3:=by kernel_rfl
theorem m8:dB Tryz.prog 111 2=some 2:=by kernel_rfl
theorem z7:aV Tryz.prog 155=true:=by kernel_rfl
theorem qp:aV Tryz.prog 134=true:=by kernel_rfl
theorem lH:aV Tryz.prog 133=true:=by kernel_rfl
theorem uG:aV Tryz.prog 94=true:=by kernel_rfl
theorem Bl:aV Tryz.prog 93=true:=by kernel_rfl
theorem uH:aV Tryz.prog 92=true:=by kernel_rfl
theorem Bm:aV Tryz.prog 95=true:=by kernel_rfl
theorem v':aV Tryz.prog 136=true:=by kernel_rfl
theorem w0:aV Tryz.prog 137=true:=by kernel_rfl
theorem w4:aV Tryz.prog 138=true:=by kernel_rfl
theorem Bn:aV Tryz.prog 96=true:=by kernel_rfl
theorem sU:aV Tryz.prog 140=true:=by kernel_rfl
theorem Bo:aV Tryz.prog 97=true:=by kernel_rfl
theorem Bp:aV Tryz.prog 98=true:=by kernel_rfl
theorem Bq:aV Tryz.prog 99=true:=by kernel_rfl
theorem z8:aV Tryz.prog 100=true:=by kernel_rfl
theorem za:aV Tryz.prog 101=true:=by kernel_rfl
theorem Br:aV Tryz.prog 78=true:=by kernel_rfl
theorem Bs:aV Tryz.prog 79=true:=by kernel_rfl
theorem zb:aV Tryz.prog 60=true:=by kernel_rfl
theorem uI:aV Tryz.prog 56=true:=by kernel_rfl
theorem zd:aV Tryz.prog 59=true:=by kernel_rfl
theorem ze:aV Tryz.prog 57=true:=by kernel_rfl
theorem Bt:aV Tryz.prog 34=true:=by kernel_rfl
theorem Bu:aV Tryz.prog 55=true:=by kernel_rfl
theorem Bv:aV Tryz.prog 25=true:=by kernel_rfl
theorem Bw:aV Tryz.prog 27=true:=by kernel_rfl
theorem Bx:aV Tryz.prog 26=true:=by kernel_rfl
theorem By:aV Tryz.prog 8=true:=by kernel_rfl
theorem cb7:aV Tryz.prog 7=true:=by kernel_rfl
theorem w6:gE Tryz.prog 122=some [(0,1)]:=by kernel_rfl
theorem w7:kC Tryz.prog 122=some [(.bool false)]:=by kernel_rfl
theorem w8:Tryz.prog.concrete 122=true:=by kernel_rfl
theorem zf:gE Tryz.prog 124=some [(0,1)]:=by kernel_rfl
theorem zg:kC Tryz.prog 124=some [(iv 0)]:=by kernel_rfl
theorem zh:Tryz.prog.concrete 124=true:=by kernel_rfl
theorem zi:gE Tryz.prog 125=some [(0,1)]:=by kernel_rfl
theorem zj:kC Tryz.prog 125=some [(iv 0)]:=by kernel_rfl
theorem zl:Tryz.prog.concrete 125=true:=by kernel_rfl
theorem zm:gE Tryz.prog 127=some []:=by kernel_rfl
theorem zn:kC Tryz.prog 127=some []:=by kernel_rfl
theorem zo:Tryz.prog.concrete 127=true:=by kernel_rfl
theorem zp:gE Tryz.prog 128=some []:=by kernel_rfl
theorem zq:kC Tryz.prog 128=some []:=by kernel_rfl
theorem zr:Tryz.prog.concrete 128=true:=by kernel_rfl
theorem mE:gE Tryz.prog 131=some [(0,1),(1,1)]:=by kernel_rfl
theorem mF:kC Tryz.prog 131=some [(aE ([]:aO)),.nilFunc]:=by kernel_rfl
theorem mH:Tryz.prog.concrete 131=true:=by kernel_rfl
theorem qq:aV Tryz.prog 106=true:=by kernel_rfl
theorem Bz:aV Tryz.prog 80=true:=by kernel_rfl
theorem uJ:dB Tryz.prog 122 0=some 0:=by kernel_rfl
theorem ag4:fM Tryz.prog 4=some false:=by kernel_rfl
theorem uK:dB Tryz.prog 131 0=some 0:=by kernel_rfl
theorem py (v:Value)(args:Array Value)(w:World):(callMethod (.iface 122 v) "loop.example/g00033/impl.uses" args).run Tryz.prog w=.ok (.enter 194 (#[v]++args)) w:=by kernel_rfl
theorem pz (v:Value)(args:Array Value)(w:World):(callMethod (.iface 124 v) "loop.example/g00033/impl.uses" args).run Tryz.prog w=.ok (.enter 196 (#[v]++args)) w:=by kernel_rfl
theorem pA (v:Value)(args:Array Value)(w:World):(callMethod (.iface 125 v) "loop.example/g00033/impl.uses" args).run Tryz.prog w=.ok (.enter 198 (#[v]++args)) w:=by kernel_rfl
theorem pB (v:Value)(args:Array Value)(w:World):(callMethod (.iface 127 v) "loop.example/g00033/impl.uses" args).run Tryz.prog w=.ok (.enter 200 (#[v]++args)) w:=by kernel_rfl
theorem pC (v:Value)(args:Array Value)(w:World):(callMethod (.iface 128 v) "loop.example/g00033/impl.uses" args).run Tryz.prog w=.ok (.enter 202 (#[v]++args)) w:=by kernel_rfl
theorem hD (v:Value)(args:Array Value)(w:World):(callMethod (.iface 131 v) "loop.example/g00033/impl.uses" args).run Tryz.prog w=.ok (.enter 218 (#[v]++args)) w:=by kernel_rfl
theorem w9:aV Tryz.prog 162=true:=by kernel_rfl
theorem wc:aV Tryz.prog 148=true:=by kernel_rfl
theorem zt:aV Tryz.prog 116=true:=by kernel_rfl
theorem iO:aV Tryz.prog 115=true:=by kernel_rfl
theorem zu:aV Tryz.prog 81=true:=by kernel_rfl
theorem BA:aV Tryz.prog 84=true:=by kernel_rfl
theorem lg:aV Tryz.prog 72=true:=by kernel_rfl
theorem li:aV Tryz.prog 65=true:=by kernel_rfl
theorem BB:aV Tryz.prog 73=true:=by kernel_rfl
theorem BC:aV Tryz.prog 40=true:=by kernel_rfl
theorem BD:aV Tryz.prog 41=true:=by kernel_rfl
theorem gW:aV Tryz.prog 144=true:=by kernel_rfl
theorem kN:kC Tryz.prog 198=some [(.slice none 0 0),(aE ([]:aO)),(aE ([]:aO)),(.slice none 0 0),(.slice none 0 0),(.slice none 0 0),(.slice none 0 0)]:=by kernel_rfl
theorem zw:aV Tryz.prog 209=true:=by kernel_rfl
theorem zx:aV Tryz.prog 207=true:=by kernel_rfl
theorem zy:aV Tryz.prog 212=true:=by kernel_rfl
theorem zA:aV Tryz.prog 210=true:=by kernel_rfl
theorem zB:aV Tryz.prog 208=true:=by kernel_rfl
theorem zC:aV Tryz.prog 172=true:=by kernel_rfl
theorem qr:aV Tryz.prog 205=true:=by kernel_rfl
theorem zD:aV Tryz.prog 204=true:=by kernel_rfl
theorem nj:gE Tryz.prog 198=some [(0,1),(1,1),(2,1),(3,1),(4,1),(5,1),(6,1)]:=by kernel_rfl
theorem iP:iI Tryz.prog 198=some 7:=by kernel_rfl
theorem sW:yD Tryz.prog 201=some (26,3):=by kernel_rfl
theorem wd:kC Tryz.prog 201=some [(iv 0),(iv 0),(iv 0),(iv 0),(iv 0),(iv 0),(iv 0),(iv 0),(iv 0),(iv 0),(iv 0),(iv 0),(iv 0),(iv 0),(iv 0),(iv 0),(iv 0),(iv 0),(iv 0),(iv 0),(iv 0),(iv 0),(iv 0),(iv 0),(iv 0),(iv 0)]:=by kernel_rfl
theorem wf:iI Tryz.prog 201=some 26:=by kernel_rfl
theorem uL:dB Tryz.prog 198 2=some 2:=by kernel_rfl
theorem uM:dB Tryz.prog 198 3=some 3:=by kernel_rfl
theorem uN:dB Tryz.prog 198 4=some 4:=by kernel_rfl
theorem jv:aV Tryz.prog 43=true:=by kernel_rfl
theorem qt:dB Tryz.prog 198 5=some 5:=by kernel_rfl
theorem BE:fM Tryz.prog 54=some false:=by kernel_rfl
theorem mI:fM Tryz.prog 198=some true:=by kernel_rfl
theorem zE:iI Tryz.prog 54=some 1:=by kernel_rfl
theorem sX:aV Tryz.prog 165=true:=by kernel_rfl
theorem wg:aV Tryz.prog 206=true:=by kernel_rfl
theorem qu:dB Tryz.prog 198 6=some 6:=by kernel_rfl
theorem zF:aV Tryz.prog 203=true:=by kernel_rfl
theorem uO:dB Tryz.prog 131 1=some 1:=by kernel_rfl
theorem zG:fM Tryz.prog 129=some false:=by kernel_rfl
theorem zH:aV Tryz.prog 158=true:=by kernel_rfl
theorem mJ:aV Tryz.prog 156=true:=by kernel_rfl
theorem zI:aV Tryz.prog 167=true:=by kernel_rfl
theorem sY:aV Tryz.prog 166=true:=by kernel_rfl
theorem zJ:aV Tryz.prog 159=true:=by kernel_rfl
theorem sZ:aV Tryz.prog 169=true:=by kernel_rfl
theorem zK:aV Tryz.prog 168=true:=by kernel_rfl
theorem zL:aV Tryz.prog 160=true:=by kernel_rfl
theorem zM:aV Tryz.prog 171=true:=by kernel_rfl
theorem zN:aV Tryz.prog 170=true:=by kernel_rfl
theorem zO:aV Tryz.prog 161=true:=by kernel_rfl
theorem fK:mq Tryz.prog 133=some 165:=by kernel_rfl
theorem fL:iI Tryz.prog 165=some 2:=by kernel_rfl
theorem eT:kC Tryz.prog 165=some [(iv 0),(iv 0)]:=by kernel_rfl
theorem zP:kC Tryz.prog 133=some [(.slice none 0 0)]:=by kernel_rfl
theorem t2:iI Tryz.prog 133=some 1:=by kernel_rfl
theorem zQ:aV Tryz.prog 157=true:=by kernel_rfl
theorem zR:fM Tryz.prog 133=some false:=by kernel_rfl
theorem mK:gE Tryz.prog 165=some [(0,1),(1,1)]:=by kernel_rfl
theorem lK:gY Tryz.prog 165=some 16:=by kernel_rfl
theorem zS:aV Tryz.prog 164=true:=by kernel_rfl
theorem zT:aV Tryz.prog 142=true:=by kernel_rfl
theorem zU:aV Tryz.prog 141=true:=by kernel_rfl
theorem zV:aV Tryz.prog 104=true:=by kernel_rfl
theorem zW:aV Tryz.prog 105=true:=by kernel_rfl
theorem zX:fM Tryz.prog 136=some false:=by kernel_rfl
theorem qv:aV Tryz.prog 145=true:=by kernel_rfl
theorem wh:aV Tryz.prog 147=true:=by kernel_rfl
theorem wi:fM Tryz.prog 165=some true:=by kernel_rfl
theorem qw:dB Tryz.prog 165 0=some 0:=by kernel_rfl
theorem qx:dB Tryz.prog 165 1=some 1:=by kernel_rfl
theorem t6:aV Tryz.prog 146=true:=by kernel_rfl
theorem zY:aV Tryz.prog 108=true:=by kernel_rfl
theorem zZ:aV Tryz.prog 107=true:=by kernel_rfl
theorem qy:aV Tryz.prog 143=true:=by kernel_rfl
theorem z':aV Tryz.prog 110=true:=by kernel_rfl
theorem A0:aV Tryz.prog 109=true:=by kernel_rfl
theorem A1:aV Tryz.prog 112=true:=by kernel_rfl
theorem Aa:aV Tryz.prog 111=true:=by kernel_rfl
theorem Ab:aV Tryz.prog 114=true:=by kernel_rfl
theorem Ac:aV Tryz.prog 113=true:=by kernel_rfl
theorem oI (v:Value)(args:Array Value)(w:World):(callMethod (.iface 122 v) "loop.example/g00033/impl.shape" args).run Tryz.prog w=.ok (.enter 193 (#[v]++args)) w:=by kernel_rfl
theorem oJ (v:Value)(args:Array Value)(w:World):(callMethod (.iface 124 v) "loop.example/g00033/impl.shape" args).run Tryz.prog w=.ok (.enter 195 (#[v]++args)) w:=by kernel_rfl
theorem oK (v:Value)(args:Array Value)(w:World):(callMethod (.iface 125 v) "loop.example/g00033/impl.shape" args).run Tryz.prog w=.ok (.enter 197 (#[v]++args)) w:=by kernel_rfl
theorem oL (v:Value)(args:Array Value)(w:World):(callMethod (.iface 127 v) "loop.example/g00033/impl.shape" args).run Tryz.prog w=.ok (.enter 199 (#[v]++args)) w:=by kernel_rfl
theorem oM (v:Value)(args:Array Value)(w:World):(callMethod (.iface 128 v) "loop.example/g00033/impl.shape" args).run Tryz.prog w=.ok (.enter 201 (#[v]++args)) w:=by kernel_rfl
theorem gL (v:Value)(args:Array Value)(w:World):(callMethod (.iface 131 v) "loop.example/g00033/impl.shape" args).run Tryz.prog w=.ok (.enter 217 (#[v]++args)) w:=by kernel_rfl
theorem BF:aV Tryz.prog 63=true:=by kernel_rfl
theorem Ad:aV Tryz.prog 30=true:=by kernel_rfl
theorem BG:aV Tryz.prog 39=true:=by kernel_rfl
theorem Ch:Tryz.prog.underlying 3=some (.int .i64):=by kernel_rfl
theorem wj:Tryz.prog.underlying 101=some (.int .u64):=by kernel_rfl
theorem wl:aV Tryz.prog 117=true:=by kernel_rfl
theorem BH:aV Tryz.prog 82=true:=by kernel_rfl
theorem Ae:aV Tryz.prog 83=true:=by kernel_rfl
theorem BI:aV Tryz.prog 69=true:=by kernel_rfl
theorem uP:aV Tryz.prog 68=true:=by kernel_rfl
theorem Af:aV Tryz.prog 64=true:=by kernel_rfl
theorem Ag:aV Tryz.prog 66=true:=by kernel_rfl
theorem Ah:aV Tryz.prog 32=true:=by kernel_rfl
theorem BJ:aV Tryz.prog 62=true:=by kernel_rfl
theorem BK:aV Tryz.prog 29=true:=by kernel_rfl
theorem BL:aV Tryz.prog 67=true:=by kernel_rfl
theorem BM:aV Tryz.prog 31=true:=by kernel_rfl
theorem BN:aV Tryz.prog 10=true:=by kernel_rfl
theorem rq:aV Tryz.prog 12=true:=by kernel_rfl
theorem BO:aV Tryz.prog 70=true:=by kernel_rfl
theorem BP:aV Tryz.prog 33=true:=by kernel_rfl
theorem BQ:aV Tryz.prog 11=true:=by kernel_rfl
structure kindOfR where
 t:Nat
 b0:Bool
 i0:Int
 i1:Int
 s0:aO
 deriving Inhabited,DecidableEq
def dE (r:kindOfR)(h:Nat×Nat×Nat):Value:=cond (Nat.beq r.t 0) .nilIface (cond (Nat.beq r.t 1) (.iface 122 (.agg [(.bool r.b0)].toArray)) (cond (Nat.beq r.t 2) (.iface 124 (.agg [(iv r.i0)].toArray)) (cond (Nat.beq r.t 3) (.iface 125 (.agg [(iv r.i0)].toArray)) (cond (Nat.beq r.t 4) (.iface 127 (.agg [].toArray)) (cond (Nat.beq r.t 5) (.iface 128 (.agg [].toArray)) (cond (Nat.beq r.t 6) (.iface 131 (.agg [(aE r.s0),(.func (.func 104) [].toArray [].toArray)].toArray)) (cond (Nat.beq r.t 7) (.iface 131 (.agg [(aE r.s0),(.func (.func 105) [].toArray [].toArray)].toArray)) (cond (Nat.beq r.t 8) (.iface 131 (.agg [(aE r.s0),(.func (.func 143) [].toArray [(pt h.1 0),(pt h.2.1 0),(pt h.2.2 0)].toArray)].toArray)) (cond (Nat.beq r.t 9) (.iface 131 (.agg [(aE r.s0),(.func (.func 143) [].toArray [(pt h.1 0),(pt h.2.1 0),(pt h.2.2 0)].toArray)].toArray)) (cond (Nat.beq r.t 10) (.iface 131 (.agg [(aE r.s0),(.func (.func 143) [].toArray [(pt h.1 0),(pt h.2.1 0),(pt h.2.2 0)].toArray)].toArray)) ((.iface 131 (.agg [(aE r.s0),(.func (.func 143) [].toArray [(pt h.1 0),(pt h.2.1 0),(pt h.2.2 0)].toArray)].toArray)))))))))))))
def fA (r:kindOfR)(h:Nat×Nat×Nat):HP:=cond (Nat.beq r.t 0) (pk []) (cond (Nat.beq r.t 1) (pk []) (cond (Nat.beq r.t 2) (pk []) (cond (Nat.beq r.t 3) (pk []) (cond (Nat.beq r.t 4) (pk []) (cond (Nat.beq r.t 5) (pk []) (cond (Nat.beq r.t 6) (pk []) (cond (Nat.beq r.t 7) (pk []) (cond (Nat.beq r.t 8) (pk [aJ h.1 [(iv r.i0)] 3,aJ h.2.1 [(iv r.i1)] 3,aJ h.2.2 [(.func (.func 107) [].toArray [].toArray)] 136]) (cond (Nat.beq r.t 9) (pk [aJ h.1 [(iv r.i0)] 3,aJ h.2.1 [(iv r.i1)] 3,aJ h.2.2 [(.func (.func 109) [].toArray [].toArray)] 136]) (cond (Nat.beq r.t 10) (pk [aJ h.1 [(iv r.i0)] 3,aJ h.2.1 [(iv r.i1)] 3,aJ h.2.2 [(.func (.func 111) [].toArray [].toArray)] 136]) ((pk [aJ h.1 [(iv r.i0)] 3,aJ h.2.1 [(iv r.i1)] 3,aJ h.2.2 [(.func (.func 113) [].toArray [].toArray)] 136]))))))))))))
theorem mL {C:World}{n:Nn}{V:List HP}{σ:dH}{d:Option Nat}{ty:TypeId}{pos:String}{af:Array Edge}{gd:Option (Nat×Bool)}{x:Operand}{D:TypeId}{r:kindOfR}{h:Nat×Nat×Nat}(e:ev σ x=dE r h):VO ⟨Tryz.prog,n,C⟩ V σ ⟨d,.binOp .eql 97 x (.const .nilIface) D,ty,pos,af,gd⟩ (.bool (Nat.beq r.t 0)):=by
 rcases bo (Nat.beq r.t 0) with a | a
 ·rw [a]; exact ux (by kernel_rfl) (by rw [e]; simp only [dE,a,cond_true])
 rcases bo (Nat.beq r.t 1) with b | b
 ·rw [a]; exact iL (by kernel_rfl) (by rw [e]; simp only [dE,a,b,cond_true,cond_false]; rfl)
 rcases bo (Nat.beq r.t 2) with g | g
 ·rw [a]; exact iL (by kernel_rfl) (by rw [e]; simp only [dE,a,b,g,cond_true,cond_false]; rfl)
 rcases bo (Nat.beq r.t 3) with i | i
 ·rw [a]; exact iL (by kernel_rfl) (by rw [e]; simp only [dE,a,b,g,i,cond_true,cond_false]; rfl)
 rcases bo (Nat.beq r.t 4) with j | j
 ·rw [a]; exact iL (by kernel_rfl) (by rw [e]; simp only [dE,a,b,g,i,j,cond_true,cond_false]; rfl)
 rcases bo (Nat.beq r.t 5) with l | l
 ·rw [a]; exact iL (by kernel_rfl) (by rw [e]; simp only [dE,a,b,g,i,j,l,cond_true,cond_false]; rfl)
 rcases bo (Nat.beq r.t 6) with q | q
 ·rw [a]; exact iL (by kernel_rfl) (by rw [e]; simp only [dE,a,b,g,i,j,l,q,cond_true,cond_false]; rfl)
 rcases bo (Nat.beq r.t 7) with s | s
 ·rw [a]; exact iL (by kernel_rfl) (by rw [e]; simp only [dE,a,b,g,i,j,l,q,s,cond_true,cond_false]; rfl)
 rcases bo (Nat.beq r.t 8) with u | u
 ·rw [a]; exact iL (by kernel_rfl) (by rw [e]; simp only [dE,a,b,g,i,j,l,q,s,u,cond_true,cond_false]; rfl)
 rcases bo (Nat.beq r.t 9) with B | B
 ·rw [a]; exact iL (by kernel_rfl) (by rw [e]; simp only [dE,a,b,g,i,j,l,q,s,u,B,cond_true,cond_false]; rfl)
 rcases bo (Nat.beq r.t 10) with m | m
 ·rw [a]; exact iL (by kernel_rfl) (by rw [e]; simp only [dE,a,b,g,i,j,l,q,s,u,B,m,cond_true,cond_false]; rfl)
 rw [a]; exact iL (by kernel_rfl) (by rw [e]; simp only [dE,a,b,g,i,j,l,q,s,u,B,m,cond_false]; rfl)
instance:HSl Tryz.prog 23 3:=⟨bM⟩
instance:HAg Tryz.prog 25 true:=⟨sJ⟩
instance:HSz Tryz.prog 25 2:=⟨sK⟩
instance:HFo Tryz.prog 25 0 0:=⟨wZ⟩
instance:HAg Tryz.prog 22 false:=⟨B6⟩
instance:HSl Tryz.prog 22 75:=⟨B7⟩
instance:HSz Tryz.prog 75 6:=⟨x0⟩
instance:HAg Tryz.prog 75 true:=⟨x5⟩
instance:HFo Tryz.prog 75 1 1:=⟨x7⟩
instance:HAg Tryz.prog 23 false:=⟨cY⟩
instance:HFo Tryz.prog 75 2 2:=⟨x8⟩
instance:HFo Tryz.prog 75 3 3:=⟨x9⟩
instance:HFo Tryz.prog 75 4 4:=⟨xa⟩
instance:HAg Tryz.prog 9 false:=⟨rp⟩
instance:HFo Tryz.prog 75 5 5:=⟨xb⟩
instance:HFo Tryz.prog 25 1 1:=⟨xc⟩
instance:HSl Tryz.prog 29 65:=⟨mC⟩
instance:HSz Tryz.prog 65 6:=⟨iW⟩
instance:HFo Tryz.prog 75 0 0:=⟨sN⟩
instance:HAg Tryz.prog 3 false:=⟨fP⟩
instance:HFo Tryz.prog 65 0 0:=⟨jR⟩
instance:HSz Tryz.prog 3 1:=⟨cJ⟩
instance:HFo Tryz.prog 65 1 1:=⟨pw⟩
instance:HSz Tryz.prog 23 1:=⟨fJ⟩
instance:HFo Tryz.prog 65 2 2:=⟨ld⟩
instance:HFo Tryz.prog 65 3 3:=⟨hU⟩
instance:HFo Tryz.prog 65 4 4:=⟨sO⟩
instance:HSz Tryz.prog 9 1:=⟨rQ⟩
instance:HFo Tryz.prog 65 5 5:=⟨px⟩
instance:HAg Tryz.prog 65 true:=⟨mD⟩
instance:HFo Tryz.prog 31 0 0:=⟨jS⟩
instance:HSz Tryz.prog 29 1:=⟨yQ⟩
instance:HFo Tryz.prog 31 1 1:=⟨xe⟩
instance:HAg Tryz.prog 31 true:=⟨n8⟩
instance:HSz Tryz.prog 31 2:=⟨lT⟩
instance:HSl Tryz.prog 79 42:=⟨gD⟩
instance:HSz Tryz.prog 42 2:=⟨bT⟩
instance:HAg Tryz.prog 29 false:=⟨oD⟩
instance:HAg Tryz.prog 42 true:=⟨fR⟩
instance:HFo Tryz.prog 42 0 0:=⟨iN⟩
instance:HFo Tryz.prog 42 1 1:=⟨sQ⟩
instance:HSl Tryz.prog 149 9:=⟨lG⟩
instance:HSl Tryz.prog 54 23:=⟨ja⟩
instance:HSz Tryz.prog 111 4:=⟨bS⟩
instance:HFo Tryz.prog 111 1 1:=⟨fF⟩
instance:HAg Tryz.prog 111 true:=⟨eS⟩
instance:HFo Tryz.prog 111 0 0:=⟨fQ⟩
instance:HFo Tryz.prog 111 3 3:=⟨uF⟩
instance:HFo Tryz.prog 111 2 2:=⟨m8⟩
instance:HFo Tryz.prog 122 0 0:=⟨uJ⟩
instance:HAg Tryz.prog 4 false:=⟨ag4⟩
instance:HFo Tryz.prog 131 0 0:=⟨uK⟩
instance:HSz Tryz.prog 198 7:=⟨iP⟩
instance:HSz Tryz.prog 201 26:=⟨wf⟩
instance:HFo Tryz.prog 198 2 2:=⟨uL⟩
instance:HFo Tryz.prog 198 3 3:=⟨uM⟩
instance:HFo Tryz.prog 198 4 4:=⟨uN⟩
instance:HFo Tryz.prog 198 5 5:=⟨qt⟩
instance:HAg Tryz.prog 54 false:=⟨BE⟩
instance:HAg Tryz.prog 198 true:=⟨mI⟩
instance:HSz Tryz.prog 54 1:=⟨zE⟩
instance:HFo Tryz.prog 198 6 6:=⟨qu⟩
instance:HFo Tryz.prog 131 1 1:=⟨uO⟩
instance:HAg Tryz.prog 129 false:=⟨zG⟩
instance:HSl Tryz.prog 133 165:=⟨fK⟩
instance:HSz Tryz.prog 165 2:=⟨fL⟩
instance:HSz Tryz.prog 133 1:=⟨t2⟩
instance:HAg Tryz.prog 133 false:=⟨zR⟩
instance:HAg Tryz.prog 136 false:=⟨zX⟩
instance:HAg Tryz.prog 165 true:=⟨wi⟩
instance:HFo Tryz.prog 165 0 0:=⟨qw⟩
instance:HFo Tryz.prog 165 1 1:=⟨qx⟩
end Go.Proofs.YthelanpdjajnbaaGreat
