import Derived.Test.YthelanpdjajnbaaGreatPg19
import Derived.Test.YthelanpdjajnbaaGreatStLK
import Derived.Test.YthelanpdjajnbaaGreatPg33
import Derived.Test.YthelanpdjajnbaaGreatProg
set_option linter.unusedVariables false
namespace Go.Proofs.YthelanpdjajnbaaGreat
open Go Go.Pg
structure Node where
 Op:Int
 Args:(List Int)
 Dims:(List Int)
 Ints:(List Int)
 Form:aO
 Data:(List Int)
 deriving Inhabited,DecidableEq
structure Graph where
 Nodes:(List Node)
 Outs:(List Int)
 deriving Inhabited,DecidableEq
structure Tensor where
 Dims:(List Int)
 Data:(List Int)
 deriving Inhabited,DecidableEq
structure View where
 Dims:(List Int)
 Strides:(List Int)
 Offset:Int
 Base:Int
 deriving Inhabited,DecidableEq
structure leafKind where
 data:Bool
 deriving Inhabited,DecidableEq
structure pairKind where
 op:Int
 deriving Inhabited,DecidableEq
structure soloKind where
 op:Int
 deriving Inhabited,DecidableEq
structure topKind where
 deriving Inhabited,DecidableEq
structure formKind where
 deriving Inhabited,DecidableEq
structure shiftKind where
 use:aO
 deriving Inhabited,DecidableEq
structure form where
 groups:(List aO)
 out_:aO
 order:aO
 loops:(List Int)
 dims:(List Int)
 steps:(List (List Int))
 store:(List Int)
 deriving Inhabited,DecidableEq
structure pair where
 from_:Int
 to:Int
 deriving Inhabited,DecidableEq
def str0:aO:=[45,62]
def hL:aO:=[100]
def fA:aO:=[105]
def oL:aO:=[100,120]
def kq:aO:=[102]
def oM:aO:=[120]
def str6:aO:=[44]
def yX:aO:=[109,48]
def str8:aO:=[109]
theorem bM:Tryz.prog.follows .mixedOrders=true:=by kernel_rfl
abbrev kT3:Kind Int:=Kind.int .i64
def AH:DecK kT3:=DecK.scal _ _
def hD:MkO kT3:=MkO.scal _ _
def sP3:SpO kT3:=SpO.scal _ _
def zT3:Zr kT3:=Zr.scal _ _ 0
theorem iF:kT3.Closed:=Kind.scal_closed _ _
abbrev kT23:Kind (List Int):=Kind.sl 3 kT3
def dT23:DecK kT23:=DecK.sl 3 kT3
def sX:MkS kT23:=MkS.sl 3 kT3
def nh:MkO kT23:=MkO.sl 3 kT3
def uM:SpO kT23:=SpO.sl 3 kT3
def zT23:Zr kT23:=Zr.sl 3 kT3
theorem uN:kT23.Closed:=Kind.sl_closed iF 3
abbrev kT9:Kind aO:=Kind.str
def dT9:DecK kT9:=DecK.scal _ _
def yy:MkO kT9:=MkO.scal _ _
def sP9:SpO kT9:=SpO.scal _ _
def zT9:Zr kT9:=Zr.scal _ _ []
theorem cT9:kT9.Closed:=Kind.scal_closed _ _
abbrev iN:Kind Node:=Kind.iso (Kind.pair kT3 (Kind.pair kT23 (Kind.pair kT23 (Kind.pair kT23 (Kind.pair kT9 kT23))))) (fun x:Node=>(x.Op,x.Args,x.Dims,x.Ints,x.Form,x.Data))
def dT75:DecK iN:=DecK.iso (DecK.pair AH (DecK.pair dT23 (DecK.pair dT23 (DecK.pair dT23 (DecK.pair dT9 dT23))))) _
abbrev kT65:Kind Node:=Kind.iso (Kind.pair kT3 (Kind.pair kT23 (Kind.pair kT23 (Kind.pair kT23 (Kind.pair kT9 kT23))))) (fun x:Node=>(x.Op,x.Args,x.Dims,x.Ints,x.Form,x.Data))
def dT65:DecK kT65:=DecK.iso (DecK.pair AH (DecK.pair dT23 (DecK.pair dT23 (DecK.pair dT23 (DecK.pair dT9 dT23))))) _
def mJ:MkO kT65:=MkO.iso (MkO.pair hD (MkO.pair nh (MkO.pair nh (MkO.pair nh (MkO.pair yy nh))))) _
def ry:SpO kT65:=SpO.iso (SpO.pair sP3 (SpO.pair uM (SpO.pair uM (SpO.pair uM (SpO.pair sP9 uM))))) _
def zT65:Zr kT65:=Zr.iso (Zr.pair zT3 (Zr.pair zT23 (Zr.pair zT23 (Zr.pair zT23 (Zr.pair zT9 zT23))))) _ ⟨zT3.z,zT23.z,zT23.z,zT23.z,zT9.z,zT23.z⟩ rfl
theorem nP:kT65.Closed:=Kind.iso_closed (Kind.pair_closed iF (Kind.pair_closed uN (Kind.pair_closed uN (Kind.pair_closed uN (Kind.pair_closed cT9 uN))))) _
abbrev dY:Kind Tensor:=Kind.iso (Kind.pair kT23 kT23) (fun x:Tensor=>(x.Dims,x.Data))
def dT42:DecK dY:=DecK.iso (DecK.pair dT23 dT23) _
def yY:MkS dY:=MkS.iso (MkS.pair sX sX) _
def xe:MkO dY:=MkO.iso (MkO.pair nh nh) _
def yZ:Zr dY:=Zr.iso (Zr.pair zT23 zT23) _ ⟨zT23.z,zT23.z⟩ rfl
abbrev kT165:Kind pair:=Kind.iso (Kind.pair kT3 kT3) (fun x:pair=>(x.from_,x.to))
def y':DecK kT165:=DecK.iso (DecK.pair AH AH) _
def jy:MkO kT165:=MkO.iso (MkO.pair hD hD) _
def zT165:Zr kT165:=Zr.iso (Zr.pair zT3 zT3) _ ⟨zT3.z,zT3.z⟩ rfl
theorem sY:kT165.Closed:=Kind.iso_closed (Kind.pair_closed iF iF) _
abbrev C6:Kind Int:=Kind.int .u8
def mO5:MkO C6:=MkO.scal _ _
theorem rz:fH Tryz.prog 25=some true:=by kernel_rfl
theorem rA:iC Tryz.prog 25=some 2:=by kernel_rfl
theorem xf:cW Tryz.prog 25 0=some 0:=by kernel_rfl
theorem B2:fH Tryz.prog 22=some false:=by kernel_rfl
theorem B3:m0 Tryz.prog 22=some 75:=by kernel_rfl
theorem xg:iC Tryz.prog 75=some 6:=by kernel_rfl
theorem xh:fH Tryz.prog 75=some true:=by kernel_rfl
theorem xi:cW Tryz.prog 75 1=some 1:=by kernel_rfl
theorem cB:fH Tryz.prog 23=some false:=by kernel_rfl
theorem bT:m0 Tryz.prog 23=some 3:=by kernel_rfl
theorem pB:aX Tryz.prog 24=true:=by kernel_rfl
theorem xj:cW Tryz.prog 75 2=some 2:=by kernel_rfl
theorem xk:cW Tryz.prog 75 3=some 3:=by kernel_rfl
theorem xl:cW Tryz.prog 75 4=some 4:=by kernel_rfl
theorem pl:fH Tryz.prog 9=some false:=by kernel_rfl
theorem gA:Tryz.prog.underlying 9=some .string:=by kernel_rfl
theorem xm:cW Tryz.prog 75 5=some 5:=by kernel_rfl
theorem B4:aX Tryz.prog 54=true:=by kernel_rfl
theorem B5:aX Tryz.prog 23=true:=by kernel_rfl
theorem xn:cW Tryz.prog 25 1=some 1:=by kernel_rfl
theorem cb6:aX Tryz.prog 6=true:=by kernel_rfl
theorem rB:fH Tryz.prog 38=some true:=by kernel_rfl
theorem rC:iC Tryz.prog 38=some 2:=by kernel_rfl
theorem pC:cW Tryz.prog 38 0=some 0:=by kernel_rfl
theorem pD:cW Tryz.prog 38 1=some 1:=by kernel_rfl
theorem B6:aX Tryz.prog 13=true:=by kernel_rfl
theorem ji:kL Tryz.prog 31=some [(.slice none 0 0),(.slice none 0 0)]:=by kernel_rfl
theorem fX:m0 Tryz.prog 29=some 65:=by kernel_rfl
theorem eY:iC Tryz.prog 65=some 6:=by kernel_rfl
theorem xo:hJ Tryz.prog 65=some 120:=by kernel_rfl
theorem kA:kL Tryz.prog 65=some [(iv 0),(.slice none 0 0),(.slice none 0 0),(.slice none 0 0),(aH ([]:aO)),(.slice none 0 0)]:=by kernel_rfl
theorem sZ:cW Tryz.prog 75 0=some 0:=by kernel_rfl
theorem fR:fH Tryz.prog 3=some false:=by kernel_rfl
theorem fS:cW Tryz.prog 65 0=some 0:=by kernel_rfl
theorem cS:iC Tryz.prog 3=some 1:=by kernel_rfl
theorem kN:hJ Tryz.prog 3=some 8:=by kernel_rfl
theorem iu:kL Tryz.prog 3=some [(iv 0)]:=by kernel_rfl
theorem mK:cW Tryz.prog 65 1=some 1:=by kernel_rfl
theorem gB:iC Tryz.prog 23=some 1:=by kernel_rfl
theorem xp:aX Tryz.prog 9=true:=by kernel_rfl
theorem iG:cW Tryz.prog 65 2=some 2:=by kernel_rfl
theorem gJ:cW Tryz.prog 65 3=some 3:=by kernel_rfl
theorem lx:cW Tryz.prog 65 4=some 4:=by kernel_rfl
theorem rD:iC Tryz.prog 9=some 1:=by kernel_rfl
theorem kB:cW Tryz.prog 65 5=some 5:=by kernel_rfl
theorem ni:fH Tryz.prog 65=some true:=by kernel_rfl
theorem B7:aX Tryz.prog 61=true:=by kernel_rfl
theorem eF:cW Tryz.prog 31 0=some 0:=by kernel_rfl
theorem xq:iC Tryz.prog 29=some 1:=by kernel_rfl
theorem B8:aX Tryz.prog 28=true:=by kernel_rfl
theorem nQ:cW Tryz.prog 31 1=some 1:=by kernel_rfl
theorem gK:fH Tryz.prog 31=some true:=by kernel_rfl
theorem eG:iC Tryz.prog 31=some 2:=by kernel_rfl
theorem dN:kL Tryz.prog 42=some [(.slice none 0 0),(.slice none 0 0)]:=by kernel_rfl
theorem fT:cW Tryz.prog 42 0=some 0:=by kernel_rfl
theorem ka:cW Tryz.prog 42 1=some 1:=by kernel_rfl
theorem eR:fH Tryz.prog 42=some true:=by kernel_rfl
theorem bW:iC Tryz.prog 42=some 2:=by kernel_rfl
theorem gX:m0 Tryz.prog 79=some 42:=by kernel_rfl
theorem iO:fH Tryz.prog 29=some false:=by kernel_rfl
theorem B9:aX Tryz.prog 85=true:=by kernel_rfl
theorem Ba:aX Tryz.prog 86=true:=by kernel_rfl
theorem Bb:aX Tryz.prog 87=true:=by kernel_rfl
theorem Bc:aX Tryz.prog 76=true:=by kernel_rfl
theorem uO:aX Tryz.prog 77=true:=by kernel_rfl
theorem z6:hJ Tryz.prog 42=some 48:=by kernel_rfl
theorem hG:fV Tryz.prog 42=some [(0,1),(1,1)]:=by kernel_rfl
theorem nR:aX Tryz.prog 58=true:=by kernel_rfl
theorem kr:aX Tryz.prog 71=true:=by kernel_rfl
theorem mL:aX Tryz.prog 35=true:=by kernel_rfl
theorem iP:aX Tryz.prog 37=true:=by kernel_rfl
theorem uP:aX Tryz.prog 36=true:=by kernel_rfl
theorem w9:aX Tryz.prog 149=true:=by kernel_rfl
theorem z7:aX Tryz.prog 118=true:=by kernel_rfl
theorem kX:aX Tryz.prog 102=true:=by kernel_rfl
theorem lU:aX Tryz.prog 119=true:=by kernel_rfl
theorem t2:aX Tryz.prog 131=true:=by kernel_rfl
theorem nr:aX Tryz.prog 129=true:=by kernel_rfl
theorem jQ:aX Tryz.prog 103=true:=by kernel_rfl
theorem oN:aX Tryz.prog 125=true:=by kernel_rfl
theorem qz:aX Tryz.prog 132=true:=by kernel_rfl
theorem wc:aX Tryz.prog 150=true:=by kernel_rfl
theorem oO:aX Tryz.prog 128=true:=by kernel_rfl
theorem wd:aX Tryz.prog 163=true:=by kernel_rfl
theorem wf:aX Tryz.prog 152=true:=by kernel_rfl
theorem z8:aX Tryz.prog 151=true:=by kernel_rfl
theorem wg:aX Tryz.prog 121=true:=by kernel_rfl
theorem za:aX Tryz.prog 120=true:=by kernel_rfl
theorem Bd:aX Tryz.prog 88=true:=by kernel_rfl
theorem zb:aX Tryz.prog 122=true:=by kernel_rfl
theorem Be:aX Tryz.prog 89=true:=by kernel_rfl
theorem oP:aX Tryz.prog 123=true:=by kernel_rfl
theorem kY:aX Tryz.prog 139=true:=by kernel_rfl
theorem zd:aX Tryz.prog 124=true:=by kernel_rfl
theorem Bf:aX Tryz.prog 90=true:=by kernel_rfl
theorem lV:m0 Tryz.prog 149=some 9:=by kernel_rfl
theorem ze:kL Tryz.prog 9=some [(aH ([]:aO))]:=by kernel_rfl
theorem C7:hJ Tryz.prog 9=some 16:=by kernel_rfl
theorem wh:aX Tryz.prog 153=true:=by kernel_rfl
theorem wj:aX Tryz.prog 154=true:=by kernel_rfl
theorem zf:aX Tryz.prog 126=true:=by kernel_rfl
theorem kC:m0 Tryz.prog 54=some 23:=by kernel_rfl
theorem mM:kL Tryz.prog 23=some [(.slice none 0 0)]:=by kernel_rfl
theorem uQ:hJ Tryz.prog 23=some 24:=by kernel_rfl
theorem zg:aX Tryz.prog 127=true:=by kernel_rfl
theorem zh:aX Tryz.prog 130=true:=by kernel_rfl
theorem Bg:aX Tryz.prog 91=true:=by kernel_rfl
theorem cC:kL Tryz.prog 111=some [(.slice none 0 0),(.slice none 0 0),(iv 0),(iv 0)]:=by kernel_rfl
theorem dU:fV Tryz.prog 111=some [(0,1),(1,1),(2,1),(3,1)]:=by kernel_rfl
theorem bX:iC Tryz.prog 111=some 4:=by kernel_rfl
theorem fK:cW Tryz.prog 111 1=some 1:=by kernel_rfl
theorem eU:fH Tryz.prog 111=some true:=by kernel_rfl
theorem fW:cW Tryz.prog 111 0=some 0:=by kernel_rfl
theorem zi:aX Tryz.prog 135=true:=by kernel_rfl
theorem uR:cW Tryz.prog 111 3=some 3:=by kernel_rfl
theorem mj:cW Tryz.prog 111 2=some 2:=by kernel_rfl
theorem zj:aX Tryz.prog 155=true:=by kernel_rfl
theorem qB:aX Tryz.prog 134=true:=by kernel_rfl
theorem lX:aX Tryz.prog 133=true:=by kernel_rfl
theorem uS:aX Tryz.prog 94=true:=by kernel_rfl
theorem Bh:aX Tryz.prog 93=true:=by kernel_rfl
theorem uT:aX Tryz.prog 92=true:=by kernel_rfl
theorem Bi:aX Tryz.prog 95=true:=by kernel_rfl
theorem wl:aX Tryz.prog 136=true:=by kernel_rfl
theorem wm:aX Tryz.prog 137=true:=by kernel_rfl
theorem wo:aX Tryz.prog 138=true:=by kernel_rfl
theorem Bj:aX Tryz.prog 96=true:=by kernel_rfl
theorem t6:aX Tryz.prog 140=true:=by kernel_rfl
theorem Bk:aX Tryz.prog 97=true:=by kernel_rfl
theorem Bl:aX Tryz.prog 98=true:=by kernel_rfl
theorem Bm:aX Tryz.prog 99=true:=by kernel_rfl
theorem zl:aX Tryz.prog 100=true:=by kernel_rfl
theorem zm:aX Tryz.prog 101=true:=by kernel_rfl
theorem Bn:aX Tryz.prog 78=true:=by kernel_rfl
theorem Bo:aX Tryz.prog 79=true:=by kernel_rfl
theorem Bp:aX Tryz.prog 60=true:=by kernel_rfl
theorem rE:aX Tryz.prog 34=true:=by kernel_rfl
theorem uU:fV Tryz.prog 31=some [(0,1),(1,1)]:=by kernel_rfl
theorem uV:fV Tryz.prog 65=some [(0,1),(1,1),(2,1),(3,1),(4,1),(5,1)]:=by kernel_rfl
theorem Bq:aX Tryz.prog 38=true:=by kernel_rfl
theorem yz:aX Tryz.prog 8=true:=by kernel_rfl
theorem oQ:aX Tryz.prog 15=true:=by kernel_rfl
theorem uW:aX Tryz.prog 14=true:=by kernel_rfl
theorem wq:fV Tryz.prog 122=some [(0,1)]:=by kernel_rfl
theorem wr:kL Tryz.prog 122=some [(.bool false)]:=by kernel_rfl
theorem ws:Tryz.prog.concrete 122=true:=by kernel_rfl
theorem zn:fV Tryz.prog 124=some [(0,1)]:=by kernel_rfl
theorem zo:kL Tryz.prog 124=some [(iv 0)]:=by kernel_rfl
theorem zp:Tryz.prog.concrete 124=true:=by kernel_rfl
theorem zq:fV Tryz.prog 125=some [(0,1)]:=by kernel_rfl
theorem zr:kL Tryz.prog 125=some [(iv 0)]:=by kernel_rfl
theorem zt:Tryz.prog.concrete 125=true:=by kernel_rfl
theorem zu:fV Tryz.prog 127=some []:=by kernel_rfl
theorem zw:kL Tryz.prog 127=some []:=by kernel_rfl
theorem zx:Tryz.prog.concrete 127=true:=by kernel_rfl
theorem zy:fV Tryz.prog 128=some []:=by kernel_rfl
theorem zz:kL Tryz.prog 128=some []:=by kernel_rfl
theorem zA:Tryz.prog.concrete 128=true:=by kernel_rfl
theorem mN:fV Tryz.prog 131=some [(0,1),(1,1)]:=by kernel_rfl
theorem mO:kL Tryz.prog 131=some [(aH ([]:aO)),.nilFunc]:=by kernel_rfl
theorem mP:Tryz.prog.concrete 131=true:=by kernel_rfl
theorem qC:aX Tryz.prog 106=true:=by kernel_rfl
theorem Br:aX Tryz.prog 80=true:=by kernel_rfl
theorem uX:cW Tryz.prog 122 0=some 0:=by kernel_rfl
theorem ag4:fH Tryz.prog 4=some false:=by kernel_rfl
theorem uY:cW Tryz.prog 131 0=some 0:=by kernel_rfl
theorem pE (v:Value)(args:Array Value)(w:World):(callMethod (.iface 122 v) "loop.example/g00033/impl.uses" args).run Tryz.prog w=.ok (.enter 194 (#[v]++args)) w:=by kernel_rfl
theorem pF (v:Value)(args:Array Value)(w:World):(callMethod (.iface 124 v) "loop.example/g00033/impl.uses" args).run Tryz.prog w=.ok (.enter 196 (#[v]++args)) w:=by kernel_rfl
theorem pG (v:Value)(args:Array Value)(w:World):(callMethod (.iface 125 v) "loop.example/g00033/impl.uses" args).run Tryz.prog w=.ok (.enter 198 (#[v]++args)) w:=by kernel_rfl
theorem pH (v:Value)(args:Array Value)(w:World):(callMethod (.iface 127 v) "loop.example/g00033/impl.uses" args).run Tryz.prog w=.ok (.enter 200 (#[v]++args)) w:=by kernel_rfl
theorem pI (v:Value)(args:Array Value)(w:World):(callMethod (.iface 128 v) "loop.example/g00033/impl.uses" args).run Tryz.prog w=.ok (.enter 202 (#[v]++args)) w:=by kernel_rfl
theorem hM (v:Value)(args:Array Value)(w:World):(callMethod (.iface 131 v) "loop.example/g00033/impl.uses" args).run Tryz.prog w=.ok (.enter 218 (#[v]++args)) w:=by kernel_rfl
theorem wt:aX Tryz.prog 162=true:=by kernel_rfl
theorem wu:aX Tryz.prog 148=true:=by kernel_rfl
theorem zB:aX Tryz.prog 116=true:=by kernel_rfl
theorem iZ:aX Tryz.prog 115=true:=by kernel_rfl
theorem zC:aX Tryz.prog 81=true:=by kernel_rfl
theorem Bs:aX Tryz.prog 84=true:=by kernel_rfl
theorem ly:aX Tryz.prog 72=true:=by kernel_rfl
theorem m6:aX Tryz.prog 65=true:=by kernel_rfl
theorem Bt:aX Tryz.prog 73=true:=by kernel_rfl
theorem xr:aX Tryz.prog 40=true:=by kernel_rfl
theorem zD:aX Tryz.prog 41=true:=by kernel_rfl
theorem hH:aX Tryz.prog 144=true:=by kernel_rfl
theorem kZ:kL Tryz.prog 198=some [(.slice none 0 0),(aH ([]:aO)),(aH ([]:aO)),(.slice none 0 0),(.slice none 0 0),(.slice none 0 0),(.slice none 0 0)]:=by kernel_rfl
theorem zE:aX Tryz.prog 209=true:=by kernel_rfl
theorem zF:aX Tryz.prog 207=true:=by kernel_rfl
theorem zG:aX Tryz.prog 212=true:=by kernel_rfl
theorem zH:aX Tryz.prog 210=true:=by kernel_rfl
theorem zI:aX Tryz.prog 208=true:=by kernel_rfl
theorem zJ:aX Tryz.prog 172=true:=by kernel_rfl
theorem qD:aX Tryz.prog 205=true:=by kernel_rfl
theorem zK:aX Tryz.prog 204=true:=by kernel_rfl
theorem ns:fV Tryz.prog 198=some [(0,1),(1,1),(2,1),(3,1),(4,1),(5,1),(6,1)]:=by kernel_rfl
theorem i':iC Tryz.prog 198=some 7:=by kernel_rfl
theorem t7:yP Tryz.prog 201=some (26,3):=by kernel_rfl
theorem wv:kL Tryz.prog 201=some [(iv 0),(iv 0),(iv 0),(iv 0),(iv 0),(iv 0),(iv 0),(iv 0),(iv 0),(iv 0),(iv 0),(iv 0),(iv 0),(iv 0),(iv 0),(iv 0),(iv 0),(iv 0),(iv 0),(iv 0),(iv 0),(iv 0),(iv 0),(iv 0),(iv 0),(iv 0)]:=by kernel_rfl
theorem ww:iC Tryz.prog 201=some 26:=by kernel_rfl
theorem uZ:cW Tryz.prog 198 2=some 2:=by kernel_rfl
theorem u':cW Tryz.prog 198 3=some 3:=by kernel_rfl
theorem v6:cW Tryz.prog 198 4=some 4:=by kernel_rfl
theorem iA:aX Tryz.prog 43=true:=by kernel_rfl
theorem qG:cW Tryz.prog 198 5=some 5:=by kernel_rfl
theorem Bu:fH Tryz.prog 54=some false:=by kernel_rfl
theorem mQ:fH Tryz.prog 198=some true:=by kernel_rfl
theorem zL:iC Tryz.prog 54=some 1:=by kernel_rfl
theorem t8:aX Tryz.prog 165=true:=by kernel_rfl
theorem wx:aX Tryz.prog 206=true:=by kernel_rfl
theorem qH:cW Tryz.prog 198 6=some 6:=by kernel_rfl
theorem zM:aX Tryz.prog 203=true:=by kernel_rfl
theorem v7:cW Tryz.prog 131 1=some 1:=by kernel_rfl
theorem zN:fH Tryz.prog 129=some false:=by kernel_rfl
theorem zO:aX Tryz.prog 158=true:=by kernel_rfl
theorem mR:aX Tryz.prog 156=true:=by kernel_rfl
theorem zP:aX Tryz.prog 167=true:=by kernel_rfl
theorem ta:aX Tryz.prog 166=true:=by kernel_rfl
theorem zQ:aX Tryz.prog 159=true:=by kernel_rfl
theorem tb:aX Tryz.prog 169=true:=by kernel_rfl
theorem zR:aX Tryz.prog 168=true:=by kernel_rfl
theorem zS:aX Tryz.prog 160=true:=by kernel_rfl
theorem zT:aX Tryz.prog 171=true:=by kernel_rfl
theorem zU:aX Tryz.prog 170=true:=by kernel_rfl
theorem zV:aX Tryz.prog 161=true:=by kernel_rfl
theorem fO:m0 Tryz.prog 133=some 165:=by kernel_rfl
theorem fP:iC Tryz.prog 165=some 2:=by kernel_rfl
theorem eV:kL Tryz.prog 165=some [(iv 0),(iv 0)]:=by kernel_rfl
theorem zW:kL Tryz.prog 133=some [(.slice none 0 0)]:=by kernel_rfl
theorem tc:iC Tryz.prog 133=some 1:=by kernel_rfl
theorem zX:aX Tryz.prog 157=true:=by kernel_rfl
theorem zY:fH Tryz.prog 133=some false:=by kernel_rfl
theorem mS:fV Tryz.prog 165=some [(0,1),(1,1)]:=by kernel_rfl
theorem lY:hJ Tryz.prog 165=some 16:=by kernel_rfl
theorem zZ:aX Tryz.prog 164=true:=by kernel_rfl
theorem z':aX Tryz.prog 142=true:=by kernel_rfl
theorem A0:aX Tryz.prog 141=true:=by kernel_rfl
theorem A1:aX Tryz.prog 104=true:=by kernel_rfl
theorem Aa:aX Tryz.prog 105=true:=by kernel_rfl
theorem Ab:fH Tryz.prog 136=some false:=by kernel_rfl
theorem qK:aX Tryz.prog 145=true:=by kernel_rfl
theorem wy:aX Tryz.prog 147=true:=by kernel_rfl
theorem wz:fH Tryz.prog 165=some true:=by kernel_rfl
theorem qL:cW Tryz.prog 165 0=some 0:=by kernel_rfl
theorem qO:cW Tryz.prog 165 1=some 1:=by kernel_rfl
theorem te:aX Tryz.prog 146=true:=by kernel_rfl
theorem Ac:aX Tryz.prog 108=true:=by kernel_rfl
theorem Ad:aX Tryz.prog 107=true:=by kernel_rfl
theorem qP:aX Tryz.prog 143=true:=by kernel_rfl
theorem Ae:aX Tryz.prog 110=true:=by kernel_rfl
theorem Af:aX Tryz.prog 109=true:=by kernel_rfl
theorem Ag:aX Tryz.prog 112=true:=by kernel_rfl
theorem Ah:aX Tryz.prog 111=true:=by kernel_rfl
theorem Ai:aX Tryz.prog 114=true:=by kernel_rfl
theorem Aj:aX Tryz.prog 113=true:=by kernel_rfl
theorem oR (v:Value)(args:Array Value)(w:World):(callMethod (.iface 122 v) "loop.example/g00033/impl.shape" args).run Tryz.prog w=.ok (.enter 193 (#[v]++args)) w:=by kernel_rfl
theorem oS (v:Value)(args:Array Value)(w:World):(callMethod (.iface 124 v) "loop.example/g00033/impl.shape" args).run Tryz.prog w=.ok (.enter 195 (#[v]++args)) w:=by kernel_rfl
theorem oU (v:Value)(args:Array Value)(w:World):(callMethod (.iface 125 v) "loop.example/g00033/impl.shape" args).run Tryz.prog w=.ok (.enter 197 (#[v]++args)) w:=by kernel_rfl
theorem oV (v:Value)(args:Array Value)(w:World):(callMethod (.iface 127 v) "loop.example/g00033/impl.shape" args).run Tryz.prog w=.ok (.enter 199 (#[v]++args)) w:=by kernel_rfl
theorem oW (v:Value)(args:Array Value)(w:World):(callMethod (.iface 128 v) "loop.example/g00033/impl.shape" args).run Tryz.prog w=.ok (.enter 201 (#[v]++args)) w:=by kernel_rfl
theorem gS (v:Value)(args:Array Value)(w:World):(callMethod (.iface 131 v) "loop.example/g00033/impl.shape" args).run Tryz.prog w=.ok (.enter 217 (#[v]++args)) w:=by kernel_rfl
theorem Bv:aX Tryz.prog 63=true:=by kernel_rfl
theorem Bw:aX Tryz.prog 30=true:=by kernel_rfl
theorem rF:aX Tryz.prog 39=true:=by kernel_rfl
theorem Bx:aX Tryz.prog 50=true:=by kernel_rfl
theorem By:aX Tryz.prog 74=true:=by kernel_rfl
theorem Bz:aX Tryz.prog 42=true:=by kernel_rfl
theorem tf:aX Tryz.prog 16=true:=by kernel_rfl
theorem pJ:aX Tryz.prog 12=true:=by kernel_rfl
theorem BA:aX Tryz.prog 70=true:=by kernel_rfl
theorem BC:aX Tryz.prog 33=true:=by kernel_rfl
theorem BD:Tryz.prog.underlying 4=some .bool:=by kernel_rfl
theorem v8:aX Tryz.prog 11=true:=by kernel_rfl
theorem BE:aX Tryz.prog 17=true:=by kernel_rfl
theorem pK:aX Tryz.prog 45=true:=by kernel_rfl
theorem un3:Tryz.prog.underlying 3=some (.int .i64):=by kernel_rfl
theorem C8:Tryz.prog.underlying 5=some (.int .u8):=by kernel_rfl
theorem tg:m0 Tryz.prog 103=some 5:=by kernel_rfl
theorem C9:iC Tryz.prog 5=some 1:=by kernel_rfl
theorem zc5:kL Tryz.prog 5=some [(.int .u8 (0:Int))]:=by kernel_rfl
theorem Ak:aX Tryz.prog 75=true:=by kernel_rfl
theorem BF:aX Tryz.prog 44=true:=by kernel_rfl
theorem Al:aX Tryz.prog 18=true:=by kernel_rfl
theorem BG:aX Tryz.prog 19=true:=by kernel_rfl
theorem th:aX Tryz.prog 47=true:=by kernel_rfl
theorem BH:aX Tryz.prog 46=true:=by kernel_rfl
theorem Am:aX Tryz.prog 20=true:=by kernel_rfl
structure kindOfR where
 t:Nat
 b0:Bool
 i0:Int
 i1:Int
 s0:aO
 deriving Inhabited,DecidableEq
def cZ (r:kindOfR)(h:Nat×Nat×Nat):Value:=cond (Nat.beq r.t 0) .nilIface (cond (Nat.beq r.t 1) (.iface 122 (.agg [(.bool r.b0)].toArray)) (cond (Nat.beq r.t 2) (.iface 124 (.agg [(iv r.i0)].toArray)) (cond (Nat.beq r.t 3) (.iface 125 (.agg [(iv r.i0)].toArray)) (cond (Nat.beq r.t 4) (.iface 127 (.agg [].toArray)) (cond (Nat.beq r.t 5) (.iface 128 (.agg [].toArray)) (cond (Nat.beq r.t 6) (.iface 131 (.agg [(aH r.s0),(.func (.func 104) [].toArray [].toArray)].toArray)) (cond (Nat.beq r.t 7) (.iface 131 (.agg [(aH r.s0),(.func (.func 105) [].toArray [].toArray)].toArray)) (cond (Nat.beq r.t 8) (.iface 131 (.agg [(aH r.s0),(.func (.func 143) [].toArray [(pt h.1 0),(pt h.2.1 0),(pt h.2.2 0)].toArray)].toArray)) (cond (Nat.beq r.t 9) (.iface 131 (.agg [(aH r.s0),(.func (.func 143) [].toArray [(pt h.1 0),(pt h.2.1 0),(pt h.2.2 0)].toArray)].toArray)) (cond (Nat.beq r.t 10) (.iface 131 (.agg [(aH r.s0),(.func (.func 143) [].toArray [(pt h.1 0),(pt h.2.1 0),(pt h.2.2 0)].toArray)].toArray)) ((.iface 131 (.agg [(aH r.s0),(.func (.func 143) [].toArray [(pt h.1 0),(pt h.2.1 0),(pt h.2.2 0)].toArray)].toArray)))))))))))))
def fC (r:kindOfR)(h:Nat×Nat×Nat):HP:=cond (Nat.beq r.t 0) (pk []) (cond (Nat.beq r.t 1) (pk []) (cond (Nat.beq r.t 2) (pk []) (cond (Nat.beq r.t 3) (pk []) (cond (Nat.beq r.t 4) (pk []) (cond (Nat.beq r.t 5) (pk []) (cond (Nat.beq r.t 6) (pk []) (cond (Nat.beq r.t 7) (pk []) (cond (Nat.beq r.t 8) (pk [aJ h.1 [(iv r.i0)] 3,aJ h.2.1 [(iv r.i1)] 3,aJ h.2.2 [(.func (.func 107) [].toArray [].toArray)] 136]) (cond (Nat.beq r.t 9) (pk [aJ h.1 [(iv r.i0)] 3,aJ h.2.1 [(iv r.i1)] 3,aJ h.2.2 [(.func (.func 109) [].toArray [].toArray)] 136]) (cond (Nat.beq r.t 10) (pk [aJ h.1 [(iv r.i0)] 3,aJ h.2.1 [(iv r.i1)] 3,aJ h.2.2 [(.func (.func 111) [].toArray [].toArray)] 136]) ((pk [aJ h.1 [(iv r.i0)] 3,aJ h.2.1 [(iv r.i1)] 3,aJ h.2.2 [(.func (.func 113) [].toArray [].toArray)] 136]))))))))))))
theorem mT {C:World}{n:Nn}{V:List HP}{σ:dB}{d:Option Nat}{ty:TypeId}{pos:String}{af:Array Edge}{gd:Option (Nat×Bool)}{x:Operand}{D:TypeId}{r:kindOfR}{h:Nat×Nat×Nat}(e:ev σ x=cZ r h):VO ⟨Tryz.prog,n,C⟩ V σ ⟨d,.binOp .eql 97 x (.const .nilIface) D,ty,pos,af,gd⟩ (.bool (Nat.beq r.t 0)):=by
 rcases bo (Nat.beq r.t 0) with a | a
 ·rw [a]; exact uF (by kernel_rfl) (by rw [e]; simp only [cZ,a,cond_true])
 rcases bo (Nat.beq r.t 1) with b | b
 ·rw [a]; exact iX (by kernel_rfl) (by rw [e]; simp only [cZ,a,b,cond_true,cond_false]; rfl)
 rcases bo (Nat.beq r.t 2) with g | g
 ·rw [a]; exact iX (by kernel_rfl) (by rw [e]; simp only [cZ,a,b,g,cond_true,cond_false]; rfl)
 rcases bo (Nat.beq r.t 3) with i | i
 ·rw [a]; exact iX (by kernel_rfl) (by rw [e]; simp only [cZ,a,b,g,i,cond_true,cond_false]; rfl)
 rcases bo (Nat.beq r.t 4) with j | j
 ·rw [a]; exact iX (by kernel_rfl) (by rw [e]; simp only [cZ,a,b,g,i,j,cond_true,cond_false]; rfl)
 rcases bo (Nat.beq r.t 5) with l | l
 ·rw [a]; exact iX (by kernel_rfl) (by rw [e]; simp only [cZ,a,b,g,i,j,l,cond_true,cond_false]; rfl)
 rcases bo (Nat.beq r.t 6) with q | q
 ·rw [a]; exact iX (by kernel_rfl) (by rw [e]; simp only [cZ,a,b,g,i,j,l,q,cond_true,cond_false]; rfl)
 rcases bo (Nat.beq r.t 7) with s | s
 ·rw [a]; exact iX (by kernel_rfl) (by rw [e]; simp only [cZ,a,b,g,i,j,l,q,s,cond_true,cond_false]; rfl)
 rcases bo (Nat.beq r.t 8) with u | u
 ·rw [a]; exact iX (by kernel_rfl) (by rw [e]; simp only [cZ,a,b,g,i,j,l,q,s,u,cond_true,cond_false]; rfl)
 rcases bo (Nat.beq r.t 9) with B | B
 ·rw [a]; exact iX (by kernel_rfl) (by rw [e]; simp only [cZ,a,b,g,i,j,l,q,s,u,B,cond_true,cond_false]; rfl)
 rcases bo (Nat.beq r.t 10) with m | m
 ·rw [a]; exact iX (by kernel_rfl) (by rw [e]; simp only [cZ,a,b,g,i,j,l,q,s,u,B,m,cond_true,cond_false]; rfl)
 rw [a]; exact iX (by kernel_rfl) (by rw [e]; simp only [cZ,a,b,g,i,j,l,q,s,u,B,m,cond_false]; rfl)
instance:HAg Tryz.prog 25 true:=⟨rz⟩
instance:HSz Tryz.prog 25 2:=⟨rA⟩
instance:HFo Tryz.prog 25 0 0:=⟨xf⟩
instance:HAg Tryz.prog 22 false:=⟨B2⟩
instance:HSl Tryz.prog 22 75:=⟨B3⟩
instance:HSz Tryz.prog 75 6:=⟨xg⟩
instance:HAg Tryz.prog 75 true:=⟨xh⟩
instance:HFo Tryz.prog 75 1 1:=⟨xi⟩
instance:HAg Tryz.prog 23 false:=⟨cB⟩
instance:HSl Tryz.prog 23 3:=⟨bT⟩
instance:HFo Tryz.prog 75 2 2:=⟨xj⟩
instance:HFo Tryz.prog 75 3 3:=⟨xk⟩
instance:HFo Tryz.prog 75 4 4:=⟨xl⟩
instance:HAg Tryz.prog 9 false:=⟨pl⟩
instance:HFo Tryz.prog 75 5 5:=⟨xm⟩
instance:HFo Tryz.prog 25 1 1:=⟨xn⟩
instance:HAg Tryz.prog 38 true:=⟨rB⟩
instance:HSz Tryz.prog 38 2:=⟨rC⟩
instance:HFo Tryz.prog 38 0 0:=⟨pC⟩
instance:HFo Tryz.prog 38 1 1:=⟨pD⟩
instance:HSl Tryz.prog 29 65:=⟨fX⟩
instance:HSz Tryz.prog 65 6:=⟨eY⟩
instance:HFo Tryz.prog 75 0 0:=⟨sZ⟩
instance:HAg Tryz.prog 3 false:=⟨fR⟩
instance:HFo Tryz.prog 65 0 0:=⟨fS⟩
instance:HSz Tryz.prog 3 1:=⟨cS⟩
instance:HFo Tryz.prog 65 1 1:=⟨mK⟩
instance:HSz Tryz.prog 23 1:=⟨gB⟩
instance:HFo Tryz.prog 65 2 2:=⟨iG⟩
instance:HFo Tryz.prog 65 3 3:=⟨gJ⟩
instance:HFo Tryz.prog 65 4 4:=⟨lx⟩
instance:HSz Tryz.prog 9 1:=⟨rD⟩
instance:HFo Tryz.prog 65 5 5:=⟨kB⟩
instance:HAg Tryz.prog 65 true:=⟨ni⟩
instance:HFo Tryz.prog 31 0 0:=⟨eF⟩
instance:HSz Tryz.prog 29 1:=⟨xq⟩
instance:HFo Tryz.prog 31 1 1:=⟨nQ⟩
instance:HAg Tryz.prog 31 true:=⟨gK⟩
instance:HSz Tryz.prog 31 2:=⟨eG⟩
instance:HFo Tryz.prog 42 0 0:=⟨fT⟩
instance:HFo Tryz.prog 42 1 1:=⟨ka⟩
instance:HAg Tryz.prog 42 true:=⟨eR⟩
instance:HSz Tryz.prog 42 2:=⟨bW⟩
instance:HSl Tryz.prog 79 42:=⟨gX⟩
instance:HAg Tryz.prog 29 false:=⟨iO⟩
instance:HSl Tryz.prog 149 9:=⟨lV⟩
instance:HSl Tryz.prog 54 23:=⟨kC⟩
instance:HSz Tryz.prog 111 4:=⟨bX⟩
instance:HFo Tryz.prog 111 1 1:=⟨fK⟩
instance:HAg Tryz.prog 111 true:=⟨eU⟩
instance:HFo Tryz.prog 111 0 0:=⟨fW⟩
instance:HFo Tryz.prog 111 3 3:=⟨uR⟩
instance:HFo Tryz.prog 111 2 2:=⟨mj⟩
instance:HFo Tryz.prog 122 0 0:=⟨uX⟩
instance:HAg Tryz.prog 4 false:=⟨ag4⟩
instance:HFo Tryz.prog 131 0 0:=⟨uY⟩
instance:HSz Tryz.prog 198 7:=⟨i'⟩
instance:HSz Tryz.prog 201 26:=⟨ww⟩
instance:HFo Tryz.prog 198 2 2:=⟨uZ⟩
instance:HFo Tryz.prog 198 3 3:=⟨u'⟩
instance:HFo Tryz.prog 198 4 4:=⟨v6⟩
instance:HFo Tryz.prog 198 5 5:=⟨qG⟩
instance:HAg Tryz.prog 54 false:=⟨Bu⟩
instance:HAg Tryz.prog 198 true:=⟨mQ⟩
instance:HSz Tryz.prog 54 1:=⟨zL⟩
instance:HFo Tryz.prog 198 6 6:=⟨qH⟩
instance:HFo Tryz.prog 131 1 1:=⟨v7⟩
instance:HAg Tryz.prog 129 false:=⟨zN⟩
instance:HSl Tryz.prog 133 165:=⟨fO⟩
instance:HSz Tryz.prog 165 2:=⟨fP⟩
instance:HSz Tryz.prog 133 1:=⟨tc⟩
instance:HAg Tryz.prog 133 false:=⟨zY⟩
instance:HAg Tryz.prog 136 false:=⟨Ab⟩
instance:HAg Tryz.prog 165 true:=⟨wz⟩
instance:HFo Tryz.prog 165 0 0:=⟨qL⟩
instance:HFo Tryz.prog 165 1 1:=⟨qO⟩
instance:HSl Tryz.prog 103 5:=⟨tg⟩
instance:HSz Tryz.prog 5 1:=⟨C9⟩
end Go.Proofs.YthelanpdjajnbaaGreat
