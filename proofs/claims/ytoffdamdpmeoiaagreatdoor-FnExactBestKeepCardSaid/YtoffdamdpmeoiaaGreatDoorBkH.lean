import Derived.Test.YtoffdamdpmeoiaaGreatDoorPg19
import Derived.Test.YtoffdamdpmeoiaaGreatDoorStLB
import Derived.Test.YtoffdamdpmeoiaaGreatDoorPg39
import Derived.Test.YtoffdamdpmeoiaaGreatDoorPg33
import Derived.Test.YtoffdamdpmeoiaaGreatDoorProg
set_option linter.unusedVariables false
namespace Go.Proofs.YtoffdamdpmeoiaaGreatDoor
open Go Go.Pg
structure Node where
 Op:Int
 Args:(List Int)
 Dims:(List Int)
 Ints:(List Int)
 Form:aN
 Data:(List Int)
 deriving Inhabited,DecidableEq
structure Graph where
 Nodes:(List Node)
 Outs:(List Int)
 deriving Inhabited,DecidableEq
structure Tensor where
 Dims:(List Int)
 Data:(List Int)
 deriving Inhabited,DecidableEq
structure View where
 Dims:(List Int)
 Strides:(List Int)
 Offset:Int
 Base:Int
 deriving Inhabited,DecidableEq
structure leafKind where
 data:Bool
 deriving Inhabited,DecidableEq
structure pairKind where
 op:Int
 deriving Inhabited,DecidableEq
structure soloKind where
 op:Int
 deriving Inhabited,DecidableEq
structure topKind where
 deriving Inhabited,DecidableEq
structure formKind where
 deriving Inhabited,DecidableEq
structure shiftKind where
 use:aN
 deriving Inhabited,DecidableEq
structure form where
 groups:(List aN)
 out_:aN
 order:aN
 loops:(List Int)
 dims:(List Int)
 steps:(List (List Int))
 store:(List Int)
 deriving Inhabited,DecidableEq
structure pair where
 from_:Int
 to:Int
 deriving Inhabited,DecidableEq
def str0:aN:=[45,62]
def hU:aN:=[100]
def fI:aN:=[105]
def pE:aN:=[100,120]
def kL:aN:=[102]
def pF:aN:=[120]
def str6:aN:=[44]
def Ar:aN:=[109,48]
def str9:aN:=[109]
theorem bS:Tryz.prog.follows .mixedOrders=true:=by kernel_rfl
abbrev kT3:Kind Int:=Kind.int .i64
def Cd:DecK kT3:=DecK.scal _ _
def gM:MkO kT3:=MkO.scal _ _
def sP3:SpO kT3:=SpO.scal _ _
def zT3:Zr kT3:=Zr.scal _ _ 0
theorem jw:kT3.Closed:=Kind.scal_closed _ _
abbrev bF:Kind (List Int):=Kind.sl 3 kT3
def dT23:DecK bF:=DecK.sl 3 kT3
def sI:MkS bF:=MkS.sl 3 kT3
def nh:MkO bF:=MkO.sl 3 kT3
def vV:SpO bF:=SpO.sl 3 kT3
def zT23:Zr bF:=Zr.sl 3 kT3
abbrev dX:Kind aN:=Kind.str
def dT9:DecK dX:=DecK.scal _ _
def zV:MkO dX:=MkO.scal _ _
def sP9:SpO dX:=SpO.scal _ _
def zT9:Zr dX:=Zr.scal _ _ []
abbrev ks:Kind Node:=Kind.iso (Kind.pair kT3 (Kind.pair bF (Kind.pair bF (Kind.pair bF (Kind.pair dX bF))))) (fun x:Node=>(x.Op,x.Args,x.Dims,x.Ints,x.Form,x.Data))
def dT75:DecK ks:=DecK.iso (DecK.pair Cd (DecK.pair dT23 (DecK.pair dT23 (DecK.pair dT23 (DecK.pair dT9 dT23))))) _
abbrev cJ:Kind Node:=Kind.iso (Kind.pair kT3 (Kind.pair bF (Kind.pair bF (Kind.pair bF (Kind.pair dX bF))))) (fun x:Node=>(x.Op,x.Args,x.Dims,x.Ints,x.Form,x.Data))
def dT42:DecK cJ:=DecK.iso (DecK.pair Cd (DecK.pair dT23 (DecK.pair dT23 (DecK.pair dT23 (DecK.pair dT9 dT23))))) _
def qw:MkO cJ:=MkO.iso (MkO.pair gM (MkO.pair nh (MkO.pair nh (MkO.pair nh (MkO.pair zV nh))))) _
def sJ:SpO cJ:=SpO.iso (SpO.pair sP3 (SpO.pair vV (SpO.pair vV (SpO.pair vV (SpO.pair sP9 vV))))) _
def zT42:Zr cJ:=Zr.iso (Zr.pair zT3 (Zr.pair zT23 (Zr.pair zT23 (Zr.pair zT23 (Zr.pair zT9 zT23))))) _ ⟨zT3.z,zT23.z,zT23.z,zT23.z,zT9.z,zT23.z⟩ rfl
abbrev dY:Kind Tensor:=Kind.iso (Kind.pair bF bF) (fun x:Tensor=>(x.Dims,x.Data))
def dT77:DecK dY:=DecK.iso (DecK.pair dT23 dT23) _
def As:MkS dY:=MkS.iso (MkS.pair sI sI) _
def vW:MkO dY:=MkO.iso (MkO.pair nh nh) _
def At:Zr dY:=Zr.iso (Zr.pair zT23 zT23) _ ⟨zT23.z,zT23.z⟩ rfl
abbrev kT179:Kind pair:=Kind.iso (Kind.pair kT3 kT3) (fun x:pair=>(x.from_,x.to))
def Au:DecK kT179:=DecK.iso (DecK.pair Cd Cd) _
def jI:MkO kT179:=MkO.iso (MkO.pair gM gM) _
def zT179:Zr kT179:=Zr.iso (Zr.pair zT3 zT3) _ ⟨zT3.z,zT3.z⟩ rfl
theorem tZ:kT179.Closed:=Kind.iso_closed (Kind.pair_closed jw jw) _
abbrev E2:Kind Int:=Kind.int .u8
def mO5:MkO E2:=MkO.scal _ _
theorem CE:fO Tryz.prog 25=some true:=by kernel_rfl
theorem CF:iK Tryz.prog 25=some 2:=by kernel_rfl
theorem yo:dK Tryz.prog 25 0=some 0:=by kernel_rfl
theorem CG:fO Tryz.prog 22=some false:=by kernel_rfl
theorem CH:mz Tryz.prog 22=some 75:=by kernel_rfl
theorem yp:iK Tryz.prog 75=some 6:=by kernel_rfl
theorem yq:fO Tryz.prog 75=some true:=by kernel_rfl
theorem yr:dK Tryz.prog 75 1=some 1:=by kernel_rfl
theorem cH:fO Tryz.prog 23=some false:=by kernel_rfl
theorem bH:mz Tryz.prog 23=some 3:=by kernel_rfl
theorem t':aW Tryz.prog 22=true:=by kernel_rfl
theorem yt:dK Tryz.prog 75 2=some 2:=by kernel_rfl
theorem yu:dK Tryz.prog 75 3=some 3:=by kernel_rfl
theorem yv:dK Tryz.prog 75 4=some 4:=by kernel_rfl
theorem qh:fO Tryz.prog 9=some false:=by kernel_rfl
theorem f':Tryz.prog.underlying 9=some .string:=by kernel_rfl
theorem yw:dK Tryz.prog 75 5=some 5:=by kernel_rfl
theorem CI:aW Tryz.prog 44=true:=by kernel_rfl
theorem CJ:aW Tryz.prog 21=true:=by kernel_rfl
theorem yx:dK Tryz.prog 25 1=some 1:=by kernel_rfl
theorem cb5:aW Tryz.prog 5=true:=by kernel_rfl
theorem yy:kW Tryz.prog 30=some [(.slice none 0 0),(.slice none 0 0)]:=by kernel_rfl
theorem jx:mz Tryz.prog 28=some 42:=by kernel_rfl
theorem hH:iK Tryz.prog 42=some 6:=by kernel_rfl
theorem CK:hR Tryz.prog 42=some 120:=by kernel_rfl
theorem qx:kW Tryz.prog 42=some [(iv 0),(.slice none 0 0),(.slice none 0 0),(.slice none 0 0),(aG ([]:aN)),(.slice none 0 0)]:=by kernel_rfl
theorem u0:dK Tryz.prog 75 0=some 0:=by kernel_rfl
theorem fC:fO Tryz.prog 3=some false:=by kernel_rfl
theorem jW:dK Tryz.prog 42 0=some 0:=by kernel_rfl
theorem cO:iK Tryz.prog 3=some 1:=by kernel_rfl
theorem kE:hR Tryz.prog 3=some 8:=by kernel_rfl
theorem gN:kW Tryz.prog 3=some [(iv 0)]:=by kernel_rfl
theorem oD:dK Tryz.prog 42 1=some 1:=by kernel_rfl
theorem fK:iK Tryz.prog 23=some 1:=by kernel_rfl
theorem u3:aW Tryz.prog 28=true:=by kernel_rfl
theorem kY:dK Tryz.prog 42 2=some 2:=by kernel_rfl
theorem hW:dK Tryz.prog 42 3=some 3:=by kernel_rfl
theorem qy:dK Tryz.prog 42 4=some 4:=by kernel_rfl
theorem pG:iK Tryz.prog 9=some 1:=by kernel_rfl
theorem oE:dK Tryz.prog 42 5=some 5:=by kernel_rfl
theorem ni:fO Tryz.prog 42=some true:=by kernel_rfl
theorem CL:aW Tryz.prog 48=true:=by kernel_rfl
theorem jy:dK Tryz.prog 30 0=some 0:=by kernel_rfl
theorem Av:iK Tryz.prog 28=some 1:=by kernel_rfl
theorem CM:aW Tryz.prog 27=true:=by kernel_rfl
theorem yz:dK Tryz.prog 30 1=some 1:=by kernel_rfl
theorem oG:fO Tryz.prog 30=some true:=by kernel_rfl
theorem nj:iK Tryz.prog 30=some 2:=by kernel_rfl
theorem gK:mz Tryz.prog 71=some 77:=by kernel_rfl
theorem bX:iK Tryz.prog 77=some 2:=by kernel_rfl
theorem eG:kW Tryz.prog 77=some [(.slice none 0 0),(.slice none 0 0)]:=by kernel_rfl
theorem nR:fO Tryz.prog 28=some false:=by kernel_rfl
theorem CN:aW Tryz.prog 84=true:=by kernel_rfl
theorem CO:aW Tryz.prog 85=true:=by kernel_rfl
theorem CP:aW Tryz.prog 86=true:=by kernel_rfl
theorem CQ:aW Tryz.prog 64=true:=by kernel_rfl
theorem vX:aW Tryz.prog 65=true:=by kernel_rfl
theorem fX:fO Tryz.prog 77=some true:=by kernel_rfl
theorem Aw:hR Tryz.prog 77=some 48:=by kernel_rfl
theorem hJ:gL Tryz.prog 77=some [(0,1),(1,1)]:=by kernel_rfl
theorem j7:dK Tryz.prog 77 0=some 0:=by kernel_rfl
theorem nS:aW Tryz.prog 40=true:=by kernel_rfl
theorem u4:dK Tryz.prog 77 1=some 1:=by kernel_rfl
theorem iT:aW Tryz.prog 101=true:=by kernel_rfl
theorem oH:aW Tryz.prog 68=true:=by kernel_rfl
theorem kt:aW Tryz.prog 70=true:=by kernel_rfl
theorem yA:aW Tryz.prog 69=true:=by kernel_rfl
theorem xh:aW Tryz.prog 154=true:=by kernel_rfl
theorem Ax:aW Tryz.prog 120=true:=by kernel_rfl
theorem lr:aW Tryz.prog 102=true:=by kernel_rfl
theorem ms:aW Tryz.prog 121=true:=by kernel_rfl
theorem u5:aW Tryz.prog 133=true:=by kernel_rfl
theorem o0:aW Tryz.prog 131=true:=by kernel_rfl
theorem kc:aW Tryz.prog 103=true:=by kernel_rfl
theorem pH:aW Tryz.prog 127=true:=by kernel_rfl
theorem rM:aW Tryz.prog 134=true:=by kernel_rfl
theorem xi:aW Tryz.prog 153=true:=by kernel_rfl
theorem pI:aW Tryz.prog 130=true:=by kernel_rfl
theorem xj:aW Tryz.prog 166=true:=by kernel_rfl
theorem xk:aW Tryz.prog 155=true:=by kernel_rfl
theorem Ay:aW Tryz.prog 152=true:=by kernel_rfl
theorem xl:aW Tryz.prog 123=true:=by kernel_rfl
theorem Az:aW Tryz.prog 122=true:=by kernel_rfl
theorem CR:aW Tryz.prog 87=true:=by kernel_rfl
theorem AB:aW Tryz.prog 124=true:=by kernel_rfl
theorem CS:aW Tryz.prog 88=true:=by kernel_rfl
theorem pJ:aW Tryz.prog 125=true:=by kernel_rfl
theorem lu:aW Tryz.prog 141=true:=by kernel_rfl
theorem AC:aW Tryz.prog 126=true:=by kernel_rfl
theorem CT:aW Tryz.prog 89=true:=by kernel_rfl
theorem j8:mz Tryz.prog 164=some 9:=by kernel_rfl
theorem AD:kW Tryz.prog 9=some [(aG ([]:aN))]:=by kernel_rfl
theorem E3:hR Tryz.prog 9=some 16:=by kernel_rfl
theorem xm:aW Tryz.prog 156=true:=by kernel_rfl
theorem xn:aW Tryz.prog 119=true:=by kernel_rfl
theorem AE:aW Tryz.prog 128=true:=by kernel_rfl
theorem iW:mz Tryz.prog 50=some 23:=by kernel_rfl
theorem lv:kW Tryz.prog 23=some [(.slice none 0 0)]:=by kernel_rfl
theorem u6:hR Tryz.prog 23=some 24:=by kernel_rfl
theorem AF:aW Tryz.prog 129=true:=by kernel_rfl
theorem AG:aW Tryz.prog 132=true:=by kernel_rfl
theorem CU:aW Tryz.prog 90=true:=by kernel_rfl
theorem cI:kW Tryz.prog 125=some [(.slice none 0 0),(.slice none 0 0),(iv 0),(iv 0)]:=by kernel_rfl
theorem eJ:gL Tryz.prog 125=some [(0,1),(1,1),(2,1),(3,1)]:=by kernel_rfl
theorem bU:iK Tryz.prog 125=some 4:=by kernel_rfl
theorem eX:dK Tryz.prog 125 1=some 1:=by kernel_rfl
theorem eR:fO Tryz.prog 125=some true:=by kernel_rfl
theorem eE:dK Tryz.prog 125 0=some 0:=by kernel_rfl
theorem AH:aW Tryz.prog 137=true:=by kernel_rfl
theorem rN:dK Tryz.prog 125 3=some 3:=by kernel_rfl
theorem lx:dK Tryz.prog 125 2=some 2:=by kernel_rfl
theorem AI:aW Tryz.prog 157=true:=by kernel_rfl
theorem rO:aW Tryz.prog 136=true:=by kernel_rfl
theorem mt:aW Tryz.prog 135=true:=by kernel_rfl
theorem vY:aW Tryz.prog 93=true:=by kernel_rfl
theorem CV:aW Tryz.prog 92=true:=by kernel_rfl
theorem vZ:aW Tryz.prog 91=true:=by kernel_rfl
theorem CW:aW Tryz.prog 94=true:=by kernel_rfl
theorem xo:aW Tryz.prog 138=true:=by kernel_rfl
theorem xp:aW Tryz.prog 139=true:=by kernel_rfl
theorem xq:aW Tryz.prog 140=true:=by kernel_rfl
theorem CX:aW Tryz.prog 95=true:=by kernel_rfl
theorem u7:aW Tryz.prog 142=true:=by kernel_rfl
theorem CY:aW Tryz.prog 96=true:=by kernel_rfl
theorem CZ:aW Tryz.prog 97=true:=by kernel_rfl
theorem C':aW Tryz.prog 98=true:=by kernel_rfl
theorem D0:aW Tryz.prog 99=true:=by kernel_rfl
theorem AJ:aW Tryz.prog 100=true:=by kernel_rfl
theorem D1:aW Tryz.prog 66=true:=by kernel_rfl
theorem Da:aW Tryz.prog 67=true:=by kernel_rfl
theorem AK:aW Tryz.prog 43=true:=by kernel_rfl
theorem Db:aW Tryz.prog 18=true:=by kernel_rfl
theorem Dc:aW Tryz.prog 23=true:=by kernel_rfl
theorem Dd:Tryz.prog.underlying 3=some (.int .i64):=by kernel_rfl
theorem AL:Tryz.prog.underlying 52=some (.int .u64):=by kernel_rfl
theorem v':aW Tryz.prog 45=true:=by kernel_rfl
theorem AM:aW Tryz.prog 46=true:=by kernel_rfl
theorem AN:aW Tryz.prog 47=true:=by kernel_rfl
theorem De:aW Tryz.prog 24=true:=by kernel_rfl
theorem Df:aW Tryz.prog 25=true:=by kernel_rfl
theorem Dg:aW Tryz.prog 26=true:=by kernel_rfl
theorem Ce:aW Tryz.prog 7=true:=by kernel_rfl
theorem cb6:aW Tryz.prog 6=true:=by kernel_rfl
theorem xr:gL Tryz.prog 137=some [(0,1)]:=by kernel_rfl
theorem xt:kW Tryz.prog 137=some [(.bool false)]:=by kernel_rfl
theorem xu:Tryz.prog.concrete 137=true:=by kernel_rfl
theorem AO:gL Tryz.prog 139=some [(0,1)]:=by kernel_rfl
theorem AP:kW Tryz.prog 139=some [(iv 0)]:=by kernel_rfl
theorem AQ:Tryz.prog.concrete 139=true:=by kernel_rfl
theorem AR:gL Tryz.prog 140=some [(0,1)]:=by kernel_rfl
theorem AS:kW Tryz.prog 140=some [(iv 0)]:=by kernel_rfl
theorem AT:Tryz.prog.concrete 140=true:=by kernel_rfl
theorem AU:gL Tryz.prog 142=some []:=by kernel_rfl
theorem AV:kW Tryz.prog 142=some []:=by kernel_rfl
theorem AW:Tryz.prog.concrete 142=true:=by kernel_rfl
theorem AX:gL Tryz.prog 143=some []:=by kernel_rfl
theorem AY:kW Tryz.prog 143=some []:=by kernel_rfl
theorem AZ:Tryz.prog.concrete 143=true:=by kernel_rfl
theorem nk:gL Tryz.prog 146=some [(0,1),(1,1)]:=by kernel_rfl
theorem nl:kW Tryz.prog 146=some [(aG ([]:aN)),.nilFunc]:=by kernel_rfl
theorem np:Tryz.prog.concrete 146=true:=by kernel_rfl
theorem rP:aW Tryz.prog 106=true:=by kernel_rfl
theorem Dh:aW Tryz.prog 71=true:=by kernel_rfl
theorem w0:dK Tryz.prog 137 0=some 0:=by kernel_rfl
theorem ag4:fO Tryz.prog 4=some false:=by kernel_rfl
theorem w4:dK Tryz.prog 146 0=some 0:=by kernel_rfl
theorem qz (v:Value)(args:Array Value)(w:World):(callMethod (.iface 137 v) "loop.example/g00033/impl.uses" args).run Tryz.prog w=.ok (.enter 198 (#[v]++args)) w:=by kernel_rfl
theorem qB (v:Value)(args:Array Value)(w:World):(callMethod (.iface 139 v) "loop.example/g00033/impl.uses" args).run Tryz.prog w=.ok (.enter 203 (#[v]++args)) w:=by kernel_rfl
theorem qC (v:Value)(args:Array Value)(w:World):(callMethod (.iface 140 v) "loop.example/g00033/impl.uses" args).run Tryz.prog w=.ok (.enter 206 (#[v]++args)) w:=by kernel_rfl
theorem qD (v:Value)(args:Array Value)(w:World):(callMethod (.iface 142 v) "loop.example/g00033/impl.uses" args).run Tryz.prog w=.ok (.enter 208 (#[v]++args)) w:=by kernel_rfl
theorem qG (v:Value)(args:Array Value)(w:World):(callMethod (.iface 143 v) "loop.example/g00033/impl.uses" args).run Tryz.prog w=.ok (.enter 210 (#[v]++args)) w:=by kernel_rfl
theorem hX (v:Value)(args:Array Value)(w:World):(callMethod (.iface 146 v) "loop.example/g00033/impl.uses" args).run Tryz.prog w=.ok (.enter 226 (#[v]++args)) w:=by kernel_rfl
theorem xv:aW Tryz.prog 165=true:=by kernel_rfl
theorem xw:aW Tryz.prog 151=true:=by kernel_rfl
theorem B0:aW Tryz.prog 116=true:=by kernel_rfl
theorem j9:aW Tryz.prog 115=true:=by kernel_rfl
theorem B1:aW Tryz.prog 72=true:=by kernel_rfl
theorem B2:aW Tryz.prog 201=true:=by kernel_rfl
theorem jK:aW Tryz.prog 145=true:=by kernel_rfl
theorem m9:aW Tryz.prog 52=true:=by kernel_rfl
theorem B3:aW Tryz.prog 200=true:=by kernel_rfl
theorem B4:aW Tryz.prog 199=true:=by kernel_rfl
theorem B5:aW Tryz.prog 204=true:=by kernel_rfl
theorem hM:aW Tryz.prog 147=true:=by kernel_rfl
theorem ly:kW Tryz.prog 211=some [(.slice none 0 0),(aG ([]:aN)),(aG ([]:aN)),(.slice none 0 0),(.slice none 0 0),(.slice none 0 0),(.slice none 0 0)]:=by kernel_rfl
theorem B6:aW Tryz.prog 217=true:=by kernel_rfl
theorem B7:aW Tryz.prog 215=true:=by kernel_rfl
theorem B8:aW Tryz.prog 220=true:=by kernel_rfl
theorem B9:aW Tryz.prog 218=true:=by kernel_rfl
theorem Ba:aW Tryz.prog 216=true:=by kernel_rfl
theorem Bb:aW Tryz.prog 175=true:=by kernel_rfl
theorem rQ:aW Tryz.prog 213=true:=by kernel_rfl
theorem Bc:aW Tryz.prog 212=true:=by kernel_rfl
theorem o3:gL Tryz.prog 211=some [(0,1),(1,1),(2,1),(3,1),(4,1),(5,1),(6,1)]:=by kernel_rfl
theorem hN:iK Tryz.prog 211=some 7:=by kernel_rfl
theorem u9:Ah Tryz.prog 214=some (26,3):=by kernel_rfl
theorem xx:kW Tryz.prog 214=some [(iv 0),(iv 0),(iv 0),(iv 0),(iv 0),(iv 0),(iv 0),(iv 0),(iv 0),(iv 0),(iv 0),(iv 0),(iv 0),(iv 0),(iv 0),(iv 0),(iv 0),(iv 0),(iv 0),(iv 0),(iv 0),(iv 0),(iv 0),(iv 0),(iv 0),(iv 0)]:=by kernel_rfl
theorem xy:iK Tryz.prog 214=some 26:=by kernel_rfl
theorem kF:dK Tryz.prog 211 2=some 2:=by kernel_rfl
theorem mN:dK Tryz.prog 211 3=some 3:=by kernel_rfl
theorem mO:dK Tryz.prog 211 4=some 4:=by kernel_rfl
theorem gV:aW Tryz.prog 164=true:=by kernel_rfl
theorem oI:dK Tryz.prog 211 5=some 5:=by kernel_rfl
theorem Bd:fO Tryz.prog 50=some false:=by kernel_rfl
theorem kP:fO Tryz.prog 211=some true:=by kernel_rfl
theorem Be:iK Tryz.prog 50=some 1:=by kernel_rfl
theorem ua:aW Tryz.prog 168=true:=by kernel_rfl
theorem xz:aW Tryz.prog 214=true:=by kernel_rfl
theorem rR:dK Tryz.prog 211 6=some 6:=by kernel_rfl
theorem Bf:aW Tryz.prog 211=true:=by kernel_rfl
theorem w6:dK Tryz.prog 146 1=some 1:=by kernel_rfl
theorem Bg:fO Tryz.prog 144=some false:=by kernel_rfl
theorem Bh:aW Tryz.prog 160=true:=by kernel_rfl
theorem nq:aW Tryz.prog 158=true:=by kernel_rfl
theorem Bi:aW Tryz.prog 170=true:=by kernel_rfl
theorem ub:aW Tryz.prog 169=true:=by kernel_rfl
theorem Bj:aW Tryz.prog 161=true:=by kernel_rfl
theorem uc:aW Tryz.prog 172=true:=by kernel_rfl
theorem Bk:aW Tryz.prog 171=true:=by kernel_rfl
theorem Bl:aW Tryz.prog 162=true:=by kernel_rfl
theorem Bm:aW Tryz.prog 174=true:=by kernel_rfl
theorem Bn:aW Tryz.prog 173=true:=by kernel_rfl
theorem Bo:aW Tryz.prog 163=true:=by kernel_rfl
theorem fT:mz Tryz.prog 148=some 179:=by kernel_rfl
theorem fU:iK Tryz.prog 179=some 2:=by kernel_rfl
theorem fF:kW Tryz.prog 179=some [(iv 0),(iv 0)]:=by kernel_rfl
theorem Bp:kW Tryz.prog 148=some [(.slice none 0 0)]:=by kernel_rfl
theorem ue:iK Tryz.prog 148=some 1:=by kernel_rfl
theorem Bq:aW Tryz.prog 159=true:=by kernel_rfl
theorem Br:fO Tryz.prog 148=some false:=by kernel_rfl
theorem nr:gL Tryz.prog 179=some [(0,1),(1,1)]:=by kernel_rfl
theorem mu:hR Tryz.prog 179=some 16:=by kernel_rfl
theorem Bs:aW Tryz.prog 167=true:=by kernel_rfl
theorem Bt:aW Tryz.prog 144=true:=by kernel_rfl
theorem Bu:aW Tryz.prog 143=true:=by kernel_rfl
theorem Bv:aW Tryz.prog 104=true:=by kernel_rfl
theorem Bw:aW Tryz.prog 105=true:=by kernel_rfl
theorem Bx:fO Tryz.prog 151=some false:=by kernel_rfl
theorem rS:aW Tryz.prog 148=true:=by kernel_rfl
theorem xA:aW Tryz.prog 150=true:=by kernel_rfl
theorem xB:fO Tryz.prog 179=some true:=by kernel_rfl
theorem rT:dK Tryz.prog 179 0=some 0:=by kernel_rfl
theorem rU:dK Tryz.prog 179 1=some 1:=by kernel_rfl
theorem uf:aW Tryz.prog 149=true:=by kernel_rfl
theorem By:aW Tryz.prog 108=true:=by kernel_rfl
theorem Bz:aW Tryz.prog 107=true:=by kernel_rfl
theorem rV:aW Tryz.prog 146=true:=by kernel_rfl
theorem BA:aW Tryz.prog 110=true:=by kernel_rfl
theorem BC:aW Tryz.prog 109=true:=by kernel_rfl
theorem BD:aW Tryz.prog 112=true:=by kernel_rfl
theorem BE:aW Tryz.prog 111=true:=by kernel_rfl
theorem BF:aW Tryz.prog 114=true:=by kernel_rfl
theorem BG:aW Tryz.prog 113=true:=by kernel_rfl
theorem pK (v:Value)(args:Array Value)(w:World):(callMethod (.iface 137 v) "loop.example/g00033/impl.shape" args).run Tryz.prog w=.ok (.enter 197 (#[v]++args)) w:=by kernel_rfl
theorem pL (v:Value)(args:Array Value)(w:World):(callMethod (.iface 139 v) "loop.example/g00033/impl.shape" args).run Tryz.prog w=.ok (.enter 202 (#[v]++args)) w:=by kernel_rfl
theorem pM (v:Value)(args:Array Value)(w:World):(callMethod (.iface 140 v) "loop.example/g00033/impl.shape" args).run Tryz.prog w=.ok (.enter 205 (#[v]++args)) w:=by kernel_rfl
theorem pN (v:Value)(args:Array Value)(w:World):(callMethod (.iface 142 v) "loop.example/g00033/impl.shape" args).run Tryz.prog w=.ok (.enter 207 (#[v]++args)) w:=by kernel_rfl
theorem pO (v:Value)(args:Array Value)(w:World):(callMethod (.iface 143 v) "loop.example/g00033/impl.shape" args).run Tryz.prog w=.ok (.enter 209 (#[v]++args)) w:=by kernel_rfl
theorem gQ (v:Value)(args:Array Value)(w:World):(callMethod (.iface 146 v) "loop.example/g00033/impl.shape" args).run Tryz.prog w=.ok (.enter 225 (#[v]++args)) w:=by kernel_rfl
theorem Di:aW Tryz.prog 49=true:=by kernel_rfl
theorem Dj:aW Tryz.prog 29=true:=by kernel_rfl
theorem Dk:kW Tryz.prog 52=some [(.int .u64 (0:Int))]:=by kernel_rfl
theorem BH:iK Tryz.prog 52=some 1:=by kernel_rfl
theorem BI:fO Tryz.prog 52=some false:=by kernel_rfl
theorem w7:aW Tryz.prog 30=true:=by kernel_rfl
theorem BJ:aW Tryz.prog 50=true:=by kernel_rfl
theorem BK:aW Tryz.prog 51=true:=by kernel_rfl
theorem Dl:aW Tryz.prog 31=true:=by kernel_rfl
theorem Dn:aW Tryz.prog 53=true:=by kernel_rfl
theorem Dp:aW Tryz.prog 32=true:=by kernel_rfl
theorem Dq:aW Tryz.prog 33=true:=by kernel_rfl
theorem BL:aW Tryz.prog 73=true:=by kernel_rfl
theorem Dr:aW Tryz.prog 56=true:=by kernel_rfl
theorem Ds:aW Tryz.prog 34=true:=by kernel_rfl
theorem E4:aW Tryz.prog 8=true:=by kernel_rfl
theorem xC:aW Tryz.prog 9=true:=by kernel_rfl
theorem Dt:aW Tryz.prog 57=true:=by kernel_rfl
theorem Du:aW Tryz.prog 35=true:=by kernel_rfl
theorem Dw:aW Tryz.prog 10=true:=by kernel_rfl
theorem sK:aW Tryz.prog 12=true:=by kernel_rfl
theorem E5:Tryz.prog.underlying 5=some (.int .u8):=by kernel_rfl
theorem yB:mz Tryz.prog 37=some 5:=by kernel_rfl
theorem E6:iK Tryz.prog 5=some 1:=by kernel_rfl
theorem zc5:kW Tryz.prog 5=some [(.int .u8 (0:Int))]:=by kernel_rfl
theorem Dx:aW Tryz.prog 58=true:=by kernel_rfl
theorem Dy:aW Tryz.prog 36=true:=by kernel_rfl
theorem Dz:aW Tryz.prog 11=true:=by kernel_rfl
theorem BM:aW Tryz.prog 13=true:=by kernel_rfl
structure kindOfR where
 t:Nat
 b0:Bool
 i0:Int
 i1:Int
 s0:aN
 deriving Inhabited,DecidableEq
def dM (r:kindOfR)(h:Nat×Nat×Nat):Value:=cond (Nat.beq r.t 0) .nilIface (cond (Nat.beq r.t 1) (.iface 137 (.agg [(.bool r.b0)].toArray)) (cond (Nat.beq r.t 2) (.iface 139 (.agg [(iv r.i0)].toArray)) (cond (Nat.beq r.t 3) (.iface 140 (.agg [(iv r.i0)].toArray)) (cond (Nat.beq r.t 4) (.iface 142 (.agg [].toArray)) (cond (Nat.beq r.t 5) (.iface 143 (.agg [].toArray)) (cond (Nat.beq r.t 6) (.iface 146 (.agg [(aG r.s0),(.func (.func 104) [].toArray [].toArray)].toArray)) (cond (Nat.beq r.t 7) (.iface 146 (.agg [(aG r.s0),(.func (.func 105) [].toArray [].toArray)].toArray)) (cond (Nat.beq r.t 8) (.iface 146 (.agg [(aG r.s0),(.func (.func 146) [].toArray [(pt h.1 0),(pt h.2.1 0),(pt h.2.2 0)].toArray)].toArray)) (cond (Nat.beq r.t 9) (.iface 146 (.agg [(aG r.s0),(.func (.func 146) [].toArray [(pt h.1 0),(pt h.2.1 0),(pt h.2.2 0)].toArray)].toArray)) (cond (Nat.beq r.t 10) (.iface 146 (.agg [(aG r.s0),(.func (.func 146) [].toArray [(pt h.1 0),(pt h.2.1 0),(pt h.2.2 0)].toArray)].toArray)) ((.iface 146 (.agg [(aG r.s0),(.func (.func 146) [].toArray [(pt h.1 0),(pt h.2.1 0),(pt h.2.2 0)].toArray)].toArray)))))))))))))
def fL (r:kindOfR)(h:Nat×Nat×Nat):HP:=cond (Nat.beq r.t 0) (pk []) (cond (Nat.beq r.t 1) (pk []) (cond (Nat.beq r.t 2) (pk []) (cond (Nat.beq r.t 3) (pk []) (cond (Nat.beq r.t 4) (pk []) (cond (Nat.beq r.t 5) (pk []) (cond (Nat.beq r.t 6) (pk []) (cond (Nat.beq r.t 7) (pk []) (cond (Nat.beq r.t 8) (pk [aK h.1 [(iv r.i0)] 3,aK h.2.1 [(iv r.i1)] 3,aK h.2.2 [(.func (.func 107) [].toArray [].toArray)] 151]) (cond (Nat.beq r.t 9) (pk [aK h.1 [(iv r.i0)] 3,aK h.2.1 [(iv r.i1)] 3,aK h.2.2 [(.func (.func 109) [].toArray [].toArray)] 151]) (cond (Nat.beq r.t 10) (pk [aK h.1 [(iv r.i0)] 3,aK h.2.1 [(iv r.i1)] 3,aK h.2.2 [(.func (.func 111) [].toArray [].toArray)] 151]) ((pk [aK h.1 [(iv r.i0)] 3,aK h.2.1 [(iv r.i1)] 3,aK h.2.2 [(.func (.func 113) [].toArray [].toArray)] 151]))))))))))))
theorem ns {C:World}{n:Nn}{V:List HP}{σ:dQ}{d:Option Nat}{ty:TypeId}{pos:String}{af:Array Edge}{gd:Option (Nat×Bool)}{x:Operand}{F:TypeId}{r:kindOfR}{h:Nat×Nat×Nat}(e:ev σ x=dM r h):VO ⟨Tryz.prog,n,C⟩ V σ ⟨d,.binOp .eql 103 x (.const .nilIface) F,ty,pos,af,gd⟩ (.bool (Nat.beq r.t 0)):=by
 rcases bo (Nat.beq r.t 0) with a | a
 ·rw [a]; exact vN (by kernel_rfl) (by rw [e]; simp only [dM,a,cond_true])
 rcases bo (Nat.beq r.t 1) with b | b
 ·rw [a]; exact j5 (by kernel_rfl) (by rw [e]; simp only [dM,a,b,cond_true,cond_false]; rfl)
 rcases bo (Nat.beq r.t 2) with i | i
 ·rw [a]; exact j5 (by kernel_rfl) (by rw [e]; simp only [dM,a,b,i,cond_true,cond_false]; rfl)
 rcases bo (Nat.beq r.t 3) with j | j
 ·rw [a]; exact j5 (by kernel_rfl) (by rw [e]; simp only [dM,a,b,i,j,cond_true,cond_false]; rfl)
 rcases bo (Nat.beq r.t 4) with l | l
 ·rw [a]; exact j5 (by kernel_rfl) (by rw [e]; simp only [dM,a,b,i,j,l,cond_true,cond_false]; rfl)
 rcases bo (Nat.beq r.t 5) with q | q
 ·rw [a]; exact j5 (by kernel_rfl) (by rw [e]; simp only [dM,a,b,i,j,l,q,cond_true,cond_false]; rfl)
 rcases bo (Nat.beq r.t 6) with u | u
 ·rw [a]; exact j5 (by kernel_rfl) (by rw [e]; simp only [dM,a,b,i,j,l,q,u,cond_true,cond_false]; rfl)
 rcases bo (Nat.beq r.t 7) with B | B
 ·rw [a]; exact j5 (by kernel_rfl) (by rw [e]; simp only [dM,a,b,i,j,l,q,u,B,cond_true,cond_false]; rfl)
 rcases bo (Nat.beq r.t 8) with D | D
 ·rw [a]; exact j5 (by kernel_rfl) (by rw [e]; simp only [dM,a,b,i,j,l,q,u,B,D,cond_true,cond_false]; rfl)
 rcases bo (Nat.beq r.t 9) with E | E
 ·rw [a]; exact j5 (by kernel_rfl) (by rw [e]; simp only [dM,a,b,i,j,l,q,u,B,D,E,cond_true,cond_false]; rfl)
 rcases bo (Nat.beq r.t 10) with s | s
 ·rw [a]; exact j5 (by kernel_rfl) (by rw [e]; simp only [dM,a,b,i,j,l,q,u,B,D,E,s,cond_true,cond_false]; rfl)
 rw [a]; exact j5 (by kernel_rfl) (by rw [e]; simp only [dM,a,b,i,j,l,q,u,B,D,E,s,cond_false]; rfl)
instance:HAg Tryz.prog 25 true:=⟨CE⟩
instance:HSz Tryz.prog 25 2:=⟨CF⟩
instance:HFo Tryz.prog 25 0 0:=⟨yo⟩
instance:HAg Tryz.prog 22 false:=⟨CG⟩
instance:HSl Tryz.prog 22 75:=⟨CH⟩
instance:HSz Tryz.prog 75 6:=⟨yp⟩
instance:HAg Tryz.prog 75 true:=⟨yq⟩
instance:HFo Tryz.prog 75 1 1:=⟨yr⟩
instance:HAg Tryz.prog 23 false:=⟨cH⟩
instance:HSl Tryz.prog 23 3:=⟨bH⟩
instance:HFo Tryz.prog 75 2 2:=⟨yt⟩
instance:HFo Tryz.prog 75 3 3:=⟨yu⟩
instance:HFo Tryz.prog 75 4 4:=⟨yv⟩
instance:HAg Tryz.prog 9 false:=⟨qh⟩
instance:HFo Tryz.prog 75 5 5:=⟨yw⟩
instance:HFo Tryz.prog 25 1 1:=⟨yx⟩
instance:HSl Tryz.prog 28 42:=⟨jx⟩
instance:HSz Tryz.prog 42 6:=⟨hH⟩
instance:HFo Tryz.prog 75 0 0:=⟨u0⟩
instance:HAg Tryz.prog 3 false:=⟨fC⟩
instance:HFo Tryz.prog 42 0 0:=⟨jW⟩
instance:HSz Tryz.prog 3 1:=⟨cO⟩
instance:HFo Tryz.prog 42 1 1:=⟨oD⟩
instance:HSz Tryz.prog 23 1:=⟨fK⟩
instance:HFo Tryz.prog 42 2 2:=⟨kY⟩
instance:HFo Tryz.prog 42 3 3:=⟨hW⟩
instance:HFo Tryz.prog 42 4 4:=⟨qy⟩
instance:HSz Tryz.prog 9 1:=⟨pG⟩
instance:HFo Tryz.prog 42 5 5:=⟨oE⟩
instance:HAg Tryz.prog 42 true:=⟨ni⟩
instance:HFo Tryz.prog 30 0 0:=⟨jy⟩
instance:HSz Tryz.prog 28 1:=⟨Av⟩
instance:HFo Tryz.prog 30 1 1:=⟨yz⟩
instance:HAg Tryz.prog 30 true:=⟨oG⟩
instance:HSz Tryz.prog 30 2:=⟨nj⟩
instance:HSl Tryz.prog 71 77:=⟨gK⟩
instance:HSz Tryz.prog 77 2:=⟨bX⟩
instance:HAg Tryz.prog 28 false:=⟨nR⟩
instance:HAg Tryz.prog 77 true:=⟨fX⟩
instance:HFo Tryz.prog 77 0 0:=⟨j7⟩
instance:HFo Tryz.prog 77 1 1:=⟨u4⟩
instance:HSl Tryz.prog 164 9:=⟨j8⟩
instance:HSl Tryz.prog 50 23:=⟨iW⟩
instance:HSz Tryz.prog 125 4:=⟨bU⟩
instance:HFo Tryz.prog 125 1 1:=⟨eX⟩
instance:HAg Tryz.prog 125 true:=⟨eR⟩
instance:HFo Tryz.prog 125 0 0:=⟨eE⟩
instance:HFo Tryz.prog 125 3 3:=⟨rN⟩
instance:HFo Tryz.prog 125 2 2:=⟨lx⟩
instance:HFo Tryz.prog 137 0 0:=⟨w0⟩
instance:HAg Tryz.prog 4 false:=⟨ag4⟩
instance:HFo Tryz.prog 146 0 0:=⟨w4⟩
instance:HSz Tryz.prog 211 7:=⟨hN⟩
instance:HSz Tryz.prog 214 26:=⟨xy⟩
instance:HFo Tryz.prog 211 2 2:=⟨kF⟩
instance:HFo Tryz.prog 211 3 3:=⟨mN⟩
instance:HFo Tryz.prog 211 4 4:=⟨mO⟩
instance:HFo Tryz.prog 211 5 5:=⟨oI⟩
instance:HAg Tryz.prog 50 false:=⟨Bd⟩
instance:HAg Tryz.prog 211 true:=⟨kP⟩
instance:HSz Tryz.prog 50 1:=⟨Be⟩
instance:HFo Tryz.prog 211 6 6:=⟨rR⟩
instance:HFo Tryz.prog 146 1 1:=⟨w6⟩
instance:HAg Tryz.prog 144 false:=⟨Bg⟩
instance:HSl Tryz.prog 148 179:=⟨fT⟩
instance:HSz Tryz.prog 179 2:=⟨fU⟩
instance:HSz Tryz.prog 148 1:=⟨ue⟩
instance:HAg Tryz.prog 148 false:=⟨Br⟩
instance:HAg Tryz.prog 151 false:=⟨Bx⟩
instance:HAg Tryz.prog 179 true:=⟨xB⟩
instance:HFo Tryz.prog 179 0 0:=⟨rT⟩
instance:HFo Tryz.prog 179 1 1:=⟨rU⟩
instance:HSz Tryz.prog 52 1:=⟨BH⟩
instance:HAg Tryz.prog 52 false:=⟨BI⟩
instance:HSl Tryz.prog 37 5:=⟨yB⟩
instance:HSz Tryz.prog 5 1:=⟨E6⟩
end Go.Proofs.YtoffdamdpmeoiaaGreatDoor
