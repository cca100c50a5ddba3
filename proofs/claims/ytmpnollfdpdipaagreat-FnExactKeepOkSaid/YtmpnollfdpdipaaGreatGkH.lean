import Derived.Test.YtmpnollfdpdipaaGreatPg22
import Derived.Test.YtmpnollfdpdipaaGreatStL
import Derived.Test.YtmpnollfdpdipaaGreatPg33
import Derived.Test.YtmpnollfdpdipaaGreatProg
set_option linter.unusedVariables false
namespace Go.Proofs.YtmpnollfdpdipaaGreat
open Go Go.Pg
structure Node where
 Op:Int
 Args:(List Int)
 Dims:(List Int)
 Ints:(List Int)
 Form:aM
 Data:(List Int)
 deriving Inhabited,DecidableEq
structure Graph where
 Nodes:(List Node)
 Outs:(List Int)
 deriving Inhabited,DecidableEq
structure Tensor where
 Dims:(List Int)
 Data:(List Int)
 deriving Inhabited,DecidableEq
structure View where
 Dims:(List Int)
 Strides:(List Int)
 Offset:Int
 Base:Int
 deriving Inhabited,DecidableEq
structure leafKind where
 data:Bool
 deriving Inhabited,DecidableEq
structure pairKind where
 op:Int
 deriving Inhabited,DecidableEq
structure soloKind where
 op:Int
 deriving Inhabited,DecidableEq
structure topKind where
 deriving Inhabited,DecidableEq
structure formKind where
 deriving Inhabited,DecidableEq
structure shiftKind where
 use:aM
 deriving Inhabited,DecidableEq
structure form where
 groups:(List aM)
 out_:aM
 order:aM
 loops:(List Int)
 dims:(List Int)
 steps:(List (List Int))
 store:(List Int)
 deriving Inhabited,DecidableEq
structure pair where
 from_:Int
 to:Int
 deriving Inhabited,DecidableEq
def str0:aM:=[45,62]
def gQ:aM:=[100]
def eM:aM:=[105]
def nY:aM:=[100,120]
def jU:aM:=[102]
def nZ:aM:=[120]
def str6:aM:=[44]
theorem bN:Tryz.prog.follows .mixedOrders=true:=by kernel_rfl
abbrev kT3:Kind Int:=Kind.int .i64
def zO:DecK kT3:=DecK.scal _ _
def gL:MkO kT3:=MkO.scal _ _
def zT3:Zr kT3:=Zr.scal _ _ 0
theorem j0:kT3.Closed:=Kind.scal_closed _ _
abbrev bL:Kind (List Int):=Kind.sl 3 kT3
def dT23:DecK bL:=DecK.sl 3 kT3
def rP:MkS bL:=MkS.sl 3 kT3
def mE:MkO bL:=MkO.sl 3 kT3
def zT23:Zr bL:=Zr.sl 3 kT3
abbrev dK:Kind aM:=Kind.str
def dT9:DecK dK:=DecK.scal _ _
def xr:MkO dK:=MkO.scal _ _
def zT9:Zr dK:=Zr.scal _ _ []
abbrev jD:Kind Node:=Kind.iso (Kind.pair kT3 (Kind.pair bL (Kind.pair bL (Kind.pair bL (Kind.pair dK bL))))) (fun x:Node=>(x.Op,x.Args,x.Dims,x.Ints,x.Form,x.Data))
def dT70:DecK jD:=DecK.iso (DecK.pair zO (DecK.pair dT23 (DecK.pair dT23 (DecK.pair dT23 (DecK.pair dT9 dT23))))) _
abbrev dU:Kind Node:=Kind.iso (Kind.pair kT3 (Kind.pair bL (Kind.pair bL (Kind.pair bL (Kind.pair dK bL))))) (fun x:Node=>(x.Op,x.Args,x.Dims,x.Ints,x.Form,x.Data))
def dT54:DecK dU:=DecK.iso (DecK.pair zO (DecK.pair dT23 (DecK.pair dT23 (DecK.pair dT23 (DecK.pair dT9 dT23))))) _
def Ah:MkO dU:=MkO.iso (MkO.pair gL (MkO.pair mE (MkO.pair mE (MkO.pair mE (MkO.pair xr mE))))) _
def zT54:Zr dU:=Zr.iso (Zr.pair zT3 (Zr.pair zT23 (Zr.pair zT23 (Zr.pair zT23 (Zr.pair zT9 zT23))))) _ ⟨zT3.z,zT23.z,zT23.z,zT23.z,zT9.z,zT23.z⟩ rfl
abbrev dS:Kind Tensor:=Kind.iso (Kind.pair bL bL) (fun x:Tensor=>(x.Dims,x.Data))
def dT58:DecK dS:=DecK.iso (DecK.pair dT23 dT23) _
def xV:MkS dS:=MkS.iso (MkS.pair rP rP) _
def vY:MkO dS:=MkO.iso (MkO.pair mE mE) _
def xW:Zr dS:=Zr.iso (Zr.pair zT23 zT23) _ ⟨zT23.z,zT23.z⟩ rfl
abbrev kT161:Kind pair:=Kind.iso (Kind.pair kT3 kT3) (fun x:pair=>(x.from_,x.to))
def xX:DecK kT161:=DecK.iso (DecK.pair zO zO) _
def iV:MkO kT161:=MkO.iso (MkO.pair gL gL) _
def zT161:Zr kT161:=Zr.iso (Zr.pair zT3 zT3) _ ⟨zT3.z,zT3.z⟩ rfl
theorem rQ:kT161.Closed:=Kind.iso_closed (Kind.pair_closed j0 j0) _
theorem Ai:fC Tryz.prog 25=some true:=by kernel_rfl
theorem Aj:hK Tryz.prog 25=some 2:=by kernel_rfl
theorem vZ:cS Tryz.prog 25 0=some 0:=by kernel_rfl
theorem Ak:fC Tryz.prog 22=some false:=by kernel_rfl
theorem Al:lm Tryz.prog 22=some 70:=by kernel_rfl
theorem v':hK Tryz.prog 70=some 6:=by kernel_rfl
theorem w0:fC Tryz.prog 70=some true:=by kernel_rfl
theorem w4:cS Tryz.prog 70 1=some 1:=by kernel_rfl
theorem cT:fC Tryz.prog 23=some false:=by kernel_rfl
theorem bM:lm Tryz.prog 23=some 3:=by kernel_rfl
theorem rR:aV Tryz.prog 33=true:=by kernel_rfl
theorem w6:cS Tryz.prog 70 2=some 2:=by kernel_rfl
theorem w7:cS Tryz.prog 70 3=some 3:=by kernel_rfl
theorem w8:cS Tryz.prog 70 4=some 4:=by kernel_rfl
theorem qo:fC Tryz.prog 9=some false:=by kernel_rfl
theorem fL:Tryz.prog.underlying 9=some .string:=by kernel_rfl
theorem w9:cS Tryz.prog 70 5=some 5:=by kernel_rfl
theorem Am:aV Tryz.prog 50=true:=by kernel_rfl
theorem An:aV Tryz.prog 32=true:=by kernel_rfl
theorem wc:cS Tryz.prog 25 1=some 1:=by kernel_rfl
theorem cb9:aV Tryz.prog 9=true:=by kernel_rfl
theorem wd:kq Tryz.prog 30=some [(.slice none 0 0),(.slice none 0 0)]:=by kernel_rfl
theorem tR:lm Tryz.prog 28=some 54:=by kernel_rfl
theorem jV:hK Tryz.prog 54=some 6:=by kernel_rfl
theorem Ao:gP Tryz.prog 54=some 120:=by kernel_rfl
theorem qp:kq Tryz.prog 54=some [(iv 0),(.slice none 0 0),(.slice none 0 0),(.slice none 0 0),(aD ([]:aM)),(.slice none 0 0)]:=by kernel_rfl
theorem rS:cS Tryz.prog 70 0=some 0:=by kernel_rfl
theorem fM:fC Tryz.prog 3=some false:=by kernel_rfl
theorem jE:cS Tryz.prog 54 0=some 0:=by kernel_rfl
theorem cC:hK Tryz.prog 3=some 1:=by kernel_rfl
theorem kc:gP Tryz.prog 3=some 8:=by kernel_rfl
theorem gR:kq Tryz.prog 3=some [(iv 0)]:=by kernel_rfl
theorem oN:cS Tryz.prog 54 1=some 1:=by kernel_rfl
theorem fR:hK Tryz.prog 23=some 1:=by kernel_rfl
theorem n':aV Tryz.prog 28=true:=by kernel_rfl
theorem kX:cS Tryz.prog 54 2=some 2:=by kernel_rfl
theorem hH:cS Tryz.prog 54 3=some 3:=by kernel_rfl
theorem rT:cS Tryz.prog 54 4=some 4:=by kernel_rfl
theorem qY:hK Tryz.prog 9=some 1:=by kernel_rfl
theorem oO:cS Tryz.prog 54 5=some 5:=by kernel_rfl
theorem o0:fC Tryz.prog 54=some true:=by kernel_rfl
theorem Ap:aV Tryz.prog 58=true:=by kernel_rfl
theorem rU:cS Tryz.prog 30 0=some 0:=by kernel_rfl
theorem xY:hK Tryz.prog 28=some 1:=by kernel_rfl
theorem Aq:aV Tryz.prog 35=true:=by kernel_rfl
theorem wf:cS Tryz.prog 30 1=some 1:=by kernel_rfl
theorem Ar:fC Tryz.prog 30=some true:=by kernel_rfl
theorem wg:hK Tryz.prog 30=some 2:=by kernel_rfl
theorem gC:lm Tryz.prog 46=some 58:=by kernel_rfl
theorem bR:hK Tryz.prog 58=some 2:=by kernel_rfl
theorem dM:kq Tryz.prog 58=some [(.slice none 0 0),(.slice none 0 0)]:=by kernel_rfl
theorem xZ:fC Tryz.prog 28=some false:=by kernel_rfl
theorem As:aV Tryz.prog 75=true:=by kernel_rfl
theorem At:aV Tryz.prog 76=true:=by kernel_rfl
theorem Au:aV Tryz.prog 77=true:=by kernel_rfl
theorem Av:aV Tryz.prog 51=true:=by kernel_rfl
theorem tS:aV Tryz.prog 52=true:=by kernel_rfl
theorem fF:fC Tryz.prog 58=some true:=by kernel_rfl
theorem y0:gP Tryz.prog 58=some 48:=by kernel_rfl
theorem gM:fT Tryz.prog 58=some [(0,1),(1,1)]:=by kernel_rfl
theorem iP:cS Tryz.prog 58 0=some 0:=by kernel_rfl
theorem ne:aV Tryz.prog 95=true:=by kernel_rfl
theorem rV:cS Tryz.prog 58 1=some 1:=by kernel_rfl
theorem jW:aV Tryz.prog 92=true:=by kernel_rfl
theorem nf:aV Tryz.prog 55=true:=by kernel_rfl
theorem jF:aV Tryz.prog 57=true:=by kernel_rfl
theorem wh:aV Tryz.prog 56=true:=by kernel_rfl
theorem uP:aV Tryz.prog 138=true:=by kernel_rfl
theorem y6:aV Tryz.prog 101=true:=by kernel_rfl
theorem ng:aV Tryz.prog 93=true:=by kernel_rfl
theorem ld:aV Tryz.prog 102=true:=by kernel_rfl
theorem rW:aV Tryz.prog 114=true:=by kernel_rfl
theorem mN:aV Tryz.prog 112=true:=by kernel_rfl
theorem lq:aV Tryz.prog 94=true:=by kernel_rfl
theorem o3:aV Tryz.prog 108=true:=by kernel_rfl
theorem pH:aV Tryz.prog 115=true:=by kernel_rfl
theorem uQ:aV Tryz.prog 139=true:=by kernel_rfl
theorem o4:aV Tryz.prog 111=true:=by kernel_rfl
theorem uR:aV Tryz.prog 155=true:=by kernel_rfl
theorem uS:aV Tryz.prog 141=true:=by kernel_rfl
theorem y7:aV Tryz.prog 140=true:=by kernel_rfl
theorem uT:aV Tryz.prog 104=true:=by kernel_rfl
theorem y8:aV Tryz.prog 103=true:=by kernel_rfl
theorem Aw:aV Tryz.prog 78=true:=by kernel_rfl
theorem y9:aV Tryz.prog 105=true:=by kernel_rfl
theorem Ax:aV Tryz.prog 79=true:=by kernel_rfl
theorem o5:aV Tryz.prog 106=true:=by kernel_rfl
theorem kx:aV Tryz.prog 122=true:=by kernel_rfl
theorem ya:aV Tryz.prog 107=true:=by kernel_rfl
theorem Ay:aV Tryz.prog 80=true:=by kernel_rfl
theorem lg:lm Tryz.prog 122=some 9:=by kernel_rfl
theorem yb:kq Tryz.prog 9=some [(aD ([]:aM))]:=by kernel_rfl
theorem Bw:gP Tryz.prog 9=some 16:=by kernel_rfl
theorem uU:aV Tryz.prog 142=true:=by kernel_rfl
theorem uV:aV Tryz.prog 143=true:=by kernel_rfl
theorem yc:aV Tryz.prog 109=true:=by kernel_rfl
theorem ke:lm Tryz.prog 38=some 23:=by kernel_rfl
theorem me:kq Tryz.prog 23=some [(.slice none 0 0)]:=by kernel_rfl
theorem tT:gP Tryz.prog 23=some 24:=by kernel_rfl
theorem yd:aV Tryz.prog 110=true:=by kernel_rfl
theorem ye:aV Tryz.prog 113=true:=by kernel_rfl
theorem Az:aV Tryz.prog 81=true:=by kernel_rfl
theorem cX:kq Tryz.prog 96=some [(.slice none 0 0),(.slice none 0 0),(iv 0),(iv 0)]:=by kernel_rfl
theorem fD:fT Tryz.prog 96=some [(0,1),(1,1),(2,1),(3,1)]:=by kernel_rfl
theorem cD:hK Tryz.prog 96=some 4:=by kernel_rfl
theorem fW:cS Tryz.prog 96 1=some 1:=by kernel_rfl
theorem gD:fC Tryz.prog 96=some true:=by kernel_rfl
theorem gE:cS Tryz.prog 96 0=some 0:=by kernel_rfl
theorem yf:aV Tryz.prog 118=true:=by kernel_rfl
theorem wi:cS Tryz.prog 96 3=some 3:=by kernel_rfl
theorem nh:cS Tryz.prog 96 2=some 2:=by kernel_rfl
theorem yg:aV Tryz.prog 144=true:=by kernel_rfl
theorem pI:aV Tryz.prog 117=true:=by kernel_rfl
theorem li:aV Tryz.prog 116=true:=by kernel_rfl
theorem tU:aV Tryz.prog 84=true:=by kernel_rfl
theorem AA:aV Tryz.prog 83=true:=by kernel_rfl
theorem tV:aV Tryz.prog 82=true:=by kernel_rfl
theorem AB:aV Tryz.prog 85=true:=by kernel_rfl
theorem uW:aV Tryz.prog 119=true:=by kernel_rfl
theorem uX:aV Tryz.prog 120=true:=by kernel_rfl
theorem uY:aV Tryz.prog 121=true:=by kernel_rfl
theorem AC:aV Tryz.prog 86=true:=by kernel_rfl
theorem rX:aV Tryz.prog 123=true:=by kernel_rfl
theorem AD:aV Tryz.prog 87=true:=by kernel_rfl
theorem AE:aV Tryz.prog 88=true:=by kernel_rfl
theorem AF:aV Tryz.prog 89=true:=by kernel_rfl
theorem AG:aV Tryz.prog 90=true:=by kernel_rfl
theorem AH:aV Tryz.prog 91=true:=by kernel_rfl
theorem AI:aV Tryz.prog 53=true:=by kernel_rfl
theorem AJ:aV Tryz.prog 54=true:=by kernel_rfl
theorem AK:aV Tryz.prog 34=true:=by kernel_rfl
theorem wj:aV Tryz.prog 11=true:=by kernel_rfl
theorem AL:aV Tryz.prog 10=true:=by kernel_rfl
theorem uZ:fT Tryz.prog 136=some [(0,1)]:=by kernel_rfl
theorem u':kq Tryz.prog 136=some [(.bool false)]:=by kernel_rfl
theorem v2:Tryz.prog.concrete 136=true:=by kernel_rfl
theorem yh:fT Tryz.prog 138=some [(0,1)]:=by kernel_rfl
theorem yi:kq Tryz.prog 138=some [(iv 0)]:=by kernel_rfl
theorem yj:Tryz.prog.concrete 138=true:=by kernel_rfl
theorem yk:fT Tryz.prog 139=some [(0,1)]:=by kernel_rfl
theorem ym:kq Tryz.prog 139=some [(iv 0)]:=by kernel_rfl
theorem yn:Tryz.prog.concrete 139=true:=by kernel_rfl
theorem yo:fT Tryz.prog 141=some []:=by kernel_rfl
theorem yp:kq Tryz.prog 141=some []:=by kernel_rfl
theorem yq:Tryz.prog.concrete 141=true:=by kernel_rfl
theorem yr:fT Tryz.prog 142=some []:=by kernel_rfl
theorem yt:kq Tryz.prog 142=some []:=by kernel_rfl
theorem yu:Tryz.prog.concrete 142=true:=by kernel_rfl
theorem mf:fT Tryz.prog 145=some [(0,1),(1,1)]:=by kernel_rfl
theorem mg:kq Tryz.prog 145=some [(aD ([]:aM)),.nilFunc]:=by kernel_rfl
theorem mh:Tryz.prog.concrete 145=true:=by kernel_rfl
theorem pJ:aV Tryz.prog 126=true:=by kernel_rfl
theorem AM:aV Tryz.prog 96=true:=by kernel_rfl
theorem tW:cS Tryz.prog 136 0=some 0:=by kernel_rfl
theorem ag4:fC Tryz.prog 4=some false:=by kernel_rfl
theorem tX:cS Tryz.prog 145 0=some 0:=by kernel_rfl
theorem oP (v:Value)(args:Array Value)(w:World):(callMethod (.iface 136 v) "loop.example/g00033/impl.uses" args).run Tryz.prog w=.ok (.enter 193 (#[v]++args)) w:=by kernel_rfl
theorem oQ (v:Value)(args:Array Value)(w:World):(callMethod (.iface 138 v) "loop.example/g00033/impl.uses" args).run Tryz.prog w=.ok (.enter 198 (#[v]++args)) w:=by kernel_rfl
theorem oR (v:Value)(args:Array Value)(w:World):(callMethod (.iface 139 v) "loop.example/g00033/impl.uses" args).run Tryz.prog w=.ok (.enter 201 (#[v]++args)) w:=by kernel_rfl
theorem oS (v:Value)(args:Array Value)(w:World):(callMethod (.iface 141 v) "loop.example/g00033/impl.uses" args).run Tryz.prog w=.ok (.enter 203 (#[v]++args)) w:=by kernel_rfl
theorem oU (v:Value)(args:Array Value)(w:World):(callMethod (.iface 142 v) "loop.example/g00033/impl.uses" args).run Tryz.prog w=.ok (.enter 205 (#[v]++args)) w:=by kernel_rfl
theorem gS (v:Value)(args:Array Value)(w:World):(callMethod (.iface 145 v) "loop.example/g00033/impl.uses" args).run Tryz.prog w=.ok (.enter 221 (#[v]++args)) w:=by kernel_rfl
theorem v6:aV Tryz.prog 162=true:=by kernel_rfl
theorem v7:aV Tryz.prog 154=true:=by kernel_rfl
theorem yv:aV Tryz.prog 136=true:=by kernel_rfl
theorem iD:aV Tryz.prog 135=true:=by kernel_rfl
theorem yw:aV Tryz.prog 97=true:=by kernel_rfl
theorem yx:aV Tryz.prog 196=true:=by kernel_rfl
theorem iW:aV Tryz.prog 147=true:=by kernel_rfl
theorem jp:aV Tryz.prog 148=true:=by kernel_rfl
theorem yy:aV Tryz.prog 195=true:=by kernel_rfl
theorem yz:aV Tryz.prog 194=true:=by kernel_rfl
theorem yA:aV Tryz.prog 199=true:=by kernel_rfl
theorem gO:aV Tryz.prog 150=true:=by kernel_rfl
theorem ky:kq Tryz.prog 192=some [(.slice none 0 0),(aD ([]:aM)),(aD ([]:aM)),(.slice none 0 0),(.slice none 0 0),(.slice none 0 0),(.slice none 0 0)]:=by kernel_rfl
theorem yB:aV Tryz.prog 212=true:=by kernel_rfl
theorem yC:aV Tryz.prog 210=true:=by kernel_rfl
theorem yD:aV Tryz.prog 215=true:=by kernel_rfl
theorem yE:aV Tryz.prog 213=true:=by kernel_rfl
theorem yF:aV Tryz.prog 211=true:=by kernel_rfl
theorem yG:aV Tryz.prog 171=true:=by kernel_rfl
theorem pK:aV Tryz.prog 208=true:=by kernel_rfl
theorem yH:aV Tryz.prog 207=true:=by kernel_rfl
theorem mO:fT Tryz.prog 192=some [(0,1),(1,1),(2,1),(3,1),(4,1),(5,1),(6,1)]:=by kernel_rfl
theorem iE:hK Tryz.prog 192=some 7:=by kernel_rfl
theorem rY:xL Tryz.prog 195=some (26,3):=by kernel_rfl
theorem v8:kq Tryz.prog 195=some [(iv 0),(iv 0),(iv 0),(iv 0),(iv 0),(iv 0),(iv 0),(iv 0),(iv 0),(iv 0),(iv 0),(iv 0),(iv 0),(iv 0),(iv 0),(iv 0),(iv 0),(iv 0),(iv 0),(iv 0),(iv 0),(iv 0),(iv 0),(iv 0),(iv 0),(iv 0)]:=by kernel_rfl
theorem va:hK Tryz.prog 195=some 26:=by kernel_rfl
theorem tY:cS Tryz.prog 192 2=some 2:=by kernel_rfl
theorem tZ:cS Tryz.prog 192 3=some 3:=by kernel_rfl
theorem t':cS Tryz.prog 192 4=some 4:=by kernel_rfl
theorem j9:aV Tryz.prog 64=true:=by kernel_rfl
theorem pL:cS Tryz.prog 192 5=some 5:=by kernel_rfl
theorem AN:fC Tryz.prog 38=some false:=by kernel_rfl
theorem mi:fC Tryz.prog 192=some true:=by kernel_rfl
theorem yI:hK Tryz.prog 38=some 1:=by kernel_rfl
theorem rZ:aV Tryz.prog 164=true:=by kernel_rfl
theorem vc:aV Tryz.prog 209=true:=by kernel_rfl
theorem pM:cS Tryz.prog 192 6=some 6:=by kernel_rfl
theorem yJ:aV Tryz.prog 206=true:=by kernel_rfl
theorem u0:cS Tryz.prog 145 1=some 1:=by kernel_rfl
theorem yK:fC Tryz.prog 143=some false:=by kernel_rfl
theorem yL:aV Tryz.prog 158=true:=by kernel_rfl
theorem mj:aV Tryz.prog 156=true:=by kernel_rfl
theorem yM:aV Tryz.prog 166=true:=by kernel_rfl
theorem r':aV Tryz.prog 165=true:=by kernel_rfl
theorem yN:aV Tryz.prog 159=true:=by kernel_rfl
theorem s6:aV Tryz.prog 168=true:=by kernel_rfl
theorem yO:aV Tryz.prog 167=true:=by kernel_rfl
theorem yP:aV Tryz.prog 160=true:=by kernel_rfl
theorem yQ:aV Tryz.prog 170=true:=by kernel_rfl
theorem yR:aV Tryz.prog 169=true:=by kernel_rfl
theorem yS:aV Tryz.prog 161=true:=by kernel_rfl
theorem eZ:lm Tryz.prog 147=some 161:=by kernel_rfl
theorem fA:hK Tryz.prog 161=some 2:=by kernel_rfl
theorem eK:kq Tryz.prog 161=some [(iv 0),(iv 0)]:=by kernel_rfl
theorem yT:kq Tryz.prog 147=some [(.slice none 0 0)]:=by kernel_rfl
theorem s7:hK Tryz.prog 147=some 1:=by kernel_rfl
theorem yU:aV Tryz.prog 157=true:=by kernel_rfl
theorem yV:fC Tryz.prog 147=some false:=by kernel_rfl
theorem ml:fT Tryz.prog 161=some [(0,1),(1,1)]:=by kernel_rfl
theorem lj:gP Tryz.prog 161=some 16:=by kernel_rfl
theorem yW:aV Tryz.prog 163=true:=by kernel_rfl
theorem yX:aV Tryz.prog 146=true:=by kernel_rfl
theorem yY:aV Tryz.prog 145=true:=by kernel_rfl
theorem yZ:aV Tryz.prog 124=true:=by kernel_rfl
theorem y':aV Tryz.prog 125=true:=by kernel_rfl
theorem z6:fC Tryz.prog 150=some false:=by kernel_rfl
theorem pN:aV Tryz.prog 151=true:=by kernel_rfl
theorem vd:aV Tryz.prog 153=true:=by kernel_rfl
theorem ve:fC Tryz.prog 161=some true:=by kernel_rfl
theorem pO:cS Tryz.prog 161 0=some 0:=by kernel_rfl
theorem pP:cS Tryz.prog 161 1=some 1:=by kernel_rfl
theorem s8:aV Tryz.prog 152=true:=by kernel_rfl
theorem z7:aV Tryz.prog 128=true:=by kernel_rfl
theorem z8:aV Tryz.prog 127=true:=by kernel_rfl
theorem pQ:aV Tryz.prog 149=true:=by kernel_rfl
theorem za:aV Tryz.prog 130=true:=by kernel_rfl
theorem zb:aV Tryz.prog 129=true:=by kernel_rfl
theorem zd:aV Tryz.prog 132=true:=by kernel_rfl
theorem ze:aV Tryz.prog 131=true:=by kernel_rfl
theorem zf:aV Tryz.prog 134=true:=by kernel_rfl
theorem zg:aV Tryz.prog 133=true:=by kernel_rfl
theorem o6 (v:Value)(args:Array Value)(w:World):(callMethod (.iface 136 v) "loop.example/g00033/impl.shape" args).run Tryz.prog w=.ok (.enter 192 (#[v]++args)) w:=by kernel_rfl
theorem o8 (v:Value)(args:Array Value)(w:World):(callMethod (.iface 138 v) "loop.example/g00033/impl.shape" args).run Tryz.prog w=.ok (.enter 197 (#[v]++args)) w:=by kernel_rfl
theorem o9 (v:Value)(args:Array Value)(w:World):(callMethod (.iface 139 v) "loop.example/g00033/impl.shape" args).run Tryz.prog w=.ok (.enter 200 (#[v]++args)) w:=by kernel_rfl
theorem oa (v:Value)(args:Array Value)(w:World):(callMethod (.iface 141 v) "loop.example/g00033/impl.shape" args).run Tryz.prog w=.ok (.enter 202 (#[v]++args)) w:=by kernel_rfl
theorem oc (v:Value)(args:Array Value)(w:World):(callMethod (.iface 142 v) "loop.example/g00033/impl.shape" args).run Tryz.prog w=.ok (.enter 204 (#[v]++args)) w:=by kernel_rfl
theorem fZ (v:Value)(args:Array Value)(w:World):(callMethod (.iface 145 v) "loop.example/g00033/impl.shape" args).run Tryz.prog w=.ok (.enter 220 (#[v]++args)) w:=by kernel_rfl
theorem AO:aV Tryz.prog 59=true:=by kernel_rfl
theorem AP:aV Tryz.prog 36=true:=by kernel_rfl
theorem AQ:aV Tryz.prog 12=true:=by kernel_rfl
theorem un4:Tryz.prog.underlying 4=some .bool:=by kernel_rfl
theorem qq:aV Tryz.prog 16=true:=by kernel_rfl
theorem AR:aV Tryz.prog 60=true:=by kernel_rfl
theorem AS:aV Tryz.prog 37=true:=by kernel_rfl
theorem AT:aV Tryz.prog 13=true:=by kernel_rfl
theorem Bx:Tryz.prog.underlying 3=some (.int .i64):=by kernel_rfl
theorem zh:lm Tryz.prog 112=some 5:=by kernel_rfl
theorem sz5:hK Tryz.prog 5=some 1:=by kernel_rfl
theorem AU:lm Tryz.prog 60=some 4:=by kernel_rfl
theorem sz4:hK Tryz.prog 4=some 1:=by kernel_rfl
theorem zi:aV Tryz.prog 66=true:=by kernel_rfl
theorem AV:aV Tryz.prog 67=true:=by kernel_rfl
theorem AW:aV Tryz.prog 68=true:=by kernel_rfl
theorem AX:aV Tryz.prog 43=true:=by kernel_rfl
theorem AY:aV Tryz.prog 27=true:=by kernel_rfl
theorem vf:Tryz.prog.underlying 113=some (.int .u64):=by kernel_rfl
theorem vg:aV Tryz.prog 137=true:=by kernel_rfl
theorem AZ:aV Tryz.prog 98=true:=by kernel_rfl
theorem zj:aV Tryz.prog 99=true:=by kernel_rfl
theorem B0:aV Tryz.prog 72=true:=by kernel_rfl
theorem wl:aV Tryz.prog 71=true:=by kernel_rfl
theorem B1:aV Tryz.prog 69=true:=by kernel_rfl
theorem B2:aV Tryz.prog 70=true:=by kernel_rfl
theorem B3:aV Tryz.prog 45=true:=by kernel_rfl
theorem B4:aV Tryz.prog 44=true:=by kernel_rfl
theorem B5:aV Tryz.prog 29=true:=by kernel_rfl
structure kindOfR where
 t:Nat
 b0:Bool
 i0:Int
 i1:Int
 s0:aM
 deriving Inhabited,DecidableEq
def cV (r:kindOfR)(h:Nat×Nat×Nat):Value:=cond (Nat.beq r.t 0) .nilIface (cond (Nat.beq r.t 1) (.iface 136 (.agg [(.bool r.b0)].toArray)) (cond (Nat.beq r.t 2) (.iface 138 (.agg [(iv r.i0)].toArray)) (cond (Nat.beq r.t 3) (.iface 139 (.agg [(iv r.i0)].toArray)) (cond (Nat.beq r.t 4) (.iface 141 (.agg [].toArray)) (cond (Nat.beq r.t 5) (.iface 142 (.agg [].toArray)) (cond (Nat.beq r.t 6) (.iface 145 (.agg [(aD r.s0),(.func (.func 124) [].toArray [].toArray)].toArray)) (cond (Nat.beq r.t 7) (.iface 145 (.agg [(aD r.s0),(.func (.func 125) [].toArray [].toArray)].toArray)) (cond (Nat.beq r.t 8) (.iface 145 (.agg [(aD r.s0),(.func (.func 149) [].toArray [(pt h.1 0),(pt h.2.1 0),(pt h.2.2 0)].toArray)].toArray)) (cond (Nat.beq r.t 9) (.iface 145 (.agg [(aD r.s0),(.func (.func 149) [].toArray [(pt h.1 0),(pt h.2.1 0),(pt h.2.2 0)].toArray)].toArray)) (cond (Nat.beq r.t 10) (.iface 145 (.agg [(aD r.s0),(.func (.func 149) [].toArray [(pt h.1 0),(pt h.2.1 0),(pt h.2.2 0)].toArray)].toArray)) ((.iface 145 (.agg [(aD r.s0),(.func (.func 149) [].toArray [(pt h.1 0),(pt h.2.1 0),(pt h.2.2 0)].toArray)].toArray)))))))))))))
def eQ (r:kindOfR)(h:Nat×Nat×Nat):HP:=cond (Nat.beq r.t 0) (pk []) (cond (Nat.beq r.t 1) (pk []) (cond (Nat.beq r.t 2) (pk []) (cond (Nat.beq r.t 3) (pk []) (cond (Nat.beq r.t 4) (pk []) (cond (Nat.beq r.t 5) (pk []) (cond (Nat.beq r.t 6) (pk []) (cond (Nat.beq r.t 7) (pk []) (cond (Nat.beq r.t 8) (pk [aI h.1 [(iv r.i0)] 3,aI h.2.1 [(iv r.i1)] 3,aI h.2.2 [(.func (.func 127) [].toArray [].toArray)] 150]) (cond (Nat.beq r.t 9) (pk [aI h.1 [(iv r.i0)] 3,aI h.2.1 [(iv r.i1)] 3,aI h.2.2 [(.func (.func 129) [].toArray [].toArray)] 150]) (cond (Nat.beq r.t 10) (pk [aI h.1 [(iv r.i0)] 3,aI h.2.1 [(iv r.i1)] 3,aI h.2.2 [(.func (.func 131) [].toArray [].toArray)] 150]) ((pk [aI h.1 [(iv r.i0)] 3,aI h.2.1 [(iv r.i1)] 3,aI h.2.2 [(.func (.func 133) [].toArray [].toArray)] 150]))))))))))))
theorem mm {C:World}{n:Nn}{V:List HP}{σ:cY}{d:Option Nat}{ty:TypeId}{pos:String}{af:Array Edge}{gd:Option (Nat×Bool)}{x:Operand}{D:TypeId}{r:kindOfR}{h:Nat×Nat×Nat}(e:ev σ x=cV r h):VO ⟨Tryz.prog,n,C⟩ V σ ⟨d,.binOp .eql 108 x (.const .nilIface) D,ty,pos,af,gd⟩ (.bool (Nat.beq r.t 0)):=by
 rcases bo (Nat.beq r.t 0) with a | a
 ·rw [a]; exact tL (by kernel_rfl) (by rw [e]; simp only [cV,a,cond_true])
 rcases bo (Nat.beq r.t 1) with b | b
 ·rw [a]; exact iB (by kernel_rfl) (by rw [e]; simp only [cV,a,b,cond_true,cond_false]; rfl)
 rcases bo (Nat.beq r.t 2) with g | g
 ·rw [a]; exact iB (by kernel_rfl) (by rw [e]; simp only [cV,a,b,g,cond_true,cond_false]; rfl)
 rcases bo (Nat.beq r.t 3) with i | i
 ·rw [a]; exact iB (by kernel_rfl) (by rw [e]; simp only [cV,a,b,g,i,cond_true,cond_false]; rfl)
 rcases bo (Nat.beq r.t 4) with j | j
 ·rw [a]; exact iB (by kernel_rfl) (by rw [e]; simp only [cV,a,b,g,i,j,cond_true,cond_false]; rfl)
 rcases bo (Nat.beq r.t 5) with l | l
 ·rw [a]; exact iB (by kernel_rfl) (by rw [e]; simp only [cV,a,b,g,i,j,l,cond_true,cond_false]; rfl)
 rcases bo (Nat.beq r.t 6) with q | q
 ·rw [a]; exact iB (by kernel_rfl) (by rw [e]; simp only [cV,a,b,g,i,j,l,q,cond_true,cond_false]; rfl)
 rcases bo (Nat.beq r.t 7) with s | s
 ·rw [a]; exact iB (by kernel_rfl) (by rw [e]; simp only [cV,a,b,g,i,j,l,q,s,cond_true,cond_false]; rfl)
 rcases bo (Nat.beq r.t 8) with u | u
 ·rw [a]; exact iB (by kernel_rfl) (by rw [e]; simp only [cV,a,b,g,i,j,l,q,s,u,cond_true,cond_false]; rfl)
 rcases bo (Nat.beq r.t 9) with B | B
 ·rw [a]; exact iB (by kernel_rfl) (by rw [e]; simp only [cV,a,b,g,i,j,l,q,s,u,B,cond_true,cond_false]; rfl)
 rcases bo (Nat.beq r.t 10) with m | m
 ·rw [a]; exact iB (by kernel_rfl) (by rw [e]; simp only [cV,a,b,g,i,j,l,q,s,u,B,m,cond_true,cond_false]; rfl)
 rw [a]; exact iB (by kernel_rfl) (by rw [e]; simp only [cV,a,b,g,i,j,l,q,s,u,B,m,cond_false]; rfl)
instance:HAg Tryz.prog 25 true:=⟨Ai⟩
instance:HSz Tryz.prog 25 2:=⟨Aj⟩
instance:HFo Tryz.prog 25 0 0:=⟨vZ⟩
instance:HAg Tryz.prog 22 false:=⟨Ak⟩
instance:HSl Tryz.prog 22 70:=⟨Al⟩
instance:HSz Tryz.prog 70 6:=⟨v'⟩
instance:HAg Tryz.prog 70 true:=⟨w0⟩
instance:HFo Tryz.prog 70 1 1:=⟨w4⟩
instance:HAg Tryz.prog 23 false:=⟨cT⟩
instance:HSl Tryz.prog 23 3:=⟨bM⟩
instance:HFo Tryz.prog 70 2 2:=⟨w6⟩
instance:HFo Tryz.prog 70 3 3:=⟨w7⟩
instance:HFo Tryz.prog 70 4 4:=⟨w8⟩
instance:HAg Tryz.prog 9 false:=⟨qo⟩
instance:HFo Tryz.prog 70 5 5:=⟨w9⟩
instance:HFo Tryz.prog 25 1 1:=⟨wc⟩
instance:HSl Tryz.prog 28 54:=⟨tR⟩
instance:HSz Tryz.prog 54 6:=⟨jV⟩
instance:HFo Tryz.prog 70 0 0:=⟨rS⟩
instance:HAg Tryz.prog 3 false:=⟨fM⟩
instance:HFo Tryz.prog 54 0 0:=⟨jE⟩
instance:HSz Tryz.prog 3 1:=⟨cC⟩
instance:HFo Tryz.prog 54 1 1:=⟨oN⟩
instance:HSz Tryz.prog 23 1:=⟨fR⟩
instance:HFo Tryz.prog 54 2 2:=⟨kX⟩
instance:HFo Tryz.prog 54 3 3:=⟨hH⟩
instance:HFo Tryz.prog 54 4 4:=⟨rT⟩
instance:HSz Tryz.prog 9 1:=⟨qY⟩
instance:HFo Tryz.prog 54 5 5:=⟨oO⟩
instance:HAg Tryz.prog 54 true:=⟨o0⟩
instance:HFo Tryz.prog 30 0 0:=⟨rU⟩
instance:HSz Tryz.prog 28 1:=⟨xY⟩
instance:HFo Tryz.prog 30 1 1:=⟨wf⟩
instance:HAg Tryz.prog 30 true:=⟨Ar⟩
instance:HSz Tryz.prog 30 2:=⟨wg⟩
instance:HSl Tryz.prog 46 58:=⟨gC⟩
instance:HSz Tryz.prog 58 2:=⟨bR⟩
instance:HAg Tryz.prog 28 false:=⟨xZ⟩
instance:HAg Tryz.prog 58 true:=⟨fF⟩
instance:HFo Tryz.prog 58 0 0:=⟨iP⟩
instance:HFo Tryz.prog 58 1 1:=⟨rV⟩
instance:HSl Tryz.prog 122 9:=⟨lg⟩
instance:HSl Tryz.prog 38 23:=⟨ke⟩
instance:HSz Tryz.prog 96 4:=⟨cD⟩
instance:HFo Tryz.prog 96 1 1:=⟨fW⟩
instance:HAg Tryz.prog 96 true:=⟨gD⟩
instance:HFo Tryz.prog 96 0 0:=⟨gE⟩
instance:HFo Tryz.prog 96 3 3:=⟨wi⟩
instance:HFo Tryz.prog 96 2 2:=⟨nh⟩
instance:HFo Tryz.prog 136 0 0:=⟨tW⟩
instance:HAg Tryz.prog 4 false:=⟨ag4⟩
instance:HFo Tryz.prog 145 0 0:=⟨tX⟩
instance:HSz Tryz.prog 192 7:=⟨iE⟩
instance:HSz Tryz.prog 195 26:=⟨va⟩
instance:HFo Tryz.prog 192 2 2:=⟨tY⟩
instance:HFo Tryz.prog 192 3 3:=⟨tZ⟩
instance:HFo Tryz.prog 192 4 4:=⟨t'⟩
instance:HFo Tryz.prog 192 5 5:=⟨pL⟩
instance:HAg Tryz.prog 38 false:=⟨AN⟩
instance:HAg Tryz.prog 192 true:=⟨mi⟩
instance:HSz Tryz.prog 38 1:=⟨yI⟩
instance:HFo Tryz.prog 192 6 6:=⟨pM⟩
instance:HFo Tryz.prog 145 1 1:=⟨u0⟩
instance:HAg Tryz.prog 143 false:=⟨yK⟩
instance:HSl Tryz.prog 147 161:=⟨eZ⟩
instance:HSz Tryz.prog 161 2:=⟨fA⟩
instance:HSz Tryz.prog 147 1:=⟨s7⟩
instance:HAg Tryz.prog 147 false:=⟨yV⟩
instance:HAg Tryz.prog 150 false:=⟨z6⟩
instance:HAg Tryz.prog 161 true:=⟨ve⟩
instance:HFo Tryz.prog 161 0 0:=⟨pO⟩
instance:HFo Tryz.prog 161 1 1:=⟨pP⟩
instance:HSl Tryz.prog 112 5:=⟨zh⟩
instance:HSz Tryz.prog 5 1:=⟨sz5⟩
instance:HSl Tryz.prog 60 4:=⟨AU⟩
instance:HSz Tryz.prog 4 1:=⟨sz4⟩
end Go.Proofs.YtmpnollfdpdipaaGreat
