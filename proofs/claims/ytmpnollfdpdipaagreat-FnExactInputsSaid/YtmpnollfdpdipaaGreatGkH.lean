import Derived.Test.YtmpnollfdpdipaaGreatPg20
import Derived.Test.YtmpnollfdpdipaaGreatStL
import Derived.Test.YtmpnollfdpdipaaGreatPg33
import Derived.Test.YtmpnollfdpdipaaGreatProg
set_option linter.unusedVariables false
namespace Go.Proofs.YtmpnollfdpdipaaGreat
open Go Go.Pg
structure Node where
 Op:Int
 Args:(List Int)
 Dims:(List Int)
 Ints:(List Int)
 Form:Str
 Data:(List Int)
 deriving Inhabited,DecidableEq
structure Graph where
 Nodes:(List Node)
 Outs:(List Int)
 deriving Inhabited,DecidableEq
structure Tensor where
 Dims:(List Int)
 Data:(List Int)
 deriving Inhabited,DecidableEq
structure View where
 Dims:(List Int)
 Strides:(List Int)
 Offset:Int
 Base:Int
 deriving Inhabited,DecidableEq
structure leafKind where
 data:Bool
 deriving Inhabited,DecidableEq
structure pairKind where
 op:Int
 deriving Inhabited,DecidableEq
structure soloKind where
 op:Int
 deriving Inhabited,DecidableEq
structure topKind where
 deriving Inhabited,DecidableEq
structure formKind where
 deriving Inhabited,DecidableEq
structure shiftKind where
 use:Str
 deriving Inhabited,DecidableEq
structure form where
 groups:(List Str)
 out_:Str
 order:Str
 loops:(List Int)
 dims:(List Int)
 steps:(List (List Int))
 store:(List Int)
 deriving Inhabited,DecidableEq
structure pair where
 from_:Int
 to:Int
 deriving Inhabited,DecidableEq
def str0:Str:=[45,62]
def str1:Str:=[100]
def str2:Str:=[105]
def str3:Str:=[100,120]
def str4:Str:=[102]
def str5:Str:=[120]
def str6:Str:=[44]
def str7:Str:=[109,48]
def str8:Str:=[109]
theorem mixo:Tryz.prog.follows .mixedOrders=true:=by kernel_rfl
abbrev kT3:Kind Int:=Kind.int .i64
def dT3:DecK kT3:=DecK.scal _ _
def mO3:MkO kT3:=MkO.scal _ _
def sP3:SpO kT3:=SpO.scal _ _
def zT3:Zr kT3:=Zr.scal _ _ 0
theorem cT3:kT3.Closed:=Kind.scal_closed _ _
abbrev kT23:Kind (List Int):=Kind.sl 3 kT3
def dT23:DecK kT23:=DecK.sl 3 kT3
def mS23:MkS kT23:=MkS.sl 3 kT3
def mO23:MkO kT23:=MkO.sl 3 kT3
def sP23:SpO kT23:=SpO.sl 3 kT3
def zT23:Zr kT23:=Zr.sl 3 kT3
abbrev kT9:Kind Str:=Kind.str
def dT9:DecK kT9:=DecK.scal _ _
def mO9:MkO kT9:=MkO.scal _ _
def sP9:SpO kT9:=SpO.scal _ _
def zT9:Zr kT9:=Zr.scal _ _ []
abbrev kT70:Kind Node:=Kind.iso (Kind.pair kT3 (Kind.pair kT23 (Kind.pair kT23 (Kind.pair kT23 (Kind.pair kT9 kT23))))) (fun x:Node=>(x.Op,x.Args,x.Dims,x.Ints,x.Form,x.Data))
def dT70:DecK kT70:=DecK.iso (DecK.pair dT3 (DecK.pair dT23 (DecK.pair dT23 (DecK.pair dT23 (DecK.pair dT9 dT23))))) _
abbrev kT54:Kind Node:=Kind.iso (Kind.pair kT3 (Kind.pair kT23 (Kind.pair kT23 (Kind.pair kT23 (Kind.pair kT9 kT23))))) (fun x:Node=>(x.Op,x.Args,x.Dims,x.Ints,x.Form,x.Data))
def dT54:DecK kT54:=DecK.iso (DecK.pair dT3 (DecK.pair dT23 (DecK.pair dT23 (DecK.pair dT23 (DecK.pair dT9 dT23))))) _
def mO54:MkO kT54:=MkO.iso (MkO.pair mO3 (MkO.pair mO23 (MkO.pair mO23 (MkO.pair mO23 (MkO.pair mO9 mO23))))) _
def sP54:SpO kT54:=SpO.iso (SpO.pair sP3 (SpO.pair sP23 (SpO.pair sP23 (SpO.pair sP23 (SpO.pair sP9 sP23))))) _
def zT54:Zr kT54:=Zr.iso (Zr.pair zT3 (Zr.pair zT23 (Zr.pair zT23 (Zr.pair zT23 (Zr.pair zT9 zT23))))) _ ⟨zT3.z,zT23.z,zT23.z,zT23.z,zT9.z,zT23.z⟩ rfl
abbrev kT58:Kind Tensor:=Kind.iso (Kind.pair kT23 kT23) (fun x:Tensor=>(x.Dims,x.Data))
def dT58:DecK kT58:=DecK.iso (DecK.pair dT23 dT23) _
def mS58:MkS kT58:=MkS.iso (MkS.pair mS23 mS23) _
def mO58:MkO kT58:=MkO.iso (MkO.pair mO23 mO23) _
def zT58:Zr kT58:=Zr.iso (Zr.pair zT23 zT23) _ ⟨zT23.z,zT23.z⟩ rfl
abbrev kT161:Kind pair:=Kind.iso (Kind.pair kT3 kT3) (fun x:pair=>(x.from_,x.to))
def dT161:DecK kT161:=DecK.iso (DecK.pair dT3 dT3) _
def mO161:MkO kT161:=MkO.iso (MkO.pair mO3 mO3) _
def zT161:Zr kT161:=Zr.iso (Zr.pair zT3 zT3) _ ⟨zT3.z,zT3.z⟩ rfl
theorem cT161:kT161.Closed:=Kind.iso_closed (Kind.pair_closed cT3 cT3) _
abbrev kT5:Kind Int:=Kind.int .u8
def mO5:MkO kT5:=MkO.scal _ _
theorem ag25:aggB Tryz.prog 25=some true:=by kernel_rfl
theorem sz25:szB Tryz.prog 25=some 2:=by kernel_rfl
theorem fo25_0:fieldB Tryz.prog 25 0=some 0:=by kernel_rfl
theorem ag22:aggB Tryz.prog 22=some false:=by kernel_rfl
theorem sl22:slB Tryz.prog 22=some 70:=by kernel_rfl
theorem sz70:szB Tryz.prog 70=some 6:=by kernel_rfl
theorem ag70:aggB Tryz.prog 70=some true:=by kernel_rfl
theorem fo70_1:fieldB Tryz.prog 70 1=some 1:=by kernel_rfl
theorem ag23:aggB Tryz.prog 23=some false:=by kernel_rfl
theorem sl23:slB Tryz.prog 23=some 3:=by kernel_rfl
theorem cb33:callB Tryz.prog 33=true:=by kernel_rfl
theorem fo70_2:fieldB Tryz.prog 70 2=some 2:=by kernel_rfl
theorem fo70_3:fieldB Tryz.prog 70 3=some 3:=by kernel_rfl
theorem fo70_4:fieldB Tryz.prog 70 4=some 4:=by kernel_rfl
theorem ag9:aggB Tryz.prog 9=some false:=by kernel_rfl
theorem un9:Tryz.prog.underlying 9=some .string:=by kernel_rfl
theorem fo70_5:fieldB Tryz.prog 70 5=some 5:=by kernel_rfl
theorem cb50:callB Tryz.prog 50=true:=by kernel_rfl
theorem cb32:callB Tryz.prog 32=true:=by kernel_rfl
theorem fo25_1:fieldB Tryz.prog 25 1=some 1:=by kernel_rfl
theorem cb9:callB Tryz.prog 9=true:=by kernel_rfl
theorem zc30:zcB Tryz.prog 30=some [(.slice none 0 0),(.slice none 0 0)]:=by kernel_rfl
theorem sl28:slB Tryz.prog 28=some 54:=by kernel_rfl
theorem sz54:szB Tryz.prog 54=some 6:=by kernel_rfl
theorem by54:bytesB Tryz.prog 54=some 120:=by kernel_rfl
theorem zc54:zcB Tryz.prog 54=some [(iv 0),(.slice none 0 0),(.slice none 0 0),(.slice none 0 0),(vstr ([]:Str)),(.slice none 0 0)]:=by kernel_rfl
theorem fo70_0:fieldB Tryz.prog 70 0=some 0:=by kernel_rfl
theorem ag3:aggB Tryz.prog 3=some false:=by kernel_rfl
theorem fo54_0:fieldB Tryz.prog 54 0=some 0:=by kernel_rfl
theorem sz3:szB Tryz.prog 3=some 1:=by kernel_rfl
theorem by3:bytesB Tryz.prog 3=some 8:=by kernel_rfl
theorem zc3:zcB Tryz.prog 3=some [(iv 0)]:=by kernel_rfl
theorem fo54_1:fieldB Tryz.prog 54 1=some 1:=by kernel_rfl
theorem sz23:szB Tryz.prog 23=some 1:=by kernel_rfl
theorem cb28:callB Tryz.prog 28=true:=by kernel_rfl
theorem fo54_2:fieldB Tryz.prog 54 2=some 2:=by kernel_rfl
theorem fo54_3:fieldB Tryz.prog 54 3=some 3:=by kernel_rfl
theorem fo54_4:fieldB Tryz.prog 54 4=some 4:=by kernel_rfl
theorem sz9:szB Tryz.prog 9=some 1:=by kernel_rfl
theorem fo54_5:fieldB Tryz.prog 54 5=some 5:=by kernel_rfl
theorem ag54:aggB Tryz.prog 54=some true:=by kernel_rfl
theorem cb58:callB Tryz.prog 58=true:=by kernel_rfl
theorem fo30_0:fieldB Tryz.prog 30 0=some 0:=by kernel_rfl
theorem sz28:szB Tryz.prog 28=some 1:=by kernel_rfl
theorem cb35:callB Tryz.prog 35=true:=by kernel_rfl
theorem fo30_1:fieldB Tryz.prog 30 1=some 1:=by kernel_rfl
theorem ag30:aggB Tryz.prog 30=some true:=by kernel_rfl
theorem sz30:szB Tryz.prog 30=some 2:=by kernel_rfl
theorem sl46:slB Tryz.prog 46=some 58:=by kernel_rfl
theorem sz58:szB Tryz.prog 58=some 2:=by kernel_rfl
theorem zc58:zcB Tryz.prog 58=some [(.slice none 0 0),(.slice none 0 0)]:=by kernel_rfl
theorem ag28:aggB Tryz.prog 28=some false:=by kernel_rfl
theorem cb75:callB Tryz.prog 75=true:=by kernel_rfl
theorem cb76:callB Tryz.prog 76=true:=by kernel_rfl
theorem cb77:callB Tryz.prog 77=true:=by kernel_rfl
theorem cb51:callB Tryz.prog 51=true:=by kernel_rfl
theorem cb52:callB Tryz.prog 52=true:=by kernel_rfl
theorem ag58:aggB Tryz.prog 58=some true:=by kernel_rfl
theorem by58:bytesB Tryz.prog 58=some 48:=by kernel_rfl
theorem pl58:placesB Tryz.prog 58=some [(0,1),(1,1)]:=by kernel_rfl
theorem fo58_0:fieldB Tryz.prog 58 0=some 0:=by kernel_rfl
theorem cb95:callB Tryz.prog 95=true:=by kernel_rfl
theorem fo58_1:fieldB Tryz.prog 58 1=some 1:=by kernel_rfl
theorem cb92:callB Tryz.prog 92=true:=by kernel_rfl
theorem cb55:callB Tryz.prog 55=true:=by kernel_rfl
theorem cb57:callB Tryz.prog 57=true:=by kernel_rfl
theorem cb56:callB Tryz.prog 56=true:=by kernel_rfl
theorem cb138:callB Tryz.prog 138=true:=by kernel_rfl
theorem cb101:callB Tryz.prog 101=true:=by kernel_rfl
theorem cb93:callB Tryz.prog 93=true:=by kernel_rfl
theorem cb102:callB Tryz.prog 102=true:=by kernel_rfl
theorem cb114:callB Tryz.prog 114=true:=by kernel_rfl
theorem cb112:callB Tryz.prog 112=true:=by kernel_rfl
theorem cb94:callB Tryz.prog 94=true:=by kernel_rfl
theorem cb108:callB Tryz.prog 108=true:=by kernel_rfl
theorem cb115:callB Tryz.prog 115=true:=by kernel_rfl
theorem cb139:callB Tryz.prog 139=true:=by kernel_rfl
theorem cb111:callB Tryz.prog 111=true:=by kernel_rfl
theorem cb155:callB Tryz.prog 155=true:=by kernel_rfl
theorem cb141:callB Tryz.prog 141=true:=by kernel_rfl
theorem cb140:callB Tryz.prog 140=true:=by kernel_rfl
theorem cb104:callB Tryz.prog 104=true:=by kernel_rfl
theorem cb103:callB Tryz.prog 103=true:=by kernel_rfl
theorem cb78:callB Tryz.prog 78=true:=by kernel_rfl
theorem cb105:callB Tryz.prog 105=true:=by kernel_rfl
theorem cb79:callB Tryz.prog 79=true:=by kernel_rfl
theorem cb106:callB Tryz.prog 106=true:=by kernel_rfl
theorem cb122:callB Tryz.prog 122=true:=by kernel_rfl
theorem cb107:callB Tryz.prog 107=true:=by kernel_rfl
theorem cb80:callB Tryz.prog 80=true:=by kernel_rfl
theorem sl122:slB Tryz.prog 122=some 9:=by kernel_rfl
theorem zc9:zcB Tryz.prog 9=some [(vstr ([]:Str))]:=by kernel_rfl
theorem by9:bytesB Tryz.prog 9=some 16:=by kernel_rfl
theorem cb142:callB Tryz.prog 142=true:=by kernel_rfl
theorem cb143:callB Tryz.prog 143=true:=by kernel_rfl
theorem cb109:callB Tryz.prog 109=true:=by kernel_rfl
theorem sl38:slB Tryz.prog 38=some 23:=by kernel_rfl
theorem zc23:zcB Tryz.prog 23=some [(.slice none 0 0)]:=by kernel_rfl
theorem by23:bytesB Tryz.prog 23=some 24:=by kernel_rfl
theorem cb110:callB Tryz.prog 110=true:=by kernel_rfl
theorem cb113:callB Tryz.prog 113=true:=by kernel_rfl
theorem cb81:callB Tryz.prog 81=true:=by kernel_rfl
theorem zc96:zcB Tryz.prog 96=some [(.slice none 0 0),(.slice none 0 0),(iv 0),(iv 0)]:=by kernel_rfl
theorem pl96:placesB Tryz.prog 96=some [(0,1),(1,1),(2,1),(3,1)]:=by kernel_rfl
theorem sz96:szB Tryz.prog 96=some 4:=by kernel_rfl
theorem fo96_1:fieldB Tryz.prog 96 1=some 1:=by kernel_rfl
theorem ag96:aggB Tryz.prog 96=some true:=by kernel_rfl
theorem fo96_0:fieldB Tryz.prog 96 0=some 0:=by kernel_rfl
theorem cb118:callB Tryz.prog 118=true:=by kernel_rfl
theorem fo96_3:fieldB Tryz.prog 96 3=some 3:=by kernel_rfl
theorem fo96_2:fieldB Tryz.prog 96 2=some 2:=by kernel_rfl
theorem cb144:callB Tryz.prog 144=true:=by kernel_rfl
theorem cb117:callB Tryz.prog 117=true:=by kernel_rfl
theorem cb116:callB Tryz.prog 116=true:=by kernel_rfl
theorem cb84:callB Tryz.prog 84=true:=by kernel_rfl
theorem cb83:callB Tryz.prog 83=true:=by kernel_rfl
theorem cb82:callB Tryz.prog 82=true:=by kernel_rfl
theorem cb85:callB Tryz.prog 85=true:=by kernel_rfl
theorem cb119:callB Tryz.prog 119=true:=by kernel_rfl
theorem cb120:callB Tryz.prog 120=true:=by kernel_rfl
theorem cb121:callB Tryz.prog 121=true:=by kernel_rfl
theorem cb86:callB Tryz.prog 86=true:=by kernel_rfl
theorem cb123:callB Tryz.prog 123=true:=by kernel_rfl
theorem cb87:callB Tryz.prog 87=true:=by kernel_rfl
theorem cb88:callB Tryz.prog 88=true:=by kernel_rfl
theorem cb89:callB Tryz.prog 89=true:=by kernel_rfl
theorem cb90:callB Tryz.prog 90=true:=by kernel_rfl
theorem cb91:callB Tryz.prog 91=true:=by kernel_rfl
theorem cb53:callB Tryz.prog 53=true:=by kernel_rfl
theorem cb54:callB Tryz.prog 54=true:=by kernel_rfl
theorem cb34:callB Tryz.prog 34=true:=by kernel_rfl
theorem cb11:callB Tryz.prog 11=true:=by kernel_rfl
theorem cb10:callB Tryz.prog 10=true:=by kernel_rfl
theorem pl136:placesB Tryz.prog 136=some [(0,1)]:=by kernel_rfl
theorem zc136:zcB Tryz.prog 136=some [(.bool false)]:=by kernel_rfl
theorem cc136:Tryz.prog.concrete 136=true:=by kernel_rfl
theorem pl138:placesB Tryz.prog 138=some [(0,1)]:=by kernel_rfl
theorem zc138:zcB Tryz.prog 138=some [(iv 0)]:=by kernel_rfl
theorem cc138:Tryz.prog.concrete 138=true:=by kernel_rfl
theorem pl139:placesB Tryz.prog 139=some [(0,1)]:=by kernel_rfl
theorem zc139:zcB Tryz.prog 139=some [(iv 0)]:=by kernel_rfl
theorem cc139:Tryz.prog.concrete 139=true:=by kernel_rfl
theorem pl141:placesB Tryz.prog 141=some []:=by kernel_rfl
theorem zc141:zcB Tryz.prog 141=some []:=by kernel_rfl
theorem cc141:Tryz.prog.concrete 141=true:=by kernel_rfl
theorem pl142:placesB Tryz.prog 142=some []:=by kernel_rfl
theorem zc142:zcB Tryz.prog 142=some []:=by kernel_rfl
theorem cc142:Tryz.prog.concrete 142=true:=by kernel_rfl
theorem pl145:placesB Tryz.prog 145=some [(0,1),(1,1)]:=by kernel_rfl
theorem zc145:zcB Tryz.prog 145=some [(vstr ([]:Str)),.nilFunc]:=by kernel_rfl
theorem cc145:Tryz.prog.concrete 145=true:=by kernel_rfl
theorem cb126:callB Tryz.prog 126=true:=by kernel_rfl
theorem cb96:callB Tryz.prog 96=true:=by kernel_rfl
theorem fo136_0:fieldB Tryz.prog 136 0=some 0:=by kernel_rfl
theorem ag4:aggB Tryz.prog 4=some false:=by kernel_rfl
theorem fo145_0:fieldB Tryz.prog 145 0=some 0:=by kernel_rfl
theorem me136_uses (v:Value)(args:Array Value)(w:World):(callMethod (.iface 136 v) "loop.example/g00033/impl.uses" args).run Tryz.prog w=.ok (.enter 193 (#[v]++args)) w:=by kernel_rfl
theorem me138_uses (v:Value)(args:Array Value)(w:World):(callMethod (.iface 138 v) "loop.example/g00033/impl.uses" args).run Tryz.prog w=.ok (.enter 198 (#[v]++args)) w:=by kernel_rfl
theorem me139_uses (v:Value)(args:Array Value)(w:World):(callMethod (.iface 139 v) "loop.example/g00033/impl.uses" args).run Tryz.prog w=.ok (.enter 201 (#[v]++args)) w:=by kernel_rfl
theorem me141_uses (v:Value)(args:Array Value)(w:World):(callMethod (.iface 141 v) "loop.example/g00033/impl.uses" args).run Tryz.prog w=.ok (.enter 203 (#[v]++args)) w:=by kernel_rfl
theorem me142_uses (v:Value)(args:Array Value)(w:World):(callMethod (.iface 142 v) "loop.example/g00033/impl.uses" args).run Tryz.prog w=.ok (.enter 205 (#[v]++args)) w:=by kernel_rfl
theorem me145_uses (v:Value)(args:Array Value)(w:World):(callMethod (.iface 145 v) "loop.example/g00033/impl.uses" args).run Tryz.prog w=.ok (.enter 221 (#[v]++args)) w:=by kernel_rfl
theorem cb162:callB Tryz.prog 162=true:=by kernel_rfl
theorem cb154:callB Tryz.prog 154=true:=by kernel_rfl
theorem cb136:callB Tryz.prog 136=true:=by kernel_rfl
theorem cb135:callB Tryz.prog 135=true:=by kernel_rfl
theorem cb97:callB Tryz.prog 97=true:=by kernel_rfl
theorem cb196:callB Tryz.prog 196=true:=by kernel_rfl
theorem cb147:callB Tryz.prog 147=true:=by kernel_rfl
theorem cb148:callB Tryz.prog 148=true:=by kernel_rfl
theorem cb195:callB Tryz.prog 195=true:=by kernel_rfl
theorem cb194:callB Tryz.prog 194=true:=by kernel_rfl
theorem cb199:callB Tryz.prog 199=true:=by kernel_rfl
theorem cb150:callB Tryz.prog 150=true:=by kernel_rfl
theorem zc192:zcB Tryz.prog 192=some [(.slice none 0 0),(vstr ([]:Str)),(vstr ([]:Str)),(.slice none 0 0),(.slice none 0 0),(.slice none 0 0),(.slice none 0 0)]:=by kernel_rfl
theorem cb212:callB Tryz.prog 212=true:=by kernel_rfl
theorem cb210:callB Tryz.prog 210=true:=by kernel_rfl
theorem cb215:callB Tryz.prog 215=true:=by kernel_rfl
theorem cb213:callB Tryz.prog 213=true:=by kernel_rfl
theorem cb211:callB Tryz.prog 211=true:=by kernel_rfl
theorem cb171:callB Tryz.prog 171=true:=by kernel_rfl
theorem cb208:callB Tryz.prog 208=true:=by kernel_rfl
theorem cb207:callB Tryz.prog 207=true:=by kernel_rfl
theorem pl192:placesB Tryz.prog 192=some [(0,1),(1,1),(2,1),(3,1),(4,1),(5,1),(6,1)]:=by kernel_rfl
theorem sz192:szB Tryz.prog 192=some 7:=by kernel_rfl
theorem ar195:arB Tryz.prog 195=some (26,3):=by kernel_rfl
theorem zc195:zcB Tryz.prog 195=some [(iv 0),(iv 0),(iv 0),(iv 0),(iv 0),(iv 0),(iv 0),(iv 0),(iv 0),(iv 0),(iv 0),(iv 0),(iv 0),(iv 0),(iv 0),(iv 0),(iv 0),(iv 0),(iv 0),(iv 0),(iv 0),(iv 0),(iv 0),(iv 0),(iv 0),(iv 0)]:=by kernel_rfl
theorem sz195:szB Tryz.prog 195=some 26:=by kernel_rfl
theorem fo192_2:fieldB Tryz.prog 192 2=some 2:=by kernel_rfl
theorem fo192_3:fieldB Tryz.prog 192 3=some 3:=by kernel_rfl
theorem fo192_4:fieldB Tryz.prog 192 4=some 4:=by kernel_rfl
theorem cb64:callB Tryz.prog 64=true:=by kernel_rfl
theorem fo192_5:fieldB Tryz.prog 192 5=some 5:=by kernel_rfl
theorem ag38:aggB Tryz.prog 38=some false:=by kernel_rfl
theorem ag192:aggB Tryz.prog 192=some true:=by kernel_rfl
theorem sz38:szB Tryz.prog 38=some 1:=by kernel_rfl
theorem cb164:callB Tryz.prog 164=true:=by kernel_rfl
theorem cb209:callB Tryz.prog 209=true:=by kernel_rfl
theorem fo192_6:fieldB Tryz.prog 192 6=some 6:=by kernel_rfl
theorem cb206:callB Tryz.prog 206=true:=by kernel_rfl
theorem fo145_1:fieldB Tryz.prog 145 1=some 1:=by kernel_rfl
theorem ag143:aggB Tryz.prog 143=some false:=by kernel_rfl
theorem cb158:callB Tryz.prog 158=true:=by kernel_rfl
theorem cb156:callB Tryz.prog 156=true:=by kernel_rfl
theorem cb166:callB Tryz.prog 166=true:=by kernel_rfl
theorem cb165:callB Tryz.prog 165=true:=by kernel_rfl
theorem cb159:callB Tryz.prog 159=true:=by kernel_rfl
theorem cb168:callB Tryz.prog 168=true:=by kernel_rfl
theorem cb167:callB Tryz.prog 167=true:=by kernel_rfl
theorem cb160:callB Tryz.prog 160=true:=by kernel_rfl
theorem cb170:callB Tryz.prog 170=true:=by kernel_rfl
theorem cb169:callB Tryz.prog 169=true:=by kernel_rfl
theorem cb161:callB Tryz.prog 161=true:=by kernel_rfl
theorem sl147:slB Tryz.prog 147=some 161:=by kernel_rfl
theorem sz161:szB Tryz.prog 161=some 2:=by kernel_rfl
theorem zc161:zcB Tryz.prog 161=some [(iv 0),(iv 0)]:=by kernel_rfl
theorem zc147:zcB Tryz.prog 147=some [(.slice none 0 0)]:=by kernel_rfl
theorem sz147:szB Tryz.prog 147=some 1:=by kernel_rfl
theorem cb157:callB Tryz.prog 157=true:=by kernel_rfl
theorem ag147:aggB Tryz.prog 147=some false:=by kernel_rfl
theorem pl161:placesB Tryz.prog 161=some [(0,1),(1,1)]:=by kernel_rfl
theorem by161:bytesB Tryz.prog 161=some 16:=by kernel_rfl
theorem cb163:callB Tryz.prog 163=true:=by kernel_rfl
theorem cb146:callB Tryz.prog 146=true:=by kernel_rfl
theorem cb145:callB Tryz.prog 145=true:=by kernel_rfl
theorem cb124:callB Tryz.prog 124=true:=by kernel_rfl
theorem cb125:callB Tryz.prog 125=true:=by kernel_rfl
theorem ag150:aggB Tryz.prog 150=some false:=by kernel_rfl
theorem cb151:callB Tryz.prog 151=true:=by kernel_rfl
theorem cb153:callB Tryz.prog 153=true:=by kernel_rfl
theorem ag161:aggB Tryz.prog 161=some true:=by kernel_rfl
theorem fo161_0:fieldB Tryz.prog 161 0=some 0:=by kernel_rfl
theorem fo161_1:fieldB Tryz.prog 161 1=some 1:=by kernel_rfl
theorem cb152:callB Tryz.prog 152=true:=by kernel_rfl
theorem cb128:callB Tryz.prog 128=true:=by kernel_rfl
theorem cb127:callB Tryz.prog 127=true:=by kernel_rfl
theorem cb149:callB Tryz.prog 149=true:=by kernel_rfl
theorem cb130:callB Tryz.prog 130=true:=by kernel_rfl
theorem cb129:callB Tryz.prog 129=true:=by kernel_rfl
theorem cb132:callB Tryz.prog 132=true:=by kernel_rfl
theorem cb131:callB Tryz.prog 131=true:=by kernel_rfl
theorem cb134:callB Tryz.prog 134=true:=by kernel_rfl
theorem cb133:callB Tryz.prog 133=true:=by kernel_rfl
theorem me136_shape (v:Value)(args:Array Value)(w:World):(callMethod (.iface 136 v) "loop.example/g00033/impl.shape" args).run Tryz.prog w=.ok (.enter 192 (#[v]++args)) w:=by kernel_rfl
theorem me138_shape (v:Value)(args:Array Value)(w:World):(callMethod (.iface 138 v) "loop.example/g00033/impl.shape" args).run Tryz.prog w=.ok (.enter 197 (#[v]++args)) w:=by kernel_rfl
theorem me139_shape (v:Value)(args:Array Value)(w:World):(callMethod (.iface 139 v) "loop.example/g00033/impl.shape" args).run Tryz.prog w=.ok (.enter 200 (#[v]++args)) w:=by kernel_rfl
theorem me141_shape (v:Value)(args:Array Value)(w:World):(callMethod (.iface 141 v) "loop.example/g00033/impl.shape" args).run Tryz.prog w=.ok (.enter 202 (#[v]++args)) w:=by kernel_rfl
theorem me142_shape (v:Value)(args:Array Value)(w:World):(callMethod (.iface 142 v) "loop.example/g00033/impl.shape" args).run Tryz.prog w=.ok (.enter 204 (#[v]++args)) w:=by kernel_rfl
theorem me145_shape (v:Value)(args:Array Value)(w:World):(callMethod (.iface 145 v) "loop.example/g00033/impl.shape" args).run Tryz.prog w=.ok (.enter 220 (#[v]++args)) w:=by kernel_rfl
theorem cb59:callB Tryz.prog 59=true:=by kernel_rfl
theorem cb36:callB Tryz.prog 36=true:=by kernel_rfl
theorem cb12:callB Tryz.prog 12=true:=by kernel_rfl
theorem cb16:callB Tryz.prog 16=true:=by kernel_rfl
theorem cb60:callB Tryz.prog 60=true:=by kernel_rfl
theorem cb37:callB Tryz.prog 37=true:=by kernel_rfl
theorem cb13:callB Tryz.prog 13=true:=by kernel_rfl
theorem cb14:callB Tryz.prog 14=true:=by kernel_rfl
theorem cb38:callB Tryz.prog 38=true:=by kernel_rfl
theorem cb15:callB Tryz.prog 15=true:=by kernel_rfl
theorem cb18:callB Tryz.prog 18=true:=by kernel_rfl
theorem un3:Tryz.prog.underlying 3=some (.int .i64):=by kernel_rfl
theorem un5:Tryz.prog.underlying 5=some (.int .u8):=by kernel_rfl
theorem sl112:slB Tryz.prog 112=some 5:=by kernel_rfl
theorem sz5:szB Tryz.prog 5=some 1:=by kernel_rfl
theorem zc5:zcB Tryz.prog 5=some [(.int .u8 (0:Int))]:=by kernel_rfl
theorem cb61:callB Tryz.prog 61=true:=by kernel_rfl
theorem cb39:callB Tryz.prog 39=true:=by kernel_rfl
theorem cb17:callB Tryz.prog 17=true:=by kernel_rfl
theorem cb19:callB Tryz.prog 19=true:=by kernel_rfl
theorem sl60:slB Tryz.prog 60=some 4:=by kernel_rfl
theorem sz4:szB Tryz.prog 4=some 1:=by kernel_rfl
structure kindOfR where
 t:Nat
 b0:Bool
 i0:Int
 i1:Int
 s0:Str
 deriving Inhabited,DecidableEq
def kindOfRV (r:kindOfR)(h:Nat×Nat×Nat):Value:=cond (Nat.beq r.t 0) .nilIface (cond (Nat.beq r.t 1) (.iface 136 (.agg [(.bool r.b0)].toArray)) (cond (Nat.beq r.t 2) (.iface 138 (.agg [(iv r.i0)].toArray)) (cond (Nat.beq r.t 3) (.iface 139 (.agg [(iv r.i0)].toArray)) (cond (Nat.beq r.t 4) (.iface 141 (.agg [].toArray)) (cond (Nat.beq r.t 5) (.iface 142 (.agg [].toArray)) (cond (Nat.beq r.t 6) (.iface 145 (.agg [(vstr r.s0),(.func (.func 124) [].toArray [].toArray)].toArray)) (cond (Nat.beq r.t 7) (.iface 145 (.agg [(vstr r.s0),(.func (.func 125) [].toArray [].toArray)].toArray)) (cond (Nat.beq r.t 8) (.iface 145 (.agg [(vstr r.s0),(.func (.func 149) [].toArray [(pt h.1 0),(pt h.2.1 0),(pt h.2.2 0)].toArray)].toArray)) (cond (Nat.beq r.t 9) (.iface 145 (.agg [(vstr r.s0),(.func (.func 149) [].toArray [(pt h.1 0),(pt h.2.1 0),(pt h.2.2 0)].toArray)].toArray)) (cond (Nat.beq r.t 10) (.iface 145 (.agg [(vstr r.s0),(.func (.func 149) [].toArray [(pt h.1 0),(pt h.2.1 0),(pt h.2.2 0)].toArray)].toArray)) ((.iface 145 (.agg [(vstr r.s0),(.func (.func 149) [].toArray [(pt h.1 0),(pt h.2.1 0),(pt h.2.2 0)].toArray)].toArray)))))))))))))
def kindOfRE (r:kindOfR)(h:Nat×Nat×Nat):HP:=cond (Nat.beq r.t 0) (pk []) (cond (Nat.beq r.t 1) (pk []) (cond (Nat.beq r.t 2) (pk []) (cond (Nat.beq r.t 3) (pk []) (cond (Nat.beq r.t 4) (pk []) (cond (Nat.beq r.t 5) (pk []) (cond (Nat.beq r.t 6) (pk []) (cond (Nat.beq r.t 7) (pk []) (cond (Nat.beq r.t 8) (pk [bxl h.1 [(iv r.i0)] 3,bxl h.2.1 [(iv r.i1)] 3,bxl h.2.2 [(.func (.func 127) [].toArray [].toArray)] 150]) (cond (Nat.beq r.t 9) (pk [bxl h.1 [(iv r.i0)] 3,bxl h.2.1 [(iv r.i1)] 3,bxl h.2.2 [(.func (.func 129) [].toArray [].toArray)] 150]) (cond (Nat.beq r.t 10) (pk [bxl h.1 [(iv r.i0)] 3,bxl h.2.1 [(iv r.i1)] 3,bxl h.2.2 [(.func (.func 131) [].toArray [].toArray)] 150]) ((pk [bxl h.1 [(iv r.i0)] 3,bxl h.2.1 [(iv r.i1)] 3,bxl h.2.2 [(.func (.func 133) [].toArray [].toArray)] 150]))))))))))))
theorem kindOfRN {C:World}{n:Nn}{V:List HP}{σ:Env}{d:Option Nat}{ty:TypeId}{pos:String}{af:Array Edge}{gd:Option (Nat×Bool)}{x:Operand}{T2:TypeId}{r:kindOfR}{h:Nat×Nat×Nat}(hx:ev σ x=kindOfRV r h):VO ⟨Tryz.prog,n,C⟩ V σ ⟨d,.binOp .eql 108 x (.const .nilIface) T2,ty,pos,af,gd⟩ (.bool (Nat.beq r.t 0)):=by
 rcases bo (Nat.beq r.t 0) with e0 | e0
 ·rw [e0]; exact v_inil0 (by kernel_rfl) (by rw [hx]; simp only [kindOfRV,e0,cond_true])
 rcases bo (Nat.beq r.t 1) with e1 | e1
 ·rw [e0]; exact v_inil (by kernel_rfl) (by rw [hx]; simp only [kindOfRV,e0,e1,cond_true,cond_false]; rfl)
 rcases bo (Nat.beq r.t 2) with e2 | e2
 ·rw [e0]; exact v_inil (by kernel_rfl) (by rw [hx]; simp only [kindOfRV,e0,e1,e2,cond_true,cond_false]; rfl)
 rcases bo (Nat.beq r.t 3) with e3 | e3
 ·rw [e0]; exact v_inil (by kernel_rfl) (by rw [hx]; simp only [kindOfRV,e0,e1,e2,e3,cond_true,cond_false]; rfl)
 rcases bo (Nat.beq r.t 4) with e4 | e4
 ·rw [e0]; exact v_inil (by kernel_rfl) (by rw [hx]; simp only [kindOfRV,e0,e1,e2,e3,e4,cond_true,cond_false]; rfl)
 rcases bo (Nat.beq r.t 5) with e5 | e5
 ·rw [e0]; exact v_inil (by kernel_rfl) (by rw [hx]; simp only [kindOfRV,e0,e1,e2,e3,e4,e5,cond_true,cond_false]; rfl)
 rcases bo (Nat.beq r.t 6) with e6 | e6
 ·rw [e0]; exact v_inil (by kernel_rfl) (by rw [hx]; simp only [kindOfRV,e0,e1,e2,e3,e4,e5,e6,cond_true,cond_false]; rfl)
 rcases bo (Nat.beq r.t 7) with e7 | e7
 ·rw [e0]; exact v_inil (by kernel_rfl) (by rw [hx]; simp only [kindOfRV,e0,e1,e2,e3,e4,e5,e6,e7,cond_true,cond_false]; rfl)
 rcases bo (Nat.beq r.t 8) with e8 | e8
 ·rw [e0]; exact v_inil (by kernel_rfl) (by rw [hx]; simp only [kindOfRV,e0,e1,e2,e3,e4,e5,e6,e7,e8,cond_true,cond_false]; rfl)
 rcases bo (Nat.beq r.t 9) with e9 | e9
 ·rw [e0]; exact v_inil (by kernel_rfl) (by rw [hx]; simp only [kindOfRV,e0,e1,e2,e3,e4,e5,e6,e7,e8,e9,cond_true,cond_false]; rfl)
 rcases bo (Nat.beq r.t 10) with e10 | e10
 ·rw [e0]; exact v_inil (by kernel_rfl) (by rw [hx]; simp only [kindOfRV,e0,e1,e2,e3,e4,e5,e6,e7,e8,e9,e10,cond_true,cond_false]; rfl)
 rw [e0]; exact v_inil (by kernel_rfl) (by rw [hx]; simp only [kindOfRV,e0,e1,e2,e3,e4,e5,e6,e7,e8,e9,e10,cond_false]; rfl)
instance:HAg Tryz.prog 25 true:=⟨ag25⟩
instance:HSz Tryz.prog 25 2:=⟨sz25⟩
instance:HFo Tryz.prog 25 0 0:=⟨fo25_0⟩
instance:HAg Tryz.prog 22 false:=⟨ag22⟩
instance:HSl Tryz.prog 22 70:=⟨sl22⟩
instance:HSz Tryz.prog 70 6:=⟨sz70⟩
instance:HAg Tryz.prog 70 true:=⟨ag70⟩
instance:HFo Tryz.prog 70 1 1:=⟨fo70_1⟩
instance:HAg Tryz.prog 23 false:=⟨ag23⟩
instance:HSl Tryz.prog 23 3:=⟨sl23⟩
instance:HFo Tryz.prog 70 2 2:=⟨fo70_2⟩
instance:HFo Tryz.prog 70 3 3:=⟨fo70_3⟩
instance:HFo Tryz.prog 70 4 4:=⟨fo70_4⟩
instance:HAg Tryz.prog 9 false:=⟨ag9⟩
instance:HFo Tryz.prog 70 5 5:=⟨fo70_5⟩
instance:HFo Tryz.prog 25 1 1:=⟨fo25_1⟩
instance:HSl Tryz.prog 28 54:=⟨sl28⟩
instance:HSz Tryz.prog 54 6:=⟨sz54⟩
instance:HFo Tryz.prog 70 0 0:=⟨fo70_0⟩
instance:HAg Tryz.prog 3 false:=⟨ag3⟩
instance:HFo Tryz.prog 54 0 0:=⟨fo54_0⟩
instance:HSz Tryz.prog 3 1:=⟨sz3⟩
instance:HFo Tryz.prog 54 1 1:=⟨fo54_1⟩
instance:HSz Tryz.prog 23 1:=⟨sz23⟩
instance:HFo Tryz.prog 54 2 2:=⟨fo54_2⟩
instance:HFo Tryz.prog 54 3 3:=⟨fo54_3⟩
instance:HFo Tryz.prog 54 4 4:=⟨fo54_4⟩
instance:HSz Tryz.prog 9 1:=⟨sz9⟩
instance:HFo Tryz.prog 54 5 5:=⟨fo54_5⟩
instance:HAg Tryz.prog 54 true:=⟨ag54⟩
instance:HFo Tryz.prog 30 0 0:=⟨fo30_0⟩
instance:HSz Tryz.prog 28 1:=⟨sz28⟩
instance:HFo Tryz.prog 30 1 1:=⟨fo30_1⟩
instance:HAg Tryz.prog 30 true:=⟨ag30⟩
instance:HSz Tryz.prog 30 2:=⟨sz30⟩
instance:HSl Tryz.prog 46 58:=⟨sl46⟩
instance:HSz Tryz.prog 58 2:=⟨sz58⟩
instance:HAg Tryz.prog 28 false:=⟨ag28⟩
instance:HAg Tryz.prog 58 true:=⟨ag58⟩
instance:HFo Tryz.prog 58 0 0:=⟨fo58_0⟩
instance:HFo Tryz.prog 58 1 1:=⟨fo58_1⟩
instance:HSl Tryz.prog 122 9:=⟨sl122⟩
instance:HSl Tryz.prog 38 23:=⟨sl38⟩
instance:HSz Tryz.prog 96 4:=⟨sz96⟩
instance:HFo Tryz.prog 96 1 1:=⟨fo96_1⟩
instance:HAg Tryz.prog 96 true:=⟨ag96⟩
instance:HFo Tryz.prog 96 0 0:=⟨fo96_0⟩
instance:HFo Tryz.prog 96 3 3:=⟨fo96_3⟩
instance:HFo Tryz.prog 96 2 2:=⟨fo96_2⟩
instance:HFo Tryz.prog 136 0 0:=⟨fo136_0⟩
instance:HAg Tryz.prog 4 false:=⟨ag4⟩
instance:HFo Tryz.prog 145 0 0:=⟨fo145_0⟩
instance:HSz Tryz.prog 192 7:=⟨sz192⟩
instance:HSz Tryz.prog 195 26:=⟨sz195⟩
instance:HFo Tryz.prog 192 2 2:=⟨fo192_2⟩
instance:HFo Tryz.prog 192 3 3:=⟨fo192_3⟩
instance:HFo Tryz.prog 192 4 4:=⟨fo192_4⟩
instance:HFo Tryz.prog 192 5 5:=⟨fo192_5⟩
instance:HAg Tryz.prog 38 false:=⟨ag38⟩
instance:HAg Tryz.prog 192 true:=⟨ag192⟩
instance:HSz Tryz.prog 38 1:=⟨sz38⟩
instance:HFo Tryz.prog 192 6 6:=⟨fo192_6⟩
instance:HFo Tryz.prog 145 1 1:=⟨fo145_1⟩
instance:HAg Tryz.prog 143 false:=⟨ag143⟩
instance:HSl Tryz.prog 147 161:=⟨sl147⟩
instance:HSz Tryz.prog 161 2:=⟨sz161⟩
instance:HSz Tryz.prog 147 1:=⟨sz147⟩
instance:HAg Tryz.prog 147 false:=⟨ag147⟩
instance:HAg Tryz.prog 150 false:=⟨ag150⟩
instance:HAg Tryz.prog 161 true:=⟨ag161⟩
instance:HFo Tryz.prog 161 0 0:=⟨fo161_0⟩
instance:HFo Tryz.prog 161 1 1:=⟨fo161_1⟩
instance:HSl Tryz.prog 112 5:=⟨sl112⟩
instance:HSz Tryz.prog 5 1:=⟨sz5⟩
instance:HSl Tryz.prog 60 4:=⟨sl60⟩
instance:HSz Tryz.prog 4 1:=⟨sz4⟩
end Go.Proofs.YtmpnollfdpdipaaGreat
