import Derived.Test.YthfhllekobdelaaGreatDoorPg22
import Derived.Test.YthfhllekobdelaaGreatDoorStLV
import Derived.Test.YthfhllekobdelaaGreatDoorPg40
import Derived.Test.YthfhllekobdelaaGreatDoorPg38
import Derived.Test.YthfhllekobdelaaGreatDoorProg
set_option linter.unusedVariables false
namespace Go.Proofs.YthfhllekobdelaaGreatDoor
open Go Go.Pg
structure Tensor where
  Dims : (List Int)
  Data : (List Int)
  deriving Inhabited, DecidableEq
structure l1Cur where
  b : (List Int)
  i : Int
  h_ : Int
  deriving Inhabited, DecidableEq
structure sizes where
  n : Int
  c : Int
  h_ : Int
  w_ : Int
  o : Int
  k : Int
  a : Int
  b : Int
  deriving Inhabited, DecidableEq
structure filter where
  sizes : sizes
  stride : Int
  pad : Int
  dil : Int
  groups : Int
  oh : Int
  ow : Int
  deriving Inhabited, DecidableEq
structure pair where
  from_ : Int
  to : Int
  deriving Inhabited, DecidableEq
structure View where
  Dims : (List Int)
  Strides : (List Int)
  Offset : Int
  Base : Int
  deriving Inhabited, DecidableEq
structure form where
  groups : (List aO)
  out_ : aO
  order : aO
  loops : (List Int)
  dims : (List Int)
  steps : (List (List Int))
  store : (List Int)
  deriving Inhabited, DecidableEq
def gD : aO := [110, 99, 104, 119, 97, 98, 44, 111, 99, 97, 98, 45, 62, 110, 111, 104, 119]
def str1 : aO := [45, 62]
def str2 : aO := [44]
theorem cF : Tryz.prog.follows .mixedOrders = true := by kernel_rfl
abbrev eC : Kind Int := Kind.int .u8
def dT5 : DecK eC := DecK.scal _ _
abbrev kT3 : Kind Int := Kind.int .i64
def xU : DecK kT3 := DecK.scal _ _
def fw : MkO kT3 := MkO.scal _ _
def zT3 : Zr kT3 := Zr.scal _ _ 0
theorem fM : kT3.Closed := Kind.scal_closed _ _
abbrev cH : Kind (List Int) := Kind.sl 3 kT3
def dT24 : DecK cH := DecK.sl 3 kT3
def rn : MkS cH := MkS.sl 3 kT3
def vo : MkO cH := MkO.sl 3 kT3
def tK : Zr cH := Zr.sl 3 kT3
abbrev eO : Kind Tensor := Kind.iso (Kind.pair cH cH) (fun x : Tensor => (x.Dims, x.Data))
def dT26 : DecK eO := DecK.iso (DecK.pair dT24 dT24) _
def tL : MkS eO := MkS.iso (MkS.pair rn rn) _
abbrev kT149 : Kind pair := Kind.iso (Kind.pair kT3 kT3) (fun x : pair => (x.from_, x.to))
def sk : DecK kT149 := DecK.iso (DecK.pair xU xU) _
def pa : MkO kT149 := MkO.iso (MkO.pair fw fw) _
def zT149 : Zr kT149 := Zr.iso (Zr.pair zT3 zT3) _ ⟨zT3.z, zT3.z⟩ rfl
theorem vq : kT149.Closed := Kind.iso_closed (Kind.pair_closed fM fM) _
abbrev cV : Kind aO := Kind.str
def dT9 : DecK cV := DecK.scal _ _
def tM : MkO cV := MkO.scal _ _
def wX : Zr cV := Zr.scal _ _ []
theorem o9 : km Tryz.prog 22 = some 5 := by kernel_rfl
theorem cb6 : bH Tryz.prog 6 = true := by kernel_rfl
theorem dC : jQ Tryz.prog 26 = some [(.slice none 0 0), (.slice none 0 0)] := by kernel_rfl
theorem xV : gb Tryz.prog 5 = some 1 := by kernel_rfl
theorem xW : fy Tryz.prog 5 = some false := by kernel_rfl
theorem wY : Tryz.prog.underlying 5 = some (.int .u8) := by kernel_rfl
theorem xX : Tryz.prog.underlying 3 = some (.int .i64) := by kernel_rfl
theorem vr : fL Tryz.prog 145 = some [(0, 1), (1, 1), (2, 1)] := by kernel_rfl
theorem vt : jQ Tryz.prog 145 = some [(.slice none 0 0), (iv 0), (iv 0)] := by kernel_rfl
theorem wZ : bH Tryz.prog 31 = true := by kernel_rfl
theorem jy : dB Tryz.prog 145 2 = some 2 := by kernel_rfl
theorem cE : fy Tryz.prog 3 = some false := by kernel_rfl
theorem bX : gb Tryz.prog 3 = some 1 := by kernel_rfl
theorem jz : dB Tryz.prog 145 1 = some 1 := by kernel_rfl
theorem ns : dB Tryz.prog 145 0 = some 0 := by kernel_rfl
theorem vu : fy Tryz.prog 22 = some false := by kernel_rfl
theorem lX : bH Tryz.prog 115 = true := by kernel_rfl
theorem fX : bH Tryz.prog 32 = true := by kernel_rfl
theorem aV : km Tryz.prog 24 = some 3 := by kernel_rfl
theorem fj : jQ Tryz.prog 3 = some [(iv 0)] := by kernel_rfl
theorem ii : fR Tryz.prog 3 = some 8 := by kernel_rfl
theorem fF : fL Tryz.prog 26 = some [(0, 1), (1, 1)] := by kernel_rfl
theorem bO : gb Tryz.prog 26 = some 2 := by kernel_rfl
theorem oa : bH Tryz.prog 79 = true := by kernel_rfl
theorem mF : bH Tryz.prog 47 = true := by kernel_rfl
theorem cJ : fy Tryz.prog 26 = some true := by kernel_rfl
theorem rp : bH Tryz.prog 48 = true := by kernel_rfl
theorem cA : dB Tryz.prog 26 1 = some 1 := by kernel_rfl
theorem bK : fy Tryz.prog 24 = some false := by kernel_rfl
theorem rq : bH Tryz.prog 35 = true := by kernel_rfl
theorem sn : bH Tryz.prog 185 = true := by kernel_rfl
theorem i7 : bH Tryz.prog 118 = true := by kernel_rfl
theorem pb : bH Tryz.prog 52 = true := by kernel_rfl
theorem vv : bH Tryz.prog 170 = true := by kernel_rfl
theorem vw : bH Tryz.prog 149 = true := by kernel_rfl
theorem vx : bH Tryz.prog 150 = true := by kernel_rfl
theorem tN : bH Tryz.prog 36 = true := by kernel_rfl
theorem vy : bH Tryz.prog 116 = true := by kernel_rfl
theorem fk : gb Tryz.prog 24 = some 1 := by kernel_rfl
theorem cG : dB Tryz.prog 26 0 = some 0 := by kernel_rfl
theorem vC : bH Tryz.prog 34 = true := by kernel_rfl
theorem vD : bH Tryz.prog 33 = true := by kernel_rfl
theorem cb7 : bH Tryz.prog 7 = true := by kernel_rfl
theorem kq : bH Tryz.prog 65 = true := by kernel_rfl
theorem jY : bH Tryz.prog 66 = true := by kernel_rfl
theorem iJ : bH Tryz.prog 68 = true := by kernel_rfl
theorem tO : bH Tryz.prog 37 = true := by kernel_rfl
theorem x5 : bH Tryz.prog 38 = true := by kernel_rfl
theorem cb8 : bH Tryz.prog 8 = true := by kernel_rfl
theorem ij : km Tryz.prog 39 = some 26 := by kernel_rfl
theorem vE : bH Tryz.prog 151 = true := by kernel_rfl
theorem vF : bH Tryz.prog 122 = true := by kernel_rfl
theorem tP : bH Tryz.prog 57 = true := by kernel_rfl
theorem vG : bH Tryz.prog 40 = true := by kernel_rfl
theorem mH : jQ Tryz.prog 66 = some [(iv 0), (iv 0), (iv 0), (iv 0), (iv 0), (iv 0), (iv 0), (iv 0), (iv 0), (iv 0), (iv 0), (iv 0), (iv 0), (iv 0)] := by kernel_rfl
theorem rr : bH Tryz.prog 92 = true := by kernel_rfl
theorem rt : fL Tryz.prog 66 = some [(0, 8), (8, 1), (9, 1), (10, 1), (11, 1), (12, 1), (13, 1)] := by kernel_rfl
theorem hY : gb Tryz.prog 66 = some 14 := by kernel_rfl
theorem x7 : fL Tryz.prog 64 = some [(0, 1), (1, 1), (2, 1), (3, 1), (4, 1), (5, 1), (6, 1), (7, 1)] := by kernel_rfl
theorem x8 : jQ Tryz.prog 64 = some [(iv 0), (iv 0), (iv 0), (iv 0), (iv 0), (iv 0), (iv 0), (iv 0)] := by kernel_rfl
theorem dS : dB Tryz.prog 66 0 = some 0 := by kernel_rfl
theorem mI : dB Tryz.prog 64 2 = some 2 := by kernel_rfl
theorem kO : dB Tryz.prog 64 6 = some 6 := by kernel_rfl
theorem mJ : dB Tryz.prog 64 3 = some 3 := by kernel_rfl
theorem kP : dB Tryz.prog 64 7 = some 7 := by kernel_rfl
theorem pc : dB Tryz.prog 64 1 = some 1 := by kernel_rfl
theorem jZ : dB Tryz.prog 64 5 = some 5 := by kernel_rfl
theorem kQ : dB Tryz.prog 64 4 = some 4 := by kernel_rfl
theorem mK : dB Tryz.prog 66 5 = some 12 := by kernel_rfl
theorem mL : dB Tryz.prog 66 6 = some 13 := by kernel_rfl
theorem kr : fy Tryz.prog 66 = some true := by kernel_rfl
theorem pg : dB Tryz.prog 64 0 = some 0 := by kernel_rfl
theorem ru : bH Tryz.prog 42 = true := by kernel_rfl
theorem x9 : bH Tryz.prog 41 = true := by kernel_rfl
theorem tQ : dB Tryz.prog 66 4 = some 11 := by kernel_rfl
theorem ph : dB Tryz.prog 66 1 = some 8 := by kernel_rfl
theorem pi : dB Tryz.prog 66 2 = some 9 := by kernel_rfl
theorem pj : dB Tryz.prog 66 3 = some 10 := by kernel_rfl
theorem vH : bH Tryz.prog 73 = true := by kernel_rfl
theorem tR : bH Tryz.prog 74 = true := by kernel_rfl
theorem xa : bH Tryz.prog 43 = true := by kernel_rfl
theorem vJ : bH Tryz.prog 39 = true := by kernel_rfl
theorem tS : bH Tryz.prog 10 = true := by kernel_rfl
theorem xb : bH Tryz.prog 9 = true := by kernel_rfl
theorem lY : bH Tryz.prog 46 = true := by kernel_rfl
theorem pk : bH Tryz.prog 29 = true := by kernel_rfl
theorem rv : bH Tryz.prog 44 = true := by kernel_rfl
theorem vK : bH Tryz.prog 45 = true := by kernel_rfl
theorem pl : bH Tryz.prog 49 = true := by kernel_rfl
theorem vL : bH Tryz.prog 117 = true := by kernel_rfl
theorem tT : bH Tryz.prog 88 = true := by kernel_rfl
theorem tU : bH Tryz.prog 53 = true := by kernel_rfl
theorem xc : bH Tryz.prog 50 = true := by kernel_rfl
theorem vM : bH Tryz.prog 51 = true := by kernel_rfl
theorem pm : mE Tryz.prog 26 1 = some (24, 1) := by kernel_rfl
theorem xe : bH Tryz.prog 11 = true := by kernel_rfl
theorem pn : bH Tryz.prog 62 = true := by kernel_rfl
theorem vN : bH Tryz.prog 120 = true := by kernel_rfl
theorem k8 : km Tryz.prog 79 = some 149 := by kernel_rfl
theorem gA : gb Tryz.prog 149 = some 2 := by kernel_rfl
theorem i8 : jQ Tryz.prog 149 = some [(iv 0), (iv 0)] := by kernel_rfl
theorem sq : fL Tryz.prog 149 = some [(0, 1), (1, 1)] := by kernel_rfl
theorem pq : fR Tryz.prog 149 = some 16 := by kernel_rfl
theorem vO : bH Tryz.prog 137 = true := by kernel_rfl
theorem su : fy Tryz.prog 149 = some true := by kernel_rfl
theorem nt : dB Tryz.prog 149 0 = some 0 := by kernel_rfl
theorem kR : dB Tryz.prog 149 1 = some 1 := by kernel_rfl
theorem vQ : bH Tryz.prog 121 = true := by kernel_rfl
theorem xf : bH Tryz.prog 56 = true := by kernel_rfl
theorem xg : bH Tryz.prog 55 = true := by kernel_rfl
theorem vR : bH Tryz.prog 119 = true := by kernel_rfl
theorem xh : bH Tryz.prog 54 = true := by kernel_rfl
theorem vU : bH Tryz.prog 12 = true := by kernel_rfl
theorem fH : jQ Tryz.prog 35 = some [(.slice none 0 0), (.slice none 0 0), (iv 0), (iv 0)] := by kernel_rfl
theorem jl : fL Tryz.prog 35 = some [(0, 1), (1, 1), (2, 1), (3, 1)] := by kernel_rfl
theorem dZ : gb Tryz.prog 35 = some 4 := by kernel_rfl
theorem tV : bH Tryz.prog 67 = true := by kernel_rfl
theorem fc : fy Tryz.prog 35 = some true := by kernel_rfl
theorem dH : dB Tryz.prog 35 0 = some 0 := by kernel_rfl
theorem eJ : dB Tryz.prog 35 1 = some 1 := by kernel_rfl
theorem fI : dB Tryz.prog 35 3 = some 3 := by kernel_rfl
theorem fY : dB Tryz.prog 35 2 = some 2 := by kernel_rfl
theorem tW : bH Tryz.prog 58 = true := by kernel_rfl
theorem vV : bH Tryz.prog 63 = true := by kernel_rfl
theorem xi : bH Tryz.prog 64 = true := by kernel_rfl
theorem xj : bH Tryz.prog 61 = true := by kernel_rfl
theorem xk : bH Tryz.prog 60 = true := by kernel_rfl
theorem vW : bH Tryz.prog 123 = true := by kernel_rfl
theorem vX : bH Tryz.prog 152 = true := by kernel_rfl
theorem xl : bH Tryz.prog 59 = true := by kernel_rfl
theorem xm : bH Tryz.prog 15 = true := by kernel_rfl
theorem vY : bH Tryz.prog 14 = true := by kernel_rfl
theorem xn : bH Tryz.prog 13 = true := by kernel_rfl
theorem tX : fy Tryz.prog 39 = some false := by kernel_rfl
theorem gR : km Tryz.prog 93 = some 24 := by kernel_rfl
theorem tY : fR Tryz.prog 24 = some 24 := by kernel_rfl
theorem oc : jQ Tryz.prog 24 = some [(.slice none 0 0)] := by kernel_rfl
theorem vZ : bH Tryz.prog 128 = true := by kernel_rfl
theorem v' : bH Tryz.prog 127 = true := by kernel_rfl
theorem kS : jQ Tryz.prog 95 = some [(.slice none 0 0), (aJ ([] : aO)), (aJ ([] : aO)), (.slice none 0 0), (.slice none 0 0), (.slice none 0 0), (.slice none 0 0)] := by kernel_rfl
theorem sv : bH Tryz.prog 134 = true := by kernel_rfl
theorem f5 : Tryz.prog.underlying 9 = some .string := by kernel_rfl
theorem w4 : bH Tryz.prog 143 = true := by kernel_rfl
theorem w6 : bH Tryz.prog 109 = true := by kernel_rfl
theorem w7 : bH Tryz.prog 193 = true := by kernel_rfl
theorem fd : km Tryz.prog 92 = some 9 := by kernel_rfl
theorem jf : gb Tryz.prog 9 = some 1 := by kernel_rfl
theorem xo : fR Tryz.prog 9 = some 16 := by kernel_rfl
theorem uT : jQ Tryz.prog 9 = some [(aJ ([] : aO))] := by kernel_rfl
theorem xp : Tryz.prog.underlying 21 = some (.int .i32) := by kernel_rfl
theorem w8 : bH Tryz.prog 194 = true := by kernel_rfl
theorem w9 : bH Tryz.prog 177 = true := by kernel_rfl
theorem wc : bH Tryz.prog 178 = true := by kernel_rfl
theorem xq : bH Tryz.prog 93 = true := by kernel_rfl
theorem wf : bH Tryz.prog 164 = true := by kernel_rfl
theorem wg : bH Tryz.prog 144 = true := by kernel_rfl
theorem ml : fy Tryz.prog 9 = some false := by kernel_rfl
theorem wh : bH Tryz.prog 153 = true := by kernel_rfl
theorem nu : bH Tryz.prog 125 = true := by kernel_rfl
theorem wi : bH Tryz.prog 124 = true := by kernel_rfl
theorem od : fL Tryz.prog 95 = some [(0, 1), (1, 1), (2, 1), (3, 1), (4, 1), (5, 1), (6, 1)] := by kernel_rfl
theorem gE : gb Tryz.prog 95 = some 7 := by kernel_rfl
theorem pu : vh Tryz.prog 153 = some (26, 3) := by kernel_rfl
theorem sy : jQ Tryz.prog 153 = some [(iv 0), (iv 0), (iv 0), (iv 0), (iv 0), (iv 0), (iv 0), (iv 0), (iv 0), (iv 0), (iv 0), (iv 0), (iv 0), (iv 0), (iv 0), (iv 0), (iv 0), (iv 0), (iv 0), (iv 0), (iv 0), (iv 0), (iv 0), (iv 0), (iv 0), (iv 0)] := by kernel_rfl
theorem wj : gb Tryz.prog 153 = some 26 := by kernel_rfl
theorem ik : dB Tryz.prog 95 2 = some 2 := by kernel_rfl
theorem k9 : dB Tryz.prog 95 3 = some 3 := by kernel_rfl
theorem kT : dB Tryz.prog 95 4 = some 4 := by kernel_rfl
theorem kU : dB Tryz.prog 95 5 = some 5 := by kernel_rfl
theorem tZ : fy Tryz.prog 93 = some false := by kernel_rfl
theorem ks : fy Tryz.prog 95 = some true := by kernel_rfl
theorem xr : gb Tryz.prog 93 = some 1 := by kernel_rfl
theorem sC : bH Tryz.prog 126 = true := by kernel_rfl
theorem pw : dB Tryz.prog 95 6 = some 6 := by kernel_rfl
theorem xt : bH Tryz.prog 70 = true := by kernel_rfl
theorem xu : bH Tryz.prog 69 = true := by kernel_rfl
theorem xv : bH Tryz.prog 72 = true := by kernel_rfl
theorem xw : bH Tryz.prog 71 = true := by kernel_rfl
theorem xx : bH Tryz.prog 16 = true := by kernel_rfl
theorem xy : bH Tryz.prog 75 = true := by kernel_rfl
theorem wl : bH Tryz.prog 76 = true := by kernel_rfl
theorem xz : bH Tryz.prog 77 = true := by kernel_rfl
theorem wm : bH Tryz.prog 17 = true := by kernel_rfl
theorem xA : bH Tryz.prog 84 = true := by kernel_rfl
theorem wn : bH Tryz.prog 129 = true := by kernel_rfl
theorem wo : bH Tryz.prog 80 = true := by kernel_rfl
theorem t' : bH Tryz.prog 78 = true := by kernel_rfl
theorem xB : bH Tryz.prog 81 = true := by kernel_rfl
theorem xC : bH Tryz.prog 82 = true := by kernel_rfl
theorem xD : bH Tryz.prog 83 = true := by kernel_rfl
theorem xE : bH Tryz.prog 20 = true := by kernel_rfl
theorem wq : bH Tryz.prog 19 = true := by kernel_rfl
theorem xF : bH Tryz.prog 18 = true := by kernel_rfl
theorem sD : bH Tryz.prog 130 = true := by kernel_rfl
theorem sE : bH Tryz.prog 131 = true := by kernel_rfl
theorem xG : bH Tryz.prog 85 = true := by kernel_rfl
theorem xH : bH Tryz.prog 86 = true := by kernel_rfl
theorem xI : bH Tryz.prog 87 = true := by kernel_rfl
theorem xJ : bH Tryz.prog 21 = true := by kernel_rfl
end Go.Proofs.YthfhllekobdelaaGreatDoor
