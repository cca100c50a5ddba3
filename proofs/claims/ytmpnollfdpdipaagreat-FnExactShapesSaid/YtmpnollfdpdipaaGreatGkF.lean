import Derived.Test.YtmpnollfdpdipaaGreatGkH
set_option linter.unusedVariables false
namespace Go.Proofs.YtmpnollfdpdipaaGreat
open Go Go.Pg
noncomputable section
def Z1h (b:(List Int))(a:Int):Option (Int) :=
 if (decide ((aH (a - (b.length:Int)))<0))=true then (
 some (-1:Int))
 else (
 some (aH (a - (b.length:Int))))
def Z2k (e:Node)(a:Int):Option (Int) :=
 (Z1h e.Args a).bind fun i =>
 if (decide (i<0))=true then (
 some (-1:Int))
 else (
 (Z1h e.Dims i).bind fun h =>
 if (decide (h<0))=true then (
 some (-1:Int))
 else (
 (Z1h e.Ints h).bind fun b =>
 if (decide (b<0))=true then (
 some (-1:Int))
 else (
 if (decide ((aH (b - (e.Form.length:Int)))<0))=true then (
 some (-1:Int))
 else (
 (Z1h e.Data (aH (b - (e.Form.length:Int)))).bind fun g =>
 if (decide (g<0))=true then (
 some (-1:Int))
 else (
 some g)))))
def Z18_J1 (a:Int):Option (Int) :=
 some a
def Z18_L1 (g:(List Node))(a:Int)(b:Int):Option ((Int×Int)⊕((Int)⊕(Int))) :=
 if (decide (b<(g.length:Int)))=true then (
 if (0≤b∧b<(g.length:Int)) then
 (Z2k (ix g b) a).bind fun e =>
 if (decide (e<0))=true then (
 some (.inr (.inl (-1:Int))))
 else (
 some (.inl (e,(aH (b+1)))))
 else none)
 else (
 some (.inr (.inr a)))
def Z18 (b:(List Node))(a:Int):Option (Int) :=
 if (decide ((aH (a - (b.length:Int)))<0))=true then (
 some (-1:Int))
 else (
 (aR (fun s:Int×Int=>Z18_L1 b s.1 s.2) ((aH (a - (b.length:Int))),(0:Int))).bind fun e=>match e with
 | .inl e=>some e
 | .inr e=>Z18_J1 e)
def Z2v (e:Graph)(a:Int):Option (Int) :=
 (Z18 e.Nodes a).bind fun b =>
 if (decide (b<0))=true then (
 some (-1:Int))
 else (
 (Z1h e.Outs b).bind fun g =>
 if (decide (g<0))=true then (
 some (-1:Int))
 else (
 some g))
def Z03_J1 (a:(List Int)):Option ((List Int)) :=
 some a
def Z03_L1 (e:(List Int))(b:(List Int))(a:Int):Option (((List Int)×Int)⊕((List Int))) :=
 if (decide (a<(e.length:Int)))=true then (
 if (0≤a∧a<(e.length:Int)) then
 if (0≤a∧a<((List.replicate (e.length:Int).toNat (0:Int)).length:Int)) then
 some (.inl ((b.set a.toNat (ix e a)),(aH (a+1))))
 else none
 else none)
 else (
 some (.inr b))
def Z03 (a:(List Int)):Option ((List Int)) :=
 if (0≤(a.length:Int)∧(a.length:Int)≤140737488355328∧8*(a.length:Int)≤281474976710656) then
 (aR (fun s:(List Int)×Int=>Z03_L1 a s.1 s.2) ((List.replicate (a.length:Int).toNat (0:Int)),(0:Int))).bind fun e=>Z03_J1 e
 else none
def Z2w (a:Node):Option (Node) :=
 (Z03 a.Args).bind fun h =>
 (Z03 a.Dims).bind fun e =>
 (Z03 a.Ints).bind fun g =>
 (Z03 a.Data).bind fun b =>
 some (⟨a.Op,h,e,g,a.Form,b⟩:Node)
def Z0p_J1 (a:(List Node)):Option ((List Node)) :=
 some a
def Z0p_L1 (e:(List Node))(b:(List Node))(a:Int):Option (((List Node)×Int)⊕((List Node))) :=
 if (decide (a<(e.length:Int)))=true then (
 if (0≤a∧a<(e.length:Int)) then
 (Z2w (ix e a)).bind fun g =>
 if (0≤a∧a<((List.replicate (e.length:Int).toNat zT54.z).length:Int)) then
 some (.inl ((b.set a.toNat g),(aH (a+1))))
 else none
 else none)
 else (
 some (.inr b))
def Z0p (a:(List Node)):Option ((List Node)) :=
 if (0≤(a.length:Int)∧(a.length:Int)≤140737488355328∧120*(a.length:Int)≤281474976710656) then
 (aR (fun s:(List Node)×Int=>Z0p_L1 a s.1 s.2) ((List.replicate (a.length:Int).toNat zT54.z),(0:Int))).bind fun e=>Z0p_J1 e
 else none
def Z19 (b:Graph):Option (Graph) :=
 (Z0p b.Nodes).bind fun e =>
 (Z03 b.Outs).bind fun a =>
 some (⟨e,a⟩:Graph)
def Z2y (a:Int):Option (Int×Int) :=
 if (decide (a≤2))=true then (
 some ((0:Int),(0:Int)))
 else (
 if (decide (a≤5))=true then (
 some ((2:Int),(2:Int)))
 else (
 if (a==11)=true then (
 some ((1:Int),(6:Int)))
 else (
 some ((1:Int),(1:Int)))))
def Z38 (a:Int):Option (Bool) :=
 some ((((a==1)||(a==2))||(a==12))||(a==13))
def Z1b_J2 (a:Bool):Option (Int) :=
 if a=true then (
 some (3:Int))
 else (
 some (0:Int))
def Z1b_J1 (a:Int)(b:Bool):Option (Int) :=
 if b=true then (
 some (4:Int))
 else (
 if (a==16)=true then (
 some (1:Int))
 else (
 if (a==17)=true then (
 some (2:Int))
 else (
 if (a==18)=true then (
 Z1b_J2 (a==18))
 else (
 Z1b_J2 (a==19)))))
def Z1b (a:Int):Option (Int) :=
 if (a==10)=true then (
 some (1:Int))
 else (
 if (a==14)=true then (
 Z1b_J1 a (a==14))
 else (
 Z1b_J1 a (a==15)))
def Z17 (a:Node):Option (Bool) :=
 if ((decide (a.Op<1))||(decide (a.Op>19)))=true then (
 some false)
 else (
 (Z2y a.Op).bind fun g =>
 if ((decide ((a.Args.length:Int)<g.1))||(decide ((a.Args.length:Int)>g.2)))=true then (
 some false)
 else (
 (Z38 a.Op).bind fun e =>
 if ((((!e)&&(decide ((a.Dims.length:Int)>0)))||((a.Op != 11)&&(!(a.Form==([]:aM)))))||((a.Op != 2)&&(decide ((a.Data.length:Int)>0))))=true then (
 some false)
 else (
 (Z1b a.Op).bind fun b =>
 if ((a.Op==16)||(a.Op==17))=true then (
 some ((decide ((a.Ints.length:Int)≥b))&&(decide ((a.Ints.length:Int)≤(aH (b+4096))))))
 else (
 some ((a.Ints.length:Int)==b)))))
def Z0g_J1:Option (Bool) :=
 some true
def Z0g_L1 (a:(List Int))(e:Int)(b:Int):Option ((Int)⊕((Bool)⊕(Unit))) :=
 if (decide (b<(a.length:Int)))=true then (
 if (0≤b∧b<(a.length:Int)) then
 if ((decide ((ix a b)<0))||(decide ((ix a b)≥e)))=true then (
 some (.inr (.inl false)))
 else (
 some (.inl (aH (b+1))))
 else none)
 else (
 some (.inr (.inr ())))
def Z0g (a:(List Int))(b:Int):Option (Bool) :=
 (aR (fun s:Int=>Z0g_L1 a b s) (0:Int)).bind fun e=>match e with
 | .inl e=>some e
 | .inr e=>Z0g_J1
def Zs_J1 (a:Int):Option (Int) :=
 some a
def Zs_L1 (a:(List Int))(e:Int)(b:Int):Option ((Int×Int)⊕((Int)⊕(Int))) :=
 if (decide (b<(a.length:Int)))=true then (
 if (0≤b∧b<(a.length:Int)) then
 if ((decide ((ix a b)<1))||(decide ((ix a b)>4096)))=true then (
 some (.inr (.inl (0:Int))))
 else (
 if (decide ((aH (e*(ix a b)))>4096))=true then (
 some (.inr (.inl (0:Int))))
 else (
 some (.inl ((aH (e*(ix a b))),(aH (b+1))))))
 else none)
 else (
 some (.inr (.inr e)))
def Zs (a:(List Int)):Option (Int) :=
 (aR (fun s:Int×Int=>Zs_L1 a s.1 s.2) ((1:Int),(0:Int))).bind fun e=>match e with
 | .inl e=>some e
 | .inr e=>Zs_J1 e
def Zm (a:(List Int)):Option (Bool) :=
 (bP (decide ((a.length:Int)≤6)) (Zs a)).bind fun b =>
 some ((decide ((a.length:Int)≤6))&&(decide (b>0)))
def Zo_J1:Option (Bool) :=
 some true
def Zo_L1 (t1:Tensor)(a:Int):Option ((Int)⊕((Bool)⊕(Unit))) :=
 if (decide (a<(t1.Data.length:Int)))=true then (
 if (0≤a∧a<(t1.Data.length:Int)) then
 if ((decide ((ix t1.Data a)<0))||(decide ((ix t1.Data a)≥2147483647)))=true then (
 some (.inr (.inl false)))
 else (
 some (.inl (aH (a+1))))
 else none)
 else (
 some (.inr (.inr ())))
def Zo (t1:Tensor):Option (Bool) :=
 (Zm t1.Dims).bind fun a =>
 (bP (!(!a)) (Zs t1.Dims)).bind fun b =>
 if ((!a)||((t1.Data.length:Int) != b))=true then (
 some false)
 else (
 (aR (fun s:Int=>Zo_L1 t1 s) (0:Int)).bind fun e=>match e with
 | .inl e=>some e
 | .inr e=>Zo_J1)
def Zq (a:(List Int)):Option ((List Int)) :=
 if ([]:List Int).length+a.length≤17592186044416 then
 some (([]:List Int)++a)
 else none
def Zy_J1:Option (Bool) :=
 some true
def Zy_L1 (b:(List Int))(e:(List Int))(a:Int):Option ((Int)⊕((Bool)⊕(Unit))) :=
 if (decide (a<(b.length:Int)))=true then (
 if (0≤a∧a<(b.length:Int)) then
 if (0≤a∧a<(e.length:Int)) then
 if ((ix b a) != (ix e a))=true then (
 some (.inr (.inl false)))
 else (
 some (.inl (aH (a+1))))
 else none
 else none)
 else (
 some (.inr (.inr ())))
def Zy (b:(List Int))(a:(List Int)):Option (Bool) :=
 if ((b.length:Int) != (a.length:Int))=true then (
 some false)
 else (
 (aR (fun s:Int=>Zy_L1 b a s) (0:Int)).bind fun e=>match e with
 | .inl e=>some e
 | .inr e=>Zy_J1)
def Z29 (a:(List Int))(b:Int):Option (Int) :=
 if (decide (b≥(a.length:Int)))=true then (
 some (1:Int))
 else (
 if (0≤(aH ((aH ((a.length:Int) - 1)) - b))∧(aH ((aH ((a.length:Int) - 1)) - b))<(a.length:Int)) then
 some (ix a (aH ((aH ((a.length:Int) - 1)) - b)))
 else none)
def Zx_J4 (a:(List Int)):Option ((List Int)) :=
 (Zm a).bind fun b =>
 if (!b)=true then (
 some ([]:List Int))
 else (
 some a)
def Zx_J3 (b:Int)(g:(List Int))(a:Int)(e:Int):Option (((List Int)×Int)⊕(((List Int))⊕((List Int)))) :=
 if (0≤(aH ((aH (b - 1)) - a))∧(aH ((aH (b - 1)) - a))<((List.replicate b.toNat (0:Int)).length:Int)) then
 some (.inl ((g.set (aH ((aH (b - 1)) - a)).toNat e),(aH (a+1))))
 else none
def Zx_L1 (j:(List Int))(i:(List Int))(g:Int)(h:(List Int))(a:Int):Option (((List Int)×Int)⊕(((List Int))⊕((List Int)))) :=
 if (decide (a<g))=true then (
 (Z29 j a).bind fun b =>
 (Z29 i a).bind fun e =>
 if (((b != e)&&(b != 1))&&(e != 1))=true then (
 some (.inr (.inl ([]:List Int))))
 else (
 if (decide (e>b))=true then (
 Zx_J3 g h a e)
 else (
 Zx_J3 g h a b)))
 else (
 some (.inr (.inr h)))
def Zx_J1 (g:(List Int))(b:(List Int))(a:Int):Option ((List Int)) :=
 if (0≤a∧a≤140737488355328∧8*a≤281474976710656) then
 (aR (fun s:(List Int)×Int=>Zx_L1 g b a s.1 s.2) ((List.replicate a.toNat (0:Int)),(0:Int))).bind fun e=>match e with
 | .inl e=>some e
 | .inr e=>Zx_J4 e
 else none
def Zx (b:(List Int))(a:(List Int)):Option ((List Int)) :=
 (Zm b).bind fun e =>
 (bP (!(!e)) (Zm a)).bind fun g =>
 if ((!e)||(!g))=true then (
 some ([]:List Int))
 else (
 if (decide ((a.length:Int)>(b.length:Int)))=true then (
 Zx_J1 b a (a.length:Int))
 else (
 Zx_J1 b a (b.length:Int)))
def Z0e (a:(List Int)):Option (Tensor) :=
 (Zq a).bind fun e =>
 (Zs a).bind fun b =>
 if (0≤b∧b≤140737488355328∧8*b≤281474976710656) then
 some (⟨e,(List.replicate b.toNat (0:Int))⟩:Tensor)
 else none
def Zh_J1 (a:(List Int)):Option ((List Int)) :=
 some a
def Zh_L1 (a:(List Int))(e:Int)(g:(List Int))(b:Int):Option ((Int×(List Int)×Int)⊕((List Int))) :=
 if (decide (b≥0))=true then (
 if (0≤b∧b<(a.length:Int)) then
 if (ix a b)≠0 then
 if (0≤b∧b<((List.replicate (a.length:Int).toNat (0:Int)).length:Int)) then
 some (.inl ((aH (e.tdiv (ix a b))),(g.set b.toNat (e.tmod (ix a b))),(aH (b - 1))))
 else none
 else none
 else none)
 else (
 some (.inr g))
def Zh (a:(List Int))(b:Int):Option ((List Int)) :=
 if (0≤(a.length:Int)∧(a.length:Int)≤140737488355328∧8*(a.length:Int)≤281474976710656) then
 (aR (fun s:Int×(List Int)×Int=>Zh_L1 a s.1 s.2.1 s.2.2) (b,(List.replicate (a.length:Int).toNat (0:Int)),(aH ((a.length:Int) - 1)))).bind fun e=>Zh_J1 e
 else none
def Z0m_J1 (a:Int):Option (Int) :=
 some a
def Z0m_L1 (b:(List Int))(e:(List Int))(g:Int)(a:Int):Option ((Int×Int)⊕(Int)) :=
 if (decide (a<(b.length:Int)))=true then (
 if (0≤a∧a<(b.length:Int)) then
 if (0≤a∧a<(e.length:Int)) then
 some (.inl ((aH ((aH (g*(ix b a)))+(ix e a))),(aH (a+1))))
 else none
 else none)
 else (
 some (.inr g))
def Z0m (b:(List Int))(a:(List Int)):Option (Int) :=
 (aR (fun s:Int×Int=>Z0m_L1 b a s.1 s.2) ((0:Int),(0:Int))).bind fun e=>Z0m_J1 e
def Z16 (t1:Tensor)(a:(List Int)):Option (Int) :=
 (Z0m t1.Dims a).bind fun b =>
 if (0≤b∧b<(t1.Data.length:Int)) then
 some (ix t1.Data b)
 else none
def Z06_J3 (t1:Tensor)(b:(List Int)):Option (Int) :=
 (Z16 t1 b).bind fun a =>
 some a
def Z06_J2 (b:(List Int))(e:Int)(a:Int):Option (((List Int)×Int)⊕((List Int))) :=
 if b.length+([a]:List Int).length≤17592186044416 then
 some (.inl ((b++([a]:List Int)),(aH (e+1))))
 else none
def Z06_L1 (t1:Tensor)(a:(List Int))(e:(List Int))(b:Int):Option (((List Int)×Int)⊕((List Int))) :=
 if (decide (b<(t1.Dims.length:Int)))=true then (
 if (0≤(aH ((aH ((a.length:Int) - (t1.Dims.length:Int)))+b))∧(aH ((aH ((a.length:Int) - (t1.Dims.length:Int)))+b))<(a.length:Int)) then
 if (0≤b∧b<(t1.Dims.length:Int)) then
 if ((ix t1.Dims b)==1)=true then (
 Z06_J2 e b (0:Int))
 else (
 Z06_J2 e b (ix a (aH ((aH ((a.length:Int) - (t1.Dims.length:Int)))+b))))
 else none
 else none)
 else (
 some (.inr e))
def Z06 (t1:Tensor)(a:(List Int)):Option (Int) :=
 (aR (fun s:(List Int)×Int=>Z06_L1 t1 a s.1 s.2) (([]:List Int),(0:Int))).bind fun e=>Z06_J3 t1 e
def Zn_J1 (a:Int):Option (Int) :=
 some a
def Zn (p1:Int):Option (Int) :=
 if (decide ((p1.tmod (2147483647:Int))<0))=true then (
 Zn_J1 (aH ((p1.tmod (2147483647:Int))+2147483647)))
 else (
 Zn_J1 (p1.tmod (2147483647:Int)))
def Z1e (b:Int):Option (Int) :=
 (Zn b).bind fun a =>
 if (decide (a>1073741823))=true then (
 some (aH (a - 2147483647)))
 else (
 some a)
def Z1m (h:Int)(a:Int):Option (Int) :=
 (Zn h).bind fun e =>
 (Zn a).bind fun g =>
 (Zn (aH (e+g))).bind fun b =>
 some b
def Z27 (h:Int)(a:Int):Option (Int) :=
 (Zn h).bind fun e =>
 (Zn a).bind fun g =>
 (Zn (aH (e - g))).bind fun b =>
 some b
def Z1f (h:Int)(a:Int):Option (Int) :=
 (Zn h).bind fun e =>
 (Zn a).bind fun g =>
 (Zn (aH (e*g))).bind fun b =>
 some b
def Zp_J1 (a:Int):Option (Int) :=
 some a
def Zp_S (i:Int→Int→Option (Int))(e:Int)(a:Int):Option (Int) :=
 if (a==0)=true then (
 some (1:Int))
 else (
 (i e (aH (a.tdiv (2:Int)))).bind fun g =>
 (Z1f g g).bind fun b =>
 if ((a.tmod (2:Int))==1)=true then (
 (Z1f b e).bind fun h =>
 Zp_J1 h)
 else (
 Zp_J1 b))
def Zp_R:Nat→Int→Int→Option (Int)
 | 0=>fun _ _=>none
 | n+1=>Zp_S (Zp_R n)
def Zp (a:Int)(b:Int):Option (Int):=Zp_R ns a b
def Z26 (a:Int):Option (Int) :=
 (Zn a).bind fun e =>
 (Zp e (2147483645:Int)).bind fun b =>
 some b
def Z3p (b:Int)(e:Int):Option (Int) :=
 (Z26 e).bind fun g =>
 (Z1f b g).bind fun a =>
 some a
def Z1n_J1 (a:Bool):Option (Int) :=
 if a=true then (
 some (1:Int))
 else (
 some (0:Int))
def Z1n (a:Int)(e:Int)(b:Int):Option (Int) :=
 (Z1e e).bind fun h =>
 (Z1e b).bind fun j =>
 if (a==1)=true then (
 (Z1m e b).bind fun m =>
 some m)
 else (
 if (a==2)=true then (
 (Z27 e b).bind fun l =>
 some l)
 else (
 if (a==3)=true then (
 (Z1f e b).bind fun i =>
 some i)
 else (
 if (a==4)=true then (
 (Z3p e b).bind fun g =>
 some g)
 else (
 if (a==5)=true then (
 if (decide (h<j))=true then (
 some b)
 else (
 some e))
 else (
 if (a==6)=true then (
 if (decide (h<j))=true then (
 some e)
 else (
 some b))
 else (
 if (a==7)=true then (
 Z1n_J1 (decide (h<j)))
 else (
 if (a==8)=true then (
 Z1n_J1 (e==b))
 else (
 Z1n_J1 false))))))))
def Z13_J1 (b:Tensor)(a:(List Int)):Option (Tensor) :=
 some (⟨b.Dims,a⟩:Tensor)
def Z13_L1 (i:Int)(r:Tensor)(q:Tensor)(l:(List Int))(g:Tensor)(e:(List Int))(a:Int):Option (((List Int)×Int)⊕((List Int))) :=
 if (decide (a<(g.Data.length:Int)))=true then (
 (Zh l a).bind fun b =>
 (Z06 r b).bind fun j =>
 (Z06 q b).bind fun m =>
 (Z1n i j m).bind fun h =>
 if (0≤a∧a<(g.Data.length:Int)) then
 some (.inl ((e.set a.toNat h),(aH (a+1))))
 else none)
 else (
 some (.inr e))
def Z13 (b:Int)(j:Tensor)(i:Tensor):Option (Tensor) :=
 (Zo j).bind fun h =>
 (bP (!(!h)) (Zo i)).bind fun l =>
 if ((((!h)||(!l))||(decide (b<1)))||(decide (b>8)))=true then (
 some (⟨([]:List Int),([]:List Int)⟩:Tensor))
 else (
 (Zx j.Dims i.Dims).bind fun a =>
 if ((decide ((a.length:Int)<(j.Dims.length:Int)))||(decide ((a.length:Int)<(i.Dims.length:Int))))=true then (
 some (⟨([]:List Int),([]:List Int)⟩:Tensor))
 else (
 (Z0e a).bind fun g =>
 (aR (fun s:(List Int)×Int=>Z13_L1 b j i a g s.1 s.2) (g.Data,(0:Int))).bind fun e=>Z13_J1 g e))
def Z2x (a:Int)(b:Int):Option (Int) :=
 if (a==1)=true then (
 (Z27 (0:Int) b).bind fun g =>
 some g)
 else (
 if (a==2)=true then (
 (Z26 b).bind fun e =>
 some e)
 else (
 (Z1e b).bind fun h =>
 if (decide (h≤0))=true then (
 some (0:Int))
 else (
 if (a==3)=true then (
 some (1:Int))
 else (
 some b))))
def Z12_J1 (a:Tensor)(b:(List Int)):Option (Tensor) :=
 some (⟨a.Dims,b⟩:Tensor)
def Z12_L1 (g:Int)(h:Tensor)(e:Tensor)(b:(List Int))(a:Int):Option (((List Int)×Int)⊕((List Int))) :=
 if (decide (a<(h.Data.length:Int)))=true then (
 if (0≤a∧a<(h.Data.length:Int)) then
 (Z2x g (ix h.Data a)).bind fun i =>
 if (0≤a∧a<(e.Data.length:Int)) then
 some (.inl ((b.set a.toNat i),(aH (a+1))))
 else none
 else none)
 else (
 some (.inr b))
def Z12 (b:Int)(g:Tensor):Option (Tensor) :=
 (Zo g).bind fun h =>
 if (((!h)||(decide (b<1)))||(decide (b>4)))=true then (
 some (⟨([]:List Int),([]:List Int)⟩:Tensor))
 else (
 (Z0e g.Dims).bind fun a =>
 (aR (fun s:(List Int)×Int=>Z12_L1 b g a s.1 s.2) (a.Data,(0:Int))).bind fun e=>Z12_J1 a e)
def Z1g (t1:Tensor)(a:Int):Option (Bool) :=
 (Zo t1).bind fun b =>
 some ((b&&(decide (a≥0)))&&(decide (a<(t1.Dims.length:Int))))
def Z0f (e:(List Int))(a:Int)(g:Int):Option ((List Int)) :=
 (Zq e).bind fun b =>
 if (0≤a∧a<(b.length:Int)) then
 some (b.set a.toNat g)
 else none
def Z0x_J1 (a:(List Int)):Option ((List Int)) :=
 some a
def Z0x_L1 (t1:Tensor)(a:Int)(i:(List Int))(e:(List Int))(b:Int):Option (((List Int)×Int)⊕((List Int))) :=
 if (0≤a∧a<(t1.Dims.length:Int)) then
 if (decide (b<(ix t1.Dims a)))=true then (
 (Z0f i a b).bind fun h =>
 (Z16 t1 h).bind fun g =>
 if e.length+([g]:List Int).length≤17592186044416 then
 some (.inl ((e++([g]:List Int)),(aH (b+1))))
 else none)
 else (
 some (.inr e))
 else none
def Z0x (t1:Tensor)(a:Int)(b:(List Int)):Option ((List Int)) :=
 (aR (fun s:(List Int)×Int=>Z0x_L1 t1 a b s.1 s.2) (([]:List Int),(0:Int))).bind fun e=>Z0x_J1 e
def Za_J9 (b:Tensor)(a:(List Int)):Option (Tensor) :=
 some (⟨b.Dims,a⟩:Tensor)
def Za_J8 (b:Int)(a:(List Int)):Option (((List Int)×Int)⊕((List Int))) :=
 some (.inl (a,(aH (b+1))))
def Za_J7 (g:Tensor)(e:(List Int))(b:Int)(a:Bool):Option (((List Int)×Int)⊕((List Int))) :=
 if a=true then (
 if (0≤b∧b<(g.Data.length:Int)) then
 Za_J8 b (e.set b.toNat (1:Int))
 else none)
 else (
 Za_J8 b e)
def Za_J6 (b:Int)(a:Bool):Option ((Bool×Int)⊕(Bool)) :=
 some (.inl (a,(aH (b+1))))
def Za_L2 (t1:Tensor)(e:Int)(i:Int)(l:(List Int))(j:(List Int))(b:Bool)(a:Int):Option ((Bool×Int)⊕(Bool)) :=
 if (decide (a<(j.length:Int)))=true then (
 if (0≤a∧a<(j.length:Int)) then
 (Z1e (ix j a)).bind fun h =>
 if (0≤i∧i<(t1.Data.length:Int)) then
 (Z1e (ix t1.Data i)).bind fun g =>
 if (decide (h>g))=false→(h==g)=true→(0≤e∧e<(l.length:Int)) then
 if ((decide (h>g))||((h==g)&&(decide (a<(ix l e)))))=true then (
 Za_J6 a false)
 else (
 Za_J6 a b)
 else none
 else none
 else none)
 else (
 some (.inr b))
def Za_L1 (t1:Tensor)(a:Int)(j:Tensor)(g:(List Int))(b:Int):Option (((List Int)×Int)⊕((List Int))) :=
 if (decide (b<(t1.Data.length:Int)))=true then (
 (Zh t1.Dims b).bind fun h =>
 (Z0x t1 a h).bind fun i =>
 (aR (fun s:Bool×Int=>Za_L2 t1 a b h i s.1 s.2) (true,(0:Int))).bind fun e=>Za_J7 j g b e)
 else (
 some (.inr g))
def Za (t1:Tensor)(a:Int):Option (Tensor) :=
 (Z1g t1 a).bind fun g =>
 if (!g)=true then (
 some (⟨([]:List Int),([]:List Int)⟩:Tensor))
 else (
 (Z0e t1.Dims).bind fun b =>
 (aR (fun s:(List Int)×Int=>Za_L1 t1 a b s.1 s.2) (b.Data,(0:Int))).bind fun e=>Za_J9 b e)
def Z0w_J1 (p1:aM):Option (Bool) :=
 some (decide ((p1.length:Int)≤6))
def Z0w_L1 (p1:aM)(a:Int):Option ((Int)⊕((Bool)⊕(Unit))) :=
 if (decide (a<(p1.length:Int)))=true then (
 if (0≤a∧a<(p1.length:Int)) then
 if ((decide ((bt p1 a)<97))||(decide ((bt p1 a)>122)))=true then (
 some (.inr (.inl false)))
 else (
 some (.inl (aH (a+1))))
 else none)
 else (
 some (.inr (.inr ())))
def Z0w (p1:aM):Option (Bool) :=
 (aR (fun s:Int=>Z0w_L1 p1 s) (0:Int)).bind fun e=>match e with
 | .inl e=>some e
 | .inr e=>Z0w_J1 p1
def Z0v_J1:Option (Bool) :=
 some false
def Z0v_L1 (p1:aM)(b:Int)(a:Int):Option ((Int)⊕((Bool)⊕(Unit))) :=
 if (decide (a<(p1.length:Int)))=true then (
 if (0≤a∧a<(p1.length:Int)) then
 if ((bt p1 a)==b)=true then (
 some (.inr (.inl true)))
 else (
 some (.inl (aH (a+1))))
 else none)
 else (
 some (.inr (.inr ())))
def Z0v (p1:aM)(a:Int):Option (Bool) :=
 (aR (fun s:Int=>Z0v_L1 p1 a s) (0:Int)).bind fun e=>match e with
 | .inl e=>some e
 | .inr e=>Z0v_J1
def Z0_J8 (b:aM)(e:Int)(a:(List aM)):Option ((List aM)×aM×Bool) :=
 some (a,(sub b (aH (e+2)) (b.length:Int)),true)
def Z0_J7 (a:aM)(g:Int)(b:Int)(e:Bool):Option ((Int)⊕(((List aM)×aM×Bool)⊕(Unit))) :=
 if (!e)=false→(0≤(0:Int)∧(0:Int)≤b∧b≤((sub a (aH (g+2)) (a.length:Int)).length:Int)) then
 if (!e)=false→(0≤b∧b<((sub a (aH (g+2)) (a.length:Int)).length:Int)) then
 (bP (!(!e)) (Z0v (sub (sub a (aH (g+2)) (a.length:Int)) (0:Int) b) (bt (sub a (aH (g+2)) (a.length:Int)) b))).bind fun h =>
 if ((!e)||h)=true then (
 some (.inr (.inl (([]:List aM),([]:aM),false))))
 else (
 some (.inl (aH (b+1))))
 else none
 else none
def Z0_L5 (b:aM)(j:Int)(a:(List aM))(h:Int)(e:Bool)(g:Int):Option ((Bool×Int)⊕(Bool)) :=
 if (decide (g<(a.length:Int)))=true then (
 if e=false→(0≤g∧g<(a.length:Int)) then
 if e=false→(0≤h∧h<((sub b (aH (j+2)) (b.length:Int)).length:Int)) then
 (bP (!e) (Z0v (ix a g) (bt (sub b (aH (j+2)) (b.length:Int)) h))).bind fun i =>
 some (.inl ((e||i),(aH (g+1))))
 else none
 else none)
 else (
 some (.inr e))
def Z0_L4 (a:aM)(h:Int)(b:(List aM))(g:Int):Option ((Int)⊕(((List aM)×aM×Bool)⊕(Unit))) :=
 if (decide (g<((sub a (aH (h+2)) (a.length:Int)).length:Int)))=true then (
 (aR (fun s:Bool×Int=>Z0_L5 a h b g s.1 s.2) (false,(0:Int))).bind fun e=>Z0_J7 a h g e)
 else (
 some (.inr (.inr ())))
def Z0_J5 (b:aM)(g:Int)(a:(List aM)):Option ((List aM)×aM×Bool) :=
 (aR (fun s:Int=>Z0_L4 b g a s) (0:Int)).bind fun e=>match e with
 | .inl e=>some e
 | .inr e=>Z0_J8 b g a
def Z0_L3 (a:(List aM))(b:Int):Option ((Int)⊕(((List aM)×aM×Bool)⊕(Unit))) :=
 if (decide (b<(a.length:Int)))=true then (
 if (0≤b∧b<(a.length:Int)) then
 (Z0w (ix a b)).bind fun e =>
 if (!e)=true then (
 some (.inr (.inl (([]:List aM),([]:aM),false))))
 else (
 some (.inl (aH (b+1))))
 else none)
 else (
 some (.inr (.inr ())))
def Z0_J4 (b:aM)(g:Int)(a:(List aM)):Option ((List aM)×aM×Bool) :=
 if (0≤(aH (g+2))∧(aH (g+2))≤(b.length:Int)∧(b.length:Int)≤(b.length:Int)) then
 (bP (!(decide ((a.length:Int)>6))) (Z0w (sub b (aH (g+2)) (b.length:Int)))).bind fun h =>
 if ((decide ((a.length:Int)>6))||(!h))=true then (
 some (([]:List aM),([]:aM),false))
 else (
 (aR (fun s:Int=>Z0_L3 a s) (0:Int)).bind fun e=>match e with
 | .inl e=>some e
 | .inr e=>Z0_J5 b g a)
 else none
def Z0_J3 (b:Int)(a:(List aM))(e:Int):Option (((List aM)×Int×Int)⊕((List aM))) :=
 some (.inl (a,e,(aH (b+1))))
def Z0_L2 (e:aM)(h:Int)(a:(List aM))(g:Int)(b:Int):Option (((List aM)×Int×Int)⊕((List aM))) :=
 if (decide (b≤h))=true then (
 if (b==h)=false→(0≤b∧b<(e.length:Int)) then
 if ((b==h)||((bt e b)==44))=true then (
 if (0≤g∧g≤b∧b≤(e.length:Int)) then
 if a.length+([(sub e g b)]:List aM).length≤8796093022208 then
 Z0_J3 b (a++([(sub e g b)]:List aM)) (aH (b+1))
 else none
 else none)
 else (
 Z0_J3 b a g)
 else none)
 else (
 some (.inr a))
def Z0_J1 (a:aM)(b:Int):Option ((List aM)×aM×Bool) :=
 if (decide ((aH (b+1))≥(a.length:Int)))=true then (
 some (([]:List aM),([]:aM),false))
 else (
 (aR (fun s:(List aM)×Int×Int=>Z0_L2 a b s.1 s.2.1 s.2.2) (([]:List aM),(0:Int),(0:Int))).bind fun e=>Z0_J4 a b e)
def Z0_L1 (a:aM)(b:Int):Option ((Int)⊕(Int)) :=
 if (decide ((aH (b+1))<(a.length:Int)))=true→(0≤b∧b≤(aH (b+2))∧(aH (b+2))≤(a.length:Int)) then
 if ((decide ((aH (b+1))<(a.length:Int)))&&(!((sub a b (aH (b+2)))==str0)))=true then (
 some (.inl (aH (b+1))))
 else (
 some (.inr b))
 else none
def Z0 (a:aM):Option ((List aM)×aM×Bool) :=
 (aR (fun s:Int=>Z0_L1 a s) (0:Int)).bind fun e=>Z0_J1 a e
def Z2_J12 (b:aM)(a:(List Int)):Option (aM×(List Int)×Bool) :=
 some (b,a,true)
def Z2_L4 (a:(List Int))(e:Int)(b:Int):Option ((Int×Int)⊕((aM×(List Int)×Bool)⊕(Unit))) :=
 if (decide (b<(a.length:Int)))=true then (
 if (0≤b∧b<(a.length:Int)) then
 if (decide ((aH (e*(ix a b)))>65536))=true then (
 some (.inr (.inl (([]:aM),a,false))))
 else (
 some (.inl ((aH (e*(ix a b))),(aH (b+1)))))
 else none)
 else (
 some (.inr (.inr ())))
def Z2_J11 (b:aM)(a:(List Int)):Option (aM×(List Int)×Bool) :=
 (aR (fun s:Int×Int=>Z2_L4 a s.1 s.2) ((1:Int),(0:Int))).bind fun e=>match e with
 | .inl e=>some e
 | .inr e=>Z2_J12 b a
def Z2_J10 (e:Int)(b:aM)(a:(List Int)):Option ((aM×(List Int)×Int)⊕((aM×(List Int)×Bool)⊕(aM×(List Int)))) :=
 some (.inl (b,a,(aH (e+1))))
def Z2_J9 (g:(List (List Int)))(i:Int)(b:Int)(e:Int)(h:aM)(a:(List Int)):Option ((aM×(List Int)×Int)⊕((aM×(List Int)×Bool)⊕(aM×(List Int)))) :=
 if (0≤e∧e<(a.length:Int)) then
 if ((ix a e) != 0)=true→(0≤b∧b<((ix g i).length:Int)) then
 if (((ix a e) != 0)&&((ix a e) != (ix (ix g i) b)))=true then (
 some (.inr (.inl (([]:aM),a,false))))
 else (
 if (0≤b∧b<((ix g i).length:Int)) then
 some (.inl (h,(a.set e.toNat (ix (ix g i) b)),(aH (b+1))))
 else none)
 else none
 else none
def Z2_J8 (g:(List aM))(i:(List (List Int)))(h:Int)(a:aM)(b:(List Int))(e:Int)(j:Int):Option ((aM×(List Int)×Int)⊕((aM×(List Int)×Bool)⊕(aM×(List Int)))) :=
 if (j==(a.length:Int))=true then (
 if (0≤e∧e≤(aH (e+1))∧(aH (e+1))≤((ix g h).length:Int)) then
 if a.length+(sub (ix g h) e (aH (e+1))).length≤9223372036854775807 then
 if b.length+([(0:Int)]:List Int).length≤17592186044416 then
 Z2_J9 i h e j (a++(sub (ix g h) e (aH (e+1)))) (b++([(0:Int)]:List Int))
 else none
 else none
 else none)
 else (
 Z2_J9 i h e j a b)
def Z2_L3 (e:(List aM))(h:Int)(a:aM)(g:Int)(b:Int):Option ((Int)⊕(Int)) :=
 if (decide (b<(a.length:Int)))=true→(0≤b∧b<(a.length:Int)) then
 if (decide (b<(a.length:Int)))=true→(0≤g∧g<((ix e h).length:Int)) then
 if ((decide (b<(a.length:Int)))&&((bt a b) != (bt (ix e h) g)))=true then (
 some (.inl (aH (b+1))))
 else (
 some (.inr b))
 else none
 else none
def Z2_L2 (g:(List aM))(j:(List (List Int)))(h:Int)(a:aM)(b:(List Int))(i:Int):Option ((aM×(List Int)×Int)⊕((aM×(List Int)×Bool)⊕(aM×(List Int)))) :=
 if (decide (i<((ix g h).length:Int)))=true then (
 (aR (fun s:Int=>Z2_L3 g h a i s) (0:Int)).bind fun e=>Z2_J8 g j h a b i e)
 else (
 some (.inr (.inr (a,b))))
def Z2_L1 (g:(List aM))(i:(List (List Int)))(h:aM)(a:(List Int))(b:Int):Option ((aM×(List Int)×Int)⊕((aM×(List Int)×Bool)⊕(aM×(List Int)))) :=
 if (decide (b<(g.length:Int)))=true then (
 if (0≤b∧b<(i.length:Int)) then
 if (0≤b∧b<(g.length:Int)) then
 if (((ix i b).length:Int) != ((ix g b).length:Int))=true then (
 some (.inr (.inl (([]:aM),a,false))))
 else (
 (aR (fun s:aM×(List Int)×Int=>Z2_L2 g i b s.1 s.2.1 s.2.2) (h,a,(0:Int))).bind fun e=>match e with
 | .inl e=>some (.inr (.inl e))
 | .inr e=>Z2_J10 b e.1 e.2)
 else none
 else none)
 else (
 some (.inr (.inr (h,a))))
def Z2 (a:(List aM))(g:aM)(b:(List (List Int))):Option (aM×(List Int)×Bool) :=
 if (0≤(g.length:Int)∧(g.length:Int)≤140737488355328∧8*(g.length:Int)≤281474976710656) then
 (aR (fun s:aM×(List Int)×Int=>Z2_L1 a b s.1 s.2.1 s.2.2) (g,(List.replicate (g.length:Int).toNat (0:Int)),(0:Int))).bind fun e=>match e with
 | .inl e=>some e
 | .inr e=>Z2_J11 e.1 e.2
 else none
def Ze_J7 (a:(List Int)):Option ((List Int)) :=
 some a
def Ze_J6 (a:Int)(b:(List Int)):Option (((List Int)×Int)⊕((List Int))) :=
 some (.inl (b,(aH (a+1))))
def Ze_J5 (a:Int)(b:(List Int)):Option (((List Int)×Int)⊕((List Int))) :=
 some (.inl (b,(aH (a+1))))
def Ze_L2 (g:aM)(a:aM)(b:(List Int))(i:Int)(h:(List Int))(e:Int):Option (((List Int)×Int)⊕((List Int))) :=
 if (decide (e<(a.length:Int)))=true then (
 if (0≤e∧e<(a.length:Int)) then
 if (0≤i∧i<(g.length:Int)) then
 if ((bt a e)==(bt g i))=true then (
 if (0≤e∧e<(b.length:Int)) then
 if h.length+([(ix b e)]:List Int).length≤17592186044416 then
 Ze_J5 e (h++([(ix b e)]:List Int))
 else none
 else none)
 else (
 Ze_J5 e h)
 else none
 else none)
 else (
 some (.inr h))
def Ze_L1 (a:aM)(b:aM)(g:(List Int))(i:(List Int))(h:Int):Option (((List Int)×Int)⊕((List Int))) :=
 if (decide (h<(a.length:Int)))=true then (
 (aR (fun s:(List Int)×Int=>Ze_L2 a b g h s.1 s.2) (i,(0:Int))).bind fun e=>Ze_J6 h e)
 else (
 some (.inr i))
def Ze (g:aM)(a:aM)(b:(List Int)):Option ((List Int)) :=
 (aR (fun s:(List Int)×Int=>Ze_L1 g a b s.1 s.2) (([]:List Int),(0:Int))).bind fun e=>Ze_J7 e
def Z5_J5 (b:Tensor)(a:(List Int)):Option (Tensor) :=
 some (⟨b.Dims,a⟩:Tensor)
def Z5_J4 (l:(List aM)×aM×Bool)(h:Tensor)(b:(List Int))(g:Int)(e:(List Int))(j:Int):Option (((List Int)×Int)⊕((List Int))) :=
 if (0≤(0:Int)∧(0:Int)≤(l.2.1.length:Int)∧(l.2.1.length:Int)≤(e.length:Int)) then
 (Z0m h.Dims (sub e (0:Int) (l.2.1.length:Int))).bind fun a =>
 if (0≤a∧a<(h.Data.length:Int)) then
 (Z1m (ix b a) j).bind fun i =>
 some (.inl ((b.set a.toNat i),(aH (g+1))))
 else none
 else none
def Z5_L4 (h:(List Tensor))(l:(List aM)×aM×Bool)(m:aM×(List Int)×Bool)(e:(List Int))(b:Int)(a:Int):Option ((Int×Int)⊕(Int)) :=
 if (decide (a<(l.1.length:Int)))=true then (
 if (0≤a∧a<(h.length:Int)) then
 if (0≤a∧a<(l.1.length:Int)) then
 (Ze (ix l.1 a) m.1 e).bind fun i =>
 (Z16 (ix h a) i).bind fun j =>
 (Z1f b j).bind fun g =>
 some (.inl (g,(aH (a+1))))
 else none
 else none)
 else (
 some (.inr b))
def Z5_L3 (l:(List Tensor))(m:(List aM)×aM×Bool)(i:aM×(List Int)×Bool)(j:Tensor)(g:Int)(a:(List Int))(b:Int):Option (((List Int)×Int)⊕((List Int))) :=
 if (decide (b<g))=true then (
 (Zh i.2.1 b).bind fun h =>
 (aR (fun s:Int×Int=>Z5_L4 l m i h s.1 s.2) ((1:Int),(0:Int))).bind fun e=>Z5_J4 m j a b h e)
 else (
 some (.inr a))
def Z5_J2 (h:(List Tensor))(i:(List aM)×aM×Bool)(g:aM×(List Int)×Bool)(b:Tensor)(a:Int):Option (Tensor) :=
 (aR (fun s:(List Int)×Int=>Z5_L3 h i g b a s.1 s.2) (b.Data,(0:Int))).bind fun e=>Z5_J5 b e
def Z5_L2 (e:aM×(List Int)×Bool)(a:Int)(b:Int):Option ((Int×Int)⊕(Int)) :=
 if (decide (b<(e.2.1.length:Int)))=true then (
 if (0≤b∧b<(e.2.1.length:Int)) then
 some (.inl ((aH (a*(ix e.2.1 b))),(aH (b+1))))
 else none)
 else (
 some (.inr a))
def Z5_J1 (j:(List Tensor))(b:(List aM)×aM×Bool)(g:(List (List Int))):Option (Tensor) :=
 (Z2 b.1 b.2.1 g).bind fun a =>
 if (!a.2.2)=false→(0≤(0:Int)∧(0:Int)≤(b.2.1.length:Int)∧(b.2.1.length:Int)≤(a.2.1.length:Int)) then
 (bP (!(!a.2.2)) (Zm (sub a.2.1 (0:Int) (b.2.1.length:Int)))).bind fun i =>
 if ((!a.2.2)||(!i))=true then (
 some (⟨([]:List Int),([]:List Int)⟩:Tensor))
 else (
 if (0≤(0:Int)∧(0:Int)≤(b.2.1.length:Int)∧(b.2.1.length:Int)≤(a.2.1.length:Int)) then
 (Z0e (sub a.2.1 (0:Int) (b.2.1.length:Int))).bind fun h =>
 (aR (fun s:Int×Int=>Z5_L2 a s.1 s.2) ((1:Int),(0:Int))).bind fun e=>Z5_J2 j b a h e
 else none)
 else none
def Z5_L1 (e:(List Tensor))(a:(List (List Int)))(b:Int):Option (((List (List Int))×Int)⊕((Tensor)⊕((List (List Int))))) :=
 if (decide (b<(e.length:Int)))=true then (
 if (0≤b∧b<(e.length:Int)) then
 (Zo (ix e b)).bind fun g =>
 if (!g)=true then (
 some (.inr (.inl (⟨([]:List Int),([]:List Int)⟩:Tensor))))
 else (
 if a.length+([(ix e b).Dims]:List (List Int)).length≤5864062014805 then
 some (.inl ((a++([(ix e b).Dims]:List (List Int))),(aH (b+1))))
 else none)
 else none)
 else (
 some (.inr (.inr a)))
def Z5 (a:aM)(b:(List Tensor)):Option (Tensor) :=
 (Z0 a).bind fun g =>
 if ((!g.2.2)||((g.1.length:Int) != (b.length:Int)))=true then (
 some (⟨([]:List Int),([]:List Int)⟩:Tensor))
 else (
 (aR (fun s:(List (List Int))×Int=>Z5_L1 b s.1 s.2) (([]:List (List Int)),(0:Int))).bind fun e=>match e with
 | .inl e=>some e
 | .inr e=>Z5_J1 b g e)
def Z0d_J3 (v1:View)(a:(List Int)):Option (View) :=
 some (⟨v1.Dims,a,v1.Offset,v1.Base⟩:View)
def Z0d_J2 (a:Int)(b:(List Int)):Option ((Int×(List Int))⊕((List Int))) :=
 some (.inl ((aH (a+1)),b))
def Z0d_L1 (v1:View)(a:Int)(b:(List Int)):Option ((Int×(List Int))⊕((List Int))) :=
 if (decide (a<(v1.Dims.length:Int)))=true then (
 if (0≤a∧a<(v1.Dims.length:Int)) then
 if ((ix v1.Dims a)==1)=true then (
 if (0≤a∧a<(v1.Strides.length:Int)) then
 Z0d_J2 a (b.set a.toNat (0:Int))
 else none)
 else (
 Z0d_J2 a b)
 else none)
 else (
 some (.inr b))
def Z0d (v1:View):Option (View) :=
 (aR (fun s:Int×(List Int)=>Z0d_L1 v1 s.1 s.2) ((0:Int),v1.Strides)).bind fun e=>Z0d_J3 v1 e
def Zu_J1 (g:(List Int))(b:Int)(e:(List Int)):Option (View) :=
 (Z0d (⟨g,e,(0:Int),b⟩:View)).bind fun a =>
 some a
def Zu_L1 (a:(List Int))(e:(List Int))(b:Int):Option (((List Int)×Int)⊕((List Int))) :=
 if (decide (b<(a.length:Int)))=true then (
 if (0≤(aH (b+1))∧(aH (b+1))≤(a.length:Int)∧(a.length:Int)≤(a.length:Int)) then
 (Zs (sub a (aH (b+1)) (a.length:Int))).bind fun g =>
 if e.length+([g]:List Int).length≤17592186044416 then
 some (.inl ((e++([g]:List Int)),(aH (b+1))))
 else none
 else none)
 else (
 some (.inr e))
def Zu (a:(List Int)):Option (View) :=
 (Zm a).bind fun h =>
 if (!h)=true then (
 some (⟨([]:List Int),([]:List Int),(0:Int),(0:Int)⟩:View))
 else (
 (Zq a).bind fun g =>
 (Zs a).bind fun b =>
 (aR (fun s:(List Int)×Int=>Zu_L1 a s.1 s.2) (([]:List Int),(0:Int))).bind fun e=>Zu_J1 g b e)
def Z15_J1 (a:Int):Option (Int) :=
 some a
def Z15_L1 (v1:View)(a:(List Int))(e:Int)(b:Int):Option ((Int×Int)⊕(Int)) :=
 if (decide (b<(a.length:Int)))=true then (
 if (0≤b∧b<(a.length:Int)) then
 if (0≤b∧b<(v1.Strides.length:Int)) then
 some (.inl ((aH (e+(aH ((ix a b)*(ix v1.Strides b))))),(aH (b+1))))
 else none
 else none)
 else (
 some (.inr e))
def Z15 (v1:View)(a:(List Int)):Option (Int) :=
 (aR (fun s:Int×Int=>Z15_L1 v1 a s.1 s.2) (v1.Offset,(0:Int))).bind fun e=>Z15_J1 e
def Z08_J1 (a:(List Int)):Option ((List Int)) :=
 some a
def Z08_L1 (v1:View)(h:Int)(b:(List Int))(a:Int):Option (((List Int)×Int)⊕((List Int))) :=
 if (decide (a<h))=true then (
 (Zh v1.Dims a).bind fun g =>
 (Z15 v1 g).bind fun e =>
 if b.length+([e]:List Int).length≤17592186044416 then
 some (.inl ((b++([e]:List Int)),(aH (a+1))))
 else none)
 else (
 some (.inr b))
def Z08 (v1:View):Option ((List Int)) :=
 (Zs v1.Dims).bind fun a =>
 (aR (fun s:(List Int)×Int=>Z08_L1 v1 a s.1 s.2) (([]:List Int),(0:Int))).bind fun e=>Z08_J1 e
def Z8_J2:Option (Bool) :=
 some true
def Z8_L2 (v1:View)(b:(List Int))(a:Int):Option ((Int)⊕((Bool)⊕(Unit))) :=
 if (decide (a<(b.length:Int)))=true then (
 if (0≤a∧a<(b.length:Int)) then
 if ((decide ((ix b a)<0))||(decide ((ix b a)≥v1.Base)))=true then (
 some (.inr (.inl false)))
 else (
 some (.inl (aH (a+1))))
 else none)
 else (
 some (.inr (.inr ())))
def Z8_J1 (v1:View):Option (Bool) :=
 (Z08 v1).bind fun a =>
 (aR (fun s:Int=>Z8_L2 v1 a s) (0:Int)).bind fun e=>match e with
 | .inl e=>some e
 | .inr e=>Z8_J2
def Z8_L1 (v1:View)(a:Int):Option ((Int)⊕((Bool)⊕(Unit))) :=
 if (decide (a<(v1.Strides.length:Int)))=true then (
 if (0≤a∧a<(v1.Strides.length:Int)) then
 if ((decide ((ix v1.Strides a)<(-4096:Int)))||(decide ((ix v1.Strides a)>4096)))=true then (
 some (.inr (.inl false)))
 else (
 some (.inl (aH (a+1))))
 else none)
 else (
 some (.inr (.inr ())))
def Z8 (v1:View):Option (Bool) :=
 (Zm v1.Dims).bind fun a =>
 if ((((((!a)||((v1.Strides.length:Int) != (v1.Dims.length:Int)))||(decide (v1.Base<1)))||(decide (v1.Base>4096)))||(decide (v1.Offset<0)))||(decide (v1.Offset≥v1.Base)))=true then (
 some false)
 else (
 (aR (fun s:Int=>Z8_L1 v1 s) (0:Int)).bind fun e=>match e with
 | .inl e=>some e
 | .inr e=>Z8_J1 v1)
def Z00_J3 (v1:View)(b:(List Int))(a:(List Int)):Option (View) :=
 some (⟨b,a,v1.Offset,v1.Base⟩:View)
def Z00_J2 (a:Int)(b:(List Int)):Option (((List Int)×Int)⊕((View)⊕((List Int)))) :=
 some (.inl (b,(aH (a+1))))
def Z00_L1 (v1:View)(a:(List Int))(e:(List Int))(b:Int):Option (((List Int)×Int)⊕((View)⊕((List Int)))) :=
 if (decide (b<(v1.Dims.length:Int)))=true then (
 if (0≤b∧b<(v1.Dims.length:Int)) then
 if (0≤(aH ((aH ((a.length:Int) - (v1.Dims.length:Int)))+b))∧(aH ((aH ((a.length:Int) - (v1.Dims.length:Int)))+b))<(a.length:Int)) then
 if ((ix v1.Dims b)==(ix a (aH ((aH ((a.length:Int) - (v1.Dims.length:Int)))+b))))=true then (
 if (0≤b∧b<(v1.Strides.length:Int)) then
 if (0≤(aH ((aH ((a.length:Int) - (v1.Dims.length:Int)))+b))∧(aH ((aH ((a.length:Int) - (v1.Dims.length:Int)))+b))<((List.replicate (a.length:Int).toNat (0:Int)).length:Int)) then
 (nm (e.set (aH ((aH ((a.length:Int) - (v1.Dims.length:Int)))+b)).toNat (ix v1.Strides b))).bind fun g =>
 Z00_J2 b g
 else none
 else none)
 else (
 if ((ix v1.Dims b) != 1)=true then (
 some (.inr (.inl (⟨([]:List Int),([]:List Int),(0:Int),(0:Int)⟩:View))))
 else (
 Z00_J2 b e))
 else none
 else none)
 else (
 some (.inr (.inr e)))
def Z00 (v1:View)(a:(List Int)):Option (View) :=
 (Z8 v1).bind fun h =>
 (bP (!(!h)) (Zm a)).bind fun b =>
 if (((!h)||(!b))||(decide ((aH ((a.length:Int) - (v1.Dims.length:Int)))<0)))=true then (
 some (⟨([]:List Int),([]:List Int),(0:Int),(0:Int)⟩:View))
 else (
 (Zq a).bind fun g =>
 if (0≤(a.length:Int)∧(a.length:Int)≤140737488355328∧8*(a.length:Int)≤281474976710656) then
 (aR (fun s:(List Int)×Int=>Z00_L1 v1 a s.1 s.2) ((List.replicate (a.length:Int).toNat (0:Int)),(0:Int))).bind fun e=>match e with
 | .inl e=>some e
 | .inr e=>Z00_J3 v1 g e
 else none)
def Zz_J1 (b:(List Int))(a:(List Int)):Option (Tensor) :=
 some (⟨b,a⟩:Tensor)
def Zz_L1 (t1:Tensor)(b:(List Int))(e:(List Int))(a:Int):Option (((List Int)×Int)⊕((List Int))) :=
 if (decide (a<(b.length:Int)))=true then (
 if (0≤a∧a<(b.length:Int)) then
 if (0≤(ix b a)∧(ix b a)<(t1.Data.length:Int)) then
 if e.length+([(ix t1.Data (ix b a))]:List Int).length≤17592186044416 then
 some (.inl ((e++([(ix t1.Data (ix b a))]:List Int)),(aH (a+1))))
 else none
 else none
 else none)
 else (
 some (.inr e))
def Zz (t1:Tensor)(v4:View):Option (Tensor) :=
 (Zo t1).bind fun a =>
 (bP (!(!a)) (Z8 v4)).bind fun b =>
 if (((!a)||(!b))||(v4.Base != (t1.Data.length:Int)))=true then (
 some (⟨([]:List Int),([]:List Int)⟩:Tensor))
 else (
 (Zq v4.Dims).bind fun h =>
 (Z08 v4).bind fun g =>
 (aR (fun s:(List Int)×Int=>Zz_L1 t1 g s.1 s.2) (([]:List Int),(0:Int))).bind fun e=>Zz_J1 h e)
def Z07_J3 (v1:View)(a:(List Int))(g:(List Int))(e:(List Int)):Option (View) :=
 (Z8 (⟨g,e,(ix a 0),v1.Base⟩:View)).bind fun b =>
 (bP (!(!b)) (Z08 (⟨g,e,(ix a 0),v1.Base⟩:View))).bind fun i =>
 (bP (!(!b)) (Zy i a)).bind fun h =>
 if ((!b)||(!h))=true then (
 some (⟨([]:List Int),([]:List Int),(0:Int),(0:Int)⟩:View))
 else (
 some (⟨g,e,(ix a 0),v1.Base⟩:View))
def Z07_J2 (b:(List Int))(e:Int)(a:Int):Option (((List Int)×Int)⊕((List Int))) :=
 if b.length+([a]:List Int).length≤17592186044416 then
 some (.inl ((b++([a]:List Int)),(aH (e+1))))
 else none
def Z07_L1 (a:(List Int))(g:(List Int))(e:(List Int))(b:Int):Option (((List Int)×Int)⊕((List Int))) :=
 if (decide (b<(a.length:Int)))=true then (
 if (0≤b∧b<(a.length:Int)) then
 if (decide ((ix a b)>1))=true then (
 if (0≤(aH (b+1))∧(aH (b+1))≤(a.length:Int)∧(a.length:Int)≤(a.length:Int)) then
 (Zs (sub a (aH (b+1)) (a.length:Int))).bind fun h =>
 if (0≤h∧h<(g.length:Int)) then
 Z07_J2 e b (aH ((ix g h) - (ix g 0)))
 else none
 else none)
 else (
 Z07_J2 e b (0:Int))
 else none)
 else (
 some (.inr e))
def Z07 (v1:View)(a:(List Int)):Option (View) :=
 (Z8 v1).bind fun h =>
 (bP (!(!h)) (Zm a)).bind fun g =>
 (bP (!((!h)||(!g))) (Zs a)).bind fun l =>
 (bP (!((!h)||(!g))) (Zs v1.Dims)).bind fun j =>
 if (((!h)||(!g))||(l != j))=true then (
 some (⟨([]:List Int),([]:List Int),(0:Int),(0:Int)⟩:View))
 else (
 (Z08 v1).bind fun b =>
 (Zq a).bind fun i =>
 if (0≤(0:Int)∧(0:Int)<(b.length:Int)) then
 (aR (fun s:(List Int)×Int=>Z07_L1 a b s.1 s.2) (([]:List Int),(0:Int))).bind fun e=>Z07_J3 v1 b i e
 else none)
def Z28 (v1:View)(a:Int):Option (Bool) :=
 (Z8 v1).bind fun b =>
 some ((b&&(decide (a≥0)))&&(decide (a<(v1.Dims.length:Int))))
def Z2a (v1:View):Option (View) :=
 (Zq v1.Dims).bind fun a =>
 (Zq v1.Strides).bind fun b =>
 some (⟨a,b,v1.Offset,v1.Base⟩:View)
def Z2b (v1:View):Option (View) :=
 (Z8 v1).bind fun a =>
 if (!a)=true then (
 some (⟨([]:List Int),([]:List Int),(0:Int),(0:Int)⟩:View))
 else (
 some v1)
def Z1a_J1 (a:Int)(i:Int)(b:Int)(e:View)(g:(List Int)):Option (View) :=
 (Z2b (⟨(e.Dims.set a.toNat b),g,(aH (e.Offset+(aH (i*(ix e.Strides a))))),e.Base⟩:View)).bind fun h =>
 some h
def Z1a (v1:View)(a:Int)(h:Int)(b:Int)(e:Int):Option (View) :=
 (Z28 v1 a).bind fun i =>
 if ((((((!i)||(decide (b<1)))||(decide (b>4096)))||(decide (e<(-4096:Int))))||(decide (e>4096)))||(decide (h<0)))=false→(0≤a∧a<(v1.Dims.length:Int)) then
 if (((((((!i)||(decide (b<1)))||(decide (b>4096)))||(decide (e<(-4096:Int))))||(decide (e>4096)))||(decide (h<0)))||(decide (h≥(ix v1.Dims a))))=true then (
 some (⟨([]:List Int),([]:List Int),(0:Int),(0:Int)⟩:View))
 else (
 if (decide ((aH (h+(aH ((aH (b - 1))*e))))<0))=false→(0≤a∧a<(v1.Dims.length:Int)) then
 if ((decide ((aH (h+(aH ((aH (b - 1))*e))))<0))||(decide ((aH (h+(aH ((aH (b - 1))*e))))≥(ix v1.Dims a))))=true then (
 some (⟨([]:List Int),([]:List Int),(0:Int),(0:Int)⟩:View))
 else (
 (Z2a v1).bind fun g =>
 if (0≤a∧a<(g.Strides.length:Int)) then
 if (0≤a∧a<(g.Dims.length:Int)) then
 (nm (g.Strides.set a.toNat (aH ((ix g.Strides a)*e)))).bind fun j =>
 if (b==1)=true then (
 Z1a_J1 a h b g (j.set a.toNat (0:Int)))
 else (
 Z1a_J1 a h b g j)
 else none
 else none)
 else none)
 else none
def Z1u (t1:Tensor)(a:(List Int))(e:Int):Option ((List Int)) :=
 (Z0m t1.Dims a).bind fun b =>
 if (0≤b∧b<(t1.Data.length:Int)) then
 some (t1.Data.set b.toNat e)
 else none
def Z0t_J1 (a:Tensor)(b:(List Int)):Option (Tensor) :=
 some (⟨a.Dims,b⟩:Tensor)
def Z0t_L1 (t1:Tensor)(a:Int)(e:Int)(h:Int)(j:Tensor)(i:(List Int))(b:Int):Option (((List Int)×Int)⊕((List Int))) :=
 if (decide (b<(t1.Data.length:Int)))=true then (
 (Zh t1.Dims b).bind fun g =>
 if (0≤a∧a<(g.length:Int)) then
 (Z0f g a (aH (e+(aH ((ix g a)*(aH (h+1))))))).bind fun m =>
 if (0≤b∧b<(t1.Data.length:Int)) then
 (Z1u (⟨j.Dims,i⟩:Tensor) m (ix t1.Data b)).bind fun l =>
 some (.inl (l,(aH (b+1))))
 else none
 else none)
 else (
 some (.inr i))
def Z0t (t1:Tensor)(a:Int)(b:Int)(g:Int)(h:Int):Option (Tensor) :=
 (Z1g t1 a).bind fun m =>
 if (((((((!m)||(decide (b<0)))||(decide (b>4096)))||(decide (g<0)))||(decide (g>4096)))||(decide (h<0)))||(decide (h>4096)))=true then (
 some (⟨([]:List Int),([]:List Int)⟩:Tensor))
 else (
 if (0≤a∧a<(t1.Dims.length:Int)) then
 (Z0f t1.Dims a (aH ((aH ((aH (b+(ix t1.Dims a)))+(aH ((aH ((ix t1.Dims a) - 1))*h))))+g))).bind fun j =>
 (Zm j).bind fun l =>
 if (!l)=true then (
 some (⟨([]:List Int),([]:List Int)⟩:Tensor))
 else (
 (Z0e j).bind fun i =>
 (aR (fun s:(List Int)×Int=>Z0t_L1 t1 a b h i s.1 s.2) (i.Data,(0:Int))).bind fun e=>Z0t_J1 i e)
 else none)
def Z0s_J1 (b:Tensor)(a:(List Int)):Option (Tensor) :=
 some (⟨b.Dims,a⟩:Tensor)
def Z0s_L1 (t1:Tensor)(a:Int)(b:(List Int))(j:(List Int))(h:Tensor)(i:(List Int))(e:Int):Option (((List Int)×Int)⊕((List Int))) :=
 if (decide (e<(h.Data.length:Int)))=true then (
 (Zh j e).bind fun g =>
 if (0≤a∧a<(g.length:Int)) then
 if (0≤(ix g a)∧(ix g a)<(b.length:Int)) then
 (Z0f g a (ix b (ix g a))).bind fun m =>
 (Z16 t1 m).bind fun l =>
 if (0≤e∧e<(h.Data.length:Int)) then
 some (.inl ((i.set e.toNat l),(aH (e+1))))
 else none
 else none
 else none)
 else (
 some (.inr i))
def Z0s (t1:Tensor)(b:Int)(a:(List Int)):Option (Tensor) :=
 (Z1g t1 b).bind fun l =>
 if ((!l)||((a.length:Int)==0))=false→(0≤b∧b<(t1.Dims.length:Int)) then
 (bP (!((!l)||((a.length:Int)==0))) (Z0g a (ix t1.Dims b))).bind fun j =>
 if (((!l)||((a.length:Int)==0))||(!j))=true then (
 some (⟨([]:List Int),([]:List Int)⟩:Tensor))
 else (
 (Z0f t1.Dims b (a.length:Int)).bind fun g =>
 (Zm g).bind fun i =>
 if (!i)=true then (
 some (⟨([]:List Int),([]:List Int)⟩:Tensor))
 else (
 (Z0e g).bind fun h =>
 (aR (fun s:(List Int)×Int=>Z0s_L1 t1 b a g h s.1 s.2) (h.Data,(0:Int))).bind fun e=>Z0s_J1 h e))
 else none
def Z0u_J1 (a:Tensor)(b:(List Int)):Option (Tensor) :=
 some (⟨a.Dims,b⟩:Tensor)
def Z0u_L1 (t1:Tensor)(a:Int)(b:(List Int))(j:Tensor)(h:(List Int))(e:Int):Option (((List Int)×Int)⊕((List Int))) :=
 if (decide (e<(t1.Data.length:Int)))=true then (
 (Zh t1.Dims e).bind fun g =>
 if (0≤a∧a<(g.length:Int)) then
 if (0≤(ix g a)∧(ix g a)<(b.length:Int)) then
 (Z0f g a (ix b (ix g a))).bind fun i =>
 (Z16 (⟨j.Dims,h⟩:Tensor) i).bind fun q =>
 if (0≤e∧e<(t1.Data.length:Int)) then
 (Z1m q (ix t1.Data e)).bind fun m =>
 (Z1u (⟨j.Dims,h⟩:Tensor) i m).bind fun l =>
 some (.inl (l,(aH (e+1))))
 else none
 else none
 else none)
 else (
 some (.inr h))
def Z0u (t1:Tensor)(a:Int)(b:(List Int))(m:Int):Option (Tensor) :=
 (Z1g t1 a).bind fun h =>
 if (!h)=false→(0≤a∧a<(t1.Dims.length:Int)) then
 (bP (!((!h)||((b.length:Int) != (ix t1.Dims a)))) (Z0g b m)).bind fun j =>
 if (((!h)||((b.length:Int) != (ix t1.Dims a)))||(!j))=true then (
 some (⟨([]:List Int),([]:List Int)⟩:Tensor))
 else (
 (Z0f t1.Dims a m).bind fun i =>
 (Zm i).bind fun l =>
 if (!l)=true then (
 some (⟨([]:List Int),([]:List Int)⟩:Tensor))
 else (
 (Z0e i).bind fun g =>
 (aR (fun s:(List Int)×Int=>Z0u_L1 t1 a b g s.1 s.2) (g.Data,(0:Int))).bind fun e=>Z0u_J1 g e))
 else none
def Z09_J2 (a:Int)(b:View)(i:(List Int))(g:(List Int))(e:Int):Option (View) :=
 if g.length+([e]:List Int).length≤17592186044416 then
 (Z2b (⟨(i++([a]:List Int)),(g++([e]:List Int)),b.Offset,b.Base⟩:View)).bind fun h =>
 some h
 else none
def Z09_J1 (v1:View)(b:Int)(a:Int)(g:View)(e:(List Int))(h:(List Int)):Option (View) :=
 if e.length+([a]:List Int).length≤17592186044416 then
 if (a==1)=true then (
 Z09_J2 a g e h (0:Int))
 else (
 Z09_J2 a g e h (ix v1.Strides b))
 else none
def Z09 (v1:View)(a:Int)(b:Int)(e:Int):Option (View) :=
 (Z28 v1 a).bind fun j =>
 if (((!j)||(decide (b<1)))||(decide (e<1)))=false→(0≤a∧a<(v1.Dims.length:Int)) then
 if ((((!j)||(decide (b<1)))||(decide (e<1)))||(decide (b>(ix v1.Dims a))))=true then (
 some (⟨([]:List Int),([]:List Int),(0:Int),(0:Int)⟩:View))
 else (
 (Z2a v1).bind fun g =>
 if (0≤a∧a<(v1.Dims.length:Int)) then
 if e≠0 then
 if (0≤a∧a<(v1.Strides.length:Int)) then
 if (0≤a∧a<(g.Dims.length:Int)) then
 (nm (g.Dims.set a.toNat (aH ((aH ((aH ((ix v1.Dims a) - b)).tdiv e))+1)))).bind fun h =>
 if (0≤a∧a<(g.Strides.length:Int)) then
 if (decide ((aH ((aH ((aH ((ix v1.Dims a) - b)).tdiv e))+1))>1))=true then (
 (nm ((g.Strides.set a.toNat (0:Int)).set a.toNat (aH ((ix v1.Strides a)*e)))).bind fun i =>
 Z09_J1 v1 a b g h i)
 else (
 Z09_J1 v1 a b g h (g.Strides.set a.toNat (0:Int)))
 else none
 else none
 else none
 else none
 else none)
 else none
def Z0r_J1 (a:Tensor)(b:(List Int)):Option (Tensor) :=
 some (⟨a.Dims,b⟩:Tensor)
def Z0r_L1 (t1:Tensor)(a:Int)(i:Int)(j:Tensor)(g:(List Int))(b:Int):Option (((List Int)×Int)⊕((List Int))) :=
 if (decide (b<(t1.Data.length:Int)))=true then (
 (Zh t1.Dims b).bind fun e =>
 if (0≤a∧a<(e.length:Int)) then
 if (0≤(aH ((t1.Dims.length:Int) - 1))∧(aH ((t1.Dims.length:Int) - 1))<(e.length:Int)) then
 (Z0f e a (aH ((aH ((ix e a)*i))+(ix e (aH ((t1.Dims.length:Int) - 1)))))).bind fun h =>
 if (0≤(0:Int)∧(0:Int)≤(aH ((t1.Dims.length:Int) - 1))∧(aH ((t1.Dims.length:Int) - 1))≤(h.length:Int)) then
 (Z16 (⟨j.Dims,g⟩:Tensor) (sub h (0:Int) (aH ((t1.Dims.length:Int) - 1)))).bind fun q =>
 if (0≤b∧b<(t1.Data.length:Int)) then
 (Z1m q (ix t1.Data b)).bind fun m =>
 (Z1u (⟨j.Dims,g⟩:Tensor) (sub h (0:Int) (aH ((t1.Dims.length:Int) - 1))) m).bind fun l =>
 some (.inl (l,(aH (b+1))))
 else none
 else none
 else none
 else none)
 else (
 some (.inr g))
def Z0r (t1:Tensor)(a:Int)(b:Int)(g:Int):Option (Tensor) :=
 (Z1g t1 a).bind fun l =>
 if (((((!l)||(a==(aH ((t1.Dims.length:Int) - 1))))||(decide (b<1)))||(decide (g<1)))||(decide (g>4096)))=true then (
 some (⟨([]:List Int),([]:List Int)⟩:Tensor))
 else (
 if (0≤(aH ((t1.Dims.length:Int) - 1))∧(aH ((t1.Dims.length:Int) - 1))<(t1.Dims.length:Int)) then
 if (decide ((ix t1.Dims (aH ((t1.Dims.length:Int) - 1)))>g))=false→b≠0 then
 if (decide ((ix t1.Dims (aH ((t1.Dims.length:Int) - 1)))>g))=false→(0≤a∧a<(t1.Dims.length:Int)) then
 if ((decide ((ix t1.Dims (aH ((t1.Dims.length:Int) - 1)))>g))||((aH ((aH ((aH (g - (ix t1.Dims (aH ((t1.Dims.length:Int) - 1))))).tdiv b))+1)) != (ix t1.Dims a)))=true then (
 some (⟨([]:List Int),([]:List Int)⟩:Tensor))
 else (
 (Z0f t1.Dims a g).bind fun i =>
 if (0≤(0:Int)∧(0:Int)≤(aH ((t1.Dims.length:Int) - 1))∧(aH ((t1.Dims.length:Int) - 1))≤(i.length:Int)) then
 (Zm (sub i (0:Int) (aH ((t1.Dims.length:Int) - 1)))).bind fun j =>
 if (!j)=true then (
 some (⟨([]:List Int),([]:List Int)⟩:Tensor))
 else (
 (Z0e (sub i (0:Int) (aH ((t1.Dims.length:Int) - 1)))).bind fun h =>
 (aR (fun s:(List Int)×Int=>Z0r_L1 t1 a b h s.1 s.2) (h.Data,(0:Int))).bind fun e=>Z0r_J1 h e)
 else none)
 else none
 else none
 else none)
def Z1_J2 (a:Node)(b:(List Tensor))(M:Bool):Option (Tensor) :=
 if M=true then (
 if (0≤(0:Int)∧(0:Int)<(b.length:Int)) then
 (Z12 (aH ((aH (a.Op - 6))+1)) (ix b 0)).bind fun I =>
 some I
 else none)
 else (
 if (a.Op==10)=true then (
 if (0≤(0:Int)∧(0:Int)<(b.length:Int)) then
 if (0≤(0:Int)∧(0:Int)<(a.Ints.length:Int)) then
 (Za (ix b 0) (ix a.Ints 0)).bind fun G =>
 some G
 else none
 else none)
 else (
 if (a.Op==11)=true then (
 (Z5 a.Form b).bind fun L =>
 some L)
 else (
 if (a.Op==12)=true then (
 if (0≤(0:Int)∧(0:Int)<(b.length:Int)) then
 (Zu ((ix b 0).Dims)).bind fun E =>
 (Z00 E a.Dims).bind fun D =>
 (Zz (ix b 0) D).bind fun F =>
 some F
 else none)
 else (
 if (a.Op==13)=true then (
 if (0≤(0:Int)∧(0:Int)<(b.length:Int)) then
 (Zu ((ix b 0).Dims)).bind fun J =>
 (Z07 J a.Dims).bind fun q =>
 (Zz (ix b 0) q).bind fun l =>
 some l
 else none)
 else (
 if (a.Op==14)=true then (
 if (0≤(3:Int)∧(3:Int)<(a.Ints.length:Int)) then
 if (decide ((ix a.Ints 3)<1))=true then (
 some (⟨([]:List Int),([]:List Int)⟩:Tensor))
 else (
 if (0≤(0:Int)∧(0:Int)<(b.length:Int)) then
 (Zu ((ix b 0).Dims)).bind fun r =>
 if (0≤(0:Int)∧(0:Int)<(a.Ints.length:Int)) then
 if (0≤(1:Int)∧(1:Int)<(a.Ints.length:Int)) then
 if (0≤(2:Int)∧(2:Int)<(a.Ints.length:Int)) then
 (Z1a r (ix a.Ints 0) (ix a.Ints 1) (ix a.Ints 2) (ix a.Ints 3)).bind fun e =>
 (Zz (ix b 0) e).bind fun h =>
 some h
 else none
 else none
 else none
 else none)
 else none)
 else (
 if (a.Op==15)=true then (
 if (0≤(0:Int)∧(0:Int)<(b.length:Int)) then
 if (0≤(0:Int)∧(0:Int)<(a.Ints.length:Int)) then
 if (0≤(1:Int)∧(1:Int)<(a.Ints.length:Int)) then
 if (0≤(2:Int)∧(2:Int)<(a.Ints.length:Int)) then
 if (0≤(3:Int)∧(3:Int)<(a.Ints.length:Int)) then
 (Z0t (ix b 0) (ix a.Ints 0) (ix a.Ints 1) (ix a.Ints 2) (ix a.Ints 3)).bind fun s =>
 some s
 else none
 else none
 else none
 else none
 else none)
 else (
 if (a.Op==16)=true then (
 if (0≤(0:Int)∧(0:Int)<(b.length:Int)) then
 if (0≤(0:Int)∧(0:Int)<(a.Ints.length:Int)) then
 if (0≤(1:Int)∧(1:Int)≤(a.Ints.length:Int)∧(a.Ints.length:Int)≤(a.Ints.length:Int)) then
 (Z0s (ix b 0) (ix a.Ints 0) (sub a.Ints (1:Int) (a.Ints.length:Int))).bind fun i =>
 some i
 else none
 else none
 else none)
 else (
 if (a.Op==17)=true then (
 if (0≤(0:Int)∧(0:Int)<(b.length:Int)) then
 if (0≤(0:Int)∧(0:Int)<(a.Ints.length:Int)) then
 if (0≤(2:Int)∧(2:Int)≤(a.Ints.length:Int)∧(a.Ints.length:Int)≤(a.Ints.length:Int)) then
 if (0≤(1:Int)∧(1:Int)<(a.Ints.length:Int)) then
 (Z0u (ix b 0) (ix a.Ints 0) (sub a.Ints (2:Int) (a.Ints.length:Int)) (ix a.Ints 1)).bind fun j =>
 some j
 else none
 else none
 else none
 else none)
 else (
 if (a.Op==18)=true then (
 if (0≤(0:Int)∧(0:Int)<(b.length:Int)) then
 (Zu ((ix b 0).Dims)).bind fun m =>
 if (0≤(0:Int)∧(0:Int)<(a.Ints.length:Int)) then
 if (0≤(1:Int)∧(1:Int)<(a.Ints.length:Int)) then
 if (0≤(2:Int)∧(2:Int)<(a.Ints.length:Int)) then
 (Z09 m (ix a.Ints 0) (ix a.Ints 1) (ix a.Ints 2)).bind fun B =>
 (Zz (ix b 0) B).bind fun u =>
 some u
 else none
 else none
 else none
 else none)
 else (
 if (0≤(0:Int)∧(0:Int)<(b.length:Int)) then
 if (0≤(0:Int)∧(0:Int)<(a.Ints.length:Int)) then
 if (0≤(1:Int)∧(1:Int)<(a.Ints.length:Int)) then
 if (0≤(2:Int)∧(2:Int)<(a.Ints.length:Int)) then
 (Z0r (ix b 0) (ix a.Ints 0) (ix a.Ints 1) (ix a.Ints 2)).bind fun g =>
 some g
 else none
 else none
 else none
 else none))))))))))
def Z1_J1 (a:Node)(b:(List Tensor))(e:Bool):Option (Tensor) :=
 if e=true then (
 if (0≤(0:Int)∧(0:Int)<(b.length:Int)) then
 if (0≤(1:Int)∧(1:Int)<(b.length:Int)) then
 (Zy ((ix b 0).Dims) ((ix b 1).Dims)).bind fun g =>
 if (!g)=true then (
 some (⟨([]:List Int),([]:List Int)⟩:Tensor))
 else (
 (Z13 (aH ((aH (a.Op - 3))+1)) (ix b 0) (ix b 1)).bind fun h =>
 some h)
 else none
 else none)
 else (
 if (a.Op==6)=true then (
 Z1_J2 a b (a.Op==6))
 else (
 if (a.Op==7)=true then (
 Z1_J2 a b (a.Op==7))
 else (
 if (a.Op==8)=true then (
 Z1_J2 a b (a.Op==8))
 else (
 Z1_J2 a b (a.Op==9)))))
def Z1 (a:Node)(g:(List Tensor)):Option (Tensor) :=
 if (a.Op==2)=true then (
 (Zo (⟨a.Dims,a.Data⟩:Tensor)).bind fun e =>
 if (!e)=true then (
 some (⟨([]:List Int),([]:List Int)⟩:Tensor))
 else (
 (Zq a.Dims).bind fun h =>
 (Zq a.Data).bind fun b =>
 some (⟨h,b⟩:Tensor)))
 else (
 if (a.Op==3)=true then (
 Z1_J1 a g (a.Op==3))
 else (
 if (a.Op==4)=true then (
 Z1_J1 a g (a.Op==4))
 else (
 Z1_J1 a g (a.Op==5))))
def Z0q_J1 (b:Tensor)(a:(List Int)):Option (Tensor) :=
 some (⟨b.Dims,a⟩:Tensor)
def Z0q_L1 (h:Int)(g:Tensor)(b:(List Int))(a:Int):Option (((List Int)×Int)⊕((List Int))) :=
 if (decide (a<(g.Data.length:Int)))=true then (
 (Zn h).bind fun e =>
 if (0≤a∧a<(g.Data.length:Int)) then
 some (.inl ((b.set a.toNat e),(aH (a+1))))
 else none)
 else (
 some (.inr b))
def Z0q (a:(List Int))(h:Int):Option (Tensor) :=
 (Zm a).bind fun g =>
 if (!g)=true then (
 some (⟨([]:List Int),([]:List Int)⟩:Tensor))
 else (
 (Z0e a).bind fun b =>
 (aR (fun s:(List Int)×Int=>Z0q_L1 h b s.1 s.2) (b.Data,(0:Int))).bind fun e=>Z0q_J1 b e)
def Z9_J5 (g1:Graph)(a:(List Tensor))(b:Bool)(g:(List Tensor))(h:Int):Option ((List Tensor)×Bool) :=
 (Z0g g1.Outs (g1.Nodes.length:Int)).bind fun e =>
 some (g,(e&&(b||(h==(a.length:Int)))))
def Z9_J4 (a:(List Tensor))(h:Int)(g:Int)(e:(List Int))(b:(List Int)):Option (((List Tensor)×Int×Int)⊕(((List Tensor)×Bool)⊕((List Tensor)×Int))) :=
 if ((b.length:Int)==0)=true then (
 some (.inr (.inl (a,false))))
 else (
 if a.length+([(⟨e,b⟩:Tensor)]:List Tensor).length≤2932031007402 then
 some (.inl ((a++([(⟨e,b⟩:Tensor)]:List Tensor)),g,(aH (h+1))))
 else none)
def Z9_J3 (g1:Graph)(a:(List Tensor))(i:Bool)(g:(List Tensor))(b:Int)(e:Int)(r:(List Tensor)):Option (((List Tensor)×Int×Int)⊕(((List Tensor)×Bool)⊕((List Tensor)×Int))) :=
 if ((ix g1.Nodes e).Op != 1)=true then (
 (Z1 (ix g1.Nodes e) r).bind fun l =>
 Z9_J4 g e b l.Dims l.Data)
 else (
 if i=true then (
 (Z0q ((ix g1.Nodes e).Dims) (0:Int)).bind fun j =>
 Z9_J4 g e b j.Dims j.Data)
 else (
 if (decide (b≥(a.length:Int)))=false→(0≤b∧b<(a.length:Int)) then
 (bP (!(decide (b≥(a.length:Int)))) (Zo (ix a b))).bind fun h =>
 if ((decide (b≥(a.length:Int)))||(!h))=false→(0≤b∧b<(a.length:Int)) then
 (bP (!((decide (b≥(a.length:Int)))||(!h))) (Zy ((ix a b).Dims) ((ix g1.Nodes e).Dims))).bind fun m =>
 if (((decide (b≥(a.length:Int)))||(!h))||(!m))=true then (
 some (.inr (.inl (g,false))))
 else (
 (Zq ((ix g1.Nodes e).Dims)).bind fun q =>
 if (0≤b∧b<(a.length:Int)) then
 (Zq ((ix a b).Data)).bind fun s =>
 Z9_J4 g e (aH (b+1)) q s
 else none)
 else none
 else none))
def Z9_L2 (g1:Graph)(e:(List Tensor))(b:Int)(g:(List Tensor))(a:Int):Option (((List Tensor)×Int)⊕((List Tensor))) :=
 if (decide (a<(((ix g1.Nodes b).Args).length:Int)))=true then (
 if (0≤a∧a<(((ix g1.Nodes b).Args).length:Int)) then
 if (0≤(ix ((ix g1.Nodes b).Args) a)∧(ix ((ix g1.Nodes b).Args) a)<(e.length:Int)) then
 if g.length+([(ix e (ix ((ix g1.Nodes b).Args) a))]:List Tensor).length≤2932031007402 then
 some (.inl ((g++([(ix e (ix ((ix g1.Nodes b).Args) a))]:List Tensor)),(aH (a+1))))
 else none
 else none
 else none)
 else (
 some (.inr g))
def Z9_L1 (g1:Graph)(g:(List Tensor))(h:Bool)(b:(List Tensor))(i:Int)(a:Int):Option (((List Tensor)×Int×Int)⊕(((List Tensor)×Bool)⊕((List Tensor)×Int))) :=
 if (decide (a<(g1.Nodes.length:Int)))=true then (
 if (0≤a∧a<(g1.Nodes.length:Int)) then
 (Z17 (ix g1.Nodes a)).bind fun j =>
 (bP (!(!j)) (Z0g ((ix g1.Nodes a).Args) a)).bind fun l =>
 if ((!j)||(!l))=true then (
 some (.inr (.inl (b,false))))
 else (
 (aR (fun s:(List Tensor)×Int=>Z9_L2 g1 b a s.1 s.2) (([]:List Tensor),(0:Int))).bind fun e=>Z9_J3 g1 g h b i a e)
 else none)
 else (
 some (.inr (.inr (b,i))))
def Z9 (g1:Graph)(a:(List Tensor))(b:Bool):Option ((List Tensor)×Bool) :=
 if ((decide ((g1.Nodes.length:Int)>200))||(decide ((g1.Outs.length:Int)>40)))=true then (
 some (([]:List Tensor),false))
 else (
 (aR (fun s:(List Tensor)×Int×Int=>Z9_L1 g1 a b s.1 s.2.1 s.2.2) (([]:List Tensor),(0:Int),(0:Int))).bind fun e=>match e with
 | .inl e=>some e
 | .inr e=>Z9_J5 g1 a b e.1 e.2)
def Z3a (a:Int)(b:Int):Option (Int×Int) :=
 some (a,b)
def Z3b (a:Int)(b:Int):Option (Int×Int) :=
 some (a,b)
def Z3c (a:Int)(b:Int):Option (Int×Int) :=
 some (a,b)
def Z3d (a:Int)(b:Int):Option (Int×Int) :=
 some (a,b)
def Zv_J3 (a:Int)(i:Bool):Option (kindOfR) :=
 if i=true then (
 some (⟨6,false,(0:Int),(0:Int),eP⟩:kindOfR))
 else (
 if (a==15)=true then (
 (Z3a (4:Int) (4:Int)).bind fun e =>
 some (⟨8,false,e.1,e.2,eP⟩:kindOfR))
 else (
 if (a==16)=true then (
 (Z3b (1:Int) (4097:Int)).bind fun h =>
 some (⟨9,false,h.1,h.2,eP⟩:kindOfR))
 else (
 if (a==17)=true then (
 (Z3c (2:Int) (4098:Int)).bind fun b =>
 some (⟨10,false,b.1,b.2,eP⟩:kindOfR))
 else (
 if (a==19)=true then (
 (Z3d (3:Int) (3:Int)).bind fun g =>
 some (⟨11,false,g.1,g.2,eP⟩:kindOfR))
 else (
 some (⟨0,false,(0:Int),(0:Int),([]:aM)⟩:kindOfR))))))
def Zv_J2 (a:Int)(b:Bool):Option (kindOfR) :=
 if b=true then (
 some (⟨3,false,(aH ((aH (a - 6))+1)),(0:Int),([]:aM)⟩:kindOfR))
 else (
 if (a==10)=true then (
 some (⟨4,false,(0:Int),(0:Int),([]:aM)⟩:kindOfR))
 else (
 if (a==11)=true then (
 some (⟨5,false,(0:Int),(0:Int),([]:aM)⟩:kindOfR))
 else (
 if (a==12)=true then (
 some (⟨6,false,(0:Int),(0:Int),gP⟩:kindOfR))
 else (
 if (a==13)=true then (
 some (⟨7,false,(0:Int),(0:Int),gP⟩:kindOfR))
 else (
 if (a==14)=true then (
 Zv_J3 a (a==14))
 else (
 Zv_J3 a (a==18)))))))
def Zv_J1 (a:Int)(b:Bool):Option (kindOfR) :=
 if b=true then (
 some (⟨2,false,(aH ((aH (a - 3))+1)),(0:Int),([]:aM)⟩:kindOfR))
 else (
 if (a==6)=true then (
 Zv_J2 a (a==6))
 else (
 if (a==7)=true then (
 Zv_J2 a (a==7))
 else (
 if (a==8)=true then (
 Zv_J2 a (a==8))
 else (
 Zv_J2 a (a==9)))))
def Zv (a:Int):Option (kindOfR) :=
 if (a==1)=true then (
 some (⟨1,false,(0:Int),(0:Int),([]:aM)⟩:kindOfR))
 else (
 if (a==2)=true then (
 some (⟨1,true,(0:Int),(0:Int),([]:aM)⟩:kindOfR))
 else (
 if (a==3)=true then (
 Zv_J1 a (a==3))
 else (
 if (a==4)=true then (
 Zv_J1 a (a==4))
 else (
 Zv_J1 a (a==5)))))
def Z3f (k1:leafKind):Option (aM) :=
 if k1.data=true then (
 some oh)
 else (
 some gP)
def Z3g (k1:pairKind):Option (aM) :=
 some ([]:aM)
def Z3n (k1:soloKind):Option (aM) :=
 some ([]:aM)
def Z3o (k1:topKind):Option (aM) :=
 some eP
def Z3e (k1:formKind):Option (aM) :=
 some k8
def Z3l (k1:shiftKind):Option (aM) :=
 some k1.use
def Z3m (k1:shiftKind):Option (aM) :=
 some k1.use
def Z3h (k1:shiftKind)(b:Int)(a:Int):Option (aM) :=
 some k1.use
def Z3i (k1:shiftKind)(b:Int)(a:Int):Option (aM) :=
 some k1.use
def Z3j (k1:shiftKind)(b:Int)(a:Int):Option (aM) :=
 some k1.use
def Z3k (k1:shiftKind)(b:Int)(a:Int):Option (aM) :=
 some k1.use
def fM (r:kindOfR):Option (aM) :=
 if Nat.beq r.t 0=true then none else (if Nat.beq r.t 1=true then Z3f (⟨r.b0⟩:leafKind) else (if Nat.beq r.t 2=true then Z3g (⟨r.i0⟩:pairKind) else (if Nat.beq r.t 3=true then Z3n (⟨r.i0⟩:soloKind) else (if Nat.beq r.t 4=true then Z3o (⟨⟩:topKind) else (if Nat.beq r.t 5=true then Z3e (⟨⟩:formKind) else (if Nat.beq r.t 6=true then Z3l (⟨r.s0⟩:shiftKind) else (if Nat.beq r.t 7=true then Z3m (⟨r.s0⟩:shiftKind) else (if Nat.beq r.t 8=true then Z3h (⟨r.s0⟩:shiftKind) r.i0 r.i1 else (if Nat.beq r.t 9=true then Z3i (⟨r.s0⟩:shiftKind) r.i0 r.i1 else (if Nat.beq r.t 10=true then Z3j (⟨r.s0⟩:shiftKind) r.i0 r.i1 else (Z3k (⟨r.s0⟩:shiftKind) r.i0 r.i1)))))))))))
def cI (a b:aM):Option (Int) :=
 if a.length<4294967281 then some (Lib.index a b) else none
def Z2c (p1:aM)(a:aM):Option (Int) :=
 (cI p1 a).bind fun b =>
 some b
def Z3q (p1:aM)(a:aM):Option (Bool) :=
 (Z2c p1 a).bind fun b =>
 some (decide (b≥0))
def Z6 (e:aM)(b:aM):Option (Bool) :=
 (Z3q b e).bind fun a =>
 some a
def Z1v (b:Node)(a:aM):Option (Bool) :=
 (Z6 gP a).bind fun h =>
 (bP (h||((b.Dims.length:Int)==0)) (Z6 eP a)).bind fun e =>
 (bP ((h||((b.Dims.length:Int)==0))&&(e||((b.Ints.length:Int)==0))) (Z6 k8 a)).bind fun g =>
 (bP (((h||((b.Dims.length:Int)==0))&&(e||((b.Ints.length:Int)==0)))&&(g||(b.Form==([]:aM)))) (Z6 oi a)).bind fun i =>
 some ((((h||((b.Dims.length:Int)==0))&&(e||((b.Ints.length:Int)==0)))&&(g||(b.Form==([]:aM))))&&(i||((b.Data.length:Int)==0)))
def Zb_J1 (a:(List Int)):Option (Bool) :=
 some (decide ((a.length:Int)≤6))
def Zb_L1 (a:(List Int))(e:Int)(b:Int):Option ((Int×Int)⊕((Bool)⊕(Unit))) :=
 if (decide (b<(a.length:Int)))=true then (
 if (0≤b∧b<(a.length:Int)) then
 if ((decide ((ix a b)<1))||(decide ((ix a b)>4096)))=true then (
 some (.inr (.inl false)))
 else (
 if (decide ((aH (e*(ix a b)))>4096))=true then (
 some (.inr (.inl false)))
 else (
 some (.inl ((aH (e*(ix a b))),(aH (b+1))))))
 else none)
 else (
 some (.inr (.inr ())))
def Zb (a:(List Int)):Option (Bool) :=
 (aR (fun s:Int×Int=>Zb_L1 a s.1 s.2) ((1:Int),(0:Int))).bind fun e=>match e with
 | .inl e=>some e
 | .inr e=>Zb_J1 a
def Zl_J1 (a:Int):Option (Int) :=
 some a
def Zl_L1 (a:(List Int))(e:Int)(b:Int):Option ((Int×Int)⊕(Int)) :=
 if (decide (b<(a.length:Int)))=true then (
 if (0≤b∧b<(a.length:Int)) then
 some (.inl ((aH (e*(ix a b))),(aH (b+1))))
 else none)
 else (
 some (.inr e))
def Zl (a:(List Int)):Option (Int) :=
 (aR (fun s:Int×Int=>Zl_L1 a s.1 s.2) ((1:Int),(0:Int))).bind fun e=>Zl_J1 e
def Z32 (p1:Int):Option (Bool) :=
 some ((decide (p1≥0))&&(decide (p1<2147483647)))
def Z14_J1:Option (Bool) :=
 some true
def Z14_L1 (b:(List Int))(a:Int):Option ((Int)⊕((Bool)⊕(Unit))) :=
 if (decide (a<(b.length:Int)))=true then (
 if (0≤a∧a<(b.length:Int)) then
 (Z32 (ix b a)).bind fun e =>
 if (!e)=true then (
 some (.inr (.inl false)))
 else (
 some (.inl (aH (a+1))))
 else none)
 else (
 some (.inr (.inr ())))
def Z14 (a:(List Int)):Option (Bool) :=
 (aR (fun s:Int=>Z14_L1 a s) (0:Int)).bind fun e=>match e with
 | .inl e=>some e
 | .inr e=>Z14_J1
def Z2l (t1:Tensor):Option (Bool) :=
 (Zb t1.Dims).bind fun a =>
 (bP a (Zl t1.Dims)).bind fun b =>
 (bP (a&&((t1.Data.length:Int)==b)) (Z14 t1.Data)).bind fun e =>
 some ((a&&((t1.Data.length:Int)==b))&&e)
def Z1k (k1:leafKind)(e:Node)(a:(List (List Int))):Option ((List Int)×Bool) :=
 (bP (!((a.length:Int) != 0)) (Zb e.Dims)).bind fun b =>
 (bP ((!(((a.length:Int) != 0)||(!b)))&&k1.data) (Z2l (⟨e.Dims,e.Data⟩:Tensor))).bind fun g =>
 if ((((a.length:Int) != 0)||(!b))||(k1.data&&(!g)))=true then (
 some (([]:List Int),false))
 else (
 some (e.Dims,true))
def Z11_J1:Option (Bool) :=
 some true
def Z11_L1 (b:(List Int))(e:(List Int))(a:Int):Option ((Int)⊕((Bool)⊕(Unit))) :=
 if (decide (a<(b.length:Int)))=true then (
 if (0≤a∧a<(b.length:Int)) then
 if (0≤a∧a<(e.length:Int)) then
 if ((ix b a) != (ix e a))=true then (
 some (.inr (.inl false)))
 else (
 some (.inl (aH (a+1))))
 else none
 else none)
 else (
 some (.inr (.inr ())))
def Z11 (b:(List Int))(a:(List Int)):Option (Bool) :=
 if ((b.length:Int) != (a.length:Int))=true then (
 some false)
 else (
 (aR (fun s:Int=>Z11_L1 b a s) (0:Int)).bind fun e=>match e with
 | .inl e=>some e
 | .inr e=>Z11_J1)
def Z23 (k1:pairKind)(e:Node)(a:(List (List Int))):Option ((List Int)×Bool) :=
 if ((a.length:Int) != 2)=false→(0≤(0:Int)∧(0:Int)<(a.length:Int)) then
 if ((a.length:Int) != 2)=false→(0≤(1:Int)∧(1:Int)<(a.length:Int)) then
 (bP (!((a.length:Int) != 2)) (Z11 (ix a 0) (ix a 1))).bind fun b =>
 if (((a.length:Int) != 2)||(!b))=true then (
 some (([]:List Int),false))
 else (
 if (0≤(0:Int)∧(0:Int)<(a.length:Int)) then
 some ((ix a 0),true)
 else none)
 else none
 else none
def Z2u (k1:soloKind)(b:Node)(a:(List (List Int))):Option ((List Int)×Bool) :=
 if ((a.length:Int) != 1)=true then (
 some (([]:List Int),false))
 else (
 if (0≤(0:Int)∧(0:Int)<(a.length:Int)) then
 some ((ix a 0),true)
 else none)
def Zk (b:(List Int))(a:Int):Option (Bool) :=
 some ((decide (a≥0))&&(decide (a<(b.length:Int))))
def Z1w (k1:topKind)(b:Node)(a:(List (List Int))):Option ((List Int)×Bool) :=
 if (((a.length:Int) != 1)||((b.Ints.length:Int) != 1))=false→(0≤(0:Int)∧(0:Int)<(a.length:Int)) then
 if (((a.length:Int) != 1)||((b.Ints.length:Int) != 1))=false→(0≤(0:Int)∧(0:Int)<(b.Ints.length:Int)) then
 (bP (!(((a.length:Int) != 1)||((b.Ints.length:Int) != 1))) (Zk (ix a 0) (ix b.Ints 0))).bind fun e =>
 if ((((a.length:Int) != 1)||((b.Ints.length:Int) != 1))||(!e))=true then (
 some (([]:List Int),false))
 else (
 if (0≤(0:Int)∧(0:Int)<(a.length:Int)) then
 some ((ix a 0),true)
 else none)
 else none
 else none
def dU (p1:aM)(a:aM):Option (aM×aM×Bool) :=
 (cI p1 a).bind fun b =>
 if (decide (b≥0))=true then (
 if (0≤(0:Int)∧(0:Int)≤b∧b≤(p1.length:Int)) then
 if (0≤(aH (b+(a.length:Int)))∧(aH (b+(a.length:Int)))≤(p1.length:Int)∧(p1.length:Int)≤(p1.length:Int)) then
 some ((sub p1 (0:Int) b),(sub p1 (aH (b+(a.length:Int))) (p1.length:Int)),true)
 else none
 else none)
 else (
 some (p1,([]:aM),false))
def Z2z (p1:aM)(a:aM):Option (aM×aM×Bool) :=
 (dU p1 a).bind fun b =>
 some (b.1,b.2.1,b.2.2)
def Z39 (a b:aM):Option (Int) :=
 match b with
 | [c]=>some (Lib.countByte a c)
 | _=>none
def Z0h_J3 (p1:aM)(b:Int)(e:aM)(g:(List aM))(a:Int):Option ((List aM)) :=
 if (0≤a∧a<((List.replicate (if (aH ((p1.length:Int)+1))<b then (aH ((p1.length:Int)+1)) else b).toNat ([]:aM)).length:Int)) then
 if (0≤(0:Int)∧(0:Int)≤(aH (a+1))∧(aH (a+1))≤((List.replicate (if (aH ((p1.length:Int)+1))<b then (aH ((p1.length:Int)+1)) else b).toNat ([]:aM)).length:Int)) then
 some (sub (g.set a.toNat e) (0:Int) (aH (a+1)))
 else none
 else none
def Z0h_L1 (p1:aM)(h:aM)(a:Int)(i:Int)(b:aM)(j:(List aM))(g:Int):Option ((aM×(List aM)×Int)⊕(aM×(List aM)×Int)) :=
 if (decide (g<(aH ((if (aH ((p1.length:Int)+1))<i then (aH ((p1.length:Int)+1)) else i) - 1))))=true then (
 (Z2c b h).bind fun e =>
 if (decide (e<0))=true then (
 some (.inr (b,j,g)))
 else (
 if (0≤(0:Int)∧(0:Int)≤(aH (e+a))∧(aH (e+a))≤(b.length:Int)) then
 if (0≤g∧g<((List.replicate (if (aH ((p1.length:Int)+1))<i then (aH ((p1.length:Int)+1)) else i).toNat ([]:aM)).length:Int)) then
 (nm (j.set g.toNat (sub b (0:Int) (aH (e+a))))).bind fun l =>
 if (0≤(aH (e+(h.length:Int)))∧(aH (e+(h.length:Int)))≤(b.length:Int)∧(b.length:Int)≤(b.length:Int)) then
 some (.inl ((sub b (aH (e+(h.length:Int))) (b.length:Int)),l,(aH (g+1))))
 else none
 else none
 else none))
 else (
 some (.inr (b,j,g)))
def Z0h_J2 (p1:aM)(g:aM)(b:Int)(a:Int):Option ((List aM)) :=
 if (0≤(if (aH ((p1.length:Int)+1))<a then (aH ((p1.length:Int)+1)) else a)∧(if (aH ((p1.length:Int)+1))<a then (aH ((p1.length:Int)+1)) else a)≤140737488355328∧16*(if (aH ((p1.length:Int)+1))<a then (aH ((p1.length:Int)+1)) else a)≤281474976710656) then
 (aR (fun s:aM×(List aM)×Int=>Z0h_L1 p1 g b a s.1 s.2.1 s.2.2) (p1,(List.replicate (if (aH ((p1.length:Int)+1))<a then (aH ((p1.length:Int)+1)) else a).toNat ([]:aM)),(0:Int))).bind fun e=>Z0h_J3 p1 a e.1 e.2.1 e.2.2
 else none
def Z0h (p1:aM)(b:aM)(a:Int)(e:Int):Option ((List aM)) :=
 if (e==0)=true then (
 some ([]:List aM))
 else (
 if (b==([]:aM))=true then (
 none)
 else (
 if (decide (e<0))=true then (
 (Z39 p1 b).bind fun g =>
 Z0h_J2 p1 b a (aH (g+1)))
 else (
 Z0h_J2 p1 b a e)))
def Z30 (p1:aM)(a:aM):Option ((List aM)) :=
 (Z0h p1 a (0:Int) (-1:Int)).bind fun b =>
 some b
def cZ (a:aM)(b:Int):Option (Int) :=
 some (Lib.indexByte a b.toNat.toUInt8)
def Z1t (p1:aM)(b:Int):Option (Int) :=
 (cZ p1 b).bind fun a =>
 some a
def Zc_J4 (b:aM×aM×Bool)(a:(List aM)):Option ((List aM)×aM×Bool) :=
 some (a,b.2.1,true)
def Zc_L3 (b:aM×aM×Bool)(a:Int):Option ((Int)⊕(((List aM)×aM×Bool)⊕(Unit))) :=
 if (decide (a<(b.2.1.length:Int)))=true then (
 if (0≤a∧a<(b.2.1.length:Int)) then
 if ((decide ((bt b.2.1 a)<97))||(decide ((bt b.2.1 a)>122)))=false→(0≤(0:Int)∧(0:Int)≤a∧a≤(b.2.1.length:Int)) then
 (bP (!((decide ((bt b.2.1 a)<97))||(decide ((bt b.2.1 a)>122)))) (Z1t (sub b.2.1 (0:Int) a) (bt b.2.1 a))).bind fun e =>
 (bP (!(((decide ((bt b.2.1 a)<97))||(decide ((bt b.2.1 a)>122)))||(decide (e≥0)))) (Z1t b.1 (bt b.2.1 a))).bind fun g =>
 if ((((decide ((bt b.2.1 a)<97))||(decide ((bt b.2.1 a)>122)))||(decide (e≥0)))||(decide (g<0)))=true then (
 some (.inr (.inl (([]:List aM),([]:aM),false))))
 else (
 some (.inl (aH (a+1))))
 else none
 else none)
 else (
 some (.inr (.inr ())))
def Zc_J3 (a:aM×aM×Bool)(b:(List aM)):Option ((List aM)×aM×Bool) :=
 (aR (fun s:Int=>Zc_L3 a s) (0:Int)).bind fun e=>match e with
 | .inl e=>some e
 | .inr e=>Zc_J4 a b
def Zc_J2 (a:Int):Option ((Int)⊕(((List aM)×aM×Bool)⊕(Unit))) :=
 some (.inl (aH (a+1)))
def Zc_L2 (e:(List aM))(b:Int)(a:Int):Option ((Int)⊕(((List aM)×aM×Bool)⊕(Unit))) :=
 if (decide (a<((ix e b).length:Int)))=true then (
 if (0≤a∧a<((ix e b).length:Int)) then
 if ((decide ((bt (ix e b) a)<97))||(decide ((bt (ix e b) a)>122)))=true then (
 some (.inr (.inl (([]:List aM),([]:aM),false))))
 else (
 some (.inl (aH (a+1))))
 else none)
 else (
 some (.inr (.inr ())))
def Zc_L1 (b:(List aM))(a:Int):Option ((Int)⊕(((List aM)×aM×Bool)⊕(Unit))) :=
 if (decide (a<(b.length:Int)))=true then (
 if (0≤a∧a<(b.length:Int)) then
 if (decide (((ix b a).length:Int)>6))=true then (
 some (.inr (.inl (([]:List aM),([]:aM),false))))
 else (
 (aR (fun s:Int=>Zc_L2 b a s) (0:Int)).bind fun e=>match e with
 | .inl e=>some (.inr (.inl e))
 | .inr e=>Zc_J2 a)
 else none)
 else (
 some (.inr (.inr ())))
def Zc (a:aM):Option ((List aM)×aM×Bool) :=
 (Z2z a str0).bind fun b =>
 if ((!b.2.2)||(decide ((b.2.1.length:Int)>6)))=true then (
 some (([]:List aM),([]:aM),false))
 else (
 (Z30 b.1 str6).bind fun g =>
 if (decide ((g.length:Int)>6))=true then (
 some (([]:List aM),([]:aM),false))
 else (
 (aR (fun s:Int=>Zc_L1 g s) (0:Int)).bind fun e=>match e with
 | .inl e=>some e
 | .inr e=>Zc_J3 b g))
def Zg (a:List Int):Option (List Int) :=
 if a.length≤17592186044416 then some a else none
def Z02_J3 (a:(List Int)):Option ((List Int)) :=
 some a
def Z02_J2 (a:(List Int))(e:Int)(b:Int)(g:(List Int)):Option (((List Int)×Int×Int)⊕((List Int))) :=
 if (0≤b∧b<(a.length:Int)) then
 some (.inl (g,(aH (e*(ix a b))),(aH (b - 1))))
 else none
def Z02_L1 (a:(List Int))(e:(List Int))(g:Int)(b:Int):Option (((List Int)×Int×Int)⊕((List Int))) :=
 if (decide (b≥0))=true then (
 if (0≤b∧b<(a.length:Int)) then
 if (decide ((ix a b)>1))=true then (
 if (0≤b∧b<((List.replicate (a.length:Int).toNat (0:Int)).length:Int)) then
 Z02_J2 a g b (e.set b.toNat g)
 else none)
 else (
 Z02_J2 a g b e)
 else none)
 else (
 some (.inr e))
def Z02 (a:(List Int)):Option ((List Int)) :=
 if (0≤(a.length:Int)∧(a.length:Int)≤140737488355328∧8*(a.length:Int)≤281474976710656) then
 (aR (fun s:(List Int)×Int×Int=>Z02_L1 a s.1 s.2.1 s.2.2) ((List.replicate (a.length:Int).toNat (0:Int)),(1:Int),(aH ((a.length:Int) - 1)))).bind fun e=>Z02_J3 e
 else none
def Zj_J7 (a:(List Int)):Option ((List Int)) :=
 some a
def Zj_J6 (a:Int)(b:(List Int)):Option (((List Int)×Int)⊕((List Int))) :=
 some (.inl (b,(aH (a+1))))
def Zj_J5 (b:Int)(a:(List Int)):Option (((List Int)×Int)⊕((List Int))) :=
 some (.inl (a,(aH (b+1))))
def Zj_L2 (f1:form)(a:aM)(g:(List Int))(e:Int)(h:(List Int))(b:Int):Option (((List Int)×Int)⊕((List Int))) :=
 if (decide (b<(a.length:Int)))=true then (
 if (0≤b∧b<(a.length:Int)) then
 if (0≤e∧e<(f1.order.length:Int)) then
 if ((bt a b)==(bt f1.order e))=true then (
 if (0≤e∧e<((List.replicate (f1.order.length:Int).toNat (0:Int)).length:Int)) then
 if (0≤b∧b<(g.length:Int)) then
 Zj_J5 b (h.set e.toNat (aH ((ix h e)+(ix g b))))
 else none
 else none)
 else (
 Zj_J5 b h)
 else none
 else none)
 else (
 some (.inr h))
def Zj_L1 (f1:form)(a:aM)(b:(List Int))(h:(List Int))(g:Int):Option (((List Int)×Int)⊕((List Int))) :=
 if (decide (g<((List.replicate (f1.order.length:Int).toNat (0:Int)).length:Int)))=true then (
 (aR (fun s:(List Int)×Int=>Zj_L2 f1 a b g s.1 s.2) (h,(0:Int))).bind fun e=>Zj_J6 g e)
 else (
 some (.inr h))
def Zj (f1:form)(a:aM)(b:(List Int)):Option ((List Int)) :=
 if (0≤(f1.order.length:Int)∧(f1.order.length:Int)≤140737488355328∧8*(f1.order.length:Int)≤281474976710656) then
 (aR (fun s:(List Int)×Int=>Zj_L1 f1 a b s.1 s.2) ((List.replicate (f1.order.length:Int).toNat (0:Int)),(0:Int))).bind fun e=>Zj_J7 e
 else none
def Z3_J9 (i:(List aM)×aM×Bool)(e:aM)(b:(List Int))(a:(List Int))(f224:(List (List Int))):Option (form×Bool) :=
 (Z02 a).bind fun h =>
 (Zj (⟨i.1,i.2.1,e,b,a,f224,([]:List Int)⟩:form) i.2.1 h).bind fun g =>
 some ((⟨i.1,i.2.1,e,b,a,f224,g⟩:form),true)
def Z3_L4 (b:(List (List Int)))(j:(List aM)×aM×Bool)(m:aM)(h:(List Int))(i:(List Int))(e:(List (List Int)))(a:Int):Option (((List (List Int))×Int)⊕((List (List Int)))) :=
 if (decide (a<(j.1.length:Int)))=true then (
 if (0≤a∧a<(j.1.length:Int)) then
 if (0≤a∧a<(b.length:Int)) then
 (Z02 (ix b a)).bind fun l =>
 (Zj (⟨j.1,j.2.1,m,h,i,e,([]:List Int)⟩:form) (ix j.1 a) l).bind fun g =>
 if e.length+([g]:List (List Int)).length≤5864062014805 then
 some (.inl ((e++([g]:List (List Int))),(aH (a+1))))
 else none
 else none
 else none)
 else (
 some (.inr e))
def Z3_J8 (g:(List (List Int)))(i:(List aM)×aM×Bool)(h:aM)(a:(List Int)):Option (form×Bool) :=
 if (0≤(0:Int)∧(0:Int)≤(i.2.1.length:Int)∧(i.2.1.length:Int)≤(a.length:Int)) then
 (Zg (sub a (0:Int) (i.2.1.length:Int))).bind fun b =>
 (Zb b).bind fun j =>
 if (!j)=true then (
 some ((⟨([]:List aM),([]:aM),([]:aM),([]:List Int),([]:List Int),([]:List (List Int)),([]:List Int)⟩:form),false))
 else (
 (aR (fun s:(List (List Int))×Int=>Z3_L4 g i h a b s.1 s.2) (([]:List (List Int)),(0:Int))).bind fun e=>Z3_J9 i h a b e)
 else none
def Z3_L3 (e:aM)(b:(List Int))(h:(List Int))(g:Int)(a:Int):Option (((List Int)×Int×Int)⊕((form×Bool)⊕((List Int)))) :=
 if (decide (a<(e.length:Int)))=true then (
 if (0≤a∧a<(e.length:Int)) then
 if (0≤(IntKind.wrap .u8 ((bt e a) - 97))∧(IntKind.wrap .u8 ((bt e a) - 97))<26) then
 if h.length+([(ix b (IntKind.wrap .u8 ((bt e a) - 97)))]:List Int).length≤17592186044416 then
 if (decide ((aH (g*(ix b (IntKind.wrap .u8 ((bt e a) - 97)))))>65536))=true then (
 some (.inr (.inl ((⟨([]:List aM),([]:aM),([]:aM),([]:List Int),([]:List Int),([]:List (List Int)),([]:List Int)⟩:form),false))))
 else (
 some (.inl ((h++([(ix b (IntKind.wrap .u8 ((bt e a) - 97)))]:List Int)),(aH (g*(ix b (IntKind.wrap .u8 ((bt e a) - 97))))),(aH (a+1)))))
 else none
 else none
 else none)
 else (
 some (.inr (.inr h)))
def Z3_J7 (a:(List (List Int)))(h:(List aM)×aM×Bool)(g:aM)(b:(List Int)):Option (form×Bool) :=
 (aR (fun s:(List Int)×Int×Int=>Z3_L3 g b s.1 s.2.1 s.2.2) (([]:List Int),(1:Int),(0:Int))).bind fun e=>match e with
 | .inl e=>some e
 | .inr e=>Z3_J8 a h g e
def Z3_J6 (e:Int)(b:aM)(a:(List Int)):Option ((aM×(List Int)×Int)⊕((form×Bool)⊕(aM×(List Int)))) :=
 some (.inl (b,a,(aH (e+1))))
def Z3_J5 (b:Int)(e:aM)(a:(List Int)):Option ((aM×(List Int)×Int)⊕((form×Bool)⊕(aM×(List Int)))) :=
 some (.inl (e,a,(aH (b+1))))
def Z3_L2 (g:(List (List Int)))(i:(List aM)×aM×Bool)(e:Int)(h:aM)(b:(List Int))(a:Int):Option ((aM×(List Int)×Int)⊕((form×Bool)⊕(aM×(List Int)))) :=
 if (decide (a<((ix i.1 e).length:Int)))=true then (
 if (0≤a∧a<((ix i.1 e).length:Int)) then
 if (0≤(IntKind.wrap .u8 ((bt (ix i.1 e) a) - 97))∧(IntKind.wrap .u8 ((bt (ix i.1 e) a) - 97))<26) then
 if ((ix b (IntKind.wrap .u8 ((bt (ix i.1 e) a) - 97))) != 0)=true→(0≤a∧a<((ix g e).length:Int)) then
 if (((ix b (IntKind.wrap .u8 ((bt (ix i.1 e) a) - 97))) != 0)&&((ix b (IntKind.wrap .u8 ((bt (ix i.1 e) a) - 97))) != (ix (ix g e) a)))=true then (
 some (.inr (.inl ((⟨([]:List aM),([]:aM),([]:aM),([]:List Int),([]:List Int),([]:List (List Int)),([]:List Int)⟩:form),false))))
 else (
 if (0≤a∧a<((ix g e).length:Int)) then
 (nm (b.set (IntKind.wrap .u8 ((bt (ix i.1 e) a) - 97)).toNat (ix (ix g e) a))).bind fun j =>
 (Z1t h (bt (ix i.1 e) a)).bind fun l =>
 if (decide (l<0))=true then (
 if (0≤a∧a≤(aH (a+1))∧(aH (a+1))≤((ix i.1 e).length:Int)) then
 if h.length+(sub (ix i.1 e) a (aH (a+1))).length≤9223372036854775807 then
 Z3_J5 a (h++(sub (ix i.1 e) a (aH (a+1)))) j
 else none
 else none)
 else (
 Z3_J5 a h j)
 else none)
 else none
 else none
 else none)
 else (
 some (.inr (.inr (h,b))))
def Z3_L1 (a:(List (List Int)))(i:(List aM)×aM×Bool)(h:aM)(g:(List Int))(b:Int):Option ((aM×(List Int)×Int)⊕((form×Bool)⊕(aM×(List Int)))) :=
 if (decide (b<(i.1.length:Int)))=true then (
 if (0≤b∧b<(i.1.length:Int)) then
 if (0≤b∧b<(a.length:Int)) then
 if (((ix i.1 b).length:Int) != ((ix a b).length:Int))=true then (
 some (.inr (.inl ((⟨([]:List aM),([]:aM),([]:aM),([]:List Int),([]:List Int),([]:List (List Int)),([]:List Int)⟩:form),false))))
 else (
 (aR (fun s:aM×(List Int)×Int=>Z3_L2 a i b s.1 s.2.1 s.2.2) (h,g,(0:Int))).bind fun e=>match e with
 | .inl e=>some (.inr (.inl e))
 | .inr e=>Z3_J6 b e.1 e.2)
 else none
 else none)
 else (
 some (.inr (.inr (h,g))))
def Z3 (b:aM)(a:(List (List Int))):Option (form×Bool) :=
 (Zc b).bind fun g =>
 if ((!g.2.2)||((g.1.length:Int) != (a.length:Int)))=true then (
 some ((⟨([]:List aM),([]:aM),([]:aM),([]:List Int),([]:List Int),([]:List (List Int)),([]:List Int)⟩:form),false))
 else (
 (aR (fun s:aM×(List Int)×Int=>Z3_L1 a g s.1 s.2.1 s.2.2) (g.2.1,(List.replicate 26 (0:Int)),(0:Int))).bind fun e=>match e with
 | .inl e=>some e
 | .inr e=>Z3_J7 a g e.1 e.2)
def Z2t (k1:formKind)(e:Node)(a:(List (List Int))):Option ((List Int)×Bool) :=
 (Z3 e.Form a).bind fun b =>
 some (b.1.dims,b.2)
def Z2n (a:(List Int)):Option (View) :=
 (Zb a).bind fun h =>
 if (!h)=true then (
 some (⟨([]:List Int),([]:List Int),(0:Int),(0:Int)⟩:View))
 else (
 (Zg a).bind fun g =>
 (Z02 a).bind fun e =>
 (Zl a).bind fun b =>
 some (⟨g,e,(0:Int),b⟩:View))
def Zf_J1 (v1:View)(b:Int)(a:Int):Option (Bool) :=
 some ((decide (b≥0))&&(decide (a<v1.Base)))
def Zf_L1 (v1:View)(b:Int)(e:Int)(a:Int):Option ((Int×Int×Int)⊕((Bool)⊕(Int×Int))) :=
 if (decide (a<(v1.Strides.length:Int)))=true then (
 if (0≤a∧a<(v1.Strides.length:Int)) then
 if ((decide ((ix v1.Strides a)<(-4096:Int)))||(decide ((ix v1.Strides a)>4096)))=true then (
 some (.inr (.inl false)))
 else (
 if (0≤a∧a<(v1.Dims.length:Int)) then
 some (.inl ((aH (b+(if (aH ((ix v1.Strides a)*(aH ((ix v1.Dims a) - 1))))<0 then (aH ((ix v1.Strides a)*(aH ((ix v1.Dims a) - 1)))) else (0:Int)))),(aH (e+(if (aH ((ix v1.Strides a)*(aH ((ix v1.Dims a) - 1))))>0 then (aH ((ix v1.Strides a)*(aH ((ix v1.Dims a) - 1)))) else (0:Int)))),(aH (a+1))))
 else none)
 else none)
 else (
 some (.inr (.inr (b,e))))
def Zf (v1:View):Option (Bool) :=
 (Zb v1.Dims).bind fun a =>
 if ((((((!a)||((v1.Strides.length:Int) != (v1.Dims.length:Int)))||(decide (v1.Base<1)))||(decide (v1.Base>4096)))||(decide (v1.Offset<0)))||(decide (v1.Offset≥v1.Base)))=true then (
 some false)
 else (
 (aR (fun s:Int×Int×Int=>Zf_L1 v1 s.1 s.2.1 s.2.2) (v1.Offset,v1.Offset,(0:Int))).bind fun e=>match e with
 | .inl e=>some e
 | .inr e=>Zf_J1 v1 e.1 e.2)
def Z04_J3 (p1:View)(a:(List Int))(b:(List Int)):Option (Bool×View) :=
 some (true,(⟨a,b,p1.Offset,p1.Base⟩:View))
def Z04_J2 (a:Int)(b:(List Int)):Option (((List Int)×Int)⊕((Bool×View)⊕((List Int)))) :=
 some (.inl (b,(aH (a+1))))
def Z04_L1 (p1:View)(e:(List Int))(b:View)(h:(List Int))(g:(List Int))(a:Int):Option (((List Int)×Int)⊕((Bool×View)⊕((List Int)))) :=
 if (decide (a<(b.Dims.length:Int)))=true then (
 if (0≤a∧a<(b.Dims.length:Int)) then
 if (0≤(aH ((aH ((e.length:Int) - (b.Dims.length:Int)))+a))∧(aH ((aH ((e.length:Int) - (b.Dims.length:Int)))+a))<(e.length:Int)) then
 if ((ix b.Dims a)==(ix e (aH ((aH ((e.length:Int) - (b.Dims.length:Int)))+a))))=true then (
 if (0≤a∧a<(b.Strides.length:Int)) then
 if (0≤(aH ((aH ((e.length:Int) - (b.Dims.length:Int)))+a))∧(aH ((aH ((e.length:Int) - (b.Dims.length:Int)))+a))<((List.replicate (e.length:Int).toNat (0:Int)).length:Int)) then
 (nm (g.set (aH ((aH ((e.length:Int) - (b.Dims.length:Int)))+a)).toNat (ix b.Strides a))).bind fun i =>
 Z04_J2 a i
 else none
 else none)
 else (
 if ((ix b.Dims a) != 1)=true then (
 some (.inr (.inl (false,(⟨h,g,p1.Offset,p1.Base⟩:View)))))
 else (
 Z04_J2 a g))
 else none
 else none)
 else (
 some (.inr (.inr g)))
def Z04 (p1:View)(a:(List Int))(h:View):Option (Bool×View) :=
 (Zb a).bind fun g =>
 if ((!g)||(decide ((a.length:Int)<(h.Dims.length:Int))))=true then (
 some (false,p1))
 else (
 (Zg a).bind fun b =>
 if (0≤(a.length:Int)∧(a.length:Int)≤140737488355328∧8*(a.length:Int)≤281474976710656) then
 (aR (fun s:(List Int)×Int=>Z04_L1 p1 a h b s.1 s.2) ((List.replicate (a.length:Int).toNat (0:Int)),(0:Int))).bind fun e=>match e with
 | .inl e=>some e
 | .inr e=>Z04_J3 p1 b e
 else none)
def Z35 (v1:View)(j:(List Int))(i:View):Option (View) :=
 (Zf v1).bind fun e =>
 if (!e)=true then (
 some (⟨([]:List Int),([]:List Int),(0:Int),(0:Int)⟩:View))
 else (
 (Zg v1.Dims).bind fun g =>
 (Zg v1.Strides).bind fun h =>
 (Z04 (⟨g,h,v1.Offset,v1.Base⟩:View) j i).bind fun a =>
 (bP (!(!a.1)) (Zf a.2)).bind fun b =>
 if ((!a.1)||(!b))=true then (
 some (⟨([]:List Int),([]:List Int),(0:Int),(0:Int)⟩:View))
 else (
 some a.2))
def Z2e (v1:View)(a:(List Int)):Option (View) :=
 (Z35 v1 a v1).bind fun b =>
 some b
def Z0y_J3 (v1:View)(a:Int)(e:Int)(b:Int):Option (View) :=
 if (0≤a∧a<(v1.Dims.length:Int)) then
 if (0≤a∧a<(v1.Strides.length:Int)) then
 some (⟨(v1.Dims.set a.toNat e),(v1.Strides.set a.toNat b),v1.Offset,v1.Base⟩:View)
 else none
 else none
def Z0y (v1:View)(e:Int)(a:Int)(b:Int):Option (View) :=
 if (a==1)=true then (
 Z0y_J3 v1 e a (0:Int))
 else (
 Z0y_J3 v1 e a b)
def Z1i_J3 (p1:View)(b:Int)(g:Int)(h:Int)(a:Int):Option (Bool×View×Int) :=
 if (0≤b∧b<(p1.Strides.length:Int)) then
 (Z0y (⟨p1.Dims,p1.Strides,(aH (p1.Offset+(aH (h*(ix p1.Strides b))))),p1.Base⟩:View) b g (aH ((ix p1.Strides b)*a))).bind fun e =>
 some (true,e,a)
 else none
def Z1i (p1:View)(b:Int)(e:Int)(g:Int)(a:Int):Option (Bool×View×Int) :=
 (Zk p1.Dims b).bind fun h =>
 if (((!h)||(decide (e<1)))||(decide (e>4096)))=true then (
 some (false,p1,a))
 else (
 if (0≤b∧b<(p1.Dims.length:Int)) then
 if ((((decide (g<0))||(decide (g≥(ix p1.Dims b))))||(decide (a<(-4096:Int))))||(decide (a>4096)))=true then (
 some (false,p1,a))
 else (
 if (decide (e>1))=true then (
 if ((decide ((aH (g+(aH (a*(aH (e - 1))))))<0))||(decide ((aH (g+(aH (a*(aH (e - 1))))))≥(ix p1.Dims b))))=true then (
 some (false,p1,a))
 else (
 Z1i_J3 p1 b e g a))
 else (
 Z1i_J3 p1 b e g (0:Int)))
 else none)
def Z34 (v1:View)(m:Int)(j:Int)(l:Int)(b:Int):Option (View×Int) :=
 (Zf v1).bind fun h =>
 if (!h)=true then (
 some ((⟨([]:List Int),([]:List Int),(0:Int),(0:Int)⟩:View),b))
 else (
 (Zg v1.Dims).bind fun e =>
 (Zg v1.Strides).bind fun i =>
 (Z1i (⟨e,i,v1.Offset,v1.Base⟩:View) m j l b).bind fun a =>
 (bP (!(!a.1)) (Zf a.2.1)).bind fun g =>
 if ((!a.1)||(!g))=true then (
 some ((⟨([]:List Int),([]:List Int),(0:Int),(0:Int)⟩:View),a.2.2))
 else (
 some (a.2.1,a.2.2)))
def Z2d (v1:View)(e:Int)(h:Int)(a:Int)(b:Int):Option (View) :=
 (Z34 v1 e a h b).bind fun g =>
 some g.1
def Z2m (v1:View)(a:Int)(b:Int):Option (View) :=
 if v1.Dims.length+([(0:Int)]:List Int).length≤17592186044416 then
 if v1.Strides.length+([(0:Int)]:List Int).length≤17592186044416 then
 (Z0y (⟨(v1.Dims++([(0:Int)]:List Int)),(v1.Strides++([(0:Int)]:List Int)),v1.Offset,v1.Base⟩:View) (aH (((v1.Dims++([(0:Int)]:List Int)).length:Int) - 1)) a b).bind fun e =>
 some e
 else none
 else none
def Z1j_J3 (p1:View)(b:Int)(h:Int)(i:Int)(a:Int):Option (Bool×View×Int) :=
 (Z0y p1 b (aH ((aH ((aH ((ix p1.Dims b) - h)).tdiv i))+1)) (aH ((ix p1.Strides b)*a))).bind fun e =>
 (Z2m e h (ix p1.Strides b)).bind fun g =>
 some (true,g,a)
def Z1j (p1:View)(a:Int)(e:Int)(b:Int):Option (Bool×View×Int) :=
 (Zk p1.Dims a).bind fun g =>
 if (((!g)||(decide (e<1)))||(decide (b<1)))=false→(0≤a∧a<(p1.Dims.length:Int)) then
 if ((((!g)||(decide (e<1)))||(decide (b<1)))||(decide (e>(ix p1.Dims a))))=true then (
 some (false,p1,b))
 else (
 if (0≤a∧a<(p1.Strides.length:Int)) then
 if (0≤a∧a<(p1.Dims.length:Int)) then
 if b≠0 then
 if ((aH ((aH ((aH ((ix p1.Dims a) - e)).tdiv b))+1))==1)=true then (
 Z1j_J3 p1 a e b (0:Int))
 else (
 Z1j_J3 p1 a e b b)
 else none
 else none
 else none)
 else none
def Z36 (v1:View)(l:Int)(j:Int)(i:Int):Option (View×Int) :=
 (Zf v1).bind fun h =>
 if (!h)=true then (
 some ((⟨([]:List Int),([]:List Int),(0:Int),(0:Int)⟩:View),i))
 else (
 (Zg v1.Dims).bind fun e =>
 (Zg v1.Strides).bind fun b =>
 (Z1j (⟨e,b,v1.Offset,v1.Base⟩:View) l j i).bind fun a =>
 (bP (!(!a.1)) (Zf a.2.1)).bind fun g =>
 if ((!a.1)||(!g))=true then (
 some ((⟨([]:List Int),([]:List Int),(0:Int),(0:Int)⟩:View),a.2.2))
 else (
 some (a.2.1,a.2.2)))
def Z2f (v1:View)(e:Int)(b:Int)(a:Int):Option (View) :=
 (Z36 v1 e b a).bind fun g =>
 some g.1
def Z1c (a:Node)(e:(List Int)):Option (View) :=
 (Z2n e).bind fun b =>
 if (a.Op==12)=true then (
 (Z2e b a.Dims).bind fun h =>
 some h)
 else (
 if ((a.Op==14)&&((a.Ints.length:Int)==4))=true→(0≤(3:Int)∧(3:Int)<(a.Ints.length:Int)) then
 if (((a.Op==14)&&((a.Ints.length:Int)==4))&&(decide ((ix a.Ints 3)≥1)))=true then (
 if (0≤(0:Int)∧(0:Int)<(a.Ints.length:Int)) then
 if (0≤(1:Int)∧(1:Int)<(a.Ints.length:Int)) then
 if (0≤(2:Int)∧(2:Int)<(a.Ints.length:Int)) then
 if (0≤(3:Int)∧(3:Int)<(a.Ints.length:Int)) then
 (Z2d b (ix a.Ints 0) (ix a.Ints 1) (ix a.Ints 2) (ix a.Ints 3)).bind fun i =>
 some i
 else none
 else none
 else none
 else none)
 else (
 if ((a.Op==18)&&((a.Ints.length:Int)==3))=true then (
 if (0≤(0:Int)∧(0:Int)<(a.Ints.length:Int)) then
 if (0≤(1:Int)∧(1:Int)<(a.Ints.length:Int)) then
 if (0≤(2:Int)∧(2:Int)<(a.Ints.length:Int)) then
 (Z2f b (ix a.Ints 0) (ix a.Ints 1) (ix a.Ints 2)).bind fun g =>
 some g
 else none
 else none
 else none)
 else (
 some (⟨([]:List Int),([]:List Int),(0:Int),(0:Int)⟩:View)))
 else none)
def Z33 (e:(List Int))(a:(List Int))(b:Int):Option ((List Int)×Int×(List Int)) :=
 some (e,b,a)
def Z01_J2 (e:Type)(YF:e→Int→Option (e×Bool))(b:e×Bool)(a:(List Int))(h:Int)(g:Int):Option (((List Int)×Int×e)⊕(e)) :=
 if (decide (g<0))=true then (
 some (.inr b.1))
 else (
 some (.inl (a,h,b.1)))
def Z01_L2 (j:Type)(YF:j→Int→Option (j×Bool))(h:(List Int))(g:(List Int))(b:(List Int))(e:Int)(a:Int):Option (((List Int)×Int×Int)⊕((List Int)×Int×Int)) :=
 if (decide (a≥0))=true then (
 if (0≤a∧a<((List.replicate (h.length:Int).toNat (0:Int)).length:Int)) then
 if (0≤a∧a<(g.length:Int)) then
 if (0≤a∧a<(h.length:Int)) then
 if (decide ((ix (b.set a.toNat (aH ((ix b a)+1))) a)<(ix h a)))=true then (
 some (.inr ((b.set a.toNat (aH ((ix b a)+1))),(aH (e+(ix g a))),a)))
 else (
 (nm ((b.set a.toNat (aH ((ix b a)+1))).set a.toNat (0:Int))).bind fun i =>
 some (.inl (i,(aH ((aH (e+(ix g a))) - (aH ((ix g a)*(ix h a))))),(aH (a - 1)))))
 else none
 else none
 else none)
 else (
 some (.inr (b,e,a)))
def Z01_L1 (g:Type)(YF:g→Int→Option (g×Bool))(j:(List Int))(l:(List Int))(a:(List Int))(h:Int)(i:g):Option (((List Int)×Int×g)⊕(g)) :=
 (YF i h).bind fun b =>
 if (!b.2)=true then (
 some (.inr b.1))
 else (
 (aR (fun s:(List Int)×Int×Int=>Z01_L2 g YF j l s.1 s.2.1 s.2.2) (a,h,(aH ((j.length:Int) - 1)))).bind fun e=>Z01_J2 g YF b e.1 e.2.1 e.2.2)
def Z01 (b:Type)(YF:b→Int→Option (b×Bool))(a:b)(g:(List Int))(i:Int)(h:(List Int)):Option (b) :=
 if (0≤(g.length:Int)∧(g.length:Int)≤140737488355328∧8*(g.length:Int)≤281474976710656) then
 (aR (fun s:(List Int)×Int×b=>Z01_L1 b YF g h s.1 s.2.1 s.2.2) ((List.replicate (g.length:Int).toNat (0:Int)),i,a)).bind fun e=>some e
 else none
def Z3r (a:(List pair))(b:Int):Option (((List pair))×Bool) :=
 if a.length+([(⟨b,(a.length:Int)⟩:pair)]:List pair).length≤8796093022208 then
 some ((a++([(⟨b,(a.length:Int)⟩:pair)]:List pair)),true)
 else none
def Z2h (v1:View):Option ((List Int)×(List pair)×Bool) :=
 (Zf v1).bind fun e =>
 if (!e)=true then (
 some (([]:List Int),([]:List pair),false))
 else (
 (Z33 v1.Dims v1.Strides v1.Offset).bind fun a =>
 (Z01 ((List pair)) (fun (s:(List pair)) (x:Int)=>Z3r s x) ([]:List pair) a.1 a.2.1 a.2.2).bind fun b =>
 some (v1.Dims,b,true))
def Z2s (e:Node)(b:(List Int)):Option ((List Int)×(List pair)×Bool) :=
 (Z1c e b).bind fun g =>
 (Z2h g).bind fun a =>
 some (a.1,a.2.1,a.2.2)
def Z1s (k1:shiftKind)(e:Node)(a:(List (List Int))):Option ((List Int)×Bool) :=
 if ((a.length:Int) != 1)=true then (
 some (([]:List Int),false))
 else (
 if (0≤(0:Int)∧(0:Int)<(a.length:Int)) then
 (Z2s e (ix a 0)).bind fun b =>
 some (b.1,b.2.2)
 else none)
def Z10_J1 (b:Node)(a:(List pair)):Option ((List Int)×(List pair)×Bool) :=
 some (b.Dims,a,true)
def Z10_L1 (e:Int)(a:(List pair))(b:Int):Option (((List pair)×Int)⊕((List pair))) :=
 if (decide (b<e))=true then (
 if a.length+([(⟨b,b⟩:pair)]:List pair).length≤8796093022208 then
 some (.inl ((a++([(⟨b,b⟩:pair)]:List pair)),(aH (b+1))))
 else none)
 else (
 some (.inr a))
def Z10 (g:Node)(a:(List Int)):Option ((List Int)×(List pair)×Bool) :=
 (Zb g.Dims).bind fun h =>
 (bP (!(!h)) (Zl g.Dims)).bind fun i =>
 (bP (!(!h)) (Zl a)).bind fun j =>
 if ((!h)||(i != j))=true then (
 some (([]:List Int),([]:List pair),false))
 else (
 (Zl a).bind fun b =>
 (aR (fun s:(List pair)×Int=>Z10_L1 b s.1 s.2) (([]:List pair),(0:Int))).bind fun e=>Z10_J1 g e)
def Z24 (k1:shiftKind)(e:Node)(a:(List (List Int))):Option ((List Int)×Bool) :=
 if ((a.length:Int) != 1)=true then (
 some (([]:List Int),false))
 else (
 if (0≤(0:Int)∧(0:Int)<(a.length:Int)) then
 (Z10 e (ix a 0)).bind fun b =>
 some (b.1,b.2.2)
 else none)
def Z1l (b:(List Int))(a:Int)(g:Int):Option ((List Int)) :=
 (Zg b).bind fun e =>
 if (0≤a∧a<(e.length:Int)) then
 some (e.set a.toNat g)
 else none
def Z22 (b:(List Int))(a:Int):Option (Int×Int×Int) :=
 if (0≤(0:Int)∧(0:Int)≤a∧a≤(b.length:Int)) then
 (Zl (sub b (0:Int) a)).bind fun g =>
 if (0≤a∧a<(b.length:Int)) then
 if (0≤(aH (a+1))∧(aH (a+1))≤(b.length:Int)∧(b.length:Int)≤(b.length:Int)) then
 (Zl (sub b (aH (a+1)) (b.length:Int))).bind fun e =>
 some (g,(ix b a),e)
 else none
 else none
 else none
def Z7_J7 (a:(List pair)):Option ((List pair)) :=
 some a
def Z7_J6 (b:Int)(a:(List pair)):Option (((List pair)×Int)⊕((List pair))) :=
 some (.inl (a,(aH (b+1))))
def Z7_J5 (b:Int)(a:(List pair)):Option (((List pair)×Int)⊕((List pair))) :=
 some (.inl (a,(aH (b+1))))
def Z7_L3 (j:Int)(b:(List pair))(i:Int×Int×Int)(g:Int)(h:Int)(e:(List pair))(a:Int):Option (((List pair)×Int)⊕((List pair))) :=
 if (decide (a<i.2.2))=true then (
 if e.length+([(⟨(aH ((aH ((aH ((aH (g*i.2.1))+(ix b h).from_))*i.2.2))+a)),(aH ((aH ((aH ((aH (g*j))+(ix b h).to))*i.2.2))+a))⟩:pair)]:List pair).length≤8796093022208 then
 some (.inl ((e++([(⟨(aH ((aH ((aH ((aH (g*i.2.1))+(ix b h).from_))*i.2.2))+a)),(aH ((aH ((aH ((aH (g*j))+(ix b h).to))*i.2.2))+a))⟩:pair)]:List pair)),(aH (a+1))))
 else none)
 else (
 some (.inr e))
def Z7_L2 (j:Int)(a:(List pair))(i:Int×Int×Int)(h:Int)(g:(List pair))(b:Int):Option (((List pair)×Int)⊕((List pair))) :=
 if (decide (b<(a.length:Int)))=true then (
 if (0≤b∧b<(a.length:Int)) then
 (aR (fun s:(List pair)×Int=>Z7_L3 j a i h b s.1 s.2) (g,(0:Int))).bind fun e=>Z7_J5 b e
 else none)
 else (
 some (.inr g))
def Z7_L1 (i:Int)(a:(List pair))(h:Int×Int×Int)(g:(List pair))(b:Int):Option (((List pair)×Int)⊕((List pair))) :=
 if (decide (b<h.1))=true then (
 (aR (fun s:(List pair)×Int=>Z7_L2 i a h b s.1 s.2) (g,(0:Int))).bind fun e=>Z7_J6 b e)
 else (
 some (.inr g))
def Z7 (h:(List Int))(g:Int)(i:Int)(a:(List pair)):Option ((List pair)) :=
 (Z22 h g).bind fun b =>
 if (0≤(aH ((aH (b.1*b.2.2))*(a.length:Int)))∧(aH ((aH (b.1*b.2.2))*(a.length:Int)))≤140737488355328∧16*(aH ((aH (b.1*b.2.2))*(a.length:Int)))≤281474976710656) then
 (aR (fun s:(List pair)×Int=>Z7_L1 i a b s.1 s.2) (([]:List pair),(0:Int))).bind fun e=>Z7_J7 e
 else none
def Zw_J2 (b:(List Int))(a:Int)(e:Int)(g:Int)(i:Int)(j:(List Int))(h:(List pair)):Option ((List Int)×(List pair)×Bool) :=
 (Z7 b a (aH ((aH ((aH (e+(ix b a)))+(aH ((aH ((ix b a) - 1))*i))))+g)) h).bind fun l =>
 some (j,l,true)
def Zw_L2 (i:(List Int))(h:Int)(b:Int)(g:Int)(a:(List pair))(e:Int):Option (((List pair)×Int)⊕((List pair))) :=
 if (decide (e<(ix i h)))=true then (
 if a.length+([(⟨e,(aH (b+(aH (e*(aH (g+1))))))⟩:pair)]:List pair).length≤8796093022208 then
 some (.inl ((a++([(⟨e,(aH (b+(aH (e*(aH (g+1))))))⟩:pair)]:List pair)),(aH (e+1))))
 else none)
 else (
 some (.inr a))
def Zw_J1 (b:(List Int))(a:Int)(g:Int)(h:Int)(i:Int):Option ((List Int)×(List pair)×Bool) :=
 if (0≤a∧a<(b.length:Int)) then
 (Z1l b a (aH ((aH ((aH (g+(ix b a)))+(aH ((aH ((ix b a) - 1))*i))))+h))).bind fun j =>
 (Zb j).bind fun l =>
 if (!l)=true then (
 some (([]:List Int),([]:List pair),false))
 else (
 (aR (fun s:(List pair)×Int=>Zw_L2 b a g i s.1 s.2) (([]:List pair),(0:Int))).bind fun e=>Zw_J2 b a g h i j e)
 else none
def Zw_L1 (a:Int)(b:Int)(e:Int)(g:Int):Option ((Int)⊕(((List Int)×(List pair)×Bool)⊕(Unit))) :=
 if (decide (g<(([a,b,e]:List Int).length:Int)))=true then (
 if (0≤g∧g<(([a,b,e]:List Int).length:Int)) then
 if ((decide ((ix ([a,b,e]:List Int) g)<0))||(decide ((ix ([a,b,e]:List Int) g)>4096)))=true then (
 some (.inr (.inl (([]:List Int),([]:List pair),false))))
 else (
 some (.inl (aH (g+1))))
 else none)
 else (
 some (.inr (.inr ())))
def Zw (h:(List Int))(g:Int)(a:Int)(b:Int)(i:Int):Option ((List Int)×(List pair)×Bool) :=
 (Zk h g).bind fun j =>
 if (!j)=true then (
 some (([]:List Int),([]:List pair),false))
 else (
 (aR (fun s:Int=>Zw_L1 a b i s) (0:Int)).bind fun e=>match e with
 | .inl e=>some e
 | .inr e=>Zw_J1 h g a b i)
def Z1y (p1:(List Int))(a:(List Int)):Option ((List Int)×(List pair)×Bool) :=
 if (0≤(0:Int)∧(0:Int)<(p1.length:Int)) then
 if (0≤(1:Int)∧(1:Int)<(p1.length:Int)) then
 if (0≤(2:Int)∧(2:Int)<(p1.length:Int)) then
 if (0≤(3:Int)∧(3:Int)<(p1.length:Int)) then
 (Zw a (ix p1 0) (ix p1 1) (ix p1 2) (ix p1 3)).bind fun b =>
 some (b.1,b.2.1,b.2.2)
 else none
 else none
 else none
 else none
def Z2o (g:Node)(b:(List Int))(h:Int)(e:Int):Option ((List Int)×(List pair)×Bool) :=
 if ((decide ((g.Ints.length:Int)<h))||(decide ((g.Ints.length:Int)>e)))=true then (
 some (([]:List Int),([]:List pair),false))
 else (
 (Z1y g.Ints b).bind fun a =>
 some (a.1,a.2.1,a.2.2))
def Z1o (k1:shiftKind)(h:Int)(e:Int)(g:Node)(a:(List (List Int))):Option ((List Int)×Bool) :=
 if ((a.length:Int) != 1)=true then (
 some (([]:List Int),false))
 else (
 if (0≤(0:Int)∧(0:Int)<(a.length:Int)) then
 (Z2o g (ix a 0) h e).bind fun b =>
 some (b.1,b.2.2)
 else none)
def Z0a_J1 (e:(List Int))(b:Int)(a:(List Int))(g:(List pair)):Option ((List Int)×(List pair)×Bool) :=
 (Z1l e b (a.length:Int)).bind fun h =>
 (Zb h).bind fun j =>
 if (!j)=true then (
 some (([]:List Int),([]:List pair),false))
 else (
 (Z7 e b (a.length:Int) g).bind fun i =>
 some (h,i,true))
def Z0a_L1 (h:(List Int))(g:Int)(a:(List Int))(e:(List pair))(b:Int):Option (((List pair)×Int)⊕(((List Int)×(List pair)×Bool)⊕((List pair)))) :=
 if (decide (b<(a.length:Int)))=true then (
 if (0≤b∧b<(a.length:Int)) then
 if (decide ((ix a b)<0))=false→(0≤g∧g<(h.length:Int)) then
 if ((decide ((ix a b)<0))||(decide ((ix a b)≥(ix h g))))=true then (
 some (.inr (.inl (([]:List Int),([]:List pair),false))))
 else (
 if e.length+([(⟨(ix a b),b⟩:pair)]:List pair).length≤8796093022208 then
 some (.inl ((e++([(⟨(ix a b),b⟩:pair)]:List pair)),(aH (b+1))))
 else none)
 else none
 else none)
 else (
 some (.inr (.inr e)))
def Z0a (g:(List Int))(b:Int)(a:(List Int)):Option ((List Int)×(List pair)×Bool) :=
 (Zk g b).bind fun h =>
 if (((!h)||((a.length:Int)==0))||(decide ((a.length:Int)>4096)))=true then (
 some (([]:List Int),([]:List pair),false))
 else (
 (aR (fun s:(List pair)×Int=>Z0a_L1 g b a s.1 s.2) (([]:List pair),(0:Int))).bind fun e=>match e with
 | .inl e=>some e
 | .inr e=>Z0a_J1 g b a e)
def Z1z (p1:(List Int))(b:(List Int)):Option ((List Int)×(List pair)×Bool) :=
 if (0≤(0:Int)∧(0:Int)<(p1.length:Int)) then
 if (0≤(1:Int)∧(1:Int)≤(p1.length:Int)∧(p1.length:Int)≤(p1.length:Int)) then
 (Z0a b (ix p1 0) (sub p1 (1:Int) (p1.length:Int))).bind fun a =>
 some (a.1,a.2.1,a.2.2)
 else none
 else none
def Z2p (g:Node)(b:(List Int))(h:Int)(e:Int):Option ((List Int)×(List pair)×Bool) :=
 if ((decide ((g.Ints.length:Int)<h))||(decide ((g.Ints.length:Int)>e)))=true then (
 some (([]:List Int),([]:List pair),false))
 else (
 (Z1z g.Ints b).bind fun a =>
 some (a.1,a.2.1,a.2.2))
def Z1p (k1:shiftKind)(h:Int)(e:Int)(g:Node)(a:(List (List Int))):Option ((List Int)×Bool) :=
 if ((a.length:Int) != 1)=true then (
 some (([]:List Int),false))
 else (
 if (0≤(0:Int)∧(0:Int)<(a.length:Int)) then
 (Z2p g (ix a 0) h e).bind fun b =>
 some (b.1,b.2.2)
 else none)
def Z0b_J1 (b:(List Int))(a:Int)(j:Int)(e:(List pair)):Option ((List Int)×(List pair)×Bool) :=
 (Z1l b a j).bind fun g =>
 (Zb g).bind fun h =>
 if (!h)=true then (
 some (([]:List Int),([]:List pair),false))
 else (
 (Z7 b a j e).bind fun i =>
 some (g,i,true))
def Z0b_L1 (a:(List Int))(g:Int)(e:(List pair))(b:Int):Option (((List pair)×Int)⊕(((List Int)×(List pair)×Bool)⊕((List pair)))) :=
 if (decide (b<(a.length:Int)))=true then (
 if (0≤b∧b<(a.length:Int)) then
 if ((decide ((ix a b)<0))||(decide ((ix a b)≥g)))=true then (
 some (.inr (.inl (([]:List Int),([]:List pair),false))))
 else (
 if e.length+([(⟨b,(ix a b)⟩:pair)]:List pair).length≤8796093022208 then
 some (.inl ((e++([(⟨b,(ix a b)⟩:pair)]:List pair)),(aH (b+1))))
 else none)
 else none)
 else (
 some (.inr (.inr e)))
def Z0b (b:(List Int))(a:Int)(g:(List Int))(h:Int):Option ((List Int)×(List pair)×Bool) :=
 (Zk b a).bind fun i =>
 if (!i)=false→(0≤a∧a<(b.length:Int)) then
 if (((!i)||((g.length:Int) != (ix b a)))||(decide (h<1)))=true then (
 some (([]:List Int),([]:List pair),false))
 else (
 (aR (fun s:(List pair)×Int=>Z0b_L1 g h s.1 s.2) (([]:List pair),(0:Int))).bind fun e=>match e with
 | .inl e=>some e
 | .inr e=>Z0b_J1 b a h e)
 else none
def Z20 (p1:(List Int))(a:(List Int)):Option ((List Int)×(List pair)×Bool) :=
 if (0≤(0:Int)∧(0:Int)<(p1.length:Int)) then
 if (0≤(2:Int)∧(2:Int)≤(p1.length:Int)∧(p1.length:Int)≤(p1.length:Int)) then
 if (0≤(1:Int)∧(1:Int)<(p1.length:Int)) then
 (Z0b a (ix p1 0) (sub p1 (2:Int) (p1.length:Int)) (ix p1 1)).bind fun b =>
 some (b.1,b.2.1,b.2.2)
 else none
 else none
 else none
def Z2q (g:Node)(b:(List Int))(h:Int)(e:Int):Option ((List Int)×(List pair)×Bool) :=
 if ((decide ((g.Ints.length:Int)<h))||(decide ((g.Ints.length:Int)>e)))=true then (
 some (([]:List Int),([]:List pair),false))
 else (
 (Z20 g.Ints b).bind fun a =>
 some (a.1,a.2.1,a.2.2))
def Z1q (k1:shiftKind)(h:Int)(e:Int)(g:Node)(a:(List (List Int))):Option ((List Int)×Bool) :=
 if ((a.length:Int) != 1)=true then (
 some (([]:List Int),false))
 else (
 if (0≤(0:Int)∧(0:Int)<(a.length:Int)) then
 (Z2q g (ix a 0) h e).bind fun b =>
 some (b.1,b.2.2)
 else none)
def Z4_J16 (b:(List Int))(e:(List Int))(a:(List pair)):Option ((List Int)×(List pair)×Bool) :=
 some ((sub e (0:Int) (aH ((b.length:Int) - 1))),a,true)
def Z4_J15 (b:Int)(a:(List pair)):Option (((List pair)×Int)⊕((List pair))) :=
 some (.inl (a,(aH (b+1))))
def Z4_J14 (b:Int)(a:(List pair)):Option (((List pair)×Int)⊕((List pair))) :=
 some (.inl (a,(aH (b+1))))
def Z4_J13 (b:Int)(a:(List pair)):Option (((List pair)×Int)⊕((List pair))) :=
 some (.inl (a,(aH (b+1))))
def Z4_L4 (a:(List Int))(m:Int)(h:Int)(l:Int×Int×Int)(j:Int)(g:Int)(i:Int)(b:(List pair))(e:Int):Option (((List pair)×Int)⊕((List pair))) :=
 if (0≤(aH ((a.length:Int) - 1))∧(aH ((a.length:Int) - 1))<(a.length:Int)) then
 if (decide (e<(ix a (aH ((a.length:Int) - 1)))))=true then (
 if b.length+([(⟨(aH ((aH ((aH ((aH ((aH ((aH (j*l.2.1))+g))*l.2.2))+i))*(ix a (aH ((a.length:Int) - 1)))))+e)),(aH ((aH ((aH ((aH ((aH (j*m))+(aH (g*h))))+e))*l.2.2))+i))⟩:pair)]:List pair).length≤8796093022208 then
 some (.inl ((b++([(⟨(aH ((aH ((aH ((aH ((aH ((aH (j*l.2.1))+g))*l.2.2))+i))*(ix a (aH ((a.length:Int) - 1)))))+e)),(aH ((aH ((aH ((aH ((aH (j*m))+(aH (g*h))))+e))*l.2.2))+i))⟩:pair)]:List pair)),(aH (e+1))))
 else none)
 else (
 some (.inr b))
 else none
def Z4_L3 (h:(List Int))(m:Int)(g:Int)(l:Int×Int×Int)(j:Int)(i:Int)(a:(List pair))(b:Int):Option (((List pair)×Int)⊕((List pair))) :=
 if (decide (b<l.2.2))=true then (
 (aR (fun s:(List pair)×Int=>Z4_L4 h m g l j i b s.1 s.2) (a,(0:Int))).bind fun e=>Z4_J13 b e)
 else (
 some (.inr a))
def Z4_L2 (h:(List Int))(l:Int)(g:Int)(j:Int×Int×Int)(i:Int)(a:(List pair))(b:Int):Option (((List pair)×Int)⊕((List pair))) :=
 if (decide (b<j.2.1))=true then (
 (aR (fun s:(List pair)×Int=>Z4_L3 h l g j i b s.1 s.2) (a,(0:Int))).bind fun e=>Z4_J14 b e)
 else (
 some (.inr a))
def Z4_L1 (h:(List Int))(j:Int)(g:Int)(i:Int×Int×Int)(a:(List pair))(b:Int):Option (((List pair)×Int)⊕((List pair))) :=
 if (decide (b<i.1))=true then (
 (aR (fun s:(List pair)×Int=>Z4_L2 h j g i b s.1 s.2) (a,(0:Int))).bind fun e=>Z4_J15 b e)
 else (
 some (.inr a))
def Z4_J1 (a:(List Int))(g:Int)(j:Int)(h:(List Int))(b:Int):Option ((List Int)×(List pair)×Bool) :=
 if (0≤(0:Int)∧(0:Int)≤(aH ((a.length:Int) - 1))∧(aH ((a.length:Int) - 1))≤(a.length:Int)) then
 (Z22 (sub a (0:Int) (aH ((a.length:Int) - 1))) g).bind fun i =>
 (aR (fun s:(List pair)×Int=>Z4_L1 a j b i s.1 s.2) (([]:List pair),(0:Int))).bind fun e=>Z4_J16 a h e
 else none
def Z4 (a:(List Int))(b:Int)(e:Int)(g:Int):Option ((List Int)×(List pair)×Bool) :=
 (Zk a b).bind fun i =>
 if (((((!i)||(b==(aH ((a.length:Int) - 1))))||(decide (e<1)))||(decide (g<1)))||(decide (g>4096)))=false→(0≤(aH ((a.length:Int) - 1))∧(aH ((a.length:Int) - 1))<(a.length:Int)) then
 if ((((((!i)||(b==(aH ((a.length:Int) - 1))))||(decide (e<1)))||(decide (g<1)))||(decide (g>4096)))||(decide ((ix a (aH ((a.length:Int) - 1)))>g)))=false→(0≤b∧b<(a.length:Int)) then
 if ((((((!i)||(b==(aH ((a.length:Int) - 1))))||(decide (e<1)))||(decide (g<1)))||(decide (g>4096)))||(decide ((ix a (aH ((a.length:Int) - 1)))>g)))=false→(0≤(aH ((a.length:Int) - 1))∧(aH ((a.length:Int) - 1))<(a.length:Int)) then
 if ((((((!i)||(b==(aH ((a.length:Int) - 1))))||(decide (e<1)))||(decide (g<1)))||(decide (g>4096)))||(decide ((ix a (aH ((a.length:Int) - 1)))>g)))=false→e≠0 then
 if (((((((!i)||(b==(aH ((a.length:Int) - 1))))||(decide (e<1)))||(decide (g<1)))||(decide (g>4096)))||(decide ((ix a (aH ((a.length:Int) - 1)))>g)))||((ix a b) != (aH ((aH ((aH (g - (ix a (aH ((a.length:Int) - 1))))).tdiv e))+1))))=true then (
 some (([]:List Int),([]:List pair),false))
 else (
 (Z1l a b g).bind fun h =>
 if (0≤(0:Int)∧(0:Int)≤(aH ((a.length:Int) - 1))∧(aH ((a.length:Int) - 1))≤(h.length:Int)) then
 (Zb (sub h (0:Int) (aH ((a.length:Int) - 1)))).bind fun j =>
 if (!j)=true then (
 some (([]:List Int),([]:List pair),false))
 else (
 if (0≤b∧b<(a.length:Int)) then
 if ((ix a b)==1)=true then (
 Z4_J1 a b g h (0:Int))
 else (
 Z4_J1 a b g h e)
 else none)
 else none)
 else none
 else none
 else none
 else none
def Z21 (p1:(List Int))(b:(List Int)):Option ((List Int)×(List pair)×Bool) :=
 if (0≤(0:Int)∧(0:Int)<(p1.length:Int)) then
 if (0≤(1:Int)∧(1:Int)<(p1.length:Int)) then
 if (0≤(2:Int)∧(2:Int)<(p1.length:Int)) then
 (Z4 b (ix p1 0) (ix p1 1) (ix p1 2)).bind fun a =>
 some (a.1,a.2.1,a.2.2)
 else none
 else none
 else none
def Z2r (g:Node)(b:(List Int))(h:Int)(e:Int):Option ((List Int)×(List pair)×Bool) :=
 if ((decide ((g.Ints.length:Int)<h))||(decide ((g.Ints.length:Int)>e)))=true then (
 some (([]:List Int),([]:List pair),false))
 else (
 (Z21 g.Ints b).bind fun a =>
 some (a.1,a.2.1,a.2.2))
def Z1r (k1:shiftKind)(h:Int)(e:Int)(g:Node)(a:(List (List Int))):Option ((List Int)×Bool) :=
 if ((a.length:Int) != 1)=true then (
 some (([]:List Int),false))
 else (
 if (0≤(0:Int)∧(0:Int)<(a.length:Int)) then
 (Z2r g (ix a 0) h e).bind fun b =>
 some (b.1,b.2.2)
 else none)
def bN (r:kindOfR)(a:Node)(b:(List (List Int))):Option ((List Int)×Bool) :=
 if Nat.beq r.t 0=true then none else (if Nat.beq r.t 1=true then Z1k (⟨r.b0⟩:leafKind) a b else (if Nat.beq r.t 2=true then Z23 (⟨r.i0⟩:pairKind) a b else (if Nat.beq r.t 3=true then Z2u (⟨r.i0⟩:soloKind) a b else (if Nat.beq r.t 4=true then Z1w (⟨⟩:topKind) a b else (if Nat.beq r.t 5=true then Z2t (⟨⟩:formKind) a b else (if Nat.beq r.t 6=true then Z1s (⟨r.s0⟩:shiftKind) a b else (if Nat.beq r.t 7=true then Z24 (⟨r.s0⟩:shiftKind) a b else (if Nat.beq r.t 8=true then Z1o (⟨r.s0⟩:shiftKind) r.i0 r.i1 a b else (if Nat.beq r.t 9=true then Z1p (⟨r.s0⟩:shiftKind) r.i0 r.i1 a b else (if Nat.beq r.t 10=true then Z1q (⟨r.s0⟩:shiftKind) r.i0 r.i1 a b else (Z1r (⟨r.s0⟩:shiftKind) r.i0 r.i1 a b)))))))))))
def Zd_J1 (e:Node)(g:kindOfR)(a:(List (List Int))):Option ((List Int)×Bool) :=
 (bN g e a).bind fun b =>
 some (b.1,b.2)
def Zd_L1 (g:Node)(a:(List (List Int)))(e:(List (List Int)))(b:Int):Option (((List (List Int))×Int)⊕(((List Int)×Bool)⊕((List (List Int))))) :=
 if (decide (b<(g.Args.length:Int)))=true then (
 if (0≤b∧b<(g.Args.length:Int)) then
 if ((decide ((ix g.Args b)<0))||(decide ((ix g.Args b)≥(a.length:Int))))=true then (
 some (.inr (.inl (([]:List Int),false))))
 else (
 if (0≤(ix g.Args b)∧(ix g.Args b)<(a.length:Int)) then
 if e.length+([(ix a (ix g.Args b))]:List (List Int)).length≤5864062014805 then
 some (.inl ((e++([(ix a (ix g.Args b))]:List (List Int))),(aH (b+1))))
 else none
 else none)
 else none)
 else (
 some (.inr (.inr e)))
def Zd (b:Node)(a:(List (List Int))):Option ((List Int)×Bool) :=
 (Zv b.Op).bind fun g =>
 (bP (!(Nat.beq g.t 0)) (fM g)).bind fun i =>
 (bP (!(Nat.beq g.t 0)) (Z1v b i)).bind fun h =>
 if (((Nat.beq g.t 0)||(!h))||(decide ((b.Args.length:Int)>6)))=true then (
 some (([]:List Int),false))
 else (
 (aR (fun s:(List (List Int))×Int=>Zd_L1 b a s.1 s.2) (([]:List (List Int)),(0:Int))).bind fun e=>match e with
 | .inl e=>some e
 | .inr e=>Zd_J1 b g e)
def Zi_J2 (a:(List (List Int))):Option ((List (List Int))×Bool) :=
 some (a,true)
def Zi_L2 (g1:Graph)(a:Int):Option ((Int)⊕(((List (List Int))×Bool)⊕(Unit))) :=
 if (decide (a<(g1.Outs.length:Int)))=true then (
 if (0≤a∧a<(g1.Outs.length:Int)) then
 if ((decide ((ix g1.Outs a)<0))||(decide ((ix g1.Outs a)≥(g1.Nodes.length:Int))))=true then (
 some (.inr (.inl (([]:List (List Int)),false))))
 else (
 some (.inl (aH (a+1))))
 else none)
 else (
 some (.inr (.inr ())))
def Zi_J1 (g1:Graph)(a:(List (List Int))):Option ((List (List Int))×Bool) :=
 (aR (fun s:Int=>Zi_L2 g1 s) (0:Int)).bind fun e=>match e with
 | .inl e=>some e
 | .inr e=>Zi_J2 a
def Zi_L1 (g1:Graph)(b:(List (List Int)))(a:Int):Option (((List (List Int))×Int)⊕(((List (List Int))×Bool)⊕((List (List Int))))) :=
 if (decide (a<(g1.Nodes.length:Int)))=true then (
 if (0≤a∧a<(g1.Nodes.length:Int)) then
 (Zd (ix g1.Nodes a) b).bind fun e =>
 if (!e.2)=true then (
 some (.inr (.inl (([]:List (List Int)),false))))
 else (
 if b.length+([e.1]:List (List Int)).length≤5864062014805 then
 some (.inl ((b++([e.1]:List (List Int))),(aH (a+1))))
 else none)
 else none)
 else (
 some (.inr (.inr b)))
def Zi (g1:Graph):Option ((List (List Int))×Bool) :=
 if ((decide ((g1.Nodes.length:Int)>200))||(decide ((g1.Outs.length:Int)>40)))=true then (
 some (([]:List (List Int)),false))
 else (
 (aR (fun s:(List (List Int))×Int=>Zi_L1 g1 s.1 s.2) (([]:List (List Int)),(0:Int))).bind fun e=>match e with
 | .inl e=>some e
 | .inr e=>Zi_J1 g1 e)
def Z05_J1:Option (Bool) :=
 some true
def Z05_L1 (b:(List Int))(e:(List Int))(a:Int):Option ((Int)⊕((Bool)⊕(Unit))) :=
 if (decide (a<(b.length:Int)))=true then (
 if (0≤a∧a<(b.length:Int)) then
 if (0≤a∧a<(e.length:Int)) then
 if ((ix b a) != (ix e a))=true then (
 some (.inr (.inl false)))
 else (
 some (.inl (aH (a+1))))
 else none
 else none)
 else (
 some (.inr (.inr ())))
def Z05 (b:(List Int))(a:(List Int)):Option (Bool) :=
 if ((b.length:Int) != (a.length:Int))=true then (
 some false)
 else (
 (aR (fun s:Int=>Z05_L1 b a s) (0:Int)).bind fun e=>match e with
 | .inl e=>some e
 | .inr e=>Z05_J1)
def Z2j (a:Node)(b:Node):Option (Bool) :=
 if (a.Op != b.Op)=true then (
 some false)
 else (
 (Z05 a.Args b.Args).bind fun h =>
 if (!h)=true then (
 some false)
 else (
 (Z05 a.Dims b.Dims).bind fun g =>
 if (!g)=true then (
 some false)
 else (
 (Z05 a.Ints b.Ints).bind fun i =>
 if (!i)=true then (
 some false)
 else (
 if (!(a.Form==b.Form))=true then (
 some false)
 else (
 (Z05 a.Data b.Data).bind fun e =>
 if (!e)=true then (
 some false)
 else (
 some true))))))
def Z1d_J1:Option (Bool) :=
 some true
def Z1d_L1 (b:(List Node))(g:(List Node))(a:Int):Option ((Int)⊕((Bool)⊕(Unit))) :=
 if (decide (a<(b.length:Int)))=true then (
 if (0≤a∧a<(b.length:Int)) then
 if (0≤a∧a<(g.length:Int)) then
 (Z2j (ix b a) (ix g a)).bind fun e =>
 if (!e)=true then (
 some (.inr (.inl false)))
 else (
 some (.inl (aH (a+1))))
 else none
 else none)
 else (
 some (.inr (.inr ())))
def Z1d (b:(List Node))(a:(List Node)):Option (Bool) :=
 if ((b.length:Int) != (a.length:Int))=true then (
 some false)
 else (
 (aR (fun s:Int=>Z1d_L1 b a s) (0:Int)).bind fun e=>match e with
 | .inl e=>some e
 | .inr e=>Z1d_J1)
def Z2i (b:Graph)(e:Graph):Option (Bool) :=
 (Z1d b.Nodes e.Nodes).bind fun g =>
 if (!g)=true then (
 some false)
 else (
 (Z05 b.Outs e.Outs).bind fun a =>
 if (!a)=true then (
 some false)
 else (
 some true))
def Zt_J1 (a:Int)(b:(List Int)):Option (Int×(List Int)) :=
 some (a,b)
def Zt_L1 (e:(List Int))(g:(List Int))(b:Int)(a:Int):Option (((List Int)×Int×Int)⊕(Int×(List Int))) :=
 if (decide (a<(e.length:Int)))=true then (
 if (0≤a∧a<(e.length:Int)) then
 some (.inl ((g.set a.toNat b),(aH (b+1)),(aH (a+1))))
 else none)
 else (
 some (.inr (b,g)))
def Zt (a:(List Int))(b:Int):Option (Int×(List Int)) :=
 (aR (fun s:(List Int)×Int×Int=>Zt_L1 a s.1 s.2.1 s.2.2) (a,b,(0:Int))).bind fun e=>Zt_J1 e.1 e.2
def Z0o_J1 (a:aM):Option (aM) :=
 if str8.length+a.length≤9223372036854775807 then
 some (str8++a)
 else none
def Z0o_L1 (a:Int)(b:aM):Option ((Int×aM)⊕(aM)) :=
 if (decide (a>0))=true then (
 if (nt ([(IntKind.wrap .u8 ((aH ((48:Int)+(a.tmod (10:Int))))))]:List Int)).length+b.length≤9223372036854775807 then
 some (.inl ((aH (a.tdiv (10:Int))),((nt ([(IntKind.wrap .u8 ((aH ((48:Int)+(a.tmod (10:Int))))))]:List Int))++b)))
 else none)
 else (
 some (.inr b))
def Z0o (k1:Int):Option (aM) :=
 if (decide (k1≤0))=true then (
 some yh)
 else (
 (aR (fun s:Int×aM=>Z0o_L1 s.1 s.2) (k1,([]:aM))).bind fun e=>Z0o_J1 e)
def Z0k_J1 (a:Int)(b:(List Node)):Option (Int×(List Node)) :=
 some (a,b)
def Z0k_L1 (B:(List Node))(a46:(List Node))(j:Int)(a:Int):Option (((List Node)×Int×Int)⊕(Int×(List Node))) :=
 if (decide (a<(B.length:Int)))=true then (
 if (0≤a∧a<(B.length:Int)) then
 (nm (a46.set a.toNat (⟨j,(ix a46 a).Args,(ix a46 a).Dims,(ix a46 a).Ints,(ix a46 a).Form,(ix a46 a).Data⟩:Node))).bind fun g =>
 (Zt ((ix g a).Args) (aH (j+1))).bind fun m =>
 (nm (g.set a.toNat (⟨(ix g a).Op,m.2,(ix g a).Dims,(ix g a).Ints,(ix g a).Form,(ix g a).Data⟩:Node))).bind fun e =>
 (Zt ((ix e a).Dims) m.1).bind fun q =>
 (nm (e.set a.toNat (⟨(ix e a).Op,(ix e a).Args,q.2,(ix e a).Ints,(ix e a).Form,(ix e a).Data⟩:Node))).bind fun b =>
 (Zt ((ix b a).Ints) q.1).bind fun l =>
 (nm (b.set a.toNat (⟨(ix b a).Op,(ix b a).Args,(ix b a).Dims,l.2,(ix b a).Form,(ix b a).Data⟩:Node))).bind fun i =>
 (Z0o l.1).bind fun u =>
 (nm (i.set a.toNat (⟨(ix i a).Op,(ix i a).Args,(ix i a).Dims,(ix i a).Ints,u,(ix i a).Data⟩:Node))).bind fun h =>
 (Zt ((ix h a).Data) (aH (l.1+1))).bind fun r =>
 (nm (h.set a.toNat (⟨(ix h a).Op,(ix h a).Args,(ix h a).Dims,(ix h a).Ints,(ix h a).Form,r.2⟩:Node))).bind fun s =>
 some (.inl (s,r.1,(aH (a+1))))
 else none)
 else (
 some (.inr (j,a46)))
def Z0k (a:(List Node))(b:Int):Option (Int×(List Node)) :=
 (aR (fun s:(List Node)×Int×Int=>Z0k_L1 a s.1 s.2.1 s.2.2) (a,b,(0:Int))).bind fun e=>Z0k_J1 e.1 e.2
def Z25 (b:Graph)(g:Int):Option (Int×(List Node)×(List Int)) :=
 (Z0k b.Nodes g).bind fun a =>
 (Zt b.Outs a.1).bind fun e =>
 some (e.1,a.2,e.2)
def Z0n_J1 (a:Int):Option (Int) :=
 some a
def Z0n_L1 (b:(List Int))(e:Int)(a:Int):Option ((Int×Int)⊕((Int)⊕(Int))) :=
 if (decide (a<(b.length:Int)))=true then (
 if (0≤a∧a<(b.length:Int)) then
 if ((ix b a) != e)=true then (
 some (.inr (.inl (-1:Int))))
 else (
 some (.inl ((aH (e+1)),(aH (a+1)))))
 else none)
 else (
 some (.inr (.inr e)))
def Z0n (a:(List Int))(b:Int):Option (Int) :=
 (aR (fun s:Int×Int=>Z0n_L1 a s.1 s.2) (b,(0:Int))).bind fun e=>match e with
 | .inl e=>some e
 | .inr e=>Z0n_J1 e
def Z0l_J1 (a:(List (List Int))):Option ((List (List Int))) :=
 some a
def Z0l_L1 (e:(List Tensor)×Bool)(b:(List (List Int)))(a:Int):Option (((List (List Int))×Int)⊕((List (List Int)))) :=
 if ((decide (a<(e.1.length:Int)))&&e.2)=true then (
 if (0≤a∧a<(e.1.length:Int)) then
 if b.length+([(ix e.1 a).Dims]:List (List Int)).length≤5864062014805 then
 some (.inl ((b++([(ix e.1 a).Dims]:List (List Int))),(aH (a+1))))
 else none
 else none)
 else (
 some (.inr b))
def Z0l (g1:Graph):Option ((List (List Int))) :=
 (Z9 g1 ([]:List Tensor) true).bind fun a =>
 (aR (fun s:(List (List Int))×Int=>Z0l_L1 a s.1 s.2) (([]:List (List Int)),(0:Int))).bind fun e=>Z0l_J1 e
def Z31 (a:(List Int)):Option ((List Int)) :=
 (Zg a).bind fun b =>
 some b
def Z0z_J1 (a:(List (List Int))):Option ((List (List Int))) :=
 some a
def Z0z_L1 (a:(List (List Int)))(e:(List (List Int)))(b:Int):Option (((List (List Int))×Int)⊕((List (List Int)))) :=
 if (decide (b<(a.length:Int)))=true then (
 if (0≤b∧b<(a.length:Int)) then
 (Z31 (ix a b)).bind fun g =>
 if (0≤b∧b<((List.replicate (a.length:Int).toNat ([]:(List Int))).length:Int)) then
 some (.inl ((e.set b.toNat g),(aH (b+1))))
 else none
 else none)
 else (
 some (.inr e))
def Z0z (a:(List (List Int))):Option ((List (List Int))) :=
 if (0≤(a.length:Int)∧(a.length:Int)≤140737488355328∧24*(a.length:Int)≤281474976710656) then
 (aR (fun s:(List (List Int))×Int=>Z0z_L1 a s.1 s.2) ((List.replicate (a.length:Int).toNat ([]:(List Int))),(0:Int))).bind fun e=>Z0z_J1 e
 else none
def Z2g (a:(List (List Int))):Option ((List (List Int))) :=
 (Z0z a).bind fun b =>
 some b
def Z1x (g1:Graph):Option ((List (List Int))) :=
 (Zi g1).bind fun a =>
 if (!a.2)=true then (
 some ([]:List (List Int)))
 else (
 (Z2g a.1).bind fun b =>
 some b)
def Z0i_J1:Option (Bool) :=
 some true
def Z0i_L1 (b:(List (List Int)))(g:(List (List Int)))(a:Int):Option ((Int)⊕((Bool)⊕(Unit))) :=
 if (decide (a<(b.length:Int)))=true then (
 if (0≤a∧a<(b.length:Int)) then
 if (0≤a∧a<(g.length:Int)) then
 (Z05 (ix b a) (ix g a)).bind fun e =>
 if (!e)=true then (
 some (.inr (.inl false)))
 else (
 some (.inl (aH (a+1))))
 else none
 else none)
 else (
 some (.inr (.inr ())))
def Z0i (b:(List (List Int)))(a:(List (List Int))):Option (Bool) :=
 if ((b.length:Int) != (a.length:Int))=true then (
 some false)
 else (
 (aR (fun s:Int=>Z0i_L1 b a s) (0:Int)).bind fun e=>match e with
 | .inl e=>some e
 | .inr e=>Z0i_J1)
def Z0j_J1 (b:Int)(a:(List (List Int))):Option (Int×(List (List Int))) :=
 some (b,a)
def Z0j_L1 (h:(List (List Int)))(b:(List (List Int)))(e:Int)(a:Int):Option (((List (List Int))×Int×Int)⊕(Int×(List (List Int)))) :=
 if (decide (a<(h.length:Int)))=true then (
 if (0≤a∧a<(h.length:Int)) then
 (Zt (ix b a) e).bind fun g =>
 some (.inl ((b.set a.toNat g.2),g.1,(aH (a+1))))
 else none)
 else (
 some (.inr (e,b)))
def Z0j (a:(List (List Int)))(b:Int):Option (Int×(List (List Int))) :=
 (aR (fun s:(List (List Int))×Int×Int=>Z0j_L1 a s.1 s.2.1 s.2.2) (a,b,(0:Int))).bind fun e=>Z0j_J1 e.1 e.2
def Z0c_J1 (a:Int):Option (Int) :=
 some a
def Z0c_L1 (g:(List (List Int)))(e:Int)(a:Int):Option ((Int×Int)⊕((Int)⊕(Int))) :=
 if (decide (a<(g.length:Int)))=true then (
 if (0≤a∧a<(g.length:Int)) then
 (Z0n (ix g a) e).bind fun b =>
 if (decide (b<0))=true then (
 some (.inr (.inl (-1:Int))))
 else (
 some (.inl (b,(aH (a+1)))))
 else none)
 else (
 some (.inr (.inr e)))
def Z0c (a:(List (List Int)))(b:Int):Option (Int) :=
 (aR (fun s:Int×Int=>Z0c_L1 a s.1 s.2) (b,(0:Int))).bind fun e=>match e with
 | .inl e=>some e
 | .inr e=>Z0c_J1 e
def Z37 (a:Graph):Option (Bool) :=
 (Z2v a (1048576:Int)).bind fun F =>
 if (decide (F<0))=true then (
 some true)
 else (
 (Z19 a).bind fun E =>
 (Z0l E).bind fun h =>
 (Z19 a).bind fun e =>
 (Z1x e).bind fun g =>
 (Z0i g h).bind fun B =>
 if (!B)=true then (
 some false)
 else (
 (Z19 a).bind fun D =>
 (Z2i e D).bind fun u =>
 if (!u)=true then (
 some false)
 else (
 (Z25 e (1:Int)).bind fun j =>
 (bP (!(decide (j.1<0))) (Z0i g h)).bind fun r =>
 if ((decide (j.1<0))||(!r))=true then (
 some false)
 else (
 (Z0j g (1:Int)).bind fun b =>
 (Z0c b.2 (1:Int)).bind fun i =>
 if (decide (i<0))=true then (
 some false)
 else (
 if (i != b.1)=true then (
 some false)
 else (
 (Z19 a).bind fun s =>
 (Z1x s).bind fun q =>
 (Z0i q h).bind fun m =>
 if (!m)=true then (
 some false)
 else (
 (Z0c b.2 (1:Int)).bind fun l =>
 if (decide (l<0))=true then (
 some false)
 else (
 if (l != b.1)=true then (
 some false)
 else (
 some true)))))))))
end
end Go.Proofs.YtmpnollfdpdipaaGreat
