import Derived.Test.YtmpnollfdpdipaaGreatDoorCoH
set_option linter.unusedVariables false
namespace Go.Proofs.YtmpnollfdpdipaaGreatDoor
open Go Go.Pg
noncomputable section
def Z1f (b:(List Int))(a:Int):Option (Int) :=
 if (decide ((aH (a - (b.length:Int)))<0))=true then (
 some (-1:Int))
 else (
 some (aH (a - (b.length:Int))))
def Z2f (e:Node)(a:Int):Option (Int) :=
 (Z1f e.Args a).bind fun i =>
 if (decide (i<0))=true then (
 some (-1:Int))
 else (
 (Z1f e.Dims i).bind fun g =>
 if (decide (g<0))=true then (
 some (-1:Int))
 else (
 (Z1f e.Ints g).bind fun b =>
 if (decide (b<0))=true then (
 some (-1:Int))
 else (
 if (decide ((aH (b - (e.Form.length:Int)))<0))=true then (
 some (-1:Int))
 else (
 (Z1f e.Data (aH (b - (e.Form.length:Int)))).bind fun h =>
 if (decide (h<0))=true then (
 some (-1:Int))
 else (
 some h)))))
def Z17_J1 (a:Int):Option (Int) :=
 some a
def Z17_L1 (g:(List Node))(a:Int)(b:Int):Option ((Int×Int)⊕((Int)⊕(Int))) :=
 if (decide (b<(g.length:Int)))=true then (
 if (0≤b∧b<(g.length:Int)) then
 (Z2f (ix g b) a).bind fun e =>
 if (decide (e<0))=true then (
 some (.inr (.inl (-1:Int))))
 else (
 some (.inl (e,(aH (b+1)))))
 else none)
 else (
 some (.inr (.inr a)))
def Z17 (b:(List Node))(a:Int):Option (Int) :=
 if (decide ((aH (a - (b.length:Int)))<0))=true then (
 some (-1:Int))
 else (
 (aQ (fun s:Int×Int=>Z17_L1 b s.1 s.2) ((aH (a - (b.length:Int))),(0:Int))).bind fun e=>match e with
 | .inl e=>some e
 | .inr e=>Z17_J1 e)
def Z2r (b:Graph)(a:Int):Option (Int) :=
 (Z17 b.Nodes a).bind fun e =>
 if (decide (e<0))=true then (
 some (-1:Int))
 else (
 (Z1f b.Outs e).bind fun g =>
 if (decide (g<0))=true then (
 some (-1:Int))
 else (
 some g))
def Z06_J1 (a:(List Int)):Option ((List Int)) :=
 some a
def Z06_L1 (e:(List Int))(b:(List Int))(a:Int):Option (((List Int)×Int)⊕((List Int))) :=
 if (decide (a<(e.length:Int)))=true then (
 if (0≤a∧a<(e.length:Int)) then
 if (0≤a∧a<((List.replicate (e.length:Int).toNat (0:Int)).length:Int)) then
 some (.inl ((b.set a.toNat (ix e a)),(aH (a+1))))
 else none
 else none)
 else (
 some (.inr b))
def Z06 (a:(List Int)):Option ((List Int)) :=
 if (0≤(a.length:Int)∧(a.length:Int)≤140737488355328∧8*(a.length:Int)≤281474976710656) then
 (aQ (fun s:(List Int)×Int=>Z06_L1 a s.1 s.2) ((List.replicate (a.length:Int).toNat (0:Int)),(0:Int))).bind fun e=>Z06_J1 e
 else none
def Z2s (a:Node):Option (Node) :=
 (Z06 a.Args).bind fun h =>
 (Z06 a.Dims).bind fun b =>
 (Z06 a.Ints).bind fun e =>
 (Z06 a.Data).bind fun g =>
 some (⟨a.Op,h,b,e,a.Form,g⟩:Node)
def Z0o_J1 (a:(List Node)):Option ((List Node)) :=
 some a
def Z0o_L1 (e:(List Node))(b:(List Node))(a:Int):Option (((List Node)×Int)⊕((List Node))) :=
 if (decide (a<(e.length:Int)))=true then (
 if (0≤a∧a<(e.length:Int)) then
 (Z2s (ix e a)).bind fun g =>
 if (0≤a∧a<((List.replicate (e.length:Int).toNat zT171.z).length:Int)) then
 some (.inl ((b.set a.toNat g),(aH (a+1))))
 else none
 else none)
 else (
 some (.inr b))
def Z0o (a:(List Node)):Option ((List Node)) :=
 if (0≤(a.length:Int)∧(a.length:Int)≤140737488355328∧120*(a.length:Int)≤281474976710656) then
 (aQ (fun s:(List Node)×Int=>Z0o_L1 a s.1 s.2) ((List.replicate (a.length:Int).toNat zT171.z),(0:Int))).bind fun e=>Z0o_J1 e
 else none
def Z1s (b:Graph):Option (Graph) :=
 (Z0o b.Nodes).bind fun e =>
 (Z06 b.Outs).bind fun a =>
 some (⟨e,a⟩:Graph)
def Z2v (a:Int):Option (Int×Int) :=
 if (decide (a≤2))=true then (
 some ((0:Int),(0:Int)))
 else (
 if (decide (a≤5))=true then (
 some ((2:Int),(2:Int)))
 else (
 if (a==11)=true then (
 some ((1:Int),(6:Int)))
 else (
 some ((1:Int),(1:Int)))))
def Z35 (a:Int):Option (Bool) :=
 some ((((a==1)||(a==2))||(a==12))||(a==13))
def Z19_J2 (a:Bool):Option (Int) :=
 if a=true then (
 some (3:Int))
 else (
 some (0:Int))
def Z19_J1 (a:Int)(b:Bool):Option (Int) :=
 if b=true then (
 some (4:Int))
 else (
 if (a==16)=true then (
 some (1:Int))
 else (
 if (a==17)=true then (
 some (2:Int))
 else (
 if (a==18)=true then (
 Z19_J2 (a==18))
 else (
 Z19_J2 (a==19)))))
def Z19 (a:Int):Option (Int) :=
 if (a==10)=true then (
 some (1:Int))
 else (
 if (a==14)=true then (
 Z19_J1 a (a==14))
 else (
 Z19_J1 a (a==15)))
def Z16 (a:Node):Option (Bool) :=
 if ((decide (a.Op<1))||(decide (a.Op>19)))=true then (
 some false)
 else (
 (Z2v a.Op).bind fun g =>
 if ((decide ((a.Args.length:Int)<g.1))||(decide ((a.Args.length:Int)>g.2)))=true then (
 some false)
 else (
 (Z35 a.Op).bind fun e =>
 if ((((!e)&&(decide ((a.Dims.length:Int)>0)))||((a.Op != 11)&&(!(a.Form==([]:aN)))))||((a.Op != 2)&&(decide ((a.Data.length:Int)>0))))=true then (
 some false)
 else (
 (Z19 a.Op).bind fun b =>
 if ((a.Op==16)||(a.Op==17))=true then (
 some ((decide ((a.Ints.length:Int)≥b))&&(decide ((a.Ints.length:Int)≤(aH (b+4096))))))
 else (
 some ((a.Ints.length:Int)==b)))))
def Z0k_J1:Option (Bool) :=
 some true
def Z0k_L1 (a:(List Int))(e:Int)(b:Int):Option ((Int)⊕((Bool)⊕(Unit))) :=
 if (decide (b<(a.length:Int)))=true then (
 if (0≤b∧b<(a.length:Int)) then
 if ((decide ((ix a b)<0))||(decide ((ix a b)≥e)))=true then (
 some (.inr (.inl false)))
 else (
 some (.inl (aH (b+1))))
 else none)
 else (
 some (.inr (.inr ())))
def Z0k (a:(List Int))(b:Int):Option (Bool) :=
 (aQ (fun s:Int=>Z0k_L1 a b s) (0:Int)).bind fun e=>match e with
 | .inl e=>some e
 | .inr e=>Z0k_J1
def Zo_J1 (a:Int):Option (Int) :=
 some a
def Zo_L1 (a:(List Int))(e:Int)(b:Int):Option ((Int×Int)⊕((Int)⊕(Int))) :=
 if (decide (b<(a.length:Int)))=true then (
 if (0≤b∧b<(a.length:Int)) then
 if ((decide ((ix a b)<1))||(decide ((ix a b)>4096)))=true then (
 some (.inr (.inl (0:Int))))
 else (
 if (decide ((aH (e*(ix a b)))>4096))=true then (
 some (.inr (.inl (0:Int))))
 else (
 some (.inl ((aH (e*(ix a b))),(aH (b+1))))))
 else none)
 else (
 some (.inr (.inr e)))
def Zo (a:(List Int)):Option (Int) :=
 (aQ (fun s:Int×Int=>Zo_L1 a s.1 s.2) ((1:Int),(0:Int))).bind fun e=>match e with
 | .inl e=>some e
 | .inr e=>Zo_J1 e
def Zn (a:(List Int)):Option (Bool) :=
 (bR (decide ((a.length:Int)≤6)) (Zo a)).bind fun b =>
 some ((decide ((a.length:Int)≤6))&&(decide (b>0)))
def Zs_J1:Option (Bool) :=
 some true
def Zs_L1 (t1:Tensor)(a:Int):Option ((Int)⊕((Bool)⊕(Unit))) :=
 if (decide (a<(t1.Data.length:Int)))=true then (
 if (0≤a∧a<(t1.Data.length:Int)) then
 if ((decide ((ix t1.Data a)<0))||(decide ((ix t1.Data a)≥2147483647)))=true then (
 some (.inr (.inl false)))
 else (
 some (.inl (aH (a+1))))
 else none)
 else (
 some (.inr (.inr ())))
def Zs (t1:Tensor):Option (Bool) :=
 (Zn t1.Dims).bind fun a =>
 (bR (!(!a)) (Zo t1.Dims)).bind fun b =>
 if ((!a)||((t1.Data.length:Int) != b))=true then (
 some false)
 else (
 (aQ (fun s:Int=>Zs_L1 t1 s) (0:Int)).bind fun e=>match e with
 | .inl e=>some e
 | .inr e=>Zs_J1)
def Zu (a:(List Int)):Option ((List Int)) :=
 if ([]:List Int).length+a.length≤17592186044416 then
 some (([]:List Int)++a)
 else none
def Z01_J1:Option (Bool) :=
 some true
def Z01_L1 (b:(List Int))(e:(List Int))(a:Int):Option ((Int)⊕((Bool)⊕(Unit))) :=
 if (decide (a<(b.length:Int)))=true then (
 if (0≤a∧a<(b.length:Int)) then
 if (0≤a∧a<(e.length:Int)) then
 if ((ix b a) != (ix e a))=true then (
 some (.inr (.inl false)))
 else (
 some (.inl (aH (a+1))))
 else none
 else none)
 else (
 some (.inr (.inr ())))
def Z01 (a:(List Int))(b:(List Int)):Option (Bool) :=
 if ((a.length:Int) != (b.length:Int))=true then (
 some false)
 else (
 (aQ (fun s:Int=>Z01_L1 a b s) (0:Int)).bind fun e=>match e with
 | .inl e=>some e
 | .inr e=>Z01_J1)
def Z26 (a:(List Int))(b:Int):Option (Int) :=
 if (decide (b≥(a.length:Int)))=true then (
 some (1:Int))
 else (
 if (0≤(aH ((aH ((a.length:Int) - 1)) - b))∧(aH ((aH ((a.length:Int) - 1)) - b))<(a.length:Int)) then
 some (ix a (aH ((aH ((a.length:Int) - 1)) - b)))
 else none)
def Z00_J4 (a:(List Int)):Option ((List Int)) :=
 (Zn a).bind fun b =>
 if (!b)=true then (
 some ([]:List Int))
 else (
 some a)
def Z00_J3 (b:Int)(e:(List Int))(a:Int)(g:Int):Option (((List Int)×Int)⊕(((List Int))⊕((List Int)))) :=
 if (0≤(aH ((aH (b - 1)) - a))∧(aH ((aH (b - 1)) - a))<((List.replicate b.toNat (0:Int)).length:Int)) then
 some (.inl ((e.set (aH ((aH (b - 1)) - a)).toNat g),(aH (a+1))))
 else none
def Z00_L1 (i:(List Int))(j:(List Int))(g:Int)(h:(List Int))(a:Int):Option (((List Int)×Int)⊕(((List Int))⊕((List Int)))) :=
 if (decide (a<g))=true then (
 (Z26 i a).bind fun b =>
 (Z26 j a).bind fun e =>
 if (((b != e)&&(b != 1))&&(e != 1))=true then (
 some (.inr (.inl ([]:List Int))))
 else (
 if (decide (e>b))=true then (
 Z00_J3 g h a e)
 else (
 Z00_J3 g h a b)))
 else (
 some (.inr (.inr h)))
def Z00_J1 (b:(List Int))(g:(List Int))(a:Int):Option ((List Int)) :=
 if (0≤a∧a≤140737488355328∧8*a≤281474976710656) then
 (aQ (fun s:(List Int)×Int=>Z00_L1 b g a s.1 s.2) ((List.replicate a.toNat (0:Int)),(0:Int))).bind fun e=>match e with
 | .inl e=>some e
 | .inr e=>Z00_J4 e
 else none
def Z00 (a:(List Int))(b:(List Int)):Option ((List Int)) :=
 (Zn a).bind fun e =>
 (bR (!(!e)) (Zn b)).bind fun g =>
 if ((!e)||(!g))=true then (
 some ([]:List Int))
 else (
 if (decide ((b.length:Int)>(a.length:Int)))=true then (
 Z00_J1 a b (b.length:Int))
 else (
 Z00_J1 a b (a.length:Int)))
def Z0i (a:(List Int)):Option (Tensor) :=
 (Zu a).bind fun e =>
 (Zo a).bind fun b =>
 if (0≤b∧b≤140737488355328∧8*b≤281474976710656) then
 some (⟨e,(List.replicate b.toNat (0:Int))⟩:Tensor)
 else none
def Zj_J1 (a:(List Int)):Option ((List Int)) :=
 some a
def Zj_L1 (a:(List Int))(e:Int)(g:(List Int))(b:Int):Option ((Int×(List Int)×Int)⊕((List Int))) :=
 if (decide (b≥0))=true then (
 if (0≤b∧b<(a.length:Int)) then
 if (ix a b)≠0 then
 if (0≤b∧b<((List.replicate (a.length:Int).toNat (0:Int)).length:Int)) then
 some (.inl ((aH (e.tdiv (ix a b))),(g.set b.toNat (e.tmod (ix a b))),(aH (b - 1))))
 else none
 else none
 else none)
 else (
 some (.inr g))
def Zj (a:(List Int))(b:Int):Option ((List Int)) :=
 if (0≤(a.length:Int)∧(a.length:Int)≤140737488355328∧8*(a.length:Int)≤281474976710656) then
 (aQ (fun s:Int×(List Int)×Int=>Zj_L1 a s.1 s.2.1 s.2.2) (b,(List.replicate (a.length:Int).toNat (0:Int)),(aH ((a.length:Int) - 1)))).bind fun e=>Zj_J1 e
 else none
def Z0n_J1 (a:Int):Option (Int) :=
 some a
def Z0n_L1 (b:(List Int))(e:(List Int))(g:Int)(a:Int):Option ((Int×Int)⊕(Int)) :=
 if (decide (a<(b.length:Int)))=true then (
 if (0≤a∧a<(b.length:Int)) then
 if (0≤a∧a<(e.length:Int)) then
 some (.inl ((aH ((aH (g*(ix b a)))+(ix e a))),(aH (a+1))))
 else none
 else none)
 else (
 some (.inr g))
def Z0n (b:(List Int))(a:(List Int)):Option (Int) :=
 (aQ (fun s:Int×Int=>Z0n_L1 b a s.1 s.2) ((0:Int),(0:Int))).bind fun e=>Z0n_J1 e
def Z15 (t1:Tensor)(a:(List Int)):Option (Int) :=
 (Z0n t1.Dims a).bind fun b =>
 if (0≤b∧b<(t1.Data.length:Int)) then
 some (ix t1.Data b)
 else none
def Z09_J3 (t1:Tensor)(b:(List Int)):Option (Int) :=
 (Z15 t1 b).bind fun a =>
 some a
def Z09_J2 (a:(List Int))(e:Int)(b:Int):Option (((List Int)×Int)⊕((List Int))) :=
 if a.length+([b]:List Int).length≤17592186044416 then
 some (.inl ((a++([b]:List Int)),(aH (e+1))))
 else none
def Z09_L1 (t1:Tensor)(a:(List Int))(e:(List Int))(b:Int):Option (((List Int)×Int)⊕((List Int))) :=
 if (decide (b<(t1.Dims.length:Int)))=true then (
 if (0≤(aH ((aH ((a.length:Int) - (t1.Dims.length:Int)))+b))∧(aH ((aH ((a.length:Int) - (t1.Dims.length:Int)))+b))<(a.length:Int)) then
 if (0≤b∧b<(t1.Dims.length:Int)) then
 if ((ix t1.Dims b)==1)=true then (
 Z09_J2 e b (0:Int))
 else (
 Z09_J2 e b (ix a (aH ((aH ((a.length:Int) - (t1.Dims.length:Int)))+b))))
 else none
 else none)
 else (
 some (.inr e))
def Z09 (t1:Tensor)(a:(List Int)):Option (Int) :=
 (aQ (fun s:(List Int)×Int=>Z09_L1 t1 a s.1 s.2) (([]:List Int),(0:Int))).bind fun e=>Z09_J3 t1 e
def Zq_J1 (a:Int):Option (Int) :=
 some a
def Zq (p1:Int):Option (Int) :=
 if (decide ((p1.tmod (2147483647:Int))<0))=true then (
 Zq_J1 (aH ((p1.tmod (2147483647:Int))+2147483647)))
 else (
 Zq_J1 (p1.tmod (2147483647:Int)))
def Z1c (b:Int):Option (Int) :=
 (Zq b).bind fun a =>
 if (decide (a>1073741823))=true then (
 some (aH (a - 2147483647)))
 else (
 some a)
def Z1k (a:Int)(b:Int):Option (Int) :=
 (Zq a).bind fun e =>
 (Zq b).bind fun g =>
 (Zq (aH (e+g))).bind fun h =>
 some h
def Z24 (a:Int)(b:Int):Option (Int) :=
 (Zq a).bind fun e =>
 (Zq b).bind fun g =>
 (Zq (aH (e - g))).bind fun h =>
 some h
def Z1d (a:Int)(b:Int):Option (Int) :=
 (Zq a).bind fun e =>
 (Zq b).bind fun g =>
 (Zq (aH (e*g))).bind fun h =>
 some h
def Zt_J1 (a:Int):Option (Int) :=
 some a
def Zt_S (i:Int→Int→Option (Int))(b:Int)(a:Int):Option (Int) :=
 if (a==0)=true then (
 some (1:Int))
 else (
 (i b (aH (a.tdiv (2:Int)))).bind fun e =>
 (Z1d e e).bind fun g =>
 if ((a.tmod (2:Int))==1)=true then (
 (Z1d g b).bind fun h =>
 Zt_J1 h)
 else (
 Zt_J1 g))
def Zt_R:Nat→Int→Int→Option (Int)
 | 0=>fun _ _=>none
 | n+1=>Zt_S (Zt_R n)
def Zt (a:Int)(b:Int):Option (Int):=Zt_R jv a b
def Z23 (a:Int):Option (Int) :=
 (Zq a).bind fun b =>
 (Zt b (2147483645:Int)).bind fun e =>
 some e
def Z3m (a:Int)(b:Int):Option (Int) :=
 (Z23 b).bind fun e =>
 (Z1d a e).bind fun g =>
 some g
def Z1l_J1 (a:Bool):Option (Int) :=
 if a=true then (
 some (1:Int))
 else (
 some (0:Int))
def Z1l (a:Int)(b:Int)(e:Int):Option (Int) :=
 (Z1c b).bind fun j =>
 (Z1c e).bind fun l =>
 if (a==1)=true then (
 (Z1k b e).bind fun m =>
 some m)
 else (
 if (a==2)=true then (
 (Z24 b e).bind fun g =>
 some g)
 else (
 if (a==3)=true then (
 (Z1d b e).bind fun h =>
 some h)
 else (
 if (a==4)=true then (
 (Z3m b e).bind fun i =>
 some i)
 else (
 if (a==5)=true then (
 if (decide (j<l))=true then (
 some e)
 else (
 some b))
 else (
 if (a==6)=true then (
 if (decide (j<l))=true then (
 some b)
 else (
 some e))
 else (
 if (a==7)=true then (
 Z1l_J1 (decide (j<l)))
 else (
 if (a==8)=true then (
 Z1l_J1 (b==e))
 else (
 Z1l_J1 false))))))))
def Z12_J1 (a:Tensor)(b:(List Int)):Option (Tensor) :=
 some (⟨a.Dims,b⟩:Tensor)
def Z12_L1 (h:Int)(q:Tensor)(r:Tensor)(i:(List Int))(b:Tensor)(g:(List Int))(a:Int):Option (((List Int)×Int)⊕((List Int))) :=
 if (decide (a<(b.Data.length:Int)))=true then (
 (Zj i a).bind fun e =>
 (Z09 q e).bind fun j =>
 (Z09 r e).bind fun l =>
 (Z1l h j l).bind fun m =>
 if (0≤a∧a<(b.Data.length:Int)) then
 some (.inl ((g.set a.toNat m),(aH (a+1))))
 else none)
 else (
 some (.inr g))
def Z12 (b:Int)(i:Tensor)(j:Tensor):Option (Tensor) :=
 (Zs i).bind fun h =>
 (bR (!(!h)) (Zs j)).bind fun l =>
 if ((((!h)||(!l))||(decide (b<1)))||(decide (b>8)))=true then (
 some (⟨([]:List Int),([]:List Int)⟩:Tensor))
 else (
 (Z00 i.Dims j.Dims).bind fun a =>
 if ((decide ((a.length:Int)<(i.Dims.length:Int)))||(decide ((a.length:Int)<(j.Dims.length:Int))))=true then (
 some (⟨([]:List Int),([]:List Int)⟩:Tensor))
 else (
 (Z0i a).bind fun g =>
 (aQ (fun s:(List Int)×Int=>Z12_L1 b i j a g s.1 s.2) (g.Data,(0:Int))).bind fun e=>Z12_J1 g e))
def Z2u (a:Int)(b:Int):Option (Int) :=
 if (a==1)=true then (
 (Z24 (0:Int) b).bind fun e =>
 some e)
 else (
 if (a==2)=true then (
 (Z23 b).bind fun g =>
 some g)
 else (
 (Z1c b).bind fun h =>
 if (decide (h≤0))=true then (
 some (0:Int))
 else (
 if (a==3)=true then (
 some (1:Int))
 else (
 some b))))
def Z11_J1 (a:Tensor)(b:(List Int)):Option (Tensor) :=
 some (⟨a.Dims,b⟩:Tensor)
def Z11_L1 (e:Int)(i:Tensor)(g:Tensor)(b:(List Int))(a:Int):Option (((List Int)×Int)⊕((List Int))) :=
 if (decide (a<(i.Data.length:Int)))=true then (
 if (0≤a∧a<(i.Data.length:Int)) then
 (Z2u e (ix i.Data a)).bind fun h =>
 if (0≤a∧a<(g.Data.length:Int)) then
 some (.inl ((b.set a.toNat h),(aH (a+1))))
 else none
 else none)
 else (
 some (.inr b))
def Z11 (a:Int)(g:Tensor):Option (Tensor) :=
 (Zs g).bind fun h =>
 if (((!h)||(decide (a<1)))||(decide (a>4)))=true then (
 some (⟨([]:List Int),([]:List Int)⟩:Tensor))
 else (
 (Z0i g.Dims).bind fun b =>
 (aQ (fun s:(List Int)×Int=>Z11_L1 a g b s.1 s.2) (b.Data,(0:Int))).bind fun e=>Z11_J1 b e)
def Z1e (t1:Tensor)(a:Int):Option (Bool) :=
 (Zs t1).bind fun b =>
 some ((b&&(decide (a≥0)))&&(decide (a<(t1.Dims.length:Int))))
def Z0j (e:(List Int))(a:Int)(g:Int):Option ((List Int)) :=
 (Zu e).bind fun b =>
 if (0≤a∧a<(b.length:Int)) then
 some (b.set a.toNat g)
 else none
def Z0w_J1 (a:(List Int)):Option ((List Int)) :=
 some a
def Z0w_L1 (t1:Tensor)(a:Int)(i:(List Int))(e:(List Int))(b:Int):Option (((List Int)×Int)⊕((List Int))) :=
 if (0≤a∧a<(t1.Dims.length:Int)) then
 if (decide (b<(ix t1.Dims a)))=true then (
 (Z0j i a b).bind fun h =>
 (Z15 t1 h).bind fun g =>
 if e.length+([g]:List Int).length≤17592186044416 then
 some (.inl ((e++([g]:List Int)),(aH (b+1))))
 else none)
 else (
 some (.inr e))
 else none
def Z0w (t1:Tensor)(a:Int)(b:(List Int)):Option ((List Int)) :=
 (aQ (fun s:(List Int)×Int=>Z0w_L1 t1 a b s.1 s.2) (([]:List Int),(0:Int))).bind fun e=>Z0w_J1 e
def Zc_J9 (b:Tensor)(a:(List Int)):Option (Tensor) :=
 some (⟨b.Dims,a⟩:Tensor)
def Zc_J8 (b:Int)(a:(List Int)):Option (((List Int)×Int)⊕((List Int))) :=
 some (.inl (a,(aH (b+1))))
def Zc_J7 (g:Tensor)(e:(List Int))(b:Int)(a:Bool):Option (((List Int)×Int)⊕((List Int))) :=
 if a=true then (
 if (0≤b∧b<(g.Data.length:Int)) then
 Zc_J8 b (e.set b.toNat (1:Int))
 else none)
 else (
 Zc_J8 b e)
def Zc_J6 (b:Int)(a:Bool):Option ((Bool×Int)⊕(Bool)) :=
 some (.inl (a,(aH (b+1))))
def Zc_L2 (t1:Tensor)(e:Int)(i:Int)(l:(List Int))(j:(List Int))(b:Bool)(a:Int):Option ((Bool×Int)⊕(Bool)) :=
 if (decide (a<(j.length:Int)))=true then (
 if (0≤a∧a<(j.length:Int)) then
 (Z1c (ix j a)).bind fun g =>
 if (0≤i∧i<(t1.Data.length:Int)) then
 (Z1c (ix t1.Data i)).bind fun h =>
 if (decide (g>h))=false→(g==h)=true→(0≤e∧e<(l.length:Int)) then
 if ((decide (g>h))||((g==h)&&(decide (a<(ix l e)))))=true then (
 Zc_J6 a false)
 else (
 Zc_J6 a b)
 else none
 else none
 else none)
 else (
 some (.inr b))
def Zc_L1 (t1:Tensor)(a:Int)(i:Tensor)(h:(List Int))(b:Int):Option (((List Int)×Int)⊕((List Int))) :=
 if (decide (b<(t1.Data.length:Int)))=true then (
 (Zj t1.Dims b).bind fun g =>
 (Z0w t1 a g).bind fun j =>
 (aQ (fun s:Bool×Int=>Zc_L2 t1 a b g j s.1 s.2) (true,(0:Int))).bind fun e=>Zc_J7 i h b e)
 else (
 some (.inr h))
def Zc (t1:Tensor)(a:Int):Option (Tensor) :=
 (Z1e t1 a).bind fun g =>
 if (!g)=true then (
 some (⟨([]:List Int),([]:List Int)⟩:Tensor))
 else (
 (Z0i t1.Dims).bind fun b =>
 (aQ (fun s:(List Int)×Int=>Zc_L1 t1 a b s.1 s.2) (b.Data,(0:Int))).bind fun e=>Zc_J9 b e)
def Z0v_J1 (p1:aN):Option (Bool) :=
 some (decide ((p1.length:Int)≤6))
def Z0v_L1 (p1:aN)(a:Int):Option ((Int)⊕((Bool)⊕(Unit))) :=
 if (decide (a<(p1.length:Int)))=true then (
 if (0≤a∧a<(p1.length:Int)) then
 if ((decide ((bt p1 a)<97))||(decide ((bt p1 a)>122)))=true then (
 some (.inr (.inl false)))
 else (
 some (.inl (aH (a+1))))
 else none)
 else (
 some (.inr (.inr ())))
def Z0v (p1:aN):Option (Bool) :=
 (aQ (fun s:Int=>Z0v_L1 p1 s) (0:Int)).bind fun e=>match e with
 | .inl e=>some e
 | .inr e=>Z0v_J1 p1
def Z0u_J1:Option (Bool) :=
 some false
def Z0u_L1 (p1:aN)(b:Int)(a:Int):Option ((Int)⊕((Bool)⊕(Unit))) :=
 if (decide (a<(p1.length:Int)))=true then (
 if (0≤a∧a<(p1.length:Int)) then
 if ((bt p1 a)==b)=true then (
 some (.inr (.inl true)))
 else (
 some (.inl (aH (a+1))))
 else none)
 else (
 some (.inr (.inr ())))
def Z0u (p1:aN)(a:Int):Option (Bool) :=
 (aQ (fun s:Int=>Z0u_L1 p1 a s) (0:Int)).bind fun e=>match e with
 | .inl e=>some e
 | .inr e=>Z0u_J1
def Z1_J8 (b:aN)(e:Int)(a:(List aN)):Option ((List aN)×aN×Bool) :=
 some (a,(sub b (aH (e+2)) (b.length:Int)),true)
def Z1_J7 (a:aN)(g:Int)(b:Int)(e:Bool):Option ((Int)⊕(((List aN)×aN×Bool)⊕(Unit))) :=
 if (!e)=false→(0≤(0:Int)∧(0:Int)≤b∧b≤((sub a (aH (g+2)) (a.length:Int)).length:Int)) then
 if (!e)=false→(0≤b∧b<((sub a (aH (g+2)) (a.length:Int)).length:Int)) then
 (bR (!(!e)) (Z0u (sub (sub a (aH (g+2)) (a.length:Int)) (0:Int) b) (bt (sub a (aH (g+2)) (a.length:Int)) b))).bind fun h =>
 if ((!e)||h)=true then (
 some (.inr (.inl (([]:List aN),([]:aN),false))))
 else (
 some (.inl (aH (b+1))))
 else none
 else none
def Z1_L5 (b:aN)(j:Int)(a:(List aN))(h:Int)(g:Bool)(e:Int):Option ((Bool×Int)⊕(Bool)) :=
 if (decide (e<(a.length:Int)))=true then (
 if g=false→(0≤e∧e<(a.length:Int)) then
 if g=false→(0≤h∧h<((sub b (aH (j+2)) (b.length:Int)).length:Int)) then
 (bR (!g) (Z0u (ix a e) (bt (sub b (aH (j+2)) (b.length:Int)) h))).bind fun i =>
 some (.inl ((g||i),(aH (e+1))))
 else none
 else none)
 else (
 some (.inr g))
def Z1_L4 (a:aN)(h:Int)(b:(List aN))(g:Int):Option ((Int)⊕(((List aN)×aN×Bool)⊕(Unit))) :=
 if (decide (g<((sub a (aH (h+2)) (a.length:Int)).length:Int)))=true then (
 (aQ (fun s:Bool×Int=>Z1_L5 a h b g s.1 s.2) (false,(0:Int))).bind fun e=>Z1_J7 a h g e)
 else (
 some (.inr (.inr ())))
def Z1_J5 (b:aN)(g:Int)(a:(List aN)):Option ((List aN)×aN×Bool) :=
 (aQ (fun s:Int=>Z1_L4 b g a s) (0:Int)).bind fun e=>match e with
 | .inl e=>some e
 | .inr e=>Z1_J8 b g a
def Z1_L3 (a:(List aN))(b:Int):Option ((Int)⊕(((List aN)×aN×Bool)⊕(Unit))) :=
 if (decide (b<(a.length:Int)))=true then (
 if (0≤b∧b<(a.length:Int)) then
 (Z0v (ix a b)).bind fun e =>
 if (!e)=true then (
 some (.inr (.inl (([]:List aN),([]:aN),false))))
 else (
 some (.inl (aH (b+1))))
 else none)
 else (
 some (.inr (.inr ())))
def Z1_J4 (b:aN)(g:Int)(a:(List aN)):Option ((List aN)×aN×Bool) :=
 if (0≤(aH (g+2))∧(aH (g+2))≤(b.length:Int)∧(b.length:Int)≤(b.length:Int)) then
 (bR (!(decide ((a.length:Int)>6))) (Z0v (sub b (aH (g+2)) (b.length:Int)))).bind fun h =>
 if ((decide ((a.length:Int)>6))||(!h))=true then (
 some (([]:List aN),([]:aN),false))
 else (
 (aQ (fun s:Int=>Z1_L3 a s) (0:Int)).bind fun e=>match e with
 | .inl e=>some e
 | .inr e=>Z1_J5 b g a)
 else none
def Z1_J3 (b:Int)(a:(List aN))(e:Int):Option (((List aN)×Int×Int)⊕((List aN))) :=
 some (.inl (a,e,(aH (b+1))))
def Z1_L2 (e:aN)(h:Int)(a:(List aN))(g:Int)(b:Int):Option (((List aN)×Int×Int)⊕((List aN))) :=
 if (decide (b≤h))=true then (
 if (b==h)=false→(0≤b∧b<(e.length:Int)) then
 if ((b==h)||((bt e b)==44))=true then (
 if (0≤g∧g≤b∧b≤(e.length:Int)) then
 if a.length+([(sub e g b)]:List aN).length≤8796093022208 then
 Z1_J3 b (a++([(sub e g b)]:List aN)) (aH (b+1))
 else none
 else none)
 else (
 Z1_J3 b a g)
 else none)
 else (
 some (.inr a))
def Z1_J1 (a:aN)(b:Int):Option ((List aN)×aN×Bool) :=
 if (decide ((aH (b+1))≥(a.length:Int)))=true then (
 some (([]:List aN),([]:aN),false))
 else (
 (aQ (fun s:(List aN)×Int×Int=>Z1_L2 a b s.1 s.2.1 s.2.2) (([]:List aN),(0:Int),(0:Int))).bind fun e=>Z1_J4 a b e)
def Z1_L1 (a:aN)(b:Int):Option ((Int)⊕(Int)) :=
 if (decide ((aH (b+1))<(a.length:Int)))=true→(0≤b∧b≤(aH (b+2))∧(aH (b+2))≤(a.length:Int)) then
 if ((decide ((aH (b+1))<(a.length:Int)))&&(!((sub a b (aH (b+2)))==str0)))=true then (
 some (.inl (aH (b+1))))
 else (
 some (.inr b))
 else none
def Z1 (a:aN):Option ((List aN)×aN×Bool) :=
 (aQ (fun s:Int=>Z1_L1 a s) (0:Int)).bind fun e=>Z1_J1 a e
def Z3_J12 (b:aN)(a:(List Int)):Option (aN×(List Int)×Bool) :=
 some (b,a,true)
def Z3_L4 (a:(List Int))(e:Int)(b:Int):Option ((Int×Int)⊕((aN×(List Int)×Bool)⊕(Unit))) :=
 if (decide (b<(a.length:Int)))=true then (
 if (0≤b∧b<(a.length:Int)) then
 if (decide ((aH (e*(ix a b)))>65536))=true then (
 some (.inr (.inl (([]:aN),a,false))))
 else (
 some (.inl ((aH (e*(ix a b))),(aH (b+1)))))
 else none)
 else (
 some (.inr (.inr ())))
def Z3_J11 (b:aN)(a:(List Int)):Option (aN×(List Int)×Bool) :=
 (aQ (fun s:Int×Int=>Z3_L4 a s.1 s.2) ((1:Int),(0:Int))).bind fun e=>match e with
 | .inl e=>some e
 | .inr e=>Z3_J12 b a
def Z3_J10 (e:Int)(b:aN)(a:(List Int)):Option ((aN×(List Int)×Int)⊕((aN×(List Int)×Bool)⊕(aN×(List Int)))) :=
 some (.inl (b,a,(aH (e+1))))
def Z3_J9 (g:(List (List Int)))(i:Int)(b:Int)(e:Int)(h:aN)(a:(List Int)):Option ((aN×(List Int)×Int)⊕((aN×(List Int)×Bool)⊕(aN×(List Int)))) :=
 if (0≤e∧e<(a.length:Int)) then
 if ((ix a e) != 0)=true→(0≤b∧b<((ix g i).length:Int)) then
 if (((ix a e) != 0)&&((ix a e) != (ix (ix g i) b)))=true then (
 some (.inr (.inl (([]:aN),a,false))))
 else (
 if (0≤b∧b<((ix g i).length:Int)) then
 some (.inl (h,(a.set e.toNat (ix (ix g i) b)),(aH (b+1))))
 else none)
 else none
 else none
def Z3_J8 (g:(List aN))(i:(List (List Int)))(h:Int)(a:aN)(b:(List Int))(e:Int)(j:Int):Option ((aN×(List Int)×Int)⊕((aN×(List Int)×Bool)⊕(aN×(List Int)))) :=
 if (j==(a.length:Int))=true then (
 if (0≤e∧e≤(aH (e+1))∧(aH (e+1))≤((ix g h).length:Int)) then
 if a.length+(sub (ix g h) e (aH (e+1))).length≤9223372036854775807 then
 if b.length+([(0:Int)]:List Int).length≤17592186044416 then
 Z3_J9 i h e j (a++(sub (ix g h) e (aH (e+1)))) (b++([(0:Int)]:List Int))
 else none
 else none
 else none)
 else (
 Z3_J9 i h e j a b)
def Z3_L3 (e:(List aN))(h:Int)(a:aN)(g:Int)(b:Int):Option ((Int)⊕(Int)) :=
 if (decide (b<(a.length:Int)))=true→(0≤b∧b<(a.length:Int)) then
 if (decide (b<(a.length:Int)))=true→(0≤g∧g<((ix e h).length:Int)) then
 if ((decide (b<(a.length:Int)))&&((bt a b) != (bt (ix e h) g)))=true then (
 some (.inl (aH (b+1))))
 else (
 some (.inr b))
 else none
 else none
def Z3_L2 (g:(List aN))(j:(List (List Int)))(i:Int)(a:aN)(b:(List Int))(h:Int):Option ((aN×(List Int)×Int)⊕((aN×(List Int)×Bool)⊕(aN×(List Int)))) :=
 if (decide (h<((ix g i).length:Int)))=true then (
 (aQ (fun s:Int=>Z3_L3 g i a h s) (0:Int)).bind fun e=>Z3_J8 g j i a b h e)
 else (
 some (.inr (.inr (a,b))))
def Z3_L1 (b:(List aN))(i:(List (List Int)))(h:aN)(a:(List Int))(g:Int):Option ((aN×(List Int)×Int)⊕((aN×(List Int)×Bool)⊕(aN×(List Int)))) :=
 if (decide (g<(b.length:Int)))=true then (
 if (0≤g∧g<(i.length:Int)) then
 if (0≤g∧g<(b.length:Int)) then
 if (((ix i g).length:Int) != ((ix b g).length:Int))=true then (
 some (.inr (.inl (([]:aN),a,false))))
 else (
 (aQ (fun s:aN×(List Int)×Int=>Z3_L2 b i g s.1 s.2.1 s.2.2) (h,a,(0:Int))).bind fun e=>match e with
 | .inl e=>some (.inr (.inl e))
 | .inr e=>Z3_J10 g e.1 e.2)
 else none
 else none)
 else (
 some (.inr (.inr (h,a))))
def Z3 (a:(List aN))(g:aN)(b:(List (List Int))):Option (aN×(List Int)×Bool) :=
 if (0≤(g.length:Int)∧(g.length:Int)≤140737488355328∧8*(g.length:Int)≤281474976710656) then
 (aQ (fun s:aN×(List Int)×Int=>Z3_L1 a b s.1 s.2.1 s.2.2) (g,(List.replicate (g.length:Int).toNat (0:Int)),(0:Int))).bind fun e=>match e with
 | .inl e=>some e
 | .inr e=>Z3_J11 e.1 e.2
 else none
def Zh_J7 (a:(List Int)):Option ((List Int)) :=
 some a
def Zh_J6 (a:Int)(b:(List Int)):Option (((List Int)×Int)⊕((List Int))) :=
 some (.inl (b,(aH (a+1))))
def Zh_J5 (a:Int)(b:(List Int)):Option (((List Int)×Int)⊕((List Int))) :=
 some (.inl (b,(aH (a+1))))
def Zh_L2 (g:aN)(a:aN)(b:(List Int))(i:Int)(h:(List Int))(e:Int):Option (((List Int)×Int)⊕((List Int))) :=
 if (decide (e<(a.length:Int)))=true then (
 if (0≤e∧e<(a.length:Int)) then
 if (0≤i∧i<(g.length:Int)) then
 if ((bt a e)==(bt g i))=true then (
 if (0≤e∧e<(b.length:Int)) then
 if h.length+([(ix b e)]:List Int).length≤17592186044416 then
 Zh_J5 e (h++([(ix b e)]:List Int))
 else none
 else none)
 else (
 Zh_J5 e h)
 else none
 else none)
 else (
 some (.inr h))
def Zh_L1 (a:aN)(b:aN)(g:(List Int))(i:(List Int))(h:Int):Option (((List Int)×Int)⊕((List Int))) :=
 if (decide (h<(a.length:Int)))=true then (
 (aQ (fun s:(List Int)×Int=>Zh_L2 a b g h s.1 s.2) (i,(0:Int))).bind fun e=>Zh_J6 h e)
 else (
 some (.inr i))
def Zh (g:aN)(a:aN)(b:(List Int)):Option ((List Int)) :=
 (aQ (fun s:(List Int)×Int=>Zh_L1 g a b s.1 s.2) (([]:List Int),(0:Int))).bind fun e=>Zh_J7 e
def Z6_J5 (b:Tensor)(a:(List Int)):Option (Tensor) :=
 some (⟨b.Dims,a⟩:Tensor)
def Z6_J4 (l:(List aN)×aN×Bool)(i:Tensor)(b:(List Int))(g:Int)(e:(List Int))(j:Int):Option (((List Int)×Int)⊕((List Int))) :=
 if (0≤(0:Int)∧(0:Int)≤(l.2.1.length:Int)∧(l.2.1.length:Int)≤(e.length:Int)) then
 (Z0n i.Dims (sub e (0:Int) (l.2.1.length:Int))).bind fun a =>
 if (0≤a∧a<(i.Data.length:Int)) then
 (Z1k (ix b a) j).bind fun h =>
 some (.inl ((b.set a.toNat h),(aH (g+1))))
 else none
 else none
def Z6_L4 (j:(List Tensor))(m:(List aN)×aN×Bool)(l:aN×(List Int)×Bool)(e:(List Int))(b:Int)(a:Int):Option ((Int×Int)⊕(Int)) :=
 if (decide (a<(m.1.length:Int)))=true then (
 if (0≤a∧a<(j.length:Int)) then
 if (0≤a∧a<(m.1.length:Int)) then
 (Zh (ix m.1 a) l.1 e).bind fun g =>
 (Z15 (ix j a) g).bind fun h =>
 (Z1d b h).bind fun i =>
 some (.inl (i,(aH (a+1))))
 else none
 else none)
 else (
 some (.inr b))
def Z6_L3 (l:(List Tensor))(m:(List aN)×aN×Bool)(i:aN×(List Int)×Bool)(j:Tensor)(g:Int)(a:(List Int))(b:Int):Option (((List Int)×Int)⊕((List Int))) :=
 if (decide (b<g))=true then (
 (Zj i.2.1 b).bind fun h =>
 (aQ (fun s:Int×Int=>Z6_L4 l m i h s.1 s.2) ((1:Int),(0:Int))).bind fun e=>Z6_J4 m j a b h e)
 else (
 some (.inr a))
def Z6_J2 (h:(List Tensor))(i:(List aN)×aN×Bool)(g:aN×(List Int)×Bool)(b:Tensor)(a:Int):Option (Tensor) :=
 (aQ (fun s:(List Int)×Int=>Z6_L3 h i g b a s.1 s.2) (b.Data,(0:Int))).bind fun e=>Z6_J5 b e
def Z6_L2 (e:aN×(List Int)×Bool)(a:Int)(b:Int):Option ((Int×Int)⊕(Int)) :=
 if (decide (b<(e.2.1.length:Int)))=true then (
 if (0≤b∧b<(e.2.1.length:Int)) then
 some (.inl ((aH (a*(ix e.2.1 b))),(aH (b+1))))
 else none)
 else (
 some (.inr a))
def Z6_J1 (j:(List Tensor))(g:(List aN)×aN×Bool)(b:(List (List Int))):Option (Tensor) :=
 (Z3 g.1 g.2.1 b).bind fun a =>
 if (!a.2.2)=false→(0≤(0:Int)∧(0:Int)≤(g.2.1.length:Int)∧(g.2.1.length:Int)≤(a.2.1.length:Int)) then
 (bR (!(!a.2.2)) (Zn (sub a.2.1 (0:Int) (g.2.1.length:Int)))).bind fun h =>
 if ((!a.2.2)||(!h))=true then (
 some (⟨([]:List Int),([]:List Int)⟩:Tensor))
 else (
 if (0≤(0:Int)∧(0:Int)≤(g.2.1.length:Int)∧(g.2.1.length:Int)≤(a.2.1.length:Int)) then
 (Z0i (sub a.2.1 (0:Int) (g.2.1.length:Int))).bind fun i =>
 (aQ (fun s:Int×Int=>Z6_L2 a s.1 s.2) ((1:Int),(0:Int))).bind fun e=>Z6_J2 j g a i e
 else none)
 else none
def Z6_L1 (e:(List Tensor))(a:(List (List Int)))(b:Int):Option (((List (List Int))×Int)⊕((Tensor)⊕((List (List Int))))) :=
 if (decide (b<(e.length:Int)))=true then (
 if (0≤b∧b<(e.length:Int)) then
 (Zs (ix e b)).bind fun g =>
 if (!g)=true then (
 some (.inr (.inl (⟨([]:List Int),([]:List Int)⟩:Tensor))))
 else (
 if a.length+([(ix e b).Dims]:List (List Int)).length≤5864062014805 then
 some (.inl ((a++([(ix e b).Dims]:List (List Int))),(aH (b+1))))
 else none)
 else none)
 else (
 some (.inr (.inr a)))
def Z6 (a:aN)(b:(List Tensor)):Option (Tensor) :=
 (Z1 a).bind fun g =>
 if ((!g.2.2)||((g.1.length:Int) != (b.length:Int)))=true then (
 some (⟨([]:List Int),([]:List Int)⟩:Tensor))
 else (
 (aQ (fun s:(List (List Int))×Int=>Z6_L1 b s.1 s.2) (([]:List (List Int)),(0:Int))).bind fun e=>match e with
 | .inl e=>some e
 | .inr e=>Z6_J1 b g e)
def Z0h_J3 (v1:View)(a:(List Int)):Option (View) :=
 some (⟨v1.Dims,a,v1.Offset,v1.Base⟩:View)
def Z0h_J2 (a:Int)(b:(List Int)):Option ((Int×(List Int))⊕((List Int))) :=
 some (.inl ((aH (a+1)),b))
def Z0h_L1 (v1:View)(a:Int)(b:(List Int)):Option ((Int×(List Int))⊕((List Int))) :=
 if (decide (a<(v1.Dims.length:Int)))=true then (
 if (0≤a∧a<(v1.Dims.length:Int)) then
 if ((ix v1.Dims a)==1)=true then (
 if (0≤a∧a<(v1.Strides.length:Int)) then
 Z0h_J2 a (b.set a.toNat (0:Int))
 else none)
 else (
 Z0h_J2 a b)
 else none)
 else (
 some (.inr b))
def Z0h (v1:View):Option (View) :=
 (aQ (fun s:Int×(List Int)=>Z0h_L1 v1 s.1 s.2) ((0:Int),v1.Strides)).bind fun e=>Z0h_J3 v1 e
def Zx_J1 (g:(List Int))(a:Int)(e:(List Int)):Option (View) :=
 (Z0h (⟨g,e,(0:Int),a⟩:View)).bind fun b =>
 some b
def Zx_L1 (a:(List Int))(e:(List Int))(b:Int):Option (((List Int)×Int)⊕((List Int))) :=
 if (decide (b<(a.length:Int)))=true then (
 if (0≤(aH (b+1))∧(aH (b+1))≤(a.length:Int)∧(a.length:Int)≤(a.length:Int)) then
 (Zo (sub a (aH (b+1)) (a.length:Int))).bind fun g =>
 if e.length+([g]:List Int).length≤17592186044416 then
 some (.inl ((e++([g]:List Int)),(aH (b+1))))
 else none
 else none)
 else (
 some (.inr e))
def Zx (a:(List Int)):Option (View) :=
 (Zn a).bind fun g =>
 if (!g)=true then (
 some (⟨([]:List Int),([]:List Int),(0:Int),(0:Int)⟩:View))
 else (
 (Zu a).bind fun h =>
 (Zo a).bind fun b =>
 (aQ (fun s:(List Int)×Int=>Zx_L1 a s.1 s.2) (([]:List Int),(0:Int))).bind fun e=>Zx_J1 h b e)
def Z14_J1 (a:Int):Option (Int) :=
 some a
def Z14_L1 (v1:View)(a:(List Int))(e:Int)(b:Int):Option ((Int×Int)⊕(Int)) :=
 if (decide (b<(a.length:Int)))=true then (
 if (0≤b∧b<(a.length:Int)) then
 if (0≤b∧b<(v1.Strides.length:Int)) then
 some (.inl ((aH (e+(aH ((ix a b)*(ix v1.Strides b))))),(aH (b+1))))
 else none
 else none)
 else (
 some (.inr e))
def Z14 (v1:View)(a:(List Int)):Option (Int) :=
 (aQ (fun s:Int×Int=>Z14_L1 v1 a s.1 s.2) (v1.Offset,(0:Int))).bind fun e=>Z14_J1 e
def Z0b_J1 (a:(List Int)):Option ((List Int)) :=
 some a
def Z0b_L1 (v1:View)(h:Int)(b:(List Int))(a:Int):Option (((List Int)×Int)⊕((List Int))) :=
 if (decide (a<h))=true then (
 (Zj v1.Dims a).bind fun g =>
 (Z14 v1 g).bind fun e =>
 if b.length+([e]:List Int).length≤17592186044416 then
 some (.inl ((b++([e]:List Int)),(aH (a+1))))
 else none)
 else (
 some (.inr b))
def Z0b (v1:View):Option ((List Int)) :=
 (Zo v1.Dims).bind fun a =>
 (aQ (fun s:(List Int)×Int=>Z0b_L1 v1 a s.1 s.2) (([]:List Int),(0:Int))).bind fun e=>Z0b_J1 e
def Zb_J2:Option (Bool) :=
 some true
def Zb_L2 (v1:View)(b:(List Int))(a:Int):Option ((Int)⊕((Bool)⊕(Unit))) :=
 if (decide (a<(b.length:Int)))=true then (
 if (0≤a∧a<(b.length:Int)) then
 if ((decide ((ix b a)<0))||(decide ((ix b a)≥v1.Base)))=true then (
 some (.inr (.inl false)))
 else (
 some (.inl (aH (a+1))))
 else none)
 else (
 some (.inr (.inr ())))
def Zb_J1 (v1:View):Option (Bool) :=
 (Z0b v1).bind fun a =>
 (aQ (fun s:Int=>Zb_L2 v1 a s) (0:Int)).bind fun e=>match e with
 | .inl e=>some e
 | .inr e=>Zb_J2
def Zb_L1 (v1:View)(a:Int):Option ((Int)⊕((Bool)⊕(Unit))) :=
 if (decide (a<(v1.Strides.length:Int)))=true then (
 if (0≤a∧a<(v1.Strides.length:Int)) then
 if ((decide ((ix v1.Strides a)<(-4096:Int)))||(decide ((ix v1.Strides a)>4096)))=true then (
 some (.inr (.inl false)))
 else (
 some (.inl (aH (a+1))))
 else none)
 else (
 some (.inr (.inr ())))
def Zb (v1:View):Option (Bool) :=
 (Zn v1.Dims).bind fun a =>
 if ((((((!a)||((v1.Strides.length:Int) != (v1.Dims.length:Int)))||(decide (v1.Base<1)))||(decide (v1.Base>4096)))||(decide (v1.Offset<0)))||(decide (v1.Offset≥v1.Base)))=true then (
 some false)
 else (
 (aQ (fun s:Int=>Zb_L1 v1 s) (0:Int)).bind fun e=>match e with
 | .inl e=>some e
 | .inr e=>Zb_J1 v1)
def Z03_J3 (v1:View)(a:(List Int))(b:(List Int)):Option (View) :=
 some (⟨a,b,v1.Offset,v1.Base⟩:View)
def Z03_J2 (a:Int)(b:(List Int)):Option (((List Int)×Int)⊕((View)⊕((List Int)))) :=
 some (.inl (b,(aH (a+1))))
def Z03_L1 (v1:View)(a:(List Int))(e:(List Int))(b:Int):Option (((List Int)×Int)⊕((View)⊕((List Int)))) :=
 if (decide (b<(v1.Dims.length:Int)))=true then (
 if (0≤b∧b<(v1.Dims.length:Int)) then
 if (0≤(aH ((aH ((a.length:Int) - (v1.Dims.length:Int)))+b))∧(aH ((aH ((a.length:Int) - (v1.Dims.length:Int)))+b))<(a.length:Int)) then
 if ((ix v1.Dims b)==(ix a (aH ((aH ((a.length:Int) - (v1.Dims.length:Int)))+b))))=true then (
 if (0≤b∧b<(v1.Strides.length:Int)) then
 if (0≤(aH ((aH ((a.length:Int) - (v1.Dims.length:Int)))+b))∧(aH ((aH ((a.length:Int) - (v1.Dims.length:Int)))+b))<((List.replicate (a.length:Int).toNat (0:Int)).length:Int)) then
 (nm (e.set (aH ((aH ((a.length:Int) - (v1.Dims.length:Int)))+b)).toNat (ix v1.Strides b))).bind fun g =>
 Z03_J2 b g
 else none
 else none)
 else (
 if ((ix v1.Dims b) != 1)=true then (
 some (.inr (.inl (⟨([]:List Int),([]:List Int),(0:Int),(0:Int)⟩:View))))
 else (
 Z03_J2 b e))
 else none
 else none)
 else (
 some (.inr (.inr e)))
def Z03 (v1:View)(a:(List Int)):Option (View) :=
 (Zb v1).bind fun h =>
 (bR (!(!h)) (Zn a)).bind fun b =>
 if (((!h)||(!b))||(decide ((aH ((a.length:Int) - (v1.Dims.length:Int)))<0)))=true then (
 some (⟨([]:List Int),([]:List Int),(0:Int),(0:Int)⟩:View))
 else (
 (Zu a).bind fun g =>
 if (0≤(a.length:Int)∧(a.length:Int)≤140737488355328∧8*(a.length:Int)≤281474976710656) then
 (aQ (fun s:(List Int)×Int=>Z03_L1 v1 a s.1 s.2) ((List.replicate (a.length:Int).toNat (0:Int)),(0:Int))).bind fun e=>match e with
 | .inl e=>some e
 | .inr e=>Z03_J3 v1 g e
 else none)
def Z02_J1 (a:(List Int))(b:(List Int)):Option (Tensor) :=
 some (⟨a,b⟩:Tensor)
def Z02_L1 (t1:Tensor)(b:(List Int))(e:(List Int))(a:Int):Option (((List Int)×Int)⊕((List Int))) :=
 if (decide (a<(b.length:Int)))=true then (
 if (0≤a∧a<(b.length:Int)) then
 if (0≤(ix b a)∧(ix b a)<(t1.Data.length:Int)) then
 if e.length+([(ix t1.Data (ix b a))]:List Int).length≤17592186044416 then
 some (.inl ((e++([(ix t1.Data (ix b a))]:List Int)),(aH (a+1))))
 else none
 else none
 else none)
 else (
 some (.inr e))
def Z02 (t1:Tensor)(v4:View):Option (Tensor) :=
 (Zs t1).bind fun a =>
 (bR (!(!a)) (Zb v4)).bind fun b =>
 if (((!a)||(!b))||(v4.Base != (t1.Data.length:Int)))=true then (
 some (⟨([]:List Int),([]:List Int)⟩:Tensor))
 else (
 (Zu v4.Dims).bind fun g =>
 (Z0b v4).bind fun h =>
 (aQ (fun s:(List Int)×Int=>Z02_L1 t1 h s.1 s.2) (([]:List Int),(0:Int))).bind fun e=>Z02_J1 g e)
def Z0a_J3 (v1:View)(a:(List Int))(b:(List Int))(g:(List Int)):Option (View) :=
 (Zb (⟨b,g,(ix a 0),v1.Base⟩:View)).bind fun e =>
 (bR (!(!e)) (Z0b (⟨b,g,(ix a 0),v1.Base⟩:View))).bind fun h =>
 (bR (!(!e)) (Z01 h a)).bind fun i =>
 if ((!e)||(!i))=true then (
 some (⟨([]:List Int),([]:List Int),(0:Int),(0:Int)⟩:View))
 else (
 some (⟨b,g,(ix a 0),v1.Base⟩:View))
def Z0a_J2 (a:(List Int))(e:Int)(b:Int):Option (((List Int)×Int)⊕((List Int))) :=
 if a.length+([b]:List Int).length≤17592186044416 then
 some (.inl ((a++([b]:List Int)),(aH (e+1))))
 else none
def Z0a_L1 (a:(List Int))(e:(List Int))(h:(List Int))(b:Int):Option (((List Int)×Int)⊕((List Int))) :=
 if (decide (b<(a.length:Int)))=true then (
 if (0≤b∧b<(a.length:Int)) then
 if (decide ((ix a b)>1))=true then (
 if (0≤(aH (b+1))∧(aH (b+1))≤(a.length:Int)∧(a.length:Int)≤(a.length:Int)) then
 (Zo (sub a (aH (b+1)) (a.length:Int))).bind fun g =>
 if (0≤g∧g<(e.length:Int)) then
 Z0a_J2 h b (aH ((ix e g) - (ix e 0)))
 else none
 else none)
 else (
 Z0a_J2 h b (0:Int))
 else none)
 else (
 some (.inr h))
def Z0a (v1:View)(a:(List Int)):Option (View) :=
 (Zb v1).bind fun h =>
 (bR (!(!h)) (Zn a)).bind fun b =>
 (bR (!((!h)||(!b))) (Zo a)).bind fun i =>
 (bR (!((!h)||(!b))) (Zo v1.Dims)).bind fun j =>
 if (((!h)||(!b))||(i != j))=true then (
 some (⟨([]:List Int),([]:List Int),(0:Int),(0:Int)⟩:View))
 else (
 (Z0b v1).bind fun g =>
 (Zu a).bind fun l =>
 if (0≤(0:Int)∧(0:Int)<(g.length:Int)) then
 (aQ (fun s:(List Int)×Int=>Z0a_L1 a g s.1 s.2) (([]:List Int),(0:Int))).bind fun e=>Z0a_J3 v1 g l e
 else none)
def Z25 (v1:View)(a:Int):Option (Bool) :=
 (Zb v1).bind fun b =>
 some ((b&&(decide (a≥0)))&&(decide (a<(v1.Dims.length:Int))))
def Z27 (v1:View):Option (View) :=
 (Zu v1.Dims).bind fun a =>
 (Zu v1.Strides).bind fun b =>
 some (⟨a,b,v1.Offset,v1.Base⟩:View)
def Z28 (v1:View):Option (View) :=
 (Zb v1).bind fun a =>
 if (!a)=true then (
 some (⟨([]:List Int),([]:List Int),(0:Int),(0:Int)⟩:View))
 else (
 some v1)
def Z18_J1 (a:Int)(i:Int)(b:Int)(e:View)(h:(List Int)):Option (View) :=
 (Z28 (⟨(e.Dims.set a.toNat b),h,(aH (e.Offset+(aH (i*(ix e.Strides a))))),e.Base⟩:View)).bind fun g =>
 some g
def Z18 (v1:View)(a:Int)(h:Int)(b:Int)(e:Int):Option (View) :=
 (Z25 v1 a).bind fun j =>
 if ((((((!j)||(decide (b<1)))||(decide (b>4096)))||(decide (e<(-4096:Int))))||(decide (e>4096)))||(decide (h<0)))=false→(0≤a∧a<(v1.Dims.length:Int)) then
 if (((((((!j)||(decide (b<1)))||(decide (b>4096)))||(decide (e<(-4096:Int))))||(decide (e>4096)))||(decide (h<0)))||(decide (h≥(ix v1.Dims a))))=true then (
 some (⟨([]:List Int),([]:List Int),(0:Int),(0:Int)⟩:View))
 else (
 if (decide ((aH (h+(aH ((aH (b - 1))*e))))<0))=false→(0≤a∧a<(v1.Dims.length:Int)) then
 if ((decide ((aH (h+(aH ((aH (b - 1))*e))))<0))||(decide ((aH (h+(aH ((aH (b - 1))*e))))≥(ix v1.Dims a))))=true then (
 some (⟨([]:List Int),([]:List Int),(0:Int),(0:Int)⟩:View))
 else (
 (Z27 v1).bind fun g =>
 if (0≤a∧a<(g.Strides.length:Int)) then
 if (0≤a∧a<(g.Dims.length:Int)) then
 (nm (g.Strides.set a.toNat (aH ((ix g.Strides a)*e)))).bind fun i =>
 if (b==1)=true then (
 Z18_J1 a h b g (i.set a.toNat (0:Int)))
 else (
 Z18_J1 a h b g i)
 else none
 else none)
 else none)
 else none
def Z1t (t1:Tensor)(a:(List Int))(e:Int):Option ((List Int)) :=
 (Z0n t1.Dims a).bind fun b =>
 if (0≤b∧b<(t1.Data.length:Int)) then
 some (t1.Data.set b.toNat e)
 else none
def Z0s_J1 (a:Tensor)(b:(List Int)):Option (Tensor) :=
 some (⟨a.Dims,b⟩:Tensor)
def Z0s_L1 (t1:Tensor)(a:Int)(e:Int)(h:Int)(j:Tensor)(i:(List Int))(b:Int):Option (((List Int)×Int)⊕((List Int))) :=
 if (decide (b<(t1.Data.length:Int)))=true then (
 (Zj t1.Dims b).bind fun g =>
 if (0≤a∧a<(g.length:Int)) then
 (Z0j g a (aH (e+(aH ((ix g a)*(aH (h+1))))))).bind fun l =>
 if (0≤b∧b<(t1.Data.length:Int)) then
 (Z1t (⟨j.Dims,i⟩:Tensor) l (ix t1.Data b)).bind fun m =>
 some (.inl (m,(aH (b+1))))
 else none
 else none)
 else (
 some (.inr i))
def Z0s (t1:Tensor)(a:Int)(b:Int)(g:Int)(h:Int):Option (Tensor) :=
 (Z1e t1 a).bind fun l =>
 if (((((((!l)||(decide (b<0)))||(decide (b>4096)))||(decide (g<0)))||(decide (g>4096)))||(decide (h<0)))||(decide (h>4096)))=true then (
 some (⟨([]:List Int),([]:List Int)⟩:Tensor))
 else (
 if (0≤a∧a<(t1.Dims.length:Int)) then
 (Z0j t1.Dims a (aH ((aH ((aH (b+(ix t1.Dims a)))+(aH ((aH ((ix t1.Dims a) - 1))*h))))+g))).bind fun j =>
 (Zn j).bind fun m =>
 if (!m)=true then (
 some (⟨([]:List Int),([]:List Int)⟩:Tensor))
 else (
 (Z0i j).bind fun i =>
 (aQ (fun s:(List Int)×Int=>Z0s_L1 t1 a b h i s.1 s.2) (i.Data,(0:Int))).bind fun e=>Z0s_J1 i e)
 else none)
def Z0r_J1 (a:Tensor)(b:(List Int)):Option (Tensor) :=
 some (⟨a.Dims,b⟩:Tensor)
def Z0r_L1 (t1:Tensor)(a:Int)(b:(List Int))(j:(List Int))(h:Tensor)(i:(List Int))(e:Int):Option (((List Int)×Int)⊕((List Int))) :=
 if (decide (e<(h.Data.length:Int)))=true then (
 (Zj j e).bind fun g =>
 if (0≤a∧a<(g.length:Int)) then
 if (0≤(ix g a)∧(ix g a)<(b.length:Int)) then
 (Z0j g a (ix b (ix g a))).bind fun l =>
 (Z15 t1 l).bind fun m =>
 if (0≤e∧e<(h.Data.length:Int)) then
 some (.inl ((i.set e.toNat m),(aH (e+1))))
 else none
 else none
 else none)
 else (
 some (.inr i))
def Z0r (t1:Tensor)(b:Int)(a:(List Int)):Option (Tensor) :=
 (Z1e t1 b).bind fun l =>
 if ((!l)||((a.length:Int)==0))=false→(0≤b∧b<(t1.Dims.length:Int)) then
 (bR (!((!l)||((a.length:Int)==0))) (Z0k a (ix t1.Dims b))).bind fun i =>
 if (((!l)||((a.length:Int)==0))||(!i))=true then (
 some (⟨([]:List Int),([]:List Int)⟩:Tensor))
 else (
 (Z0j t1.Dims b (a.length:Int)).bind fun g =>
 (Zn g).bind fun j =>
 if (!j)=true then (
 some (⟨([]:List Int),([]:List Int)⟩:Tensor))
 else (
 (Z0i g).bind fun h =>
 (aQ (fun s:(List Int)×Int=>Z0r_L1 t1 b a g h s.1 s.2) (h.Data,(0:Int))).bind fun e=>Z0r_J1 h e))
 else none
def Z0t_J1 (a:Tensor)(b:(List Int)):Option (Tensor) :=
 some (⟨a.Dims,b⟩:Tensor)
def Z0t_L1 (t1:Tensor)(a:Int)(b:(List Int))(i:Tensor)(h:(List Int))(e:Int):Option (((List Int)×Int)⊕((List Int))) :=
 if (decide (e<(t1.Data.length:Int)))=true then (
 (Zj t1.Dims e).bind fun g =>
 if (0≤a∧a<(g.length:Int)) then
 if (0≤(ix g a)∧(ix g a)<(b.length:Int)) then
 (Z0j g a (ix b (ix g a))).bind fun j =>
 (Z15 (⟨i.Dims,h⟩:Tensor) j).bind fun l =>
 if (0≤e∧e<(t1.Data.length:Int)) then
 (Z1k l (ix t1.Data e)).bind fun m =>
 (Z1t (⟨i.Dims,h⟩:Tensor) j m).bind fun q =>
 some (.inl (q,(aH (e+1))))
 else none
 else none
 else none)
 else (
 some (.inr h))
def Z0t (t1:Tensor)(a:Int)(b:(List Int))(m:Int):Option (Tensor) :=
 (Z1e t1 a).bind fun g =>
 if (!g)=false→(0≤a∧a<(t1.Dims.length:Int)) then
 (bR (!((!g)||((b.length:Int) != (ix t1.Dims a)))) (Z0k b m)).bind fun j =>
 if (((!g)||((b.length:Int) != (ix t1.Dims a)))||(!j))=true then (
 some (⟨([]:List Int),([]:List Int)⟩:Tensor))
 else (
 (Z0j t1.Dims a m).bind fun i =>
 (Zn i).bind fun l =>
 if (!l)=true then (
 some (⟨([]:List Int),([]:List Int)⟩:Tensor))
 else (
 (Z0i i).bind fun h =>
 (aQ (fun s:(List Int)×Int=>Z0t_L1 t1 a b h s.1 s.2) (h.Data,(0:Int))).bind fun e=>Z0t_J1 h e))
 else none
def Z0c_J2 (a:Int)(b:View)(h:(List Int))(e:(List Int))(g:Int):Option (View) :=
 if e.length+([g]:List Int).length≤17592186044416 then
 (Z28 (⟨(h++([a]:List Int)),(e++([g]:List Int)),b.Offset,b.Base⟩:View)).bind fun i =>
 some i
 else none
def Z0c_J1 (v1:View)(b:Int)(a:Int)(g:View)(e:(List Int))(h:(List Int)):Option (View) :=
 if e.length+([a]:List Int).length≤17592186044416 then
 if (a==1)=true then (
 Z0c_J2 a g e h (0:Int))
 else (
 Z0c_J2 a g e h (ix v1.Strides b))
 else none
def Z0c (v1:View)(a:Int)(b:Int)(e:Int):Option (View) :=
 (Z25 v1 a).bind fun j =>
 if (((!j)||(decide (b<1)))||(decide (e<1)))=false→(0≤a∧a<(v1.Dims.length:Int)) then
 if ((((!j)||(decide (b<1)))||(decide (e<1)))||(decide (b>(ix v1.Dims a))))=true then (
 some (⟨([]:List Int),([]:List Int),(0:Int),(0:Int)⟩:View))
 else (
 (Z27 v1).bind fun g =>
 if (0≤a∧a<(v1.Dims.length:Int)) then
 if e≠0 then
 if (0≤a∧a<(v1.Strides.length:Int)) then
 if (0≤a∧a<(g.Dims.length:Int)) then
 (nm (g.Dims.set a.toNat (aH ((aH ((aH ((ix v1.Dims a) - b)).tdiv e))+1)))).bind fun h =>
 if (0≤a∧a<(g.Strides.length:Int)) then
 if (decide ((aH ((aH ((aH ((ix v1.Dims a) - b)).tdiv e))+1))>1))=true then (
 (nm ((g.Strides.set a.toNat (0:Int)).set a.toNat (aH ((ix v1.Strides a)*e)))).bind fun i =>
 Z0c_J1 v1 a b g h i)
 else (
 Z0c_J1 v1 a b g h (g.Strides.set a.toNat (0:Int)))
 else none
 else none
 else none
 else none
 else none)
 else none
def Z0q_J1 (a:Tensor)(b:(List Int)):Option (Tensor) :=
 some (⟨a.Dims,b⟩:Tensor)
def Z0q_L1 (t1:Tensor)(a:Int)(h:Int)(j:Tensor)(i:(List Int))(b:Int):Option (((List Int)×Int)⊕((List Int))) :=
 if (decide (b<(t1.Data.length:Int)))=true then (
 (Zj t1.Dims b).bind fun e =>
 if (0≤a∧a<(e.length:Int)) then
 if (0≤(aH ((t1.Dims.length:Int) - 1))∧(aH ((t1.Dims.length:Int) - 1))<(e.length:Int)) then
 (Z0j e a (aH ((aH ((ix e a)*h))+(ix e (aH ((t1.Dims.length:Int) - 1)))))).bind fun g =>
 if (0≤(0:Int)∧(0:Int)≤(aH ((t1.Dims.length:Int) - 1))∧(aH ((t1.Dims.length:Int) - 1))≤(g.length:Int)) then
 (Z15 (⟨j.Dims,i⟩:Tensor) (sub g (0:Int) (aH ((t1.Dims.length:Int) - 1)))).bind fun l =>
 if (0≤b∧b<(t1.Data.length:Int)) then
 (Z1k l (ix t1.Data b)).bind fun m =>
 (Z1t (⟨j.Dims,i⟩:Tensor) (sub g (0:Int) (aH ((t1.Dims.length:Int) - 1))) m).bind fun q =>
 some (.inl (q,(aH (b+1))))
 else none
 else none
 else none
 else none)
 else (
 some (.inr i))
def Z0q (t1:Tensor)(a:Int)(b:Int)(g:Int):Option (Tensor) :=
 (Z1e t1 a).bind fun l =>
 if (((((!l)||(a==(aH ((t1.Dims.length:Int) - 1))))||(decide (b<1)))||(decide (g<1)))||(decide (g>4096)))=true then (
 some (⟨([]:List Int),([]:List Int)⟩:Tensor))
 else (
 if (0≤(aH ((t1.Dims.length:Int) - 1))∧(aH ((t1.Dims.length:Int) - 1))<(t1.Dims.length:Int)) then
 if (decide ((ix t1.Dims (aH ((t1.Dims.length:Int) - 1)))>g))=false→b≠0 then
 if (decide ((ix t1.Dims (aH ((t1.Dims.length:Int) - 1)))>g))=false→(0≤a∧a<(t1.Dims.length:Int)) then
 if ((decide ((ix t1.Dims (aH ((t1.Dims.length:Int) - 1)))>g))||((aH ((aH ((aH (g - (ix t1.Dims (aH ((t1.Dims.length:Int) - 1))))).tdiv b))+1)) != (ix t1.Dims a)))=true then (
 some (⟨([]:List Int),([]:List Int)⟩:Tensor))
 else (
 (Z0j t1.Dims a g).bind fun h =>
 if (0≤(0:Int)∧(0:Int)≤(aH ((t1.Dims.length:Int) - 1))∧(aH ((t1.Dims.length:Int) - 1))≤(h.length:Int)) then
 (Zn (sub h (0:Int) (aH ((t1.Dims.length:Int) - 1)))).bind fun j =>
 if (!j)=true then (
 some (⟨([]:List Int),([]:List Int)⟩:Tensor))
 else (
 (Z0i (sub h (0:Int) (aH ((t1.Dims.length:Int) - 1)))).bind fun i =>
 (aQ (fun s:(List Int)×Int=>Z0q_L1 t1 a b i s.1 s.2) (i.Data,(0:Int))).bind fun e=>Z0q_J1 i e)
 else none)
 else none
 else none
 else none)
def Z2_J2 (a:Node)(b:(List Tensor))(M:Bool):Option (Tensor) :=
 if M=true then (
 if (0≤(0:Int)∧(0:Int)<(b.length:Int)) then
 (Z11 (aH ((aH (a.Op - 6))+1)) (ix b 0)).bind fun D =>
 some D
 else none)
 else (
 if (a.Op==10)=true then (
 if (0≤(0:Int)∧(0:Int)<(b.length:Int)) then
 if (0≤(0:Int)∧(0:Int)<(a.Ints.length:Int)) then
 (Zc (ix b 0) (ix a.Ints 0)).bind fun E =>
 some E
 else none
 else none)
 else (
 if (a.Op==11)=true then (
 (Z6 a.Form b).bind fun F =>
 some F)
 else (
 if (a.Op==12)=true then (
 if (0≤(0:Int)∧(0:Int)<(b.length:Int)) then
 (Zx ((ix b 0).Dims)).bind fun G =>
 (Z03 G a.Dims).bind fun I =>
 (Z02 (ix b 0) I).bind fun J =>
 some J
 else none)
 else (
 if (a.Op==13)=true then (
 if (0≤(0:Int)∧(0:Int)<(b.length:Int)) then
 (Zx ((ix b 0).Dims)).bind fun L =>
 (Z0a L a.Dims).bind fun e =>
 (Z02 (ix b 0) e).bind fun g =>
 some g
 else none)
 else (
 if (a.Op==14)=true then (
 if (0≤(3:Int)∧(3:Int)<(a.Ints.length:Int)) then
 if (decide ((ix a.Ints 3)<1))=true then (
 some (⟨([]:List Int),([]:List Int)⟩:Tensor))
 else (
 if (0≤(0:Int)∧(0:Int)<(b.length:Int)) then
 (Zx ((ix b 0).Dims)).bind fun h =>
 if (0≤(0:Int)∧(0:Int)<(a.Ints.length:Int)) then
 if (0≤(1:Int)∧(1:Int)<(a.Ints.length:Int)) then
 if (0≤(2:Int)∧(2:Int)<(a.Ints.length:Int)) then
 (Z18 h (ix a.Ints 0) (ix a.Ints 1) (ix a.Ints 2) (ix a.Ints 3)).bind fun i =>
 (Z02 (ix b 0) i).bind fun j =>
 some j
 else none
 else none
 else none
 else none)
 else none)
 else (
 if (a.Op==15)=true then (
 if (0≤(0:Int)∧(0:Int)<(b.length:Int)) then
 if (0≤(0:Int)∧(0:Int)<(a.Ints.length:Int)) then
 if (0≤(1:Int)∧(1:Int)<(a.Ints.length:Int)) then
 if (0≤(2:Int)∧(2:Int)<(a.Ints.length:Int)) then
 if (0≤(3:Int)∧(3:Int)<(a.Ints.length:Int)) then
 (Z0s (ix b 0) (ix a.Ints 0) (ix a.Ints 1) (ix a.Ints 2) (ix a.Ints 3)).bind fun l =>
 some l
 else none
 else none
 else none
 else none
 else none)
 else (
 if (a.Op==16)=true then (
 if (0≤(0:Int)∧(0:Int)<(b.length:Int)) then
 if (0≤(0:Int)∧(0:Int)<(a.Ints.length:Int)) then
 if (0≤(1:Int)∧(1:Int)≤(a.Ints.length:Int)∧(a.Ints.length:Int)≤(a.Ints.length:Int)) then
 (Z0r (ix b 0) (ix a.Ints 0) (sub a.Ints (1:Int) (a.Ints.length:Int))).bind fun m =>
 some m
 else none
 else none
 else none)
 else (
 if (a.Op==17)=true then (
 if (0≤(0:Int)∧(0:Int)<(b.length:Int)) then
 if (0≤(0:Int)∧(0:Int)<(a.Ints.length:Int)) then
 if (0≤(2:Int)∧(2:Int)≤(a.Ints.length:Int)∧(a.Ints.length:Int)≤(a.Ints.length:Int)) then
 if (0≤(1:Int)∧(1:Int)<(a.Ints.length:Int)) then
 (Z0t (ix b 0) (ix a.Ints 0) (sub a.Ints (2:Int) (a.Ints.length:Int)) (ix a.Ints 1)).bind fun q =>
 some q
 else none
 else none
 else none
 else none)
 else (
 if (a.Op==18)=true then (
 if (0≤(0:Int)∧(0:Int)<(b.length:Int)) then
 (Zx ((ix b 0).Dims)).bind fun r =>
 if (0≤(0:Int)∧(0:Int)<(a.Ints.length:Int)) then
 if (0≤(1:Int)∧(1:Int)<(a.Ints.length:Int)) then
 if (0≤(2:Int)∧(2:Int)<(a.Ints.length:Int)) then
 (Z0c r (ix a.Ints 0) (ix a.Ints 1) (ix a.Ints 2)).bind fun s =>
 (Z02 (ix b 0) s).bind fun u =>
 some u
 else none
 else none
 else none
 else none)
 else (
 if (0≤(0:Int)∧(0:Int)<(b.length:Int)) then
 if (0≤(0:Int)∧(0:Int)<(a.Ints.length:Int)) then
 if (0≤(1:Int)∧(1:Int)<(a.Ints.length:Int)) then
 if (0≤(2:Int)∧(2:Int)<(a.Ints.length:Int)) then
 (Z0q (ix b 0) (ix a.Ints 0) (ix a.Ints 1) (ix a.Ints 2)).bind fun B =>
 some B
 else none
 else none
 else none
 else none))))))))))
def Z2_J1 (a:Node)(b:(List Tensor))(h:Bool):Option (Tensor) :=
 if h=true then (
 if (0≤(0:Int)∧(0:Int)<(b.length:Int)) then
 if (0≤(1:Int)∧(1:Int)<(b.length:Int)) then
 (Z01 ((ix b 0).Dims) ((ix b 1).Dims)).bind fun e =>
 if (!e)=true then (
 some (⟨([]:List Int),([]:List Int)⟩:Tensor))
 else (
 (Z12 (aH ((aH (a.Op - 3))+1)) (ix b 0) (ix b 1)).bind fun g =>
 some g)
 else none
 else none)
 else (
 if (a.Op==6)=true then (
 Z2_J2 a b (a.Op==6))
 else (
 if (a.Op==7)=true then (
 Z2_J2 a b (a.Op==7))
 else (
 if (a.Op==8)=true then (
 Z2_J2 a b (a.Op==8))
 else (
 Z2_J2 a b (a.Op==9)))))
def Z2 (a:Node)(b:(List Tensor)):Option (Tensor) :=
 if (a.Op==2)=true then (
 (Zs (⟨a.Dims,a.Data⟩:Tensor)).bind fun e =>
 if (!e)=true then (
 some (⟨([]:List Int),([]:List Int)⟩:Tensor))
 else (
 (Zu a.Dims).bind fun g =>
 (Zu a.Data).bind fun h =>
 some (⟨g,h⟩:Tensor)))
 else (
 if (a.Op==3)=true then (
 Z2_J1 a b (a.Op==3))
 else (
 if (a.Op==4)=true then (
 Z2_J1 a b (a.Op==4))
 else (
 Z2_J1 a b (a.Op==5))))
def Z0p_J1 (b:Tensor)(a:(List Int)):Option (Tensor) :=
 some (⟨b.Dims,a⟩:Tensor)
def Z0p_L1 (h:Int)(g:Tensor)(b:(List Int))(a:Int):Option (((List Int)×Int)⊕((List Int))) :=
 if (decide (a<(g.Data.length:Int)))=true then (
 (Zq h).bind fun e =>
 if (0≤a∧a<(g.Data.length:Int)) then
 some (.inl ((b.set a.toNat e),(aH (a+1))))
 else none)
 else (
 some (.inr b))
def Z0p (a:(List Int))(g:Int):Option (Tensor) :=
 (Zn a).bind fun h =>
 if (!h)=true then (
 some (⟨([]:List Int),([]:List Int)⟩:Tensor))
 else (
 (Z0i a).bind fun b =>
 (aQ (fun s:(List Int)×Int=>Z0p_L1 g b s.1 s.2) (b.Data,(0:Int))).bind fun e=>Z0p_J1 b e)
def Za_J5 (g1:Graph)(a:(List Tensor))(b:Bool)(g:(List Tensor))(h:Int):Option ((List Tensor)×Bool) :=
 (Z0k g1.Outs (g1.Nodes.length:Int)).bind fun e =>
 some (g,(e&&(b||(h==(a.length:Int)))))
def Za_J4 (b:(List Tensor))(g:Int)(h:Int)(e:(List Int))(a:(List Int)):Option (((List Tensor)×Int×Int)⊕(((List Tensor)×Bool)⊕((List Tensor)×Int))) :=
 if ((a.length:Int)==0)=true then (
 some (.inr (.inl (b,false))))
 else (
 if b.length+([(⟨e,a⟩:Tensor)]:List Tensor).length≤2932031007402 then
 some (.inl ((b++([(⟨e,a⟩:Tensor)]:List Tensor)),h,(aH (g+1))))
 else none)
def Za_J3 (g1:Graph)(a:(List Tensor))(i:Bool)(g:(List Tensor))(b:Int)(e:Int)(m:(List Tensor)):Option (((List Tensor)×Int×Int)⊕(((List Tensor)×Bool)⊕((List Tensor)×Int))) :=
 if ((ix g1.Nodes e).Op != 1)=true then (
 (Z2 (ix g1.Nodes e) m).bind fun j =>
 Za_J4 g e b j.Dims j.Data)
 else (
 if i=true then (
 (Z0p ((ix g1.Nodes e).Dims) (0:Int)).bind fun l =>
 Za_J4 g e b l.Dims l.Data)
 else (
 if (decide (b≥(a.length:Int)))=false→(0≤b∧b<(a.length:Int)) then
 (bR (!(decide (b≥(a.length:Int)))) (Zs (ix a b))).bind fun h =>
 if ((decide (b≥(a.length:Int)))||(!h))=false→(0≤b∧b<(a.length:Int)) then
 (bR (!((decide (b≥(a.length:Int)))||(!h))) (Z01 ((ix a b).Dims) ((ix g1.Nodes e).Dims))).bind fun q =>
 if (((decide (b≥(a.length:Int)))||(!h))||(!q))=true then (
 some (.inr (.inl (g,false))))
 else (
 (Zu ((ix g1.Nodes e).Dims)).bind fun r =>
 if (0≤b∧b<(a.length:Int)) then
 (Zu ((ix a b).Data)).bind fun s =>
 Za_J4 g e (aH (b+1)) r s
 else none)
 else none
 else none))
def Za_L2 (g1:Graph)(g:(List Tensor))(b:Int)(e:(List Tensor))(a:Int):Option (((List Tensor)×Int)⊕((List Tensor))) :=
 if (decide (a<(((ix g1.Nodes b).Args).length:Int)))=true then (
 if (0≤a∧a<(((ix g1.Nodes b).Args).length:Int)) then
 if (0≤(ix ((ix g1.Nodes b).Args) a)∧(ix ((ix g1.Nodes b).Args) a)<(g.length:Int)) then
 if e.length+([(ix g (ix ((ix g1.Nodes b).Args) a))]:List Tensor).length≤2932031007402 then
 some (.inl ((e++([(ix g (ix ((ix g1.Nodes b).Args) a))]:List Tensor)),(aH (a+1))))
 else none
 else none
 else none)
 else (
 some (.inr e))
def Za_L1 (g1:Graph)(g:(List Tensor))(h:Bool)(b:(List Tensor))(j:Int)(a:Int):Option (((List Tensor)×Int×Int)⊕(((List Tensor)×Bool)⊕((List Tensor)×Int))) :=
 if (decide (a<(g1.Nodes.length:Int)))=true then (
 if (0≤a∧a<(g1.Nodes.length:Int)) then
 (Z16 (ix g1.Nodes a)).bind fun i =>
 (bR (!(!i)) (Z0k ((ix g1.Nodes a).Args) a)).bind fun l =>
 if ((!i)||(!l))=true then (
 some (.inr (.inl (b,false))))
 else (
 (aQ (fun s:(List Tensor)×Int=>Za_L2 g1 b a s.1 s.2) (([]:List Tensor),(0:Int))).bind fun e=>Za_J3 g1 g h b j a e)
 else none)
 else (
 some (.inr (.inr (b,j))))
def Za (g1:Graph)(a:(List Tensor))(b:Bool):Option ((List Tensor)×Bool) :=
 if ((decide ((g1.Nodes.length:Int)>200))||(decide ((g1.Outs.length:Int)>40)))=true then (
 some (([]:List Tensor),false))
 else (
 (aQ (fun s:(List Tensor)×Int×Int=>Za_L1 g1 a b s.1 s.2.1 s.2.2) (([]:List Tensor),(0:Int),(0:Int))).bind fun e=>match e with
 | .inl e=>some e
 | .inr e=>Za_J5 g1 a b e.1 e.2)
def Z0g_J1 (a:(List (List Int))):Option ((List (List Int))) :=
 some a
def Z0g_L1 (e:(List Tensor)×Bool)(b:(List (List Int)))(a:Int):Option (((List (List Int))×Int)⊕((List (List Int)))) :=
 if ((decide (a<(e.1.length:Int)))&&e.2)=true then (
 if (0≤a∧a<(e.1.length:Int)) then
 if b.length+([(ix e.1 a).Dims]:List (List Int)).length≤5864062014805 then
 some (.inl ((b++([(ix e.1 a).Dims]:List (List Int))),(aH (a+1))))
 else none
 else none)
 else (
 some (.inr b))
def Z0g (g1:Graph):Option ((List (List Int))) :=
 (Za g1 ([]:List Tensor) true).bind fun a =>
 (aQ (fun s:(List (List Int))×Int=>Z0g_L1 a s.1 s.2) (([]:List (List Int)),(0:Int))).bind fun e=>Z0g_J1 e
def Z2t (g1:Graph):Option (Bool) :=
 (Za g1 ([]:List Tensor) true).bind fun a =>
 some a.2
def Zv_J2 (a:(List Bool)):Option ((List Bool)) :=
 some a
def Zv_L1 (g1:Graph)(e:Int)(h:Graph→Int→(List Bool)→Option ((List Bool)))(a:(List Bool))(b:Int):Option (((List Bool)×Int)⊕((List Bool))) :=
 if (0≤e∧e<(g1.Nodes.length:Int)) then
 if (decide (b<(((ix g1.Nodes e).Args).length:Int)))=true then (
 if (0≤b∧b<(((ix g1.Nodes e).Args).length:Int)) then
 (h g1 (ix ((ix g1.Nodes e).Args) b) a).bind fun g =>
 some (.inl (g,(aH (b+1))))
 else none)
 else (
 some (.inr a))
 else none
def Zv_S (g:Graph→Int→(List Bool)→Option ((List Bool)))(g1:Graph)(b:Int)(a:(List Bool)):Option ((List Bool)) :=
 if (0≤b∧b<(a.length:Int)) then
 if (ix a b)=true then (
 some a)
 else (
 (aQ (fun s:(List Bool)×Int=>Zv_L1 g1 b g s.1 s.2) ((a.set b.toNat true),(0:Int))).bind fun e=>Zv_J2 e)
 else none
def Zv_R:Nat→Graph→Int→(List Bool)→Option ((List Bool))
 | 0=>fun _ _ _=>none
 | n+1=>Zv_S (Zv_R n)
def Zv (g1:Graph)(b:Int)(a:(List Bool)):Option ((List Bool)):=Zv_R jv g1 b a
def Z0x_J1 (a:(List Bool)):Option ((List Bool)) :=
 some a
def Z0x_L1 (g1:Graph)(a:(List Bool))(b:Int):Option (((List Bool)×Int)⊕((List Bool))) :=
 if (decide (b<(g1.Outs.length:Int)))=true then (
 if (0≤b∧b<(g1.Outs.length:Int)) then
 (Zv g1 (ix g1.Outs b) a).bind fun e =>
 some (.inl (e,(aH (b+1))))
 else none)
 else (
 some (.inr a))
def Z0x (g1:Graph):Option ((List Bool)) :=
 if (0≤(g1.Nodes.length:Int)∧(g1.Nodes.length:Int)≤140737488355328∧1*(g1.Nodes.length:Int)≤281474976710656) then
 (aQ (fun s:(List Bool)×Int=>Z0x_L1 g1 s.1 s.2) ((List.replicate (g1.Nodes.length:Int).toNat false),(0:Int))).bind fun e=>Z0x_J1 e
 else none
def Z07_J3 (a:(List Int)):Option ((List Int)) :=
 some a
def Z07_J2 (a:Int)(b:(List Int)):Option (((List Int)×Int)⊕((List Int))) :=
 some (.inl (b,(aH (a+1))))
def Z07_L1 (e:(List Bool))(b:(List Int))(a:Int):Option (((List Int)×Int)⊕((List Int))) :=
 if (decide (a<(e.length:Int)))=true then (
 if (0≤a∧a<(e.length:Int)) then
 if (ix e a)=true then (
 if b.length+([a]:List Int).length≤17592186044416 then
 Z07_J2 a (b++([a]:List Int))
 else none)
 else (
 Z07_J2 a b)
 else none)
 else (
 some (.inr b))
def Z07 (g1:Graph):Option ((List Int)) :=
 (Z2t g1).bind fun a =>
 if (!a)=true then (
 some ([]:List Int))
 else (
 (Z0x g1).bind fun b =>
 (aQ (fun s:(List Int)×Int=>Z07_L1 b s.1 s.2) (([]:List Int),(0:Int))).bind fun e=>Z07_J3 e)
def Z4_J9 (a:Int):Option (Int) :=
 some a
def Z4_J8 (b:Int)(a:Int):Option ((Int×Int)⊕(Int)) :=
 some (.inl (a,(aH (b+1))))
def Z4_J7 (b:Int)(e:Int)(a:Int):Option ((Int×Int)⊕(Int)) :=
 Z4_J8 e (aH (b+a))
def Z4_L3 (e:aN×(List Int)×Bool)(b:Int)(a:Int):Option ((Int×Int)⊕(Int)) :=
 if (decide (a<(e.2.1.length:Int)))=true then (
 if (0≤a∧a<(e.2.1.length:Int)) then
 some (.inl ((aH (b*(ix e.2.1 a))),(aH (a+1))))
 else none)
 else (
 some (.inr b))
def Z4_J6 (g1:Graph)(j:(List Int))(g:Int)(h:Int)(a:(List (List Int))):Option ((Int×Int)⊕(Int)) :=
 (Z1 ((ix g1.Nodes (ix j h)).Form)).bind fun b =>
 (Z3 b.1 b.2.1 a).bind fun i =>
 (aQ (fun s:Int×Int=>Z4_L3 i s.1 s.2) ((1:Int),(0:Int))).bind fun e=>Z4_J7 g h e
def Z4_L2 (g1:Graph)(h:(List (List Int)))(g:(List Int))(e:Int)(b:(List (List Int)))(a:Int):Option (((List (List Int))×Int)⊕((List (List Int)))) :=
 if (decide (a<(((ix g1.Nodes (ix g e)).Args).length:Int)))=true then (
 if (0≤a∧a<(((ix g1.Nodes (ix g e)).Args).length:Int)) then
 if (0≤(ix ((ix g1.Nodes (ix g e)).Args) a)∧(ix ((ix g1.Nodes (ix g e)).Args) a)<(h.length:Int)) then
 if b.length+([(ix h (ix ((ix g1.Nodes (ix g e)).Args) a))]:List (List Int)).length≤5864062014805 then
 some (.inl ((b++([(ix h (ix ((ix g1.Nodes (ix g e)).Args) a))]:List (List Int))),(aH (a+1))))
 else none
 else none
 else none)
 else (
 some (.inr b))
def Z4_J5 (g1:Graph)(j:(List (List Int)))(g:(List Int))(b:Int)(a:Int)(i:Bool):Option ((Int×Int)⊕(Int)) :=
 if i=true then (
 Z4_J8 a b)
 else (
 if ((ix g1.Nodes (ix g a)).Op==11)=true then (
 (aQ (fun s:(List (List Int))×Int=>Z4_L2 g1 j g a s.1 s.2) (([]:List (List Int)),(0:Int))).bind fun e=>Z4_J6 g1 g b a e)
 else (
 if (0≤(ix g a)∧(ix g a)<(j.length:Int)) then
 (Zo (ix j (ix g a))).bind fun h =>
 Z4_J8 a (aH (b+h))
 else none))
def Z4_L1 (g1:Graph)(g:(List (List Int)))(e:(List Int))(b:Int)(a:Int):Option ((Int×Int)⊕(Int)) :=
 if (decide (a<(e.length:Int)))=true then (
 if (0≤a∧a<(e.length:Int)) then
 if (0≤(ix e a)∧(ix e a)<(g1.Nodes.length:Int)) then
 if ((ix g1.Nodes (ix e a)).Op==1)=true then (
 Z4_J5 g1 g e b a ((ix g1.Nodes (ix e a)).Op==1))
 else (
 Z4_J5 g1 g e b a ((ix g1.Nodes (ix e a)).Op==2))
 else none
 else none)
 else (
 some (.inr b))
def Z4 (g1:Graph):Option (Int) :=
 (Z0g g1).bind fun a =>
 (Z07 g1).bind fun b =>
 (aQ (fun s:Int×Int=>Z4_L1 g1 a b s.1 s.2) ((0:Int),(0:Int))).bind fun e=>Z4_J9 e
def Z37 (a:Int)(b:Int):Option (Int×Int) :=
 some (a,b)
def Z38 (a:Int)(b:Int):Option (Int×Int) :=
 some (a,b)
def Z39 (a:Int)(b:Int):Option (Int×Int) :=
 some (a,b)
def Z3a (a:Int)(b:Int):Option (Int×Int) :=
 some (a,b)
def Zy_J3 (a:Int)(i:Bool):Option (kindOfR) :=
 if i=true then (
 some (⟨6,false,(0:Int),(0:Int),eN⟩:kindOfR))
 else (
 if (a==15)=true then (
 (Z37 (4:Int) (4:Int)).bind fun b =>
 some (⟨8,false,b.1,b.2,eN⟩:kindOfR))
 else (
 if (a==16)=true then (
 (Z38 (1:Int) (4097:Int)).bind fun e =>
 some (⟨9,false,e.1,e.2,eN⟩:kindOfR))
 else (
 if (a==17)=true then (
 (Z39 (2:Int) (4098:Int)).bind fun g =>
 some (⟨10,false,g.1,g.2,eN⟩:kindOfR))
 else (
 if (a==19)=true then (
 (Z3a (3:Int) (3:Int)).bind fun h =>
 some (⟨11,false,h.1,h.2,eN⟩:kindOfR))
 else (
 some (⟨0,false,(0:Int),(0:Int),([]:aN)⟩:kindOfR))))))
def Zy_J2 (a:Int)(b:Bool):Option (kindOfR) :=
 if b=true then (
 some (⟨3,false,(aH ((aH (a - 6))+1)),(0:Int),([]:aN)⟩:kindOfR))
 else (
 if (a==10)=true then (
 some (⟨4,false,(0:Int),(0:Int),([]:aN)⟩:kindOfR))
 else (
 if (a==11)=true then (
 some (⟨5,false,(0:Int),(0:Int),([]:aN)⟩:kindOfR))
 else (
 if (a==12)=true then (
 some (⟨6,false,(0:Int),(0:Int),gX⟩:kindOfR))
 else (
 if (a==13)=true then (
 some (⟨7,false,(0:Int),(0:Int),gX⟩:kindOfR))
 else (
 if (a==14)=true then (
 Zy_J3 a (a==14))
 else (
 Zy_J3 a (a==18)))))))
def Zy_J1 (a:Int)(b:Bool):Option (kindOfR) :=
 if b=true then (
 some (⟨2,false,(aH ((aH (a - 3))+1)),(0:Int),([]:aN)⟩:kindOfR))
 else (
 if (a==6)=true then (
 Zy_J2 a (a==6))
 else (
 if (a==7)=true then (
 Zy_J2 a (a==7))
 else (
 if (a==8)=true then (
 Zy_J2 a (a==8))
 else (
 Zy_J2 a (a==9)))))
def Zy (a:Int):Option (kindOfR) :=
 if (a==1)=true then (
 some (⟨1,false,(0:Int),(0:Int),([]:aN)⟩:kindOfR))
 else (
 if (a==2)=true then (
 some (⟨1,true,(0:Int),(0:Int),([]:aN)⟩:kindOfR))
 else (
 if (a==3)=true then (
 Zy_J1 a (a==3))
 else (
 if (a==4)=true then (
 Zy_J1 a (a==4))
 else (
 Zy_J1 a (a==5)))))
def Z3c (k1:leafKind):Option (aN) :=
 if k1.data=true then (
 some o9)
 else (
 some gX)
def Z3d (k1:pairKind):Option (aN) :=
 some ([]:aN)
def Z3k (k1:soloKind):Option (aN) :=
 some ([]:aN)
def Z3l (k1:topKind):Option (aN) :=
 some eN
def Z3b (k1:formKind):Option (aN) :=
 some ki
def Z3i (k1:shiftKind):Option (aN) :=
 some k1.use
def Z3j (k1:shiftKind):Option (aN) :=
 some k1.use
def Z3e (k1:shiftKind)(a:Int)(b:Int):Option (aN) :=
 some k1.use
def Z3f (k1:shiftKind)(a:Int)(b:Int):Option (aN) :=
 some k1.use
def Z3g (k1:shiftKind)(a:Int)(b:Int):Option (aN) :=
 some k1.use
def Z3h (k1:shiftKind)(a:Int)(b:Int):Option (aN) :=
 some k1.use
def fM (r:kindOfR):Option (aN) :=
 if Nat.beq r.t 0=true then none else (if Nat.beq r.t 1=true then Z3c (⟨r.b0⟩:leafKind) else (if Nat.beq r.t 2=true then Z3d (⟨r.i0⟩:pairKind) else (if Nat.beq r.t 3=true then Z3k (⟨r.i0⟩:soloKind) else (if Nat.beq r.t 4=true then Z3l (⟨⟩:topKind) else (if Nat.beq r.t 5=true then Z3b (⟨⟩:formKind) else (if Nat.beq r.t 6=true then Z3i (⟨r.s0⟩:shiftKind) else (if Nat.beq r.t 7=true then Z3j (⟨r.s0⟩:shiftKind) else (if Nat.beq r.t 8=true then Z3e (⟨r.s0⟩:shiftKind) r.i0 r.i1 else (if Nat.beq r.t 9=true then Z3f (⟨r.s0⟩:shiftKind) r.i0 r.i1 else (if Nat.beq r.t 10=true then Z3g (⟨r.s0⟩:shiftKind) r.i0 r.i1 else (Z3h (⟨r.s0⟩:shiftKind) r.i0 r.i1)))))))))))
def cO (a b:aN):Option (Int) :=
 if a.length<4294967281 then some (Lib.index a b) else none
def Z29 (p1:aN)(a:aN):Option (Int) :=
 (cO p1 a).bind fun b =>
 some b
def Z3n (p1:aN)(a:aN):Option (Bool) :=
 (Z29 p1 a).bind fun b =>
 some (decide (b≥0))
def Z7 (a:aN)(b:aN):Option (Bool) :=
 (Z3n b a).bind fun e =>
 some e
def Z1u (b:Node)(a:aN):Option (Bool) :=
 (Z7 gX a).bind fun h =>
 (bR (h||((b.Dims.length:Int)==0)) (Z7 eN a)).bind fun e =>
 (bR ((h||((b.Dims.length:Int)==0))&&(e||((b.Ints.length:Int)==0))) (Z7 ki a)).bind fun g =>
 (bR (((h||((b.Dims.length:Int)==0))&&(e||((b.Ints.length:Int)==0)))&&(g||(b.Form==([]:aN)))) (Z7 oa a)).bind fun i =>
 some ((((h||((b.Dims.length:Int)==0))&&(e||((b.Ints.length:Int)==0)))&&(g||(b.Form==([]:aN))))&&(i||((b.Data.length:Int)==0)))
def Zd_J1 (a:(List Int)):Option (Bool) :=
 some (decide ((a.length:Int)≤6))
def Zd_L1 (a:(List Int))(e:Int)(b:Int):Option ((Int×Int)⊕((Bool)⊕(Unit))) :=
 if (decide (b<(a.length:Int)))=true then (
 if (0≤b∧b<(a.length:Int)) then
 if ((decide ((ix a b)<1))||(decide ((ix a b)>4096)))=true then (
 some (.inr (.inl false)))
 else (
 if (decide ((aH (e*(ix a b)))>4096))=true then (
 some (.inr (.inl false)))
 else (
 some (.inl ((aH (e*(ix a b))),(aH (b+1))))))
 else none)
 else (
 some (.inr (.inr ())))
def Zd (a:(List Int)):Option (Bool) :=
 (aQ (fun s:Int×Int=>Zd_L1 a s.1 s.2) ((1:Int),(0:Int))).bind fun e=>match e with
 | .inl e=>some e
 | .inr e=>Zd_J1 a
def Z9_J1 (a:Int):Option (Int) :=
 some a
def Z9_L1 (a:(List Int))(e:Int)(b:Int):Option ((Int×Int)⊕(Int)) :=
 if (decide (b<(a.length:Int)))=true then (
 if (0≤b∧b<(a.length:Int)) then
 some (.inl ((aH (e*(ix a b))),(aH (b+1))))
 else none)
 else (
 some (.inr e))
def Z9 (a:(List Int)):Option (Int) :=
 (aQ (fun s:Int×Int=>Z9_L1 a s.1 s.2) ((1:Int),(0:Int))).bind fun e=>Z9_J1 e
def Z2z (p1:Int):Option (Bool) :=
 some ((decide (p1≥0))&&(decide (p1<2147483647)))
def Z13_J1:Option (Bool) :=
 some true
def Z13_L1 (b:(List Int))(a:Int):Option ((Int)⊕((Bool)⊕(Unit))) :=
 if (decide (a<(b.length:Int)))=true then (
 if (0≤a∧a<(b.length:Int)) then
 (Z2z (ix b a)).bind fun e =>
 if (!e)=true then (
 some (.inr (.inl false)))
 else (
 some (.inl (aH (a+1))))
 else none)
 else (
 some (.inr (.inr ())))
def Z13 (a:(List Int)):Option (Bool) :=
 (aQ (fun s:Int=>Z13_L1 a s) (0:Int)).bind fun e=>match e with
 | .inl e=>some e
 | .inr e=>Z13_J1
def Z2g (t1:Tensor):Option (Bool) :=
 (Zd t1.Dims).bind fun a =>
 (bR a (Z9 t1.Dims)).bind fun b =>
 (bR (a&&((t1.Data.length:Int)==b)) (Z13 t1.Data)).bind fun e =>
 some ((a&&((t1.Data.length:Int)==b))&&e)
def Z1i (k1:leafKind)(e:Node)(a:(List (List Int))):Option ((List Int)×Bool) :=
 (bR (!((a.length:Int) != 0)) (Zd e.Dims)).bind fun b =>
 (bR ((!(((a.length:Int) != 0)||(!b)))&&k1.data) (Z2g (⟨e.Dims,e.Data⟩:Tensor))).bind fun g =>
 if ((((a.length:Int) != 0)||(!b))||(k1.data&&(!g)))=true then (
 some (([]:List Int),false))
 else (
 some (e.Dims,true))
def Z10_J1:Option (Bool) :=
 some true
def Z10_L1 (b:(List Int))(e:(List Int))(a:Int):Option ((Int)⊕((Bool)⊕(Unit))) :=
 if (decide (a<(b.length:Int)))=true then (
 if (0≤a∧a<(b.length:Int)) then
 if (0≤a∧a<(e.length:Int)) then
 if ((ix b a) != (ix e a))=true then (
 some (.inr (.inl false)))
 else (
 some (.inl (aH (a+1))))
 else none
 else none)
 else (
 some (.inr (.inr ())))
def Z10 (a:(List Int))(b:(List Int)):Option (Bool) :=
 if ((a.length:Int) != (b.length:Int))=true then (
 some false)
 else (
 (aQ (fun s:Int=>Z10_L1 a b s) (0:Int)).bind fun e=>match e with
 | .inl e=>some e
 | .inr e=>Z10_J1)
def Z21 (k1:pairKind)(e:Node)(a:(List (List Int))):Option ((List Int)×Bool) :=
 if ((a.length:Int) != 2)=false→(0≤(0:Int)∧(0:Int)<(a.length:Int)) then
 if ((a.length:Int) != 2)=false→(0≤(1:Int)∧(1:Int)<(a.length:Int)) then
 (bR (!((a.length:Int) != 2)) (Z10 (ix a 0) (ix a 1))).bind fun b =>
 if (((a.length:Int) != 2)||(!b))=true then (
 some (([]:List Int),false))
 else (
 if (0≤(0:Int)∧(0:Int)<(a.length:Int)) then
 some ((ix a 0),true)
 else none)
 else none
 else none
def Z2p (k1:soloKind)(b:Node)(a:(List (List Int))):Option ((List Int)×Bool) :=
 if ((a.length:Int) != 1)=true then (
 some (([]:List Int),false))
 else (
 if (0≤(0:Int)∧(0:Int)<(a.length:Int)) then
 some ((ix a 0),true)
 else none)
def Zm (b:(List Int))(a:Int):Option (Bool) :=
 some ((decide (a≥0))&&(decide (a<(b.length:Int))))
def Z1v (k1:topKind)(b:Node)(a:(List (List Int))):Option ((List Int)×Bool) :=
 if (((a.length:Int) != 1)||((b.Ints.length:Int) != 1))=false→(0≤(0:Int)∧(0:Int)<(a.length:Int)) then
 if (((a.length:Int) != 1)||((b.Ints.length:Int) != 1))=false→(0≤(0:Int)∧(0:Int)<(b.Ints.length:Int)) then
 (bR (!(((a.length:Int) != 1)||((b.Ints.length:Int) != 1))) (Zm (ix a 0) (ix b.Ints 0))).bind fun e =>
 if ((((a.length:Int) != 1)||((b.Ints.length:Int) != 1))||(!e))=true then (
 some (([]:List Int),false))
 else (
 if (0≤(0:Int)∧(0:Int)<(a.length:Int)) then
 some ((ix a 0),true)
 else none)
 else none
 else none
def dY (p1:aN)(a:aN):Option (aN×aN×Bool) :=
 (cO p1 a).bind fun b =>
 if (decide (b≥0))=true then (
 if (0≤(0:Int)∧(0:Int)≤b∧b≤(p1.length:Int)) then
 if (0≤(aH (b+(a.length:Int)))∧(aH (b+(a.length:Int)))≤(p1.length:Int)∧(p1.length:Int)≤(p1.length:Int)) then
 some ((sub p1 (0:Int) b),(sub p1 (aH (b+(a.length:Int))) (p1.length:Int)),true)
 else none
 else none)
 else (
 some (p1,([]:aN),false))
def Z2w (p1:aN)(a:aN):Option (aN×aN×Bool) :=
 (dY p1 a).bind fun b =>
 some (b.1,b.2.1,b.2.2)
def Z36 (a b:aN):Option (Int) :=
 match b with
 | [c]=>some (Lib.countByte a c)
 | _=>none
def Z0l_J3 (p1:aN)(b:Int)(g:aN)(e:(List aN))(a:Int):Option ((List aN)) :=
 if (0≤a∧a<((List.replicate (if (aH ((p1.length:Int)+1))<b then (aH ((p1.length:Int)+1)) else b).toNat ([]:aN)).length:Int)) then
 if (0≤(0:Int)∧(0:Int)≤(aH (a+1))∧(aH (a+1))≤((List.replicate (if (aH ((p1.length:Int)+1))<b then (aH ((p1.length:Int)+1)) else b).toNat ([]:aN)).length:Int)) then
 some (sub (e.set a.toNat g) (0:Int) (aH (a+1)))
 else none
 else none
def Z0l_L1 (p1:aN)(h:aN)(a:Int)(i:Int)(b:aN)(j:(List aN))(e:Int):Option ((aN×(List aN)×Int)⊕(aN×(List aN)×Int)) :=
 if (decide (e<(aH ((if (aH ((p1.length:Int)+1))<i then (aH ((p1.length:Int)+1)) else i) - 1))))=true then (
 (Z29 b h).bind fun g =>
 if (decide (g<0))=true then (
 some (.inr (b,j,e)))
 else (
 if (0≤(0:Int)∧(0:Int)≤(aH (g+a))∧(aH (g+a))≤(b.length:Int)) then
 if (0≤e∧e<((List.replicate (if (aH ((p1.length:Int)+1))<i then (aH ((p1.length:Int)+1)) else i).toNat ([]:aN)).length:Int)) then
 (nm (j.set e.toNat (sub b (0:Int) (aH (g+a))))).bind fun l =>
 if (0≤(aH (g+(h.length:Int)))∧(aH (g+(h.length:Int)))≤(b.length:Int)∧(b.length:Int)≤(b.length:Int)) then
 some (.inl ((sub b (aH (g+(h.length:Int))) (b.length:Int)),l,(aH (e+1))))
 else none
 else none
 else none))
 else (
 some (.inr (b,j,e)))
def Z0l_J2 (p1:aN)(g:aN)(b:Int)(a:Int):Option ((List aN)) :=
 if (0≤(if (aH ((p1.length:Int)+1))<a then (aH ((p1.length:Int)+1)) else a)∧(if (aH ((p1.length:Int)+1))<a then (aH ((p1.length:Int)+1)) else a)≤140737488355328∧16*(if (aH ((p1.length:Int)+1))<a then (aH ((p1.length:Int)+1)) else a)≤281474976710656) then
 (aQ (fun s:aN×(List aN)×Int=>Z0l_L1 p1 g b a s.1 s.2.1 s.2.2) (p1,(List.replicate (if (aH ((p1.length:Int)+1))<a then (aH ((p1.length:Int)+1)) else a).toNat ([]:aN)),(0:Int))).bind fun e=>Z0l_J3 p1 a e.1 e.2.1 e.2.2
 else none
def Z0l (p1:aN)(b:aN)(a:Int)(e:Int):Option ((List aN)) :=
 if (e==0)=true then (
 some ([]:List aN))
 else (
 if (b==([]:aN))=true then (
 none)
 else (
 if (decide (e<0))=true then (
 (Z36 p1 b).bind fun g =>
 Z0l_J2 p1 b a (aH (g+1)))
 else (
 Z0l_J2 p1 b a e)))
def Z2x (p1:aN)(a:aN):Option ((List aN)) :=
 (Z0l p1 a (0:Int) (-1:Int)).bind fun b =>
 some b
def dE (b:aN)(a:Int):Option (Int) :=
 some (Lib.indexByte b a.toNat.toUInt8)
def Z1r (p1:aN)(a:Int):Option (Int) :=
 (dE p1 a).bind fun b =>
 some b
def Zf_J4 (a:aN×aN×Bool)(b:(List aN)):Option ((List aN)×aN×Bool) :=
 some (b,a.2.1,true)
def Zf_L3 (b:aN×aN×Bool)(a:Int):Option ((Int)⊕(((List aN)×aN×Bool)⊕(Unit))) :=
 if (decide (a<(b.2.1.length:Int)))=true then (
 if (0≤a∧a<(b.2.1.length:Int)) then
 if ((decide ((bt b.2.1 a)<97))||(decide ((bt b.2.1 a)>122)))=false→(0≤(0:Int)∧(0:Int)≤a∧a≤(b.2.1.length:Int)) then
 (bR (!((decide ((bt b.2.1 a)<97))||(decide ((bt b.2.1 a)>122)))) (Z1r (sub b.2.1 (0:Int) a) (bt b.2.1 a))).bind fun e =>
 (bR (!(((decide ((bt b.2.1 a)<97))||(decide ((bt b.2.1 a)>122)))||(decide (e≥0)))) (Z1r b.1 (bt b.2.1 a))).bind fun g =>
 if ((((decide ((bt b.2.1 a)<97))||(decide ((bt b.2.1 a)>122)))||(decide (e≥0)))||(decide (g<0)))=true then (
 some (.inr (.inl (([]:List aN),([]:aN),false))))
 else (
 some (.inl (aH (a+1))))
 else none
 else none)
 else (
 some (.inr (.inr ())))
def Zf_J3 (a:aN×aN×Bool)(b:(List aN)):Option ((List aN)×aN×Bool) :=
 (aQ (fun s:Int=>Zf_L3 a s) (0:Int)).bind fun e=>match e with
 | .inl e=>some e
 | .inr e=>Zf_J4 a b
def Zf_J2 (a:Int):Option ((Int)⊕(((List aN)×aN×Bool)⊕(Unit))) :=
 some (.inl (aH (a+1)))
def Zf_L2 (e:(List aN))(b:Int)(a:Int):Option ((Int)⊕(((List aN)×aN×Bool)⊕(Unit))) :=
 if (decide (a<((ix e b).length:Int)))=true then (
 if (0≤a∧a<((ix e b).length:Int)) then
 if ((decide ((bt (ix e b) a)<97))||(decide ((bt (ix e b) a)>122)))=true then (
 some (.inr (.inl (([]:List aN),([]:aN),false))))
 else (
 some (.inl (aH (a+1))))
 else none)
 else (
 some (.inr (.inr ())))
def Zf_L1 (b:(List aN))(a:Int):Option ((Int)⊕(((List aN)×aN×Bool)⊕(Unit))) :=
 if (decide (a<(b.length:Int)))=true then (
 if (0≤a∧a<(b.length:Int)) then
 if (decide (((ix b a).length:Int)>6))=true then (
 some (.inr (.inl (([]:List aN),([]:aN),false))))
 else (
 (aQ (fun s:Int=>Zf_L2 b a s) (0:Int)).bind fun e=>match e with
 | .inl e=>some (.inr (.inl e))
 | .inr e=>Zf_J2 a)
 else none)
 else (
 some (.inr (.inr ())))
def Zf (a:aN):Option ((List aN)×aN×Bool) :=
 (Z2w a str0).bind fun b =>
 if ((!b.2.2)||(decide ((b.2.1.length:Int)>6)))=true then (
 some (([]:List aN),([]:aN),false))
 else (
 (Z2x b.1 str6).bind fun g =>
 if (decide ((g.length:Int)>6))=true then (
 some (([]:List aN),([]:aN),false))
 else (
 (aQ (fun s:Int=>Zf_L1 g s) (0:Int)).bind fun e=>match e with
 | .inl e=>some e
 | .inr e=>Zf_J3 b g))
def Zp (a:List Int):Option (List Int) :=
 if a.length≤17592186044416 then some a else none
def Z05_J3 (a:(List Int)):Option ((List Int)) :=
 some a
def Z05_J2 (a:(List Int))(e:Int)(b:Int)(g:(List Int)):Option (((List Int)×Int×Int)⊕((List Int))) :=
 if (0≤b∧b<(a.length:Int)) then
 some (.inl (g,(aH (e*(ix a b))),(aH (b - 1))))
 else none
def Z05_L1 (a:(List Int))(g:(List Int))(e:Int)(b:Int):Option (((List Int)×Int×Int)⊕((List Int))) :=
 if (decide (b≥0))=true then (
 if (0≤b∧b<(a.length:Int)) then
 if (decide ((ix a b)>1))=true then (
 if (0≤b∧b<((List.replicate (a.length:Int).toNat (0:Int)).length:Int)) then
 Z05_J2 a e b (g.set b.toNat e)
 else none)
 else (
 Z05_J2 a e b g)
 else none)
 else (
 some (.inr g))
def Z05 (a:(List Int)):Option ((List Int)) :=
 if (0≤(a.length:Int)∧(a.length:Int)≤140737488355328∧8*(a.length:Int)≤281474976710656) then
 (aQ (fun s:(List Int)×Int×Int=>Z05_L1 a s.1 s.2.1 s.2.2) ((List.replicate (a.length:Int).toNat (0:Int)),(1:Int),(aH ((a.length:Int) - 1)))).bind fun e=>Z05_J3 e
 else none
def Zl_J7 (a:(List Int)):Option ((List Int)) :=
 some a
def Zl_J6 (a:Int)(b:(List Int)):Option (((List Int)×Int)⊕((List Int))) :=
 some (.inl (b,(aH (a+1))))
def Zl_J5 (mZ:Int)(a:(List Int)):Option (((List Int)×Int)⊕((List Int))) :=
 some (.inl (a,(aH (mZ+1))))
def Zl_L2 (f1:form)(a:aN)(e:(List Int))(b:Int)(g:(List Int))(mZ:Int):Option (((List Int)×Int)⊕((List Int))) :=
 if (decide (mZ<(a.length:Int)))=true then (
 if (0≤mZ∧mZ<(a.length:Int)) then
 if (0≤b∧b<(f1.order.length:Int)) then
 if ((bt a mZ)==(bt f1.order b))=true then (
 if (0≤b∧b<((List.replicate (f1.order.length:Int).toNat (0:Int)).length:Int)) then
 if (0≤mZ∧mZ<(e.length:Int)) then
 Zl_J5 mZ (g.set b.toNat (aH ((ix g b)+(ix e mZ))))
 else none
 else none)
 else (
 Zl_J5 mZ g)
 else none
 else none)
 else (
 some (.inr g))
def Zl_L1 (f1:form)(a:aN)(b:(List Int))(h:(List Int))(g:Int):Option (((List Int)×Int)⊕((List Int))) :=
 if (decide (g<((List.replicate (f1.order.length:Int).toNat (0:Int)).length:Int)))=true then (
 (aQ (fun s:(List Int)×Int=>Zl_L2 f1 a b g s.1 s.2) (h,(0:Int))).bind fun e=>Zl_J6 g e)
 else (
 some (.inr h))
def Zl (f1:form)(a:aN)(b:(List Int)):Option ((List Int)) :=
 if (0≤(f1.order.length:Int)∧(f1.order.length:Int)≤140737488355328∧8*(f1.order.length:Int)≤281474976710656) then
 (aQ (fun s:(List Int)×Int=>Zl_L1 f1 a b s.1 s.2) ((List.replicate (f1.order.length:Int).toNat (0:Int)),(0:Int))).bind fun e=>Zl_J7 e
 else none
def Z0_J9 (i:(List aN)×aN×Bool)(b:aN)(e:(List Int))(a:(List Int))(f224:(List (List Int))):Option (form×Bool) :=
 (Z05 a).bind fun g =>
 (Zl (⟨i.1,i.2.1,b,e,a,f224,([]:List Int)⟩:form) i.2.1 g).bind fun h =>
 some ((⟨i.1,i.2.1,b,e,a,f224,h⟩:form),true)
def Z0_L4 (b:(List (List Int)))(m:(List aN)×aN×Bool)(h:aN)(i:(List Int))(j:(List Int))(e:(List (List Int)))(a:Int):Option (((List (List Int))×Int)⊕((List (List Int)))) :=
 if (decide (a<(m.1.length:Int)))=true then (
 if (0≤a∧a<(m.1.length:Int)) then
 if (0≤a∧a<(b.length:Int)) then
 (Z05 (ix b a)).bind fun l =>
 (Zl (⟨m.1,m.2.1,h,i,j,e,([]:List Int)⟩:form) (ix m.1 a) l).bind fun g =>
 if e.length+([g]:List (List Int)).length≤5864062014805 then
 some (.inl ((e++([g]:List (List Int))),(aH (a+1))))
 else none
 else none
 else none)
 else (
 some (.inr e))
def Z0_J8 (g:(List (List Int)))(j:(List aN)×aN×Bool)(h:aN)(a:(List Int)):Option (form×Bool) :=
 if (0≤(0:Int)∧(0:Int)≤(j.2.1.length:Int)∧(j.2.1.length:Int)≤(a.length:Int)) then
 (Zp (sub a (0:Int) (j.2.1.length:Int))).bind fun b =>
 (Zd b).bind fun i =>
 if (!i)=true then (
 some ((⟨([]:List aN),([]:aN),([]:aN),([]:List Int),([]:List Int),([]:List (List Int)),([]:List Int)⟩:form),false))
 else (
 (aQ (fun s:(List (List Int))×Int=>Z0_L4 g j h a b s.1 s.2) (([]:List (List Int)),(0:Int))).bind fun e=>Z0_J9 j h a b e)
 else none
def Z0_L3 (e:aN)(b:(List Int))(h:(List Int))(g:Int)(a:Int):Option (((List Int)×Int×Int)⊕((form×Bool)⊕((List Int)))) :=
 if (decide (a<(e.length:Int)))=true then (
 if (0≤a∧a<(e.length:Int)) then
 if (0≤(IntKind.wrap .u8 ((bt e a) - 97))∧(IntKind.wrap .u8 ((bt e a) - 97))<26) then
 if h.length+([(ix b (IntKind.wrap .u8 ((bt e a) - 97)))]:List Int).length≤17592186044416 then
 if (decide ((aH (g*(ix b (IntKind.wrap .u8 ((bt e a) - 97)))))>65536))=true then (
 some (.inr (.inl ((⟨([]:List aN),([]:aN),([]:aN),([]:List Int),([]:List Int),([]:List (List Int)),([]:List Int)⟩:form),false))))
 else (
 some (.inl ((h++([(ix b (IntKind.wrap .u8 ((bt e a) - 97)))]:List Int)),(aH (g*(ix b (IntKind.wrap .u8 ((bt e a) - 97))))),(aH (a+1)))))
 else none
 else none
 else none)
 else (
 some (.inr (.inr h)))
def Z0_J7 (b:(List (List Int)))(h:(List aN)×aN×Bool)(g:aN)(a:(List Int)):Option (form×Bool) :=
 (aQ (fun s:(List Int)×Int×Int=>Z0_L3 g a s.1 s.2.1 s.2.2) (([]:List Int),(1:Int),(0:Int))).bind fun e=>match e with
 | .inl e=>some e
 | .inr e=>Z0_J8 b h g e
def Z0_J6 (e:Int)(b:aN)(a:(List Int)):Option ((aN×(List Int)×Int)⊕((form×Bool)⊕(aN×(List Int)))) :=
 some (.inl (b,a,(aH (e+1))))
def Z0_J5 (e:Int)(b:aN)(a:(List Int)):Option ((aN×(List Int)×Int)⊕((form×Bool)⊕(aN×(List Int)))) :=
 some (.inl (b,a,(aH (e+1))))
def Z0_L2 (g:(List (List Int)))(i:(List aN)×aN×Bool)(e:Int)(h:aN)(b:(List Int))(a:Int):Option ((aN×(List Int)×Int)⊕((form×Bool)⊕(aN×(List Int)))) :=
 if (decide (a<((ix i.1 e).length:Int)))=true then (
 if (0≤a∧a<((ix i.1 e).length:Int)) then
 if (0≤(IntKind.wrap .u8 ((bt (ix i.1 e) a) - 97))∧(IntKind.wrap .u8 ((bt (ix i.1 e) a) - 97))<26) then
 if ((ix b (IntKind.wrap .u8 ((bt (ix i.1 e) a) - 97))) != 0)=true→(0≤a∧a<((ix g e).length:Int)) then
 if (((ix b (IntKind.wrap .u8 ((bt (ix i.1 e) a) - 97))) != 0)&&((ix b (IntKind.wrap .u8 ((bt (ix i.1 e) a) - 97))) != (ix (ix g e) a)))=true then (
 some (.inr (.inl ((⟨([]:List aN),([]:aN),([]:aN),([]:List Int),([]:List Int),([]:List (List Int)),([]:List Int)⟩:form),false))))
 else (
 if (0≤a∧a<((ix g e).length:Int)) then
 (nm (b.set (IntKind.wrap .u8 ((bt (ix i.1 e) a) - 97)).toNat (ix (ix g e) a))).bind fun j =>
 (Z1r h (bt (ix i.1 e) a)).bind fun l =>
 if (decide (l<0))=true then (
 if (0≤a∧a≤(aH (a+1))∧(aH (a+1))≤((ix i.1 e).length:Int)) then
 if h.length+(sub (ix i.1 e) a (aH (a+1))).length≤9223372036854775807 then
 Z0_J5 a (h++(sub (ix i.1 e) a (aH (a+1)))) j
 else none
 else none)
 else (
 Z0_J5 a h j)
 else none)
 else none
 else none
 else none)
 else (
 some (.inr (.inr (h,b))))
def Z0_L1 (a:(List (List Int)))(i:(List aN)×aN×Bool)(h:aN)(g:(List Int))(b:Int):Option ((aN×(List Int)×Int)⊕((form×Bool)⊕(aN×(List Int)))) :=
 if (decide (b<(i.1.length:Int)))=true then (
 if (0≤b∧b<(i.1.length:Int)) then
 if (0≤b∧b<(a.length:Int)) then
 if (((ix i.1 b).length:Int) != ((ix a b).length:Int))=true then (
 some (.inr (.inl ((⟨([]:List aN),([]:aN),([]:aN),([]:List Int),([]:List Int),([]:List (List Int)),([]:List Int)⟩:form),false))))
 else (
 (aQ (fun s:aN×(List Int)×Int=>Z0_L2 a i b s.1 s.2.1 s.2.2) (h,g,(0:Int))).bind fun e=>match e with
 | .inl e=>some (.inr (.inl e))
 | .inr e=>Z0_J6 b e.1 e.2)
 else none
 else none)
 else (
 some (.inr (.inr (h,g))))
def Z0 (b:aN)(a:(List (List Int))):Option (form×Bool) :=
 (Zf b).bind fun g =>
 if ((!g.2.2)||((g.1.length:Int) != (a.length:Int)))=true then (
 some ((⟨([]:List aN),([]:aN),([]:aN),([]:List Int),([]:List Int),([]:List (List Int)),([]:List Int)⟩:form),false))
 else (
 (aQ (fun s:aN×(List Int)×Int=>Z0_L1 a g s.1 s.2.1 s.2.2) (g.2.1,(List.replicate 26 (0:Int)),(0:Int))).bind fun e=>match e with
 | .inl e=>some e
 | .inr e=>Z0_J7 a g e.1 e.2)
def Z2o (k1:formKind)(e:Node)(a:(List (List Int))):Option ((List Int)×Bool) :=
 (Z0 e.Form a).bind fun b =>
 some (b.1.dims,b.2)
def Z2i (a:(List Int)):Option (View) :=
 (Zd a).bind fun g =>
 if (!g)=true then (
 some (⟨([]:List Int),([]:List Int),(0:Int),(0:Int)⟩:View))
 else (
 (Zp a).bind fun h =>
 (Z05 a).bind fun b =>
 (Z9 a).bind fun e =>
 some (⟨h,b,(0:Int),e⟩:View))
def Zi_J1 (v1:View)(b:Int)(a:Int):Option (Bool) :=
 some ((decide (b≥0))&&(decide (a<v1.Base)))
def Zi_L1 (v1:View)(e:Int)(b:Int)(a:Int):Option ((Int×Int×Int)⊕((Bool)⊕(Int×Int))) :=
 if (decide (a<(v1.Strides.length:Int)))=true then (
 if (0≤a∧a<(v1.Strides.length:Int)) then
 if ((decide ((ix v1.Strides a)<(-4096:Int)))||(decide ((ix v1.Strides a)>4096)))=true then (
 some (.inr (.inl false)))
 else (
 if (0≤a∧a<(v1.Dims.length:Int)) then
 some (.inl ((aH (e+(if (aH ((ix v1.Strides a)*(aH ((ix v1.Dims a) - 1))))<0 then (aH ((ix v1.Strides a)*(aH ((ix v1.Dims a) - 1)))) else (0:Int)))),(aH (b+(if (aH ((ix v1.Strides a)*(aH ((ix v1.Dims a) - 1))))>0 then (aH ((ix v1.Strides a)*(aH ((ix v1.Dims a) - 1)))) else (0:Int)))),(aH (a+1))))
 else none)
 else none)
 else (
 some (.inr (.inr (e,b))))
def Zi (v1:View):Option (Bool) :=
 (Zd v1.Dims).bind fun a =>
 if ((((((!a)||((v1.Strides.length:Int) != (v1.Dims.length:Int)))||(decide (v1.Base<1)))||(decide (v1.Base>4096)))||(decide (v1.Offset<0)))||(decide (v1.Offset≥v1.Base)))=true then (
 some false)
 else (
 (aQ (fun s:Int×Int×Int=>Zi_L1 v1 s.1 s.2.1 s.2.2) (v1.Offset,v1.Offset,(0:Int))).bind fun e=>match e with
 | .inl e=>some e
 | .inr e=>Zi_J1 v1 e.1 e.2)
def Z08_J3 (p1:View)(b:(List Int))(a:(List Int)):Option (Bool×View) :=
 some (true,(⟨b,a,p1.Offset,p1.Base⟩:View))
def Z08_J2 (a:Int)(b:(List Int)):Option (((List Int)×Int)⊕((Bool×View)⊕((List Int)))) :=
 some (.inl (b,(aH (a+1))))
def Z08_L1 (p1:View)(e:(List Int))(b:View)(i:(List Int))(g:(List Int))(a:Int):Option (((List Int)×Int)⊕((Bool×View)⊕((List Int)))) :=
 if (decide (a<(b.Dims.length:Int)))=true then (
 if (0≤a∧a<(b.Dims.length:Int)) then
 if (0≤(aH ((aH ((e.length:Int) - (b.Dims.length:Int)))+a))∧(aH ((aH ((e.length:Int) - (b.Dims.length:Int)))+a))<(e.length:Int)) then
 if ((ix b.Dims a)==(ix e (aH ((aH ((e.length:Int) - (b.Dims.length:Int)))+a))))=true then (
 if (0≤a∧a<(b.Strides.length:Int)) then
 if (0≤(aH ((aH ((e.length:Int) - (b.Dims.length:Int)))+a))∧(aH ((aH ((e.length:Int) - (b.Dims.length:Int)))+a))<((List.replicate (e.length:Int).toNat (0:Int)).length:Int)) then
 (nm (g.set (aH ((aH ((e.length:Int) - (b.Dims.length:Int)))+a)).toNat (ix b.Strides a))).bind fun h =>
 Z08_J2 a h
 else none
 else none)
 else (
 if ((ix b.Dims a) != 1)=true then (
 some (.inr (.inl (false,(⟨i,g,p1.Offset,p1.Base⟩:View)))))
 else (
 Z08_J2 a g))
 else none
 else none)
 else (
 some (.inr (.inr g)))
def Z08 (p1:View)(a:(List Int))(h:View):Option (Bool×View) :=
 (Zd a).bind fun g =>
 if ((!g)||(decide ((a.length:Int)<(h.Dims.length:Int))))=true then (
 some (false,p1))
 else (
 (Zp a).bind fun b =>
 if (0≤(a.length:Int)∧(a.length:Int)≤140737488355328∧8*(a.length:Int)≤281474976710656) then
 (aQ (fun s:(List Int)×Int=>Z08_L1 p1 a h b s.1 s.2) ((List.replicate (a.length:Int).toNat (0:Int)),(0:Int))).bind fun e=>match e with
 | .inl e=>some e
 | .inr e=>Z08_J3 p1 b e
 else none)
def Z32 (v1:View)(i:(List Int))(j:View):Option (View) :=
 (Zi v1).bind fun b =>
 if (!b)=true then (
 some (⟨([]:List Int),([]:List Int),(0:Int),(0:Int)⟩:View))
 else (
 (Zp v1.Dims).bind fun e =>
 (Zp v1.Strides).bind fun g =>
 (Z08 (⟨e,g,v1.Offset,v1.Base⟩:View) i j).bind fun a =>
 (bR (!(!a.1)) (Zi a.2)).bind fun h =>
 if ((!a.1)||(!h))=true then (
 some (⟨([]:List Int),([]:List Int),(0:Int),(0:Int)⟩:View))
 else (
 some a.2))
def Z2b (v1:View)(a:(List Int)):Option (View) :=
 (Z32 v1 a v1).bind fun b =>
 some b
def Z0y_J3 (v1:View)(a:Int)(b:Int)(e:Int):Option (View) :=
 if (0≤a∧a<(v1.Dims.length:Int)) then
 if (0≤a∧a<(v1.Strides.length:Int)) then
 some (⟨(v1.Dims.set a.toNat b),(v1.Strides.set a.toNat e),v1.Offset,v1.Base⟩:View)
 else none
 else none
def Z0y (v1:View)(b:Int)(a:Int)(e:Int):Option (View) :=
 if (a==1)=true then (
 Z0y_J3 v1 b a (0:Int))
 else (
 Z0y_J3 v1 b a e)
def Z1g_J3 (p1:View)(a:Int)(g:Int)(h:Int)(b:Int):Option (Bool×View×Int) :=
 if (0≤a∧a<(p1.Strides.length:Int)) then
 (Z0y (⟨p1.Dims,p1.Strides,(aH (p1.Offset+(aH (h*(ix p1.Strides a))))),p1.Base⟩:View) a g (aH ((ix p1.Strides a)*b))).bind fun e =>
 some (true,e,b)
 else none
def Z1g (p1:View)(b:Int)(e:Int)(g:Int)(a:Int):Option (Bool×View×Int) :=
 (Zm p1.Dims b).bind fun h =>
 if (((!h)||(decide (e<1)))||(decide (e>4096)))=true then (
 some (false,p1,a))
 else (
 if (0≤b∧b<(p1.Dims.length:Int)) then
 if ((((decide (g<0))||(decide (g≥(ix p1.Dims b))))||(decide (a<(-4096:Int))))||(decide (a>4096)))=true then (
 some (false,p1,a))
 else (
 if (decide (e>1))=true then (
 if ((decide ((aH (g+(aH (a*(aH (e - 1))))))<0))||(decide ((aH (g+(aH (a*(aH (e - 1))))))≥(ix p1.Dims b))))=true then (
 some (false,p1,a))
 else (
 Z1g_J3 p1 b e g a))
 else (
 Z1g_J3 p1 b e g (0:Int)))
 else none)
def Z31 (v1:View)(j:Int)(l:Int)(m:Int)(b:Int):Option (View×Int) :=
 (Zi v1).bind fun e =>
 if (!e)=true then (
 some ((⟨([]:List Int),([]:List Int),(0:Int),(0:Int)⟩:View),b))
 else (
 (Zp v1.Dims).bind fun g =>
 (Zp v1.Strides).bind fun h =>
 (Z1g (⟨g,h,v1.Offset,v1.Base⟩:View) j l m b).bind fun a =>
 (bR (!(!a.1)) (Zi a.2.1)).bind fun i =>
 if ((!a.1)||(!i))=true then (
 some ((⟨([]:List Int),([]:List Int),(0:Int),(0:Int)⟩:View),a.2.2))
 else (
 some (a.2.1,a.2.2)))
def Z2a (v1:View)(b:Int)(h:Int)(a:Int)(e:Int):Option (View) :=
 (Z31 v1 b a h e).bind fun g =>
 some g.1
def Z2h (v1:View)(a:Int)(b:Int):Option (View) :=
 if v1.Dims.length+([(0:Int)]:List Int).length≤17592186044416 then
 if v1.Strides.length+([(0:Int)]:List Int).length≤17592186044416 then
 (Z0y (⟨(v1.Dims++([(0:Int)]:List Int)),(v1.Strides++([(0:Int)]:List Int)),v1.Offset,v1.Base⟩:View) (aH (((v1.Dims++([(0:Int)]:List Int)).length:Int) - 1)) a b).bind fun e =>
 some e
 else none
 else none
def Z1h_J3 (p1:View)(b:Int)(h:Int)(i:Int)(a:Int):Option (Bool×View×Int) :=
 (Z0y p1 b (aH ((aH ((aH ((ix p1.Dims b) - h)).tdiv i))+1)) (aH ((ix p1.Strides b)*a))).bind fun e =>
 (Z2h e h (ix p1.Strides b)).bind fun g =>
 some (true,g,a)
def Z1h (p1:View)(a:Int)(e:Int)(b:Int):Option (Bool×View×Int) :=
 (Zm p1.Dims a).bind fun g =>
 if (((!g)||(decide (e<1)))||(decide (b<1)))=false→(0≤a∧a<(p1.Dims.length:Int)) then
 if ((((!g)||(decide (e<1)))||(decide (b<1)))||(decide (e>(ix p1.Dims a))))=true then (
 some (false,p1,b))
 else (
 if (0≤a∧a<(p1.Strides.length:Int)) then
 if (0≤a∧a<(p1.Dims.length:Int)) then
 if b≠0 then
 if ((aH ((aH ((aH ((ix p1.Dims a) - e)).tdiv b))+1))==1)=true then (
 Z1h_J3 p1 a e b (0:Int))
 else (
 Z1h_J3 p1 a e b b)
 else none
 else none
 else none)
 else none
def Z33 (v1:View)(j:Int)(l:Int)(i:Int):Option (View×Int) :=
 (Zi v1).bind fun b =>
 if (!b)=true then (
 some ((⟨([]:List Int),([]:List Int),(0:Int),(0:Int)⟩:View),i))
 else (
 (Zp v1.Dims).bind fun e =>
 (Zp v1.Strides).bind fun g =>
 (Z1h (⟨e,g,v1.Offset,v1.Base⟩:View) j l i).bind fun a =>
 (bR (!(!a.1)) (Zi a.2.1)).bind fun h =>
 if ((!a.1)||(!h))=true then (
 some ((⟨([]:List Int),([]:List Int),(0:Int),(0:Int)⟩:View),a.2.2))
 else (
 some (a.2.1,a.2.2)))
def Z2c (v1:View)(a:Int)(b:Int)(e:Int):Option (View) :=
 (Z33 v1 a b e).bind fun g =>
 some g.1
def Z1a (a:Node)(b:(List Int)):Option (View) :=
 (Z2i b).bind fun e =>
 if (a.Op==12)=true then (
 (Z2b e a.Dims).bind fun g =>
 some g)
 else (
 if ((a.Op==14)&&((a.Ints.length:Int)==4))=true→(0≤(3:Int)∧(3:Int)<(a.Ints.length:Int)) then
 if (((a.Op==14)&&((a.Ints.length:Int)==4))&&(decide ((ix a.Ints 3)≥1)))=true then (
 if (0≤(0:Int)∧(0:Int)<(a.Ints.length:Int)) then
 if (0≤(1:Int)∧(1:Int)<(a.Ints.length:Int)) then
 if (0≤(2:Int)∧(2:Int)<(a.Ints.length:Int)) then
 if (0≤(3:Int)∧(3:Int)<(a.Ints.length:Int)) then
 (Z2a e (ix a.Ints 0) (ix a.Ints 1) (ix a.Ints 2) (ix a.Ints 3)).bind fun h =>
 some h
 else none
 else none
 else none
 else none)
 else (
 if ((a.Op==18)&&((a.Ints.length:Int)==3))=true then (
 if (0≤(0:Int)∧(0:Int)<(a.Ints.length:Int)) then
 if (0≤(1:Int)∧(1:Int)<(a.Ints.length:Int)) then
 if (0≤(2:Int)∧(2:Int)<(a.Ints.length:Int)) then
 (Z2c e (ix a.Ints 0) (ix a.Ints 1) (ix a.Ints 2)).bind fun i =>
 some i
 else none
 else none
 else none)
 else (
 some (⟨([]:List Int),([]:List Int),(0:Int),(0:Int)⟩:View)))
 else none)
def Z30 (e:(List Int))(a:(List Int))(b:Int):Option ((List Int)×Int×(List Int)) :=
 some (e,b,a)
def Z04_J2 (b:Type)(YF:b→Int→Option (b×Bool))(e:b×Bool)(a:(List Int))(h:Int)(g:Int):Option (((List Int)×Int×b)⊕(b)) :=
 if (decide (g<0))=true then (
 some (.inr e.1))
 else (
 some (.inl (a,h,e.1)))
def Z04_L2 (j:Type)(YF:j→Int→Option (j×Bool))(g:(List Int))(h:(List Int))(b:(List Int))(e:Int)(a:Int):Option (((List Int)×Int×Int)⊕((List Int)×Int×Int)) :=
 if (decide (a≥0))=true then (
 if (0≤a∧a<((List.replicate (g.length:Int).toNat (0:Int)).length:Int)) then
 if (0≤a∧a<(h.length:Int)) then
 if (0≤a∧a<(g.length:Int)) then
 if (decide ((ix (b.set a.toNat (aH ((ix b a)+1))) a)<(ix g a)))=true then (
 some (.inr ((b.set a.toNat (aH ((ix b a)+1))),(aH (e+(ix h a))),a)))
 else (
 (nm ((b.set a.toNat (aH ((ix b a)+1))).set a.toNat (0:Int))).bind fun i =>
 some (.inl (i,(aH ((aH (e+(ix h a))) - (aH ((ix h a)*(ix g a))))),(aH (a - 1)))))
 else none
 else none
 else none)
 else (
 some (.inr (b,e,a)))
def Z04_L1 (b:Type)(YF:b→Int→Option (b×Bool))(j:(List Int))(l:(List Int))(a:(List Int))(h:Int)(i:b):Option (((List Int)×Int×b)⊕(b)) :=
 (YF i h).bind fun g =>
 if (!g.2)=true then (
 some (.inr g.1))
 else (
 (aQ (fun s:(List Int)×Int×Int=>Z04_L2 b YF j l s.1 s.2.1 s.2.2) (a,h,(aH ((j.length:Int) - 1)))).bind fun e=>Z04_J2 b YF g e.1 e.2.1 e.2.2)
def Z04 (b:Type)(YF:b→Int→Option (b×Bool))(a:b)(g:(List Int))(h:Int)(i:(List Int)):Option (b) :=
 if (0≤(g.length:Int)∧(g.length:Int)≤140737488355328∧8*(g.length:Int)≤281474976710656) then
 (aQ (fun s:(List Int)×Int×b=>Z04_L1 b YF g i s.1 s.2.1 s.2.2) ((List.replicate (g.length:Int).toNat (0:Int)),h,a)).bind fun e=>some e
 else none
def Z3o (a:(List pair))(b:Int):Option (((List pair))×Bool) :=
 if a.length+([(⟨b,(a.length:Int)⟩:pair)]:List pair).length≤8796093022208 then
 some ((a++([(⟨b,(a.length:Int)⟩:pair)]:List pair)),true)
 else none
def Z2d (v1:View):Option ((List Int)×(List pair)×Bool) :=
 (Zi v1).bind fun e =>
 if (!e)=true then (
 some (([]:List Int),([]:List pair),false))
 else (
 (Z30 v1.Dims v1.Strides v1.Offset).bind fun a =>
 (Z04 ((List pair)) (fun (s:(List pair)) (x:Int)=>Z3o s x) ([]:List pair) a.1 a.2.1 a.2.2).bind fun b =>
 some (v1.Dims,b,true))
def Z2n (e:Node)(a:(List Int)):Option ((List Int)×(List pair)×Bool) :=
 (Z1a e a).bind fun g =>
 (Z2d g).bind fun b =>
 some (b.1,b.2.1,b.2.2)
def Z1q (k1:shiftKind)(e:Node)(a:(List (List Int))):Option ((List Int)×Bool) :=
 if ((a.length:Int) != 1)=true then (
 some (([]:List Int),false))
 else (
 if (0≤(0:Int)∧(0:Int)<(a.length:Int)) then
 (Z2n e (ix a 0)).bind fun b =>
 some (b.1,b.2.2)
 else none)
def Z0z_J1 (b:Node)(a:(List pair)):Option ((List Int)×(List pair)×Bool) :=
 some (b.Dims,a,true)
def Z0z_L1 (e:Int)(a:(List pair))(b:Int):Option (((List pair)×Int)⊕((List pair))) :=
 if (decide (b<e))=true then (
 if a.length+([(⟨b,b⟩:pair)]:List pair).length≤8796093022208 then
 some (.inl ((a++([(⟨b,b⟩:pair)]:List pair)),(aH (b+1))))
 else none)
 else (
 some (.inr a))
def Z0z (b:Node)(a:(List Int)):Option ((List Int)×(List pair)×Bool) :=
 (Zd b.Dims).bind fun j =>
 (bR (!(!j)) (Z9 b.Dims)).bind fun g =>
 (bR (!(!j)) (Z9 a)).bind fun h =>
 if ((!j)||(g != h))=true then (
 some (([]:List Int),([]:List pair),false))
 else (
 (Z9 a).bind fun i =>
 (aQ (fun s:(List pair)×Int=>Z0z_L1 i s.1 s.2) (([]:List pair),(0:Int))).bind fun e=>Z0z_J1 b e)
def Z22 (k1:shiftKind)(e:Node)(a:(List (List Int))):Option ((List Int)×Bool) :=
 if ((a.length:Int) != 1)=true then (
 some (([]:List Int),false))
 else (
 if (0≤(0:Int)∧(0:Int)<(a.length:Int)) then
 (Z0z e (ix a 0)).bind fun b =>
 some (b.1,b.2.2)
 else none)
def Z1j (b:(List Int))(a:Int)(g:Int):Option ((List Int)) :=
 (Zp b).bind fun e =>
 if (0≤a∧a<(e.length:Int)) then
 some (e.set a.toNat g)
 else none
def Z20 (b:(List Int))(a:Int):Option (Int×Int×Int) :=
 if (0≤(0:Int)∧(0:Int)≤a∧a≤(b.length:Int)) then
 (Z9 (sub b (0:Int) a)).bind fun g =>
 if (0≤a∧a<(b.length:Int)) then
 if (0≤(aH (a+1))∧(aH (a+1))≤(b.length:Int)∧(b.length:Int)≤(b.length:Int)) then
 (Z9 (sub b (aH (a+1)) (b.length:Int))).bind fun e =>
 some (g,(ix b a),e)
 else none
 else none
 else none
def Z8_J7 (a:(List pair)):Option ((List pair)) :=
 some a
def Z8_J6 (b:Int)(a:(List pair)):Option (((List pair)×Int)⊕((List pair))) :=
 some (.inl (a,(aH (b+1))))
def Z8_J5 (b:Int)(a:(List pair)):Option (((List pair)×Int)⊕((List pair))) :=
 some (.inl (a,(aH (b+1))))
def Z8_L3 (j:Int)(b:(List pair))(i:Int×Int×Int)(g:Int)(h:Int)(e:(List pair))(a:Int):Option (((List pair)×Int)⊕((List pair))) :=
 if (decide (a<i.2.2))=true then (
 if e.length+([(⟨(aH ((aH ((aH ((aH (g*i.2.1))+(ix b h).from_))*i.2.2))+a)),(aH ((aH ((aH ((aH (g*j))+(ix b h).to))*i.2.2))+a))⟩:pair)]:List pair).length≤8796093022208 then
 some (.inl ((e++([(⟨(aH ((aH ((aH ((aH (g*i.2.1))+(ix b h).from_))*i.2.2))+a)),(aH ((aH ((aH ((aH (g*j))+(ix b h).to))*i.2.2))+a))⟩:pair)]:List pair)),(aH (a+1))))
 else none)
 else (
 some (.inr e))
def Z8_L2 (i:Int)(a:(List pair))(j:Int×Int×Int)(h:Int)(g:(List pair))(b:Int):Option (((List pair)×Int)⊕((List pair))) :=
 if (decide (b<(a.length:Int)))=true then (
 if (0≤b∧b<(a.length:Int)) then
 (aQ (fun s:(List pair)×Int=>Z8_L3 i a j h b s.1 s.2) (g,(0:Int))).bind fun e=>Z8_J5 b e
 else none)
 else (
 some (.inr g))
def Z8_L1 (i:Int)(b:(List pair))(h:Int×Int×Int)(g:(List pair))(a:Int):Option (((List pair)×Int)⊕((List pair))) :=
 if (decide (a<h.1))=true then (
 (aQ (fun s:(List pair)×Int=>Z8_L2 i b h a s.1 s.2) (g,(0:Int))).bind fun e=>Z8_J6 a e)
 else (
 some (.inr g))
def Z8 (g:(List Int))(b:Int)(i:Int)(a:(List pair)):Option ((List pair)) :=
 (Z20 g b).bind fun h =>
 if (0≤(aH ((aH (h.1*h.2.2))*(a.length:Int)))∧(aH ((aH (h.1*h.2.2))*(a.length:Int)))≤140737488355328∧16*(aH ((aH (h.1*h.2.2))*(a.length:Int)))≤281474976710656) then
 (aQ (fun s:(List pair)×Int=>Z8_L1 i a h s.1 s.2) (([]:List pair),(0:Int))).bind fun e=>Z8_J7 e
 else none
def Zz_J2 (b:(List Int))(a:Int)(e:Int)(g:Int)(i:Int)(j:(List Int))(h:(List pair)):Option ((List Int)×(List pair)×Bool) :=
 (Z8 b a (aH ((aH ((aH (e+(ix b a)))+(aH ((aH ((ix b a) - 1))*i))))+g)) h).bind fun l =>
 some (j,l,true)
def Zz_L2 (i:(List Int))(h:Int)(b:Int)(g:Int)(a:(List pair))(e:Int):Option (((List pair)×Int)⊕((List pair))) :=
 if (decide (e<(ix i h)))=true then (
 if a.length+([(⟨e,(aH (b+(aH (e*(aH (g+1))))))⟩:pair)]:List pair).length≤8796093022208 then
 some (.inl ((a++([(⟨e,(aH (b+(aH (e*(aH (g+1))))))⟩:pair)]:List pair)),(aH (e+1))))
 else none)
 else (
 some (.inr a))
def Zz_J1 (b:(List Int))(a:Int)(g:Int)(h:Int)(i:Int):Option ((List Int)×(List pair)×Bool) :=
 if (0≤a∧a<(b.length:Int)) then
 (Z1j b a (aH ((aH ((aH (g+(ix b a)))+(aH ((aH ((ix b a) - 1))*i))))+h))).bind fun j =>
 (Zd j).bind fun l =>
 if (!l)=true then (
 some (([]:List Int),([]:List pair),false))
 else (
 (aQ (fun s:(List pair)×Int=>Zz_L2 b a g i s.1 s.2) (([]:List pair),(0:Int))).bind fun e=>Zz_J2 b a g h i j e)
 else none
def Zz_L1 (a:Int)(b:Int)(e:Int)(g:Int):Option ((Int)⊕(((List Int)×(List pair)×Bool)⊕(Unit))) :=
 if (decide (g<(([a,b,e]:List Int).length:Int)))=true then (
 if (0≤g∧g<(([a,b,e]:List Int).length:Int)) then
 if ((decide ((ix ([a,b,e]:List Int) g)<0))||(decide ((ix ([a,b,e]:List Int) g)>4096)))=true then (
 some (.inr (.inl (([]:List Int),([]:List pair),false))))
 else (
 some (.inl (aH (g+1))))
 else none)
 else (
 some (.inr (.inr ())))
def Zz (h:(List Int))(g:Int)(a:Int)(b:Int)(i:Int):Option ((List Int)×(List pair)×Bool) :=
 (Zm h g).bind fun j =>
 if (!j)=true then (
 some (([]:List Int),([]:List pair),false))
 else (
 (aQ (fun s:Int=>Zz_L1 a b i s) (0:Int)).bind fun e=>match e with
 | .inl e=>some e
 | .inr e=>Zz_J1 h g a b i)
def Z1w (p1:(List Int))(a:(List Int)):Option ((List Int)×(List pair)×Bool) :=
 if (0≤(0:Int)∧(0:Int)<(p1.length:Int)) then
 if (0≤(1:Int)∧(1:Int)<(p1.length:Int)) then
 if (0≤(2:Int)∧(2:Int)<(p1.length:Int)) then
 if (0≤(3:Int)∧(3:Int)<(p1.length:Int)) then
 (Zz a (ix p1 0) (ix p1 1) (ix p1 2) (ix p1 3)).bind fun b =>
 some (b.1,b.2.1,b.2.2)
 else none
 else none
 else none
 else none
def Z2j (e:Node)(a:(List Int))(h:Int)(g:Int):Option ((List Int)×(List pair)×Bool) :=
 if ((decide ((e.Ints.length:Int)<h))||(decide ((e.Ints.length:Int)>g)))=true then (
 some (([]:List Int),([]:List pair),false))
 else (
 (Z1w e.Ints a).bind fun b =>
 some (b.1,b.2.1,b.2.2))
def Z1m (k1:shiftKind)(g:Int)(h:Int)(e:Node)(a:(List (List Int))):Option ((List Int)×Bool) :=
 if ((a.length:Int) != 1)=true then (
 some (([]:List Int),false))
 else (
 if (0≤(0:Int)∧(0:Int)<(a.length:Int)) then
 (Z2j e (ix a 0) g h).bind fun b =>
 some (b.1,b.2.2)
 else none)
def Z0d_J1 (e:(List Int))(b:Int)(a:(List Int))(g:(List pair)):Option ((List Int)×(List pair)×Bool) :=
 (Z1j e b (a.length:Int)).bind fun h =>
 (Zd h).bind fun i =>
 if (!i)=true then (
 some (([]:List Int),([]:List pair),false))
 else (
 (Z8 e b (a.length:Int) g).bind fun j =>
 some (h,j,true))
def Z0d_L1 (h:(List Int))(g:Int)(a:(List Int))(e:(List pair))(b:Int):Option (((List pair)×Int)⊕(((List Int)×(List pair)×Bool)⊕((List pair)))) :=
 if (decide (b<(a.length:Int)))=true then (
 if (0≤b∧b<(a.length:Int)) then
 if (decide ((ix a b)<0))=false→(0≤g∧g<(h.length:Int)) then
 if ((decide ((ix a b)<0))||(decide ((ix a b)≥(ix h g))))=true then (
 some (.inr (.inl (([]:List Int),([]:List pair),false))))
 else (
 if e.length+([(⟨(ix a b),b⟩:pair)]:List pair).length≤8796093022208 then
 some (.inl ((e++([(⟨(ix a b),b⟩:pair)]:List pair)),(aH (b+1))))
 else none)
 else none
 else none)
 else (
 some (.inr (.inr e)))
def Z0d (g:(List Int))(b:Int)(a:(List Int)):Option ((List Int)×(List pair)×Bool) :=
 (Zm g b).bind fun h =>
 if (((!h)||((a.length:Int)==0))||(decide ((a.length:Int)>4096)))=true then (
 some (([]:List Int),([]:List pair),false))
 else (
 (aQ (fun s:(List pair)×Int=>Z0d_L1 g b a s.1 s.2) (([]:List pair),(0:Int))).bind fun e=>match e with
 | .inl e=>some e
 | .inr e=>Z0d_J1 g b a e)
def Z1x (p1:(List Int))(a:(List Int)):Option ((List Int)×(List pair)×Bool) :=
 if (0≤(0:Int)∧(0:Int)<(p1.length:Int)) then
 if (0≤(1:Int)∧(1:Int)≤(p1.length:Int)∧(p1.length:Int)≤(p1.length:Int)) then
 (Z0d a (ix p1 0) (sub p1 (1:Int) (p1.length:Int))).bind fun b =>
 some (b.1,b.2.1,b.2.2)
 else none
 else none
def Z2k (e:Node)(a:(List Int))(h:Int)(g:Int):Option ((List Int)×(List pair)×Bool) :=
 if ((decide ((e.Ints.length:Int)<h))||(decide ((e.Ints.length:Int)>g)))=true then (
 some (([]:List Int),([]:List pair),false))
 else (
 (Z1x e.Ints a).bind fun b =>
 some (b.1,b.2.1,b.2.2))
def Z1n (k1:shiftKind)(g:Int)(h:Int)(e:Node)(a:(List (List Int))):Option ((List Int)×Bool) :=
 if ((a.length:Int) != 1)=true then (
 some (([]:List Int),false))
 else (
 if (0≤(0:Int)∧(0:Int)<(a.length:Int)) then
 (Z2k e (ix a 0) g h).bind fun b =>
 some (b.1,b.2.2)
 else none)
def Z0e_J1 (b:(List Int))(a:Int)(j:Int)(e:(List pair)):Option ((List Int)×(List pair)×Bool) :=
 (Z1j b a j).bind fun g =>
 (Zd g).bind fun h =>
 if (!h)=true then (
 some (([]:List Int),([]:List pair),false))
 else (
 (Z8 b a j e).bind fun i =>
 some (g,i,true))
def Z0e_L1 (a:(List Int))(g:Int)(e:(List pair))(b:Int):Option (((List pair)×Int)⊕(((List Int)×(List pair)×Bool)⊕((List pair)))) :=
 if (decide (b<(a.length:Int)))=true then (
 if (0≤b∧b<(a.length:Int)) then
 if ((decide ((ix a b)<0))||(decide ((ix a b)≥g)))=true then (
 some (.inr (.inl (([]:List Int),([]:List pair),false))))
 else (
 if e.length+([(⟨b,(ix a b)⟩:pair)]:List pair).length≤8796093022208 then
 some (.inl ((e++([(⟨b,(ix a b)⟩:pair)]:List pair)),(aH (b+1))))
 else none)
 else none)
 else (
 some (.inr (.inr e)))
def Z0e (b:(List Int))(a:Int)(g:(List Int))(h:Int):Option ((List Int)×(List pair)×Bool) :=
 (Zm b a).bind fun i =>
 if (!i)=false→(0≤a∧a<(b.length:Int)) then
 if (((!i)||((g.length:Int) != (ix b a)))||(decide (h<1)))=true then (
 some (([]:List Int),([]:List pair),false))
 else (
 (aQ (fun s:(List pair)×Int=>Z0e_L1 g h s.1 s.2) (([]:List pair),(0:Int))).bind fun e=>match e with
 | .inl e=>some e
 | .inr e=>Z0e_J1 b a h e)
 else none
def Z1y (p1:(List Int))(a:(List Int)):Option ((List Int)×(List pair)×Bool) :=
 if (0≤(0:Int)∧(0:Int)<(p1.length:Int)) then
 if (0≤(2:Int)∧(2:Int)≤(p1.length:Int)∧(p1.length:Int)≤(p1.length:Int)) then
 if (0≤(1:Int)∧(1:Int)<(p1.length:Int)) then
 (Z0e a (ix p1 0) (sub p1 (2:Int) (p1.length:Int)) (ix p1 1)).bind fun b =>
 some (b.1,b.2.1,b.2.2)
 else none
 else none
 else none
def Z2l (e:Node)(a:(List Int))(h:Int)(g:Int):Option ((List Int)×(List pair)×Bool) :=
 if ((decide ((e.Ints.length:Int)<h))||(decide ((e.Ints.length:Int)>g)))=true then (
 some (([]:List Int),([]:List pair),false))
 else (
 (Z1y e.Ints a).bind fun b =>
 some (b.1,b.2.1,b.2.2))
def Z1o (k1:shiftKind)(g:Int)(h:Int)(e:Node)(a:(List (List Int))):Option ((List Int)×Bool) :=
 if ((a.length:Int) != 1)=true then (
 some (([]:List Int),false))
 else (
 if (0≤(0:Int)∧(0:Int)<(a.length:Int)) then
 (Z2l e (ix a 0) g h).bind fun b =>
 some (b.1,b.2.2)
 else none)
def Z5_J16 (b:(List Int))(e:(List Int))(a:(List pair)):Option ((List Int)×(List pair)×Bool) :=
 some ((sub e (0:Int) (aH ((b.length:Int) - 1))),a,true)
def Z5_J15 (b:Int)(a:(List pair)):Option (((List pair)×Int)⊕((List pair))) :=
 some (.inl (a,(aH (b+1))))
def Z5_J14 (b:Int)(a:(List pair)):Option (((List pair)×Int)⊕((List pair))) :=
 some (.inl (a,(aH (b+1))))
def Z5_J13 (b:Int)(a:(List pair)):Option (((List pair)×Int)⊕((List pair))) :=
 some (.inl (a,(aH (b+1))))
def Z5_L4 (a:(List Int))(m:Int)(j:Int)(l:Int×Int×Int)(g:Int)(i:Int)(h:Int)(b:(List pair))(e:Int):Option (((List pair)×Int)⊕((List pair))) :=
 if (0≤(aH ((a.length:Int) - 1))∧(aH ((a.length:Int) - 1))<(a.length:Int)) then
 if (decide (e<(ix a (aH ((a.length:Int) - 1)))))=true then (
 if b.length+([(⟨(aH ((aH ((aH ((aH ((aH ((aH (g*l.2.1))+i))*l.2.2))+h))*(ix a (aH ((a.length:Int) - 1)))))+e)),(aH ((aH ((aH ((aH ((aH (g*m))+(aH (i*j))))+e))*l.2.2))+h))⟩:pair)]:List pair).length≤8796093022208 then
 some (.inl ((b++([(⟨(aH ((aH ((aH ((aH ((aH ((aH (g*l.2.1))+i))*l.2.2))+h))*(ix a (aH ((a.length:Int) - 1)))))+e)),(aH ((aH ((aH ((aH ((aH (g*m))+(aH (i*j))))+e))*l.2.2))+h))⟩:pair)]:List pair)),(aH (e+1))))
 else none)
 else (
 some (.inr b))
 else none
def Z5_L3 (h:(List Int))(m:Int)(g:Int)(l:Int×Int×Int)(i:Int)(j:Int)(a:(List pair))(b:Int):Option (((List pair)×Int)⊕((List pair))) :=
 if (decide (b<l.2.2))=true then (
 (aQ (fun s:(List pair)×Int=>Z5_L4 h m g l i j b s.1 s.2) (a,(0:Int))).bind fun e=>Z5_J13 b e)
 else (
 some (.inr a))
def Z5_L2 (h:(List Int))(l:Int)(g:Int)(j:Int×Int×Int)(i:Int)(a:(List pair))(b:Int):Option (((List pair)×Int)⊕((List pair))) :=
 if (decide (b<j.2.1))=true then (
 (aQ (fun s:(List pair)×Int=>Z5_L3 h l g j i b s.1 s.2) (a,(0:Int))).bind fun e=>Z5_J14 b e)
 else (
 some (.inr a))
def Z5_L1 (h:(List Int))(j:Int)(g:Int)(i:Int×Int×Int)(a:(List pair))(b:Int):Option (((List pair)×Int)⊕((List pair))) :=
 if (decide (b<i.1))=true then (
 (aQ (fun s:(List pair)×Int=>Z5_L2 h j g i b s.1 s.2) (a,(0:Int))).bind fun e=>Z5_J15 b e)
 else (
 some (.inr a))
def Z5_J1 (a:(List Int))(g:Int)(j:Int)(h:(List Int))(b:Int):Option ((List Int)×(List pair)×Bool) :=
 if (0≤(0:Int)∧(0:Int)≤(aH ((a.length:Int) - 1))∧(aH ((a.length:Int) - 1))≤(a.length:Int)) then
 (Z20 (sub a (0:Int) (aH ((a.length:Int) - 1))) g).bind fun i =>
 (aQ (fun s:(List pair)×Int=>Z5_L1 a j b i s.1 s.2) (([]:List pair),(0:Int))).bind fun e=>Z5_J16 a h e
 else none
def Z5 (a:(List Int))(b:Int)(e:Int)(g:Int):Option ((List Int)×(List pair)×Bool) :=
 (Zm a b).bind fun i =>
 if (((((!i)||(b==(aH ((a.length:Int) - 1))))||(decide (e<1)))||(decide (g<1)))||(decide (g>4096)))=false→(0≤(aH ((a.length:Int) - 1))∧(aH ((a.length:Int) - 1))<(a.length:Int)) then
 if ((((((!i)||(b==(aH ((a.length:Int) - 1))))||(decide (e<1)))||(decide (g<1)))||(decide (g>4096)))||(decide ((ix a (aH ((a.length:Int) - 1)))>g)))=false→(0≤b∧b<(a.length:Int)) then
 if ((((((!i)||(b==(aH ((a.length:Int) - 1))))||(decide (e<1)))||(decide (g<1)))||(decide (g>4096)))||(decide ((ix a (aH ((a.length:Int) - 1)))>g)))=false→(0≤(aH ((a.length:Int) - 1))∧(aH ((a.length:Int) - 1))<(a.length:Int)) then
 if ((((((!i)||(b==(aH ((a.length:Int) - 1))))||(decide (e<1)))||(decide (g<1)))||(decide (g>4096)))||(decide ((ix a (aH ((a.length:Int) - 1)))>g)))=false→e≠0 then
 if (((((((!i)||(b==(aH ((a.length:Int) - 1))))||(decide (e<1)))||(decide (g<1)))||(decide (g>4096)))||(decide ((ix a (aH ((a.length:Int) - 1)))>g)))||((ix a b) != (aH ((aH ((aH (g - (ix a (aH ((a.length:Int) - 1))))).tdiv e))+1))))=true then (
 some (([]:List Int),([]:List pair),false))
 else (
 (Z1j a b g).bind fun h =>
 if (0≤(0:Int)∧(0:Int)≤(aH ((a.length:Int) - 1))∧(aH ((a.length:Int) - 1))≤(h.length:Int)) then
 (Zd (sub h (0:Int) (aH ((a.length:Int) - 1)))).bind fun j =>
 if (!j)=true then (
 some (([]:List Int),([]:List pair),false))
 else (
 if (0≤b∧b<(a.length:Int)) then
 if ((ix a b)==1)=true then (
 Z5_J1 a b g h (0:Int))
 else (
 Z5_J1 a b g h e)
 else none)
 else none)
 else none
 else none
 else none
 else none
def Z1z (p1:(List Int))(a:(List Int)):Option ((List Int)×(List pair)×Bool) :=
 if (0≤(0:Int)∧(0:Int)<(p1.length:Int)) then
 if (0≤(1:Int)∧(1:Int)<(p1.length:Int)) then
 if (0≤(2:Int)∧(2:Int)<(p1.length:Int)) then
 (Z5 a (ix p1 0) (ix p1 1) (ix p1 2)).bind fun b =>
 some (b.1,b.2.1,b.2.2)
 else none
 else none
 else none
def Z2m (e:Node)(a:(List Int))(h:Int)(g:Int):Option ((List Int)×(List pair)×Bool) :=
 if ((decide ((e.Ints.length:Int)<h))||(decide ((e.Ints.length:Int)>g)))=true then (
 some (([]:List Int),([]:List pair),false))
 else (
 (Z1z e.Ints a).bind fun b =>
 some (b.1,b.2.1,b.2.2))
def Z1p (k1:shiftKind)(g:Int)(h:Int)(e:Node)(a:(List (List Int))):Option ((List Int)×Bool) :=
 if ((a.length:Int) != 1)=true then (
 some (([]:List Int),false))
 else (
 if (0≤(0:Int)∧(0:Int)<(a.length:Int)) then
 (Z2m e (ix a 0) g h).bind fun b =>
 some (b.1,b.2.2)
 else none)
def bP (r:kindOfR)(a:Node)(b:(List (List Int))):Option ((List Int)×Bool) :=
 if Nat.beq r.t 0=true then none else (if Nat.beq r.t 1=true then Z1i (⟨r.b0⟩:leafKind) a b else (if Nat.beq r.t 2=true then Z21 (⟨r.i0⟩:pairKind) a b else (if Nat.beq r.t 3=true then Z2p (⟨r.i0⟩:soloKind) a b else (if Nat.beq r.t 4=true then Z1v (⟨⟩:topKind) a b else (if Nat.beq r.t 5=true then Z2o (⟨⟩:formKind) a b else (if Nat.beq r.t 6=true then Z1q (⟨r.s0⟩:shiftKind) a b else (if Nat.beq r.t 7=true then Z22 (⟨r.s0⟩:shiftKind) a b else (if Nat.beq r.t 8=true then Z1m (⟨r.s0⟩:shiftKind) r.i0 r.i1 a b else (if Nat.beq r.t 9=true then Z1n (⟨r.s0⟩:shiftKind) r.i0 r.i1 a b else (if Nat.beq r.t 10=true then Z1o (⟨r.s0⟩:shiftKind) r.i0 r.i1 a b else (Z1p (⟨r.s0⟩:shiftKind) r.i0 r.i1 a b)))))))))))
def Zg_J1 (e:Node)(g:kindOfR)(a:(List (List Int))):Option ((List Int)×Bool) :=
 (bP g e a).bind fun b =>
 some (b.1,b.2)
def Zg_L1 (g:Node)(a:(List (List Int)))(e:(List (List Int)))(b:Int):Option (((List (List Int))×Int)⊕(((List Int)×Bool)⊕((List (List Int))))) :=
 if (decide (b<(g.Args.length:Int)))=true then (
 if (0≤b∧b<(g.Args.length:Int)) then
 if ((decide ((ix g.Args b)<0))||(decide ((ix g.Args b)≥(a.length:Int))))=true then (
 some (.inr (.inl (([]:List Int),false))))
 else (
 if (0≤(ix g.Args b)∧(ix g.Args b)<(a.length:Int)) then
 if e.length+([(ix a (ix g.Args b))]:List (List Int)).length≤5864062014805 then
 some (.inl ((e++([(ix a (ix g.Args b))]:List (List Int))),(aH (b+1))))
 else none
 else none)
 else none)
 else (
 some (.inr (.inr e)))
def Zg (b:Node)(a:(List (List Int))):Option ((List Int)×Bool) :=
 (Zy b.Op).bind fun g =>
 (bR (!(Nat.beq g.t 0)) (fM g)).bind fun h =>
 (bR (!(Nat.beq g.t 0)) (Z1u b h)).bind fun i =>
 if (((Nat.beq g.t 0)||(!i))||(decide ((b.Args.length:Int)>6)))=true then (
 some (([]:List Int),false))
 else (
 (aQ (fun s:(List (List Int))×Int=>Zg_L1 b a s.1 s.2) (([]:List (List Int)),(0:Int))).bind fun e=>match e with
 | .inl e=>some e
 | .inr e=>Zg_J1 b g e)
def Zk_J2 (a:(List (List Int))):Option ((List (List Int))×Bool) :=
 some (a,true)
def Zk_L2 (g1:Graph)(a:Int):Option ((Int)⊕(((List (List Int))×Bool)⊕(Unit))) :=
 if (decide (a<(g1.Outs.length:Int)))=true then (
 if (0≤a∧a<(g1.Outs.length:Int)) then
 if ((decide ((ix g1.Outs a)<0))||(decide ((ix g1.Outs a)≥(g1.Nodes.length:Int))))=true then (
 some (.inr (.inl (([]:List (List Int)),false))))
 else (
 some (.inl (aH (a+1))))
 else none)
 else (
 some (.inr (.inr ())))
def Zk_J1 (g1:Graph)(a:(List (List Int))):Option ((List (List Int))×Bool) :=
 (aQ (fun s:Int=>Zk_L2 g1 s) (0:Int)).bind fun e=>match e with
 | .inl e=>some e
 | .inr e=>Zk_J2 a
def Zk_L1 (g1:Graph)(b:(List (List Int)))(a:Int):Option (((List (List Int))×Int)⊕(((List (List Int))×Bool)⊕((List (List Int))))) :=
 if (decide (a<(g1.Nodes.length:Int)))=true then (
 if (0≤a∧a<(g1.Nodes.length:Int)) then
 (Zg (ix g1.Nodes a) b).bind fun e =>
 if (!e.2)=true then (
 some (.inr (.inl (([]:List (List Int)),false))))
 else (
 if b.length+([e.1]:List (List Int)).length≤5864062014805 then
 some (.inl ((b++([e.1]:List (List Int))),(aH (a+1))))
 else none)
 else none)
 else (
 some (.inr (.inr b)))
def Zk (g1:Graph):Option ((List (List Int))×Bool) :=
 if ((decide ((g1.Nodes.length:Int)>200))||(decide ((g1.Outs.length:Int)>40)))=true then (
 some (([]:List (List Int)),false))
 else (
 (aQ (fun s:(List (List Int))×Int=>Zk_L1 g1 s.1 s.2) (([]:List (List Int)),(0:Int))).bind fun e=>match e with
 | .inl e=>some e
 | .inr e=>Zk_J1 g1 e)
def Ze_J4 (a:(List Bool)):Option ((List Bool)) :=
 some a
def Ze_J3 (b:Int)(a:(List Bool)):Option (((List Bool)×Int)⊕((List Bool))) :=
 some (.inl (a,(aH (b - 1))))
def Ze_L3 (g1:Graph)(a:Int)(e:(List Bool))(b:Int):Option (((List Bool)×Int)⊕((List Bool))) :=
 if (decide (b<(((ix g1.Nodes a).Args).length:Int)))=true then (
 if (0≤b∧b<(((ix g1.Nodes a).Args).length:Int)) then
 if (0≤(ix ((ix g1.Nodes a).Args) b)∧(ix ((ix g1.Nodes a).Args) b)<((List.replicate (g1.Nodes.length:Int).toNat false).length:Int)) then
 if (ix e (ix ((ix g1.Nodes a).Args) b))=false→(0≤a∧a<((List.replicate (g1.Nodes.length:Int).toNat false).length:Int)) then
 (nm (e.set (ix ((ix g1.Nodes a).Args) b).toNat ((ix e (ix ((ix g1.Nodes a).Args) b))||(ix e a)))).bind fun g =>
 some (.inl (g,(aH (b+1))))
 else none
 else none
 else none)
 else (
 some (.inr e))
def Ze_L2 (g1:Graph)(b:(List Bool))(a:Int):Option (((List Bool)×Int)⊕((List Bool))) :=
 if (decide (a≥0))=true then (
 if (0≤a∧a<(g1.Nodes.length:Int)) then
 (aQ (fun s:(List Bool)×Int=>Ze_L3 g1 a s.1 s.2) (b,(0:Int))).bind fun e=>Ze_J3 a e
 else none)
 else (
 some (.inr b))
def Ze_J1 (g1:Graph)(a:(List Bool)):Option ((List Bool)) :=
 (aQ (fun s:(List Bool)×Int=>Ze_L2 g1 s.1 s.2) (a,(aH ((g1.Nodes.length:Int) - 1)))).bind fun e=>Ze_J4 e
def Ze_L1 (g1:Graph)(b:(List Bool))(a:Int):Option (((List Bool)×Int)⊕((List Bool))) :=
 if (decide (a<(g1.Outs.length:Int)))=true then (
 if (0≤a∧a<(g1.Outs.length:Int)) then
 if (0≤(ix g1.Outs a)∧(ix g1.Outs a)<((List.replicate (g1.Nodes.length:Int).toNat false).length:Int)) then
 some (.inl ((b.set (ix g1.Outs a).toNat true),(aH (a+1))))
 else none
 else none)
 else (
 some (.inr b))
def Ze (g1:Graph):Option ((List Bool)) :=
 if (0≤(g1.Nodes.length:Int)∧(g1.Nodes.length:Int)≤140737488355328∧1*(g1.Nodes.length:Int)≤281474976710656) then
 (aQ (fun s:(List Bool)×Int=>Ze_L1 g1 s.1 s.2) ((List.replicate (g1.Nodes.length:Int).toNat false),(0:Int))).bind fun e=>Ze_J1 g1 e
 else none
def Z2y (a:Int)(b:(List (List Int))):Option ((List Int)) :=
 if (0≤a∧a<(b.length:Int)) then
 some (ix b a)
 else none
def Z0m_J1 (a:(List (List Int))):Option ((List (List Int))) :=
 some a
def Z0m_L1 (a:(List Int))(h:(List (List Int)))(e:(List (List Int)))(b:Int):Option (((List (List Int))×Int)⊕((List (List Int)))) :=
 if (decide (b<(a.length:Int)))=true then (
 if (0≤b∧b<(a.length:Int)) then
 (Z2y (ix a b) h).bind fun g =>
 if (0≤b∧b<((List.replicate (a.length:Int).toNat ([]:(List Int))).length:Int)) then
 some (.inl ((e.set b.toNat g),(aH (b+1))))
 else none
 else none)
 else (
 some (.inr e))
def Z0m (a:(List Int))(b:(List (List Int))):Option ((List (List Int))) :=
 if (0≤(a.length:Int)∧(a.length:Int)≤140737488355328∧24*(a.length:Int)≤281474976710656) then
 (aQ (fun s:(List (List Int))×Int=>Z0m_L1 a b s.1 s.2) ((List.replicate (a.length:Int).toNat ([]:(List Int))),(0:Int))).bind fun e=>Z0m_J1 e
 else none
def Zw_J3 (a:Int):Option (Int) :=
 some a
def Zw_J2 (b:Int)(a:Int):Option ((Int×Int)⊕(Int)) :=
 some (.inl (a,(aH (b+1))))
def Zw_L1 (g1:Graph)(g:(List (List Int))×Bool)(e:(List Bool))(b:Int)(a:Int):Option ((Int×Int)⊕(Int)) :=
 if (decide (a<(e.length:Int)))=true then (
 if (0≤a∧a<(e.length:Int)) then
 if (0≤a∧a<(g1.Nodes.length:Int)) then
 if (((!(ix e a))||((ix g1.Nodes a).Op==1))||((ix g1.Nodes a).Op==2))=true then (
 Zw_J2 a b)
 else (
 if ((ix g1.Nodes a).Op==11)=true then (
 (Z0m ((ix g1.Nodes a).Args) g.1).bind fun h =>
 (Z0 ((ix g1.Nodes a).Form) h).bind fun i =>
 (Z9 i.1.loops).bind fun j =>
 Zw_J2 a (aH (b+j)))
 else (
 if (0≤a∧a<(g.1.length:Int)) then
 (Z9 (ix g.1 a)).bind fun l =>
 Zw_J2 a (aH (b+l))
 else none))
 else none
 else none)
 else (
 some (.inr b))
def Zw (g1:Graph):Option (Int) :=
 (Zk g1).bind fun b =>
 if (!b.2)=true then (
 some (0:Int))
 else (
 (Ze g1).bind fun a =>
 (aQ (fun s:Int×Int=>Zw_L1 g1 b a s.1 s.2) ((0:Int),(0:Int))).bind fun e=>Zw_J3 e)
def Z0f_J1:Option (Bool) :=
 some true
def Z0f_L1 (b:(List Int))(e:(List Int))(a:Int):Option ((Int)⊕((Bool)⊕(Unit))) :=
 if (decide (a<(b.length:Int)))=true then (
 if (0≤a∧a<(b.length:Int)) then
 if (0≤a∧a<(e.length:Int)) then
 if ((ix b a) != (ix e a))=true then (
 some (.inr (.inl false)))
 else (
 some (.inl (aH (a+1))))
 else none
 else none)
 else (
 some (.inr (.inr ())))
def Z0f (a:(List Int))(b:(List Int)):Option (Bool) :=
 if ((a.length:Int) != (b.length:Int))=true then (
 some false)
 else (
 (aQ (fun s:Int=>Z0f_L1 a b s) (0:Int)).bind fun e=>match e with
 | .inl e=>some e
 | .inr e=>Z0f_J1)
def Z2e (a:Node)(b:Node):Option (Bool) :=
 if (a.Op != b.Op)=true then (
 some false)
 else (
 (Z0f a.Args b.Args).bind fun e =>
 if (!e)=true then (
 some false)
 else (
 (Z0f a.Dims b.Dims).bind fun g =>
 if (!g)=true then (
 some false)
 else (
 (Z0f a.Ints b.Ints).bind fun h =>
 if (!h)=true then (
 some false)
 else (
 if (!(a.Form==b.Form))=true then (
 some false)
 else (
 (Z0f a.Data b.Data).bind fun i =>
 if (!i)=true then (
 some false)
 else (
 some true))))))
def Z1b_J1:Option (Bool) :=
 some true
def Z1b_L1 (b:(List Node))(g:(List Node))(a:Int):Option ((Int)⊕((Bool)⊕(Unit))) :=
 if (decide (a<(b.length:Int)))=true then (
 if (0≤a∧a<(b.length:Int)) then
 if (0≤a∧a<(g.length:Int)) then
 (Z2e (ix b a) (ix g a)).bind fun e =>
 if (!e)=true then (
 some (.inr (.inl false)))
 else (
 some (.inl (aH (a+1))))
 else none
 else none)
 else (
 some (.inr (.inr ())))
def Z1b (a:(List Node))(b:(List Node)):Option (Bool) :=
 if ((a.length:Int) != (b.length:Int))=true then (
 some false)
 else (
 (aQ (fun s:Int=>Z1b_L1 a b s) (0:Int)).bind fun e=>match e with
 | .inl e=>some e
 | .inr e=>Z1b_J1)
def Z2q (b:Graph)(e:Graph):Option (Bool) :=
 (Z1b b.Nodes e.Nodes).bind fun g =>
 if (!g)=true then (
 some false)
 else (
 (Z0f b.Outs e.Outs).bind fun a =>
 if (!a)=true then (
 some false)
 else (
 some true))
def Z34 (a:Graph):Option (Bool) :=
 (Z2r a (1048576:Int)).bind fun j =>
 if (decide (j<0))=true then (
 some true)
 else (
 (Z1s a).bind fun l =>
 (Z4 l).bind fun e =>
 (Z1s a).bind fun b =>
 (Zw b).bind fun g =>
 if (g != e)=true then (
 some false)
 else (
 (Z1s a).bind fun h =>
 (Z2q b h).bind fun i =>
 if (!i)=true then (
 some false)
 else (
 some true)))
end
end Go.Proofs.YtmpnollfdpdipaaGreatDoor
