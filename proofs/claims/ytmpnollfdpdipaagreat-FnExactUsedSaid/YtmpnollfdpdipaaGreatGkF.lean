import Derived.Test.YtmpnollfdpdipaaGreatGkH
set_option linter.unusedVariables false
namespace Go.Proofs.YtmpnollfdpdipaaGreat
open Go Go.Pg
noncomputable section
def Z1h (b:(List Int))(a:Int):Option (Int) :=
 if (decide ((aH (a - (b.length:Int)))<0))=true then (
 some (-1:Int))
 else (
 some (aH (a - (b.length:Int))))
def Z2i (e:Node)(a:Int):Option (Int) :=
 (Z1h e.Args a).bind fun i =>
 if (decide (i<0))=true then (
 some (-1:Int))
 else (
 (Z1h e.Dims i).bind fun h =>
 if (decide (h<0))=true then (
 some (-1:Int))
 else (
 (Z1h e.Ints h).bind fun b =>
 if (decide (b<0))=true then (
 some (-1:Int))
 else (
 if (decide ((aH (b - (e.Form.length:Int)))<0))=true then (
 some (-1:Int))
 else (
 (Z1h e.Data (aH (b - (e.Form.length:Int)))).bind fun g =>
 if (decide (g<0))=true then (
 some (-1:Int))
 else (
 some g)))))
def Z18_J1 (a:Int):Option (Int) :=
 some a
def Z18_L1 (g:(List Node))(a:Int)(b:Int):Option ((Int×Int)⊕((Int)⊕(Int))) :=
 if (decide (b<(g.length:Int)))=true then (
 if (0≤b∧b<(g.length:Int)) then
 (Z2i (ix g b) a).bind fun e =>
 if (decide (e<0))=true then (
 some (.inr (.inl (-1:Int))))
 else (
 some (.inl (e,(aH (b+1)))))
 else none)
 else (
 some (.inr (.inr a)))
def Z18 (b:(List Node))(a:Int):Option (Int) :=
 if (decide ((aH (a - (b.length:Int)))<0))=true then (
 some (-1:Int))
 else (
 (aR (fun s:Int×Int=>Z18_L1 b s.1 s.2) ((aH (a - (b.length:Int))),(0:Int))).bind fun e=>match e with
 | .inl e=>some e
 | .inr e=>Z18_J1 e)
def Z2u (b:Graph)(a:Int):Option (Int) :=
 (Z18 b.Nodes a).bind fun e =>
 if (decide (e<0))=true then (
 some (-1:Int))
 else (
 (Z1h b.Outs e).bind fun g =>
 if (decide (g<0))=true then (
 some (-1:Int))
 else (
 some g))
def Z07_J1 (a:(List Int)):Option ((List Int)) :=
 some a
def Z07_L1 (e:(List Int))(b:(List Int))(a:Int):Option (((List Int)×Int)⊕((List Int))) :=
 if (decide (a<(e.length:Int)))=true then (
 if (0≤a∧a<(e.length:Int)) then
 if (0≤a∧a<((List.replicate (e.length:Int).toNat (0:Int)).length:Int)) then
 some (.inl ((b.set a.toNat (ix e a)),(aH (a+1))))
 else none
 else none)
 else (
 some (.inr b))
def Z07 (a:(List Int)):Option ((List Int)) :=
 if (0≤(a.length:Int)∧(a.length:Int)≤140737488355328∧8*(a.length:Int)≤281474976710656) then
 (aR (fun s:(List Int)×Int=>Z07_L1 a s.1 s.2) ((List.replicate (a.length:Int).toNat (0:Int)),(0:Int))).bind fun e=>Z07_J1 e
 else none
def Z2v (a:Node):Option (Node) :=
 (Z07 a.Args).bind fun h =>
 (Z07 a.Dims).bind fun g =>
 (Z07 a.Ints).bind fun e =>
 (Z07 a.Data).bind fun b =>
 some (⟨a.Op,h,g,e,a.Form,b⟩:Node)
def Z0p_J1 (a:(List Node)):Option ((List Node)) :=
 some a
def Z0p_L1 (e:(List Node))(b:(List Node))(a:Int):Option (((List Node)×Int)⊕((List Node))) :=
 if (decide (a<(e.length:Int)))=true then (
 if (0≤a∧a<(e.length:Int)) then
 (Z2v (ix e a)).bind fun g =>
 if (0≤a∧a<((List.replicate (e.length:Int).toNat zT54.z).length:Int)) then
 some (.inl ((b.set a.toNat g),(aH (a+1))))
 else none
 else none)
 else (
 some (.inr b))
def Z0p (a:(List Node)):Option ((List Node)) :=
 if (0≤(a.length:Int)∧(a.length:Int)≤140737488355328∧120*(a.length:Int)≤281474976710656) then
 (aR (fun s:(List Node)×Int=>Z0p_L1 a s.1 s.2) ((List.replicate (a.length:Int).toNat zT54.z),(0:Int))).bind fun e=>Z0p_J1 e
 else none
def Z19 (b:Graph):Option (Graph) :=
 (Z0p b.Nodes).bind fun e =>
 (Z07 b.Outs).bind fun a =>
 some (⟨e,a⟩:Graph)
def Z2y (a:Int):Option (Int×Int) :=
 if (decide (a≤2))=true then (
 some ((0:Int),(0:Int)))
 else (
 if (decide (a≤5))=true then (
 some ((2:Int),(2:Int)))
 else (
 if (a==11)=true then (
 some ((1:Int),(6:Int)))
 else (
 some ((1:Int),(1:Int)))))
def Z37 (a:Int):Option (Bool) :=
 some ((((a==1)||(a==2))||(a==12))||(a==13))
def Z1b_J2 (a:Bool):Option (Int) :=
 if a=true then (
 some (3:Int))
 else (
 some (0:Int))
def Z1b_J1 (a:Int)(b:Bool):Option (Int) :=
 if b=true then (
 some (4:Int))
 else (
 if (a==16)=true then (
 some (1:Int))
 else (
 if (a==17)=true then (
 some (2:Int))
 else (
 if (a==18)=true then (
 Z1b_J2 (a==18))
 else (
 Z1b_J2 (a==19)))))
def Z1b (a:Int):Option (Int) :=
 if (a==10)=true then (
 some (1:Int))
 else (
 if (a==14)=true then (
 Z1b_J1 a (a==14))
 else (
 Z1b_J1 a (a==15)))
def Z17 (a:Node):Option (Bool) :=
 if ((decide (a.Op<1))||(decide (a.Op>19)))=true then (
 some false)
 else (
 (Z2y a.Op).bind fun g =>
 if ((decide ((a.Args.length:Int)<g.1))||(decide ((a.Args.length:Int)>g.2)))=true then (
 some false)
 else (
 (Z37 a.Op).bind fun e =>
 if ((((!e)&&(decide ((a.Dims.length:Int)>0)))||((a.Op != 11)&&(!(a.Form==([]:aN)))))||((a.Op != 2)&&(decide ((a.Data.length:Int)>0))))=true then (
 some false)
 else (
 (Z1b a.Op).bind fun b =>
 if ((a.Op==16)||(a.Op==17))=true then (
 some ((decide ((a.Ints.length:Int)≥b))&&(decide ((a.Ints.length:Int)≤(aH (b+4096))))))
 else (
 some ((a.Ints.length:Int)==b)))))
def Z0k_J1:Option (Bool) :=
 some true
def Z0k_L1 (a:(List Int))(e:Int)(b:Int):Option ((Int)⊕((Bool)⊕(Unit))) :=
 if (decide (b<(a.length:Int)))=true then (
 if (0≤b∧b<(a.length:Int)) then
 if ((decide ((ix a b)<0))||(decide ((ix a b)≥e)))=true then (
 some (.inr (.inl false)))
 else (
 some (.inl (aH (b+1))))
 else none)
 else (
 some (.inr (.inr ())))
def Z0k (a:(List Int))(b:Int):Option (Bool) :=
 (aR (fun s:Int=>Z0k_L1 a b s) (0:Int)).bind fun e=>match e with
 | .inl e=>some e
 | .inr e=>Z0k_J1
def Zv_J1 (a:Int):Option (Int) :=
 some a
def Zv_L1 (a:(List Int))(e:Int)(b:Int):Option ((Int×Int)⊕((Int)⊕(Int))) :=
 if (decide (b<(a.length:Int)))=true then (
 if (0≤b∧b<(a.length:Int)) then
 if ((decide ((ix a b)<1))||(decide ((ix a b)>4096)))=true then (
 some (.inr (.inl (0:Int))))
 else (
 if (decide ((aH (e*(ix a b)))>4096))=true then (
 some (.inr (.inl (0:Int))))
 else (
 some (.inl ((aH (e*(ix a b))),(aH (b+1))))))
 else none)
 else (
 some (.inr (.inr e)))
def Zv (a:(List Int)):Option (Int) :=
 (aR (fun s:Int×Int=>Zv_L1 a s.1 s.2) ((1:Int),(0:Int))).bind fun e=>match e with
 | .inl e=>some e
 | .inr e=>Zv_J1 e
def Zm (a:(List Int)):Option (Bool) :=
 (bQ (decide ((a.length:Int)≤6)) (Zv a)).bind fun b =>
 some ((decide ((a.length:Int)≤6))&&(decide (b>0)))
def Zp_J1:Option (Bool) :=
 some true
def Zp_L1 (t1:Tensor)(a:Int):Option ((Int)⊕((Bool)⊕(Unit))) :=
 if (decide (a<(t1.Data.length:Int)))=true then (
 if (0≤a∧a<(t1.Data.length:Int)) then
 if ((decide ((ix t1.Data a)<0))||(decide ((ix t1.Data a)≥2147483647)))=true then (
 some (.inr (.inl false)))
 else (
 some (.inl (aH (a+1))))
 else none)
 else (
 some (.inr (.inr ())))
def Zp (t1:Tensor):Option (Bool) :=
 (Zm t1.Dims).bind fun a =>
 (bQ (!(!a)) (Zv t1.Dims)).bind fun b =>
 if ((!a)||((t1.Data.length:Int) != b))=true then (
 some false)
 else (
 (aR (fun s:Int=>Zp_L1 t1 s) (0:Int)).bind fun e=>match e with
 | .inl e=>some e
 | .inr e=>Zp_J1)
def Zs (a:(List Int)):Option ((List Int)) :=
 if ([]:List Int).length+a.length≤17592186044416 then
 some (([]:List Int)++a)
 else none
def Z01_J1:Option (Bool) :=
 some true
def Z01_L1 (b:(List Int))(e:(List Int))(a:Int):Option ((Int)⊕((Bool)⊕(Unit))) :=
 if (decide (a<(b.length:Int)))=true then (
 if (0≤a∧a<(b.length:Int)) then
 if (0≤a∧a<(e.length:Int)) then
 if ((ix b a) != (ix e a))=true then (
 some (.inr (.inl false)))
 else (
 some (.inl (aH (a+1))))
 else none
 else none)
 else (
 some (.inr (.inr ())))
def Z01 (a:(List Int))(b:(List Int)):Option (Bool) :=
 if ((a.length:Int) != (b.length:Int))=true then (
 some false)
 else (
 (aR (fun s:Int=>Z01_L1 a b s) (0:Int)).bind fun e=>match e with
 | .inl e=>some e
 | .inr e=>Z01_J1)
def Z28 (a:(List Int))(b:Int):Option (Int) :=
 if (decide (b≥(a.length:Int)))=true then (
 some (1:Int))
 else (
 if (0≤(aH ((aH ((a.length:Int) - 1)) - b))∧(aH ((aH ((a.length:Int) - 1)) - b))<(a.length:Int)) then
 some (ix a (aH ((aH ((a.length:Int) - 1)) - b)))
 else none)
def Z00_J4 (a:(List Int)):Option ((List Int)) :=
 (Zm a).bind fun b =>
 if (!b)=true then (
 some ([]:List Int))
 else (
 some a)
def Z00_J3 (b:Int)(g:(List Int))(a:Int)(e:Int):Option (((List Int)×Int)⊕(((List Int))⊕((List Int)))) :=
 if (0≤(aH ((aH (b - 1)) - a))∧(aH ((aH (b - 1)) - a))<((List.replicate b.toNat (0:Int)).length:Int)) then
 some (.inl ((g.set (aH ((aH (b - 1)) - a)).toNat e),(aH (a+1))))
 else none
def Z00_L1 (i:(List Int))(j:(List Int))(h:Int)(g:(List Int))(a:Int):Option (((List Int)×Int)⊕(((List Int))⊕((List Int)))) :=
 if (decide (a<h))=true then (
 (Z28 i a).bind fun b =>
 (Z28 j a).bind fun e =>
 if (((b != e)&&(b != 1))&&(e != 1))=true then (
 some (.inr (.inl ([]:List Int))))
 else (
 if (decide (e>b))=true then (
 Z00_J3 h g a e)
 else (
 Z00_J3 h g a b)))
 else (
 some (.inr (.inr g)))
def Z00_J1 (b:(List Int))(g:(List Int))(a:Int):Option ((List Int)) :=
 if (0≤a∧a≤140737488355328∧8*a≤281474976710656) then
 (aR (fun s:(List Int)×Int=>Z00_L1 b g a s.1 s.2) ((List.replicate a.toNat (0:Int)),(0:Int))).bind fun e=>match e with
 | .inl e=>some e
 | .inr e=>Z00_J4 e
 else none
def Z00 (a:(List Int))(b:(List Int)):Option ((List Int)) :=
 (Zm a).bind fun e =>
 (bQ (!(!e)) (Zm b)).bind fun g =>
 if ((!e)||(!g))=true then (
 some ([]:List Int))
 else (
 if (decide ((b.length:Int)>(a.length:Int)))=true then (
 Z00_J1 a b (b.length:Int))
 else (
 Z00_J1 a b (a.length:Int)))
def Z0i (a:(List Int)):Option (Tensor) :=
 (Zs a).bind fun e =>
 (Zv a).bind fun b =>
 if (0≤b∧b≤140737488355328∧8*b≤281474976710656) then
 some (⟨e,(List.replicate b.toNat (0:Int))⟩:Tensor)
 else none
def Zh_J1 (a:(List Int)):Option ((List Int)) :=
 some a
def Zh_L1 (a:(List Int))(g:Int)(e:(List Int))(b:Int):Option ((Int×(List Int)×Int)⊕((List Int))) :=
 if (decide (b≥0))=true then (
 if (0≤b∧b<(a.length:Int)) then
 if (ix a b)≠0 then
 if (0≤b∧b<((List.replicate (a.length:Int).toNat (0:Int)).length:Int)) then
 some (.inl ((aH (g.tdiv (ix a b))),(e.set b.toNat (g.tmod (ix a b))),(aH (b - 1))))
 else none
 else none
 else none)
 else (
 some (.inr e))
def Zh (a:(List Int))(b:Int):Option ((List Int)) :=
 if (0≤(a.length:Int)∧(a.length:Int)≤140737488355328∧8*(a.length:Int)≤281474976710656) then
 (aR (fun s:Int×(List Int)×Int=>Zh_L1 a s.1 s.2.1 s.2.2) (b,(List.replicate (a.length:Int).toNat (0:Int)),(aH ((a.length:Int) - 1)))).bind fun e=>Zh_J1 e
 else none
def Z0n_J1 (a:Int):Option (Int) :=
 some a
def Z0n_L1 (b:(List Int))(e:(List Int))(g:Int)(a:Int):Option ((Int×Int)⊕(Int)) :=
 if (decide (a<(b.length:Int)))=true then (
 if (0≤a∧a<(b.length:Int)) then
 if (0≤a∧a<(e.length:Int)) then
 some (.inl ((aH ((aH (g*(ix b a)))+(ix e a))),(aH (a+1))))
 else none
 else none)
 else (
 some (.inr g))
def Z0n (b:(List Int))(a:(List Int)):Option (Int) :=
 (aR (fun s:Int×Int=>Z0n_L1 b a s.1 s.2) ((0:Int),(0:Int))).bind fun e=>Z0n_J1 e
def Z16 (t1:Tensor)(a:(List Int)):Option (Int) :=
 (Z0n t1.Dims a).bind fun b =>
 if (0≤b∧b<(t1.Data.length:Int)) then
 some (ix t1.Data b)
 else none
def Z09_J3 (t1:Tensor)(b:(List Int)):Option (Int) :=
 (Z16 t1 b).bind fun a =>
 some a
def Z09_J2 (a:(List Int))(e:Int)(b:Int):Option (((List Int)×Int)⊕((List Int))) :=
 if a.length+([b]:List Int).length≤17592186044416 then
 some (.inl ((a++([b]:List Int)),(aH (e+1))))
 else none
def Z09_L1 (t1:Tensor)(a:(List Int))(e:(List Int))(b:Int):Option (((List Int)×Int)⊕((List Int))) :=
 if (decide (b<(t1.Dims.length:Int)))=true then (
 if (0≤(aH ((aH ((a.length:Int) - (t1.Dims.length:Int)))+b))∧(aH ((aH ((a.length:Int) - (t1.Dims.length:Int)))+b))<(a.length:Int)) then
 if (0≤b∧b<(t1.Dims.length:Int)) then
 if ((ix t1.Dims b)==1)=true then (
 Z09_J2 e b (0:Int))
 else (
 Z09_J2 e b (ix a (aH ((aH ((a.length:Int) - (t1.Dims.length:Int)))+b))))
 else none
 else none)
 else (
 some (.inr e))
def Z09 (t1:Tensor)(a:(List Int)):Option (Int) :=
 (aR (fun s:(List Int)×Int=>Z09_L1 t1 a s.1 s.2) (([]:List Int),(0:Int))).bind fun e=>Z09_J3 t1 e
def Zo_J1 (a:Int):Option (Int) :=
 some a
def Zo (p1:Int):Option (Int) :=
 if (decide ((p1.tmod (2147483647:Int))<0))=true then (
 Zo_J1 (aH ((p1.tmod (2147483647:Int))+2147483647)))
 else (
 Zo_J1 (p1.tmod (2147483647:Int)))
def Z1e (b:Int):Option (Int) :=
 (Zo b).bind fun a =>
 if (decide (a>1073741823))=true then (
 some (aH (a - 2147483647)))
 else (
 some a)
def Z1m (g:Int)(b:Int):Option (Int) :=
 (Zo g).bind fun a =>
 (Zo b).bind fun e =>
 (Zo (aH (a+e))).bind fun h =>
 some h
def Z26 (g:Int)(b:Int):Option (Int) :=
 (Zo g).bind fun a =>
 (Zo b).bind fun e =>
 (Zo (aH (a - e))).bind fun h =>
 some h
def Z1f (g:Int)(b:Int):Option (Int) :=
 (Zo g).bind fun a =>
 (Zo b).bind fun e =>
 (Zo (aH (a*e))).bind fun h =>
 some h
def Zq_J1 (a:Int):Option (Int) :=
 some a
def Zq_S (i:Int→Int→Option (Int))(g:Int)(a:Int):Option (Int) :=
 if (a==0)=true then (
 some (1:Int))
 else (
 (i g (aH (a.tdiv (2:Int)))).bind fun e =>
 (Z1f e e).bind fun b =>
 if ((a.tmod (2:Int))==1)=true then (
 (Z1f b g).bind fun h =>
 Zq_J1 h)
 else (
 Zq_J1 b))
def Zq_R:Nat→Int→Int→Option (Int)
 | 0=>fun _ _=>none
 | n+1=>Zq_S (Zq_R n)
def Zq (a:Int)(b:Int):Option (Int):=Zq_R jv a b
def Z25 (a:Int):Option (Int) :=
 (Zo a).bind fun b =>
 (Zq b (2147483645:Int)).bind fun e =>
 some e
def Z3o (a:Int)(e:Int):Option (Int) :=
 (Z25 e).bind fun b =>
 (Z1f a b).bind fun g =>
 some g
def Z1n_J1 (a:Bool):Option (Int) :=
 if a=true then (
 some (1:Int))
 else (
 some (0:Int))
def Z1n (a:Int)(b:Int)(e:Int):Option (Int) :=
 (Z1e b).bind fun j =>
 (Z1e e).bind fun i =>
 if (a==1)=true then (
 (Z1m b e).bind fun m =>
 some m)
 else (
 if (a==2)=true then (
 (Z26 b e).bind fun h =>
 some h)
 else (
 if (a==3)=true then (
 (Z1f b e).bind fun l =>
 some l)
 else (
 if (a==4)=true then (
 (Z3o b e).bind fun g =>
 some g)
 else (
 if (a==5)=true then (
 if (decide (j<i))=true then (
 some e)
 else (
 some b))
 else (
 if (a==6)=true then (
 if (decide (j<i))=true then (
 some b)
 else (
 some e))
 else (
 if (a==7)=true then (
 Z1n_J1 (decide (j<i)))
 else (
 if (a==8)=true then (
 Z1n_J1 (b==e))
 else (
 Z1n_J1 false))))))))
def Z13_J1 (b:Tensor)(a:(List Int)):Option (Tensor) :=
 some (⟨b.Dims,a⟩:Tensor)
def Z13_L1 (i:Int)(q:Tensor)(r:Tensor)(h:(List Int))(e:Tensor)(g:(List Int))(a:Int):Option (((List Int)×Int)⊕((List Int))) :=
 if (decide (a<(e.Data.length:Int)))=true then (
 (Zh h a).bind fun b =>
 (Z09 q b).bind fun l =>
 (Z09 r b).bind fun j =>
 (Z1n i l j).bind fun m =>
 if (0≤a∧a<(e.Data.length:Int)) then
 some (.inl ((g.set a.toNat m),(aH (a+1))))
 else none)
 else (
 some (.inr g))
def Z13 (g:Int)(i:Tensor)(j:Tensor):Option (Tensor) :=
 (Zp i).bind fun h =>
 (bQ (!(!h)) (Zp j)).bind fun l =>
 if ((((!h)||(!l))||(decide (g<1)))||(decide (g>8)))=true then (
 some (⟨([]:List Int),([]:List Int)⟩:Tensor))
 else (
 (Z00 i.Dims j.Dims).bind fun a =>
 if ((decide ((a.length:Int)<(i.Dims.length:Int)))||(decide ((a.length:Int)<(j.Dims.length:Int))))=true then (
 some (⟨([]:List Int),([]:List Int)⟩:Tensor))
 else (
 (Z0i a).bind fun b =>
 (aR (fun s:(List Int)×Int=>Z13_L1 g i j a b s.1 s.2) (b.Data,(0:Int))).bind fun e=>Z13_J1 b e))
def Z2x (a:Int)(b:Int):Option (Int) :=
 if (a==1)=true then (
 (Z26 (0:Int) b).bind fun g =>
 some g)
 else (
 if (a==2)=true then (
 (Z25 b).bind fun h =>
 some h)
 else (
 (Z1e b).bind fun e =>
 if (decide (e≤0))=true then (
 some (0:Int))
 else (
 if (a==3)=true then (
 some (1:Int))
 else (
 some b))))
def Z12_J1 (a:Tensor)(b:(List Int)):Option (Tensor) :=
 some (⟨a.Dims,b⟩:Tensor)
def Z12_L1 (h:Int)(i:Tensor)(g:Tensor)(b:(List Int))(a:Int):Option (((List Int)×Int)⊕((List Int))) :=
 if (decide (a<(i.Data.length:Int)))=true then (
 if (0≤a∧a<(i.Data.length:Int)) then
 (Z2x h (ix i.Data a)).bind fun e =>
 if (0≤a∧a<(g.Data.length:Int)) then
 some (.inl ((b.set a.toNat e),(aH (a+1))))
 else none
 else none)
 else (
 some (.inr b))
def Z12 (b:Int)(g:Tensor):Option (Tensor) :=
 (Zp g).bind fun h =>
 if (((!h)||(decide (b<1)))||(decide (b>4)))=true then (
 some (⟨([]:List Int),([]:List Int)⟩:Tensor))
 else (
 (Z0i g.Dims).bind fun a =>
 (aR (fun s:(List Int)×Int=>Z12_L1 b g a s.1 s.2) (a.Data,(0:Int))).bind fun e=>Z12_J1 a e)
def Z1g (t1:Tensor)(a:Int):Option (Bool) :=
 (Zp t1).bind fun b =>
 some ((b&&(decide (a≥0)))&&(decide (a<(t1.Dims.length:Int))))
def Z0j (e:(List Int))(a:Int)(g:Int):Option ((List Int)) :=
 (Zs e).bind fun b =>
 if (0≤a∧a<(b.length:Int)) then
 some (b.set a.toNat g)
 else none
def Z0x_J1 (a:(List Int)):Option ((List Int)) :=
 some a
def Z0x_L1 (t1:Tensor)(a:Int)(i:(List Int))(b:(List Int))(e:Int):Option (((List Int)×Int)⊕((List Int))) :=
 if (0≤a∧a<(t1.Dims.length:Int)) then
 if (decide (e<(ix t1.Dims a)))=true then (
 (Z0j i a e).bind fun h =>
 (Z16 t1 h).bind fun g =>
 if b.length+([g]:List Int).length≤17592186044416 then
 some (.inl ((b++([g]:List Int)),(aH (e+1))))
 else none)
 else (
 some (.inr b))
 else none
def Z0x (t1:Tensor)(a:Int)(b:(List Int)):Option ((List Int)) :=
 (aR (fun s:(List Int)×Int=>Z0x_L1 t1 a b s.1 s.2) (([]:List Int),(0:Int))).bind fun e=>Z0x_J1 e
def Za_J9 (b:Tensor)(a:(List Int)):Option (Tensor) :=
 some (⟨b.Dims,a⟩:Tensor)
def Za_J8 (b:Int)(a:(List Int)):Option (((List Int)×Int)⊕((List Int))) :=
 some (.inl (a,(aH (b+1))))
def Za_J7 (g:Tensor)(e:(List Int))(b:Int)(a:Bool):Option (((List Int)×Int)⊕((List Int))) :=
 if a=true then (
 if (0≤b∧b<(g.Data.length:Int)) then
 Za_J8 b (e.set b.toNat (1:Int))
 else none)
 else (
 Za_J8 b e)
def Za_J6 (b:Int)(a:Bool):Option ((Bool×Int)⊕(Bool)) :=
 some (.inl (a,(aH (b+1))))
def Za_L2 (t1:Tensor)(e:Int)(j:Int)(l:(List Int))(i:(List Int))(b:Bool)(a:Int):Option ((Bool×Int)⊕(Bool)) :=
 if (decide (a<(i.length:Int)))=true then (
 if (0≤a∧a<(i.length:Int)) then
 (Z1e (ix i a)).bind fun g =>
 if (0≤j∧j<(t1.Data.length:Int)) then
 (Z1e (ix t1.Data j)).bind fun h =>
 if (decide (g>h))=false→(g==h)=true→(0≤e∧e<(l.length:Int)) then
 if ((decide (g>h))||((g==h)&&(decide (a<(ix l e)))))=true then (
 Za_J6 a false)
 else (
 Za_J6 a b)
 else none
 else none
 else none)
 else (
 some (.inr b))
def Za_L1 (t1:Tensor)(a:Int)(j:Tensor)(h:(List Int))(b:Int):Option (((List Int)×Int)⊕((List Int))) :=
 if (decide (b<(t1.Data.length:Int)))=true then (
 (Zh t1.Dims b).bind fun g =>
 (Z0x t1 a g).bind fun i =>
 (aR (fun s:Bool×Int=>Za_L2 t1 a b g i s.1 s.2) (true,(0:Int))).bind fun e=>Za_J7 j h b e)
 else (
 some (.inr h))
def Za (t1:Tensor)(a:Int):Option (Tensor) :=
 (Z1g t1 a).bind fun g =>
 if (!g)=true then (
 some (⟨([]:List Int),([]:List Int)⟩:Tensor))
 else (
 (Z0i t1.Dims).bind fun b =>
 (aR (fun s:(List Int)×Int=>Za_L1 t1 a b s.1 s.2) (b.Data,(0:Int))).bind fun e=>Za_J9 b e)
def Z0w_J1 (p1:aN):Option (Bool) :=
 some (decide ((p1.length:Int)≤6))
def Z0w_L1 (p1:aN)(a:Int):Option ((Int)⊕((Bool)⊕(Unit))) :=
 if (decide (a<(p1.length:Int)))=true then (
 if (0≤a∧a<(p1.length:Int)) then
 if ((decide ((bt p1 a)<97))||(decide ((bt p1 a)>122)))=true then (
 some (.inr (.inl false)))
 else (
 some (.inl (aH (a+1))))
 else none)
 else (
 some (.inr (.inr ())))
def Z0w (p1:aN):Option (Bool) :=
 (aR (fun s:Int=>Z0w_L1 p1 s) (0:Int)).bind fun e=>match e with
 | .inl e=>some e
 | .inr e=>Z0w_J1 p1
def Z0v_J1:Option (Bool) :=
 some false
def Z0v_L1 (p1:aN)(b:Int)(a:Int):Option ((Int)⊕((Bool)⊕(Unit))) :=
 if (decide (a<(p1.length:Int)))=true then (
 if (0≤a∧a<(p1.length:Int)) then
 if ((bt p1 a)==b)=true then (
 some (.inr (.inl true)))
 else (
 some (.inl (aH (a+1))))
 else none)
 else (
 some (.inr (.inr ())))
def Z0v (p1:aN)(a:Int):Option (Bool) :=
 (aR (fun s:Int=>Z0v_L1 p1 a s) (0:Int)).bind fun e=>match e with
 | .inl e=>some e
 | .inr e=>Z0v_J1
def Z0_J8 (b:aN)(e:Int)(a:(List aN)):Option ((List aN)×aN×Bool) :=
 some (a,(sub b (aH (e+2)) (b.length:Int)),true)
def Z0_J7 (a:aN)(g:Int)(b:Int)(e:Bool):Option ((Int)⊕(((List aN)×aN×Bool)⊕(Unit))) :=
 if (!e)=false→(0≤(0:Int)∧(0:Int)≤b∧b≤((sub a (aH (g+2)) (a.length:Int)).length:Int)) then
 if (!e)=false→(0≤b∧b<((sub a (aH (g+2)) (a.length:Int)).length:Int)) then
 (bQ (!(!e)) (Z0v (sub (sub a (aH (g+2)) (a.length:Int)) (0:Int) b) (bt (sub a (aH (g+2)) (a.length:Int)) b))).bind fun h =>
 if ((!e)||h)=true then (
 some (.inr (.inl (([]:List aN),([]:aN),false))))
 else (
 some (.inl (aH (b+1))))
 else none
 else none
def Z0_L5 (b:aN)(j:Int)(a:(List aN))(h:Int)(g:Bool)(e:Int):Option ((Bool×Int)⊕(Bool)) :=
 if (decide (e<(a.length:Int)))=true then (
 if g=false→(0≤e∧e<(a.length:Int)) then
 if g=false→(0≤h∧h<((sub b (aH (j+2)) (b.length:Int)).length:Int)) then
 (bQ (!g) (Z0v (ix a e) (bt (sub b (aH (j+2)) (b.length:Int)) h))).bind fun i =>
 some (.inl ((g||i),(aH (e+1))))
 else none
 else none)
 else (
 some (.inr g))
def Z0_L4 (a:aN)(h:Int)(b:(List aN))(g:Int):Option ((Int)⊕(((List aN)×aN×Bool)⊕(Unit))) :=
 if (decide (g<((sub a (aH (h+2)) (a.length:Int)).length:Int)))=true then (
 (aR (fun s:Bool×Int=>Z0_L5 a h b g s.1 s.2) (false,(0:Int))).bind fun e=>Z0_J7 a h g e)
 else (
 some (.inr (.inr ())))
def Z0_J5 (b:aN)(g:Int)(a:(List aN)):Option ((List aN)×aN×Bool) :=
 (aR (fun s:Int=>Z0_L4 b g a s) (0:Int)).bind fun e=>match e with
 | .inl e=>some e
 | .inr e=>Z0_J8 b g a
def Z0_L3 (a:(List aN))(b:Int):Option ((Int)⊕(((List aN)×aN×Bool)⊕(Unit))) :=
 if (decide (b<(a.length:Int)))=true then (
 if (0≤b∧b<(a.length:Int)) then
 (Z0w (ix a b)).bind fun e =>
 if (!e)=true then (
 some (.inr (.inl (([]:List aN),([]:aN),false))))
 else (
 some (.inl (aH (b+1))))
 else none)
 else (
 some (.inr (.inr ())))
def Z0_J4 (b:aN)(g:Int)(a:(List aN)):Option ((List aN)×aN×Bool) :=
 if (0≤(aH (g+2))∧(aH (g+2))≤(b.length:Int)∧(b.length:Int)≤(b.length:Int)) then
 (bQ (!(decide ((a.length:Int)>6))) (Z0w (sub b (aH (g+2)) (b.length:Int)))).bind fun h =>
 if ((decide ((a.length:Int)>6))||(!h))=true then (
 some (([]:List aN),([]:aN),false))
 else (
 (aR (fun s:Int=>Z0_L3 a s) (0:Int)).bind fun e=>match e with
 | .inl e=>some e
 | .inr e=>Z0_J5 b g a)
 else none
def Z0_J3 (e:Int)(a:(List aN))(b:Int):Option (((List aN)×Int×Int)⊕((List aN))) :=
 some (.inl (a,b,(aH (e+1))))
def Z0_L2 (e:aN)(h:Int)(a:(List aN))(g:Int)(b:Int):Option (((List aN)×Int×Int)⊕((List aN))) :=
 if (decide (b≤h))=true then (
 if (b==h)=false→(0≤b∧b<(e.length:Int)) then
 if ((b==h)||((bt e b)==44))=true then (
 if (0≤g∧g≤b∧b≤(e.length:Int)) then
 if a.length+([(sub e g b)]:List aN).length≤8796093022208 then
 Z0_J3 b (a++([(sub e g b)]:List aN)) (aH (b+1))
 else none
 else none)
 else (
 Z0_J3 b a g)
 else none)
 else (
 some (.inr a))
def Z0_J1 (a:aN)(b:Int):Option ((List aN)×aN×Bool) :=
 if (decide ((aH (b+1))≥(a.length:Int)))=true then (
 some (([]:List aN),([]:aN),false))
 else (
 (aR (fun s:(List aN)×Int×Int=>Z0_L2 a b s.1 s.2.1 s.2.2) (([]:List aN),(0:Int),(0:Int))).bind fun e=>Z0_J4 a b e)
def Z0_L1 (a:aN)(b:Int):Option ((Int)⊕(Int)) :=
 if (decide ((aH (b+1))<(a.length:Int)))=true→(0≤b∧b≤(aH (b+2))∧(aH (b+2))≤(a.length:Int)) then
 if ((decide ((aH (b+1))<(a.length:Int)))&&(!((sub a b (aH (b+2)))==str0)))=true then (
 some (.inl (aH (b+1))))
 else (
 some (.inr b))
 else none
def Z0 (a:aN):Option ((List aN)×aN×Bool) :=
 (aR (fun s:Int=>Z0_L1 a s) (0:Int)).bind fun e=>Z0_J1 a e
def Z2_J12 (a:aN)(b:(List Int)):Option (aN×(List Int)×Bool) :=
 some (a,b,true)
def Z2_L4 (a:(List Int))(e:Int)(b:Int):Option ((Int×Int)⊕((aN×(List Int)×Bool)⊕(Unit))) :=
 if (decide (b<(a.length:Int)))=true then (
 if (0≤b∧b<(a.length:Int)) then
 if (decide ((aH (e*(ix a b)))>65536))=true then (
 some (.inr (.inl (([]:aN),a,false))))
 else (
 some (.inl ((aH (e*(ix a b))),(aH (b+1)))))
 else none)
 else (
 some (.inr (.inr ())))
def Z2_J11 (b:aN)(a:(List Int)):Option (aN×(List Int)×Bool) :=
 (aR (fun s:Int×Int=>Z2_L4 a s.1 s.2) ((1:Int),(0:Int))).bind fun e=>match e with
 | .inl e=>some e
 | .inr e=>Z2_J12 b a
def Z2_J10 (e:Int)(b:aN)(a:(List Int)):Option ((aN×(List Int)×Int)⊕((aN×(List Int)×Bool)⊕(aN×(List Int)))) :=
 some (.inl (b,a,(aH (e+1))))
def Z2_J9 (g:(List (List Int)))(i:Int)(b:Int)(e:Int)(h:aN)(a:(List Int)):Option ((aN×(List Int)×Int)⊕((aN×(List Int)×Bool)⊕(aN×(List Int)))) :=
 if (0≤e∧e<(a.length:Int)) then
 if ((ix a e) != 0)=true→(0≤b∧b<((ix g i).length:Int)) then
 if (((ix a e) != 0)&&((ix a e) != (ix (ix g i) b)))=true then (
 some (.inr (.inl (([]:aN),a,false))))
 else (
 if (0≤b∧b<((ix g i).length:Int)) then
 some (.inl (h,(a.set e.toNat (ix (ix g i) b)),(aH (b+1))))
 else none)
 else none
 else none
def Z2_J8 (g:(List aN))(i:(List (List Int)))(h:Int)(a:aN)(b:(List Int))(e:Int)(j:Int):Option ((aN×(List Int)×Int)⊕((aN×(List Int)×Bool)⊕(aN×(List Int)))) :=
 if (j==(a.length:Int))=true then (
 if (0≤e∧e≤(aH (e+1))∧(aH (e+1))≤((ix g h).length:Int)) then
 if a.length+(sub (ix g h) e (aH (e+1))).length≤9223372036854775807 then
 if b.length+([(0:Int)]:List Int).length≤17592186044416 then
 Z2_J9 i h e j (a++(sub (ix g h) e (aH (e+1)))) (b++([(0:Int)]:List Int))
 else none
 else none
 else none)
 else (
 Z2_J9 i h e j a b)
def Z2_L3 (e:(List aN))(h:Int)(a:aN)(g:Int)(b:Int):Option ((Int)⊕(Int)) :=
 if (decide (b<(a.length:Int)))=true→(0≤b∧b<(a.length:Int)) then
 if (decide (b<(a.length:Int)))=true→(0≤g∧g<((ix e h).length:Int)) then
 if ((decide (b<(a.length:Int)))&&((bt a b) != (bt (ix e h) g)))=true then (
 some (.inl (aH (b+1))))
 else (
 some (.inr b))
 else none
 else none
def Z2_L2 (g:(List aN))(j:(List (List Int)))(i:Int)(a:aN)(b:(List Int))(h:Int):Option ((aN×(List Int)×Int)⊕((aN×(List Int)×Bool)⊕(aN×(List Int)))) :=
 if (decide (h<((ix g i).length:Int)))=true then (
 (aR (fun s:Int=>Z2_L3 g i a h s) (0:Int)).bind fun e=>Z2_J8 g j i a b h e)
 else (
 some (.inr (.inr (a,b))))
def Z2_L1 (b:(List aN))(i:(List (List Int)))(h:aN)(a:(List Int))(g:Int):Option ((aN×(List Int)×Int)⊕((aN×(List Int)×Bool)⊕(aN×(List Int)))) :=
 if (decide (g<(b.length:Int)))=true then (
 if (0≤g∧g<(i.length:Int)) then
 if (0≤g∧g<(b.length:Int)) then
 if (((ix i g).length:Int) != ((ix b g).length:Int))=true then (
 some (.inr (.inl (([]:aN),a,false))))
 else (
 (aR (fun s:aN×(List Int)×Int=>Z2_L2 b i g s.1 s.2.1 s.2.2) (h,a,(0:Int))).bind fun e=>match e with
 | .inl e=>some (.inr (.inl e))
 | .inr e=>Z2_J10 g e.1 e.2)
 else none
 else none)
 else (
 some (.inr (.inr (h,a))))
def Z2 (a:(List aN))(g:aN)(b:(List (List Int))):Option (aN×(List Int)×Bool) :=
 if (0≤(g.length:Int)∧(g.length:Int)≤140737488355328∧8*(g.length:Int)≤281474976710656) then
 (aR (fun s:aN×(List Int)×Int=>Z2_L1 a b s.1 s.2.1 s.2.2) (g,(List.replicate (g.length:Int).toNat (0:Int)),(0:Int))).bind fun e=>match e with
 | .inl e=>some e
 | .inr e=>Z2_J11 e.1 e.2
 else none
def Zf_J7 (a:(List Int)):Option ((List Int)) :=
 some a
def Zf_J6 (a:Int)(b:(List Int)):Option (((List Int)×Int)⊕((List Int))) :=
 some (.inl (b,(aH (a+1))))
def Zf_J5 (a:Int)(b:(List Int)):Option (((List Int)×Int)⊕((List Int))) :=
 some (.inl (b,(aH (a+1))))
def Zf_L2 (g:aN)(a:aN)(b:(List Int))(i:Int)(h:(List Int))(e:Int):Option (((List Int)×Int)⊕((List Int))) :=
 if (decide (e<(a.length:Int)))=true then (
 if (0≤e∧e<(a.length:Int)) then
 if (0≤i∧i<(g.length:Int)) then
 if ((bt a e)==(bt g i))=true then (
 if (0≤e∧e<(b.length:Int)) then
 if h.length+([(ix b e)]:List Int).length≤17592186044416 then
 Zf_J5 e (h++([(ix b e)]:List Int))
 else none
 else none)
 else (
 Zf_J5 e h)
 else none
 else none)
 else (
 some (.inr h))
def Zf_L1 (a:aN)(b:aN)(g:(List Int))(i:(List Int))(h:Int):Option (((List Int)×Int)⊕((List Int))) :=
 if (decide (h<(a.length:Int)))=true then (
 (aR (fun s:(List Int)×Int=>Zf_L2 a b g h s.1 s.2) (i,(0:Int))).bind fun e=>Zf_J6 h e)
 else (
 some (.inr i))
def Zf (g:aN)(a:aN)(b:(List Int)):Option ((List Int)) :=
 (aR (fun s:(List Int)×Int=>Zf_L1 g a b s.1 s.2) (([]:List Int),(0:Int))).bind fun e=>Zf_J7 e
def Z5_J5 (b:Tensor)(a:(List Int)):Option (Tensor) :=
 some (⟨b.Dims,a⟩:Tensor)
def Z5_J4 (l:(List aN)×aN×Bool)(i:Tensor)(b:(List Int))(g:Int)(e:(List Int))(j:Int):Option (((List Int)×Int)⊕((List Int))) :=
 if (0≤(0:Int)∧(0:Int)≤(l.2.1.length:Int)∧(l.2.1.length:Int)≤(e.length:Int)) then
 (Z0n i.Dims (sub e (0:Int) (l.2.1.length:Int))).bind fun a =>
 if (0≤a∧a<(i.Data.length:Int)) then
 (Z1m (ix b a) j).bind fun h =>
 some (.inl ((b.set a.toNat h),(aH (g+1))))
 else none
 else none
def Z5_L4 (e:(List Tensor))(m:(List aN)×aN×Bool)(l:aN×(List Int)×Bool)(h:(List Int))(b:Int)(a:Int):Option ((Int×Int)⊕(Int)) :=
 if (decide (a<(m.1.length:Int)))=true then (
 if (0≤a∧a<(e.length:Int)) then
 if (0≤a∧a<(m.1.length:Int)) then
 (Zf (ix m.1 a) l.1 h).bind fun j =>
 (Z16 (ix e a) j).bind fun g =>
 (Z1f b g).bind fun i =>
 some (.inl (i,(aH (a+1))))
 else none
 else none)
 else (
 some (.inr b))
def Z5_L3 (j:(List Tensor))(m:(List aN)×aN×Bool)(i:aN×(List Int)×Bool)(l:Tensor)(g:Int)(a:(List Int))(b:Int):Option (((List Int)×Int)⊕((List Int))) :=
 if (decide (b<g))=true then (
 (Zh i.2.1 b).bind fun h =>
 (aR (fun s:Int×Int=>Z5_L4 j m i h s.1 s.2) ((1:Int),(0:Int))).bind fun e=>Z5_J4 m l a b h e)
 else (
 some (.inr a))
def Z5_J2 (g:(List Tensor))(i:(List aN)×aN×Bool)(h:aN×(List Int)×Bool)(b:Tensor)(a:Int):Option (Tensor) :=
 (aR (fun s:(List Int)×Int=>Z5_L3 g i h b a s.1 s.2) (b.Data,(0:Int))).bind fun e=>Z5_J5 b e
def Z5_L2 (e:aN×(List Int)×Bool)(a:Int)(b:Int):Option ((Int×Int)⊕(Int)) :=
 if (decide (b<(e.2.1.length:Int)))=true then (
 if (0≤b∧b<(e.2.1.length:Int)) then
 some (.inl ((aH (a*(ix e.2.1 b))),(aH (b+1))))
 else none)
 else (
 some (.inr a))
def Z5_J1 (h:(List Tensor))(b:(List aN)×aN×Bool)(g:(List (List Int))):Option (Tensor) :=
 (Z2 b.1 b.2.1 g).bind fun a =>
 if (!a.2.2)=false→(0≤(0:Int)∧(0:Int)≤(b.2.1.length:Int)∧(b.2.1.length:Int)≤(a.2.1.length:Int)) then
 (bQ (!(!a.2.2)) (Zm (sub a.2.1 (0:Int) (b.2.1.length:Int)))).bind fun j =>
 if ((!a.2.2)||(!j))=true then (
 some (⟨([]:List Int),([]:List Int)⟩:Tensor))
 else (
 if (0≤(0:Int)∧(0:Int)≤(b.2.1.length:Int)∧(b.2.1.length:Int)≤(a.2.1.length:Int)) then
 (Z0i (sub a.2.1 (0:Int) (b.2.1.length:Int))).bind fun i =>
 (aR (fun s:Int×Int=>Z5_L2 a s.1 s.2) ((1:Int),(0:Int))).bind fun e=>Z5_J2 h b a i e
 else none)
 else none
def Z5_L1 (e:(List Tensor))(a:(List (List Int)))(b:Int):Option (((List (List Int))×Int)⊕((Tensor)⊕((List (List Int))))) :=
 if (decide (b<(e.length:Int)))=true then (
 if (0≤b∧b<(e.length:Int)) then
 (Zp (ix e b)).bind fun g =>
 if (!g)=true then (
 some (.inr (.inl (⟨([]:List Int),([]:List Int)⟩:Tensor))))
 else (
 if a.length+([(ix e b).Dims]:List (List Int)).length≤5864062014805 then
 some (.inl ((a++([(ix e b).Dims]:List (List Int))),(aH (b+1))))
 else none)
 else none)
 else (
 some (.inr (.inr a)))
def Z5 (b:aN)(a:(List Tensor)):Option (Tensor) :=
 (Z0 b).bind fun g =>
 if ((!g.2.2)||((g.1.length:Int) != (a.length:Int)))=true then (
 some (⟨([]:List Int),([]:List Int)⟩:Tensor))
 else (
 (aR (fun s:(List (List Int))×Int=>Z5_L1 a s.1 s.2) (([]:List (List Int)),(0:Int))).bind fun e=>match e with
 | .inl e=>some e
 | .inr e=>Z5_J1 a g e)
def Z0h_J3 (v1:View)(a:(List Int)):Option (View) :=
 some (⟨v1.Dims,a,v1.Offset,v1.Base⟩:View)
def Z0h_J2 (b:Int)(a:(List Int)):Option ((Int×(List Int))⊕((List Int))) :=
 some (.inl ((aH (b+1)),a))
def Z0h_L1 (v1:View)(a:Int)(b:(List Int)):Option ((Int×(List Int))⊕((List Int))) :=
 if (decide (a<(v1.Dims.length:Int)))=true then (
 if (0≤a∧a<(v1.Dims.length:Int)) then
 if ((ix v1.Dims a)==1)=true then (
 if (0≤a∧a<(v1.Strides.length:Int)) then
 Z0h_J2 a (b.set a.toNat (0:Int))
 else none)
 else (
 Z0h_J2 a b)
 else none)
 else (
 some (.inr b))
def Z0h (v1:View):Option (View) :=
 (aR (fun s:Int×(List Int)=>Z0h_L1 v1 s.1 s.2) ((0:Int),v1.Strides)).bind fun e=>Z0h_J3 v1 e
def Zx_J1 (g:(List Int))(b:Int)(e:(List Int)):Option (View) :=
 (Z0h (⟨g,e,(0:Int),b⟩:View)).bind fun a =>
 some a
def Zx_L1 (a:(List Int))(e:(List Int))(b:Int):Option (((List Int)×Int)⊕((List Int))) :=
 if (decide (b<(a.length:Int)))=true then (
 if (0≤(aH (b+1))∧(aH (b+1))≤(a.length:Int)∧(a.length:Int)≤(a.length:Int)) then
 (Zv (sub a (aH (b+1)) (a.length:Int))).bind fun g =>
 if e.length+([g]:List Int).length≤17592186044416 then
 some (.inl ((e++([g]:List Int)),(aH (b+1))))
 else none
 else none)
 else (
 some (.inr e))
def Zx (a:(List Int)):Option (View) :=
 (Zm a).bind fun g =>
 if (!g)=true then (
 some (⟨([]:List Int),([]:List Int),(0:Int),(0:Int)⟩:View))
 else (
 (Zs a).bind fun h =>
 (Zv a).bind fun b =>
 (aR (fun s:(List Int)×Int=>Zx_L1 a s.1 s.2) (([]:List Int),(0:Int))).bind fun e=>Zx_J1 h b e)
def Z15_J1 (a:Int):Option (Int) :=
 some a
def Z15_L1 (v1:View)(a:(List Int))(e:Int)(b:Int):Option ((Int×Int)⊕(Int)) :=
 if (decide (b<(a.length:Int)))=true then (
 if (0≤b∧b<(a.length:Int)) then
 if (0≤b∧b<(v1.Strides.length:Int)) then
 some (.inl ((aH (e+(aH ((ix a b)*(ix v1.Strides b))))),(aH (b+1))))
 else none
 else none)
 else (
 some (.inr e))
def Z15 (v1:View)(a:(List Int)):Option (Int) :=
 (aR (fun s:Int×Int=>Z15_L1 v1 a s.1 s.2) (v1.Offset,(0:Int))).bind fun e=>Z15_J1 e
def Z0c_J1 (a:(List Int)):Option ((List Int)) :=
 some a
def Z0c_L1 (v1:View)(h:Int)(a:(List Int))(b:Int):Option (((List Int)×Int)⊕((List Int))) :=
 if (decide (b<h))=true then (
 (Zh v1.Dims b).bind fun g =>
 (Z15 v1 g).bind fun e =>
 if a.length+([e]:List Int).length≤17592186044416 then
 some (.inl ((a++([e]:List Int)),(aH (b+1))))
 else none)
 else (
 some (.inr a))
def Z0c (v1:View):Option ((List Int)) :=
 (Zv v1.Dims).bind fun a =>
 (aR (fun s:(List Int)×Int=>Z0c_L1 v1 a s.1 s.2) (([]:List Int),(0:Int))).bind fun e=>Z0c_J1 e
def Z8_J2:Option (Bool) :=
 some true
def Z8_L2 (v1:View)(b:(List Int))(a:Int):Option ((Int)⊕((Bool)⊕(Unit))) :=
 if (decide (a<(b.length:Int)))=true then (
 if (0≤a∧a<(b.length:Int)) then
 if ((decide ((ix b a)<0))||(decide ((ix b a)≥v1.Base)))=true then (
 some (.inr (.inl false)))
 else (
 some (.inl (aH (a+1))))
 else none)
 else (
 some (.inr (.inr ())))
def Z8_J1 (v1:View):Option (Bool) :=
 (Z0c v1).bind fun a =>
 (aR (fun s:Int=>Z8_L2 v1 a s) (0:Int)).bind fun e=>match e with
 | .inl e=>some e
 | .inr e=>Z8_J2
def Z8_L1 (v1:View)(a:Int):Option ((Int)⊕((Bool)⊕(Unit))) :=
 if (decide (a<(v1.Strides.length:Int)))=true then (
 if (0≤a∧a<(v1.Strides.length:Int)) then
 if ((decide ((ix v1.Strides a)<(-4096:Int)))||(decide ((ix v1.Strides a)>4096)))=true then (
 some (.inr (.inl false)))
 else (
 some (.inl (aH (a+1))))
 else none)
 else (
 some (.inr (.inr ())))
def Z8 (v1:View):Option (Bool) :=
 (Zm v1.Dims).bind fun a =>
 if ((((((!a)||((v1.Strides.length:Int) != (v1.Dims.length:Int)))||(decide (v1.Base<1)))||(decide (v1.Base>4096)))||(decide (v1.Offset<0)))||(decide (v1.Offset≥v1.Base)))=true then (
 some false)
 else (
 (aR (fun s:Int=>Z8_L1 v1 s) (0:Int)).bind fun e=>match e with
 | .inl e=>some e
 | .inr e=>Z8_J1 v1)
def Z03_J3 (v1:View)(a:(List Int))(b:(List Int)):Option (View) :=
 some (⟨a,b,v1.Offset,v1.Base⟩:View)
def Z03_J2 (a:Int)(b:(List Int)):Option (((List Int)×Int)⊕((View)⊕((List Int)))) :=
 some (.inl (b,(aH (a+1))))
def Z03_L1 (v1:View)(a:(List Int))(e:(List Int))(b:Int):Option (((List Int)×Int)⊕((View)⊕((List Int)))) :=
 if (decide (b<(v1.Dims.length:Int)))=true then (
 if (0≤b∧b<(v1.Dims.length:Int)) then
 if (0≤(aH ((aH ((a.length:Int) - (v1.Dims.length:Int)))+b))∧(aH ((aH ((a.length:Int) - (v1.Dims.length:Int)))+b))<(a.length:Int)) then
 if ((ix v1.Dims b)==(ix a (aH ((aH ((a.length:Int) - (v1.Dims.length:Int)))+b))))=true then (
 if (0≤b∧b<(v1.Strides.length:Int)) then
 if (0≤(aH ((aH ((a.length:Int) - (v1.Dims.length:Int)))+b))∧(aH ((aH ((a.length:Int) - (v1.Dims.length:Int)))+b))<((List.replicate (a.length:Int).toNat (0:Int)).length:Int)) then
 (nm (e.set (aH ((aH ((a.length:Int) - (v1.Dims.length:Int)))+b)).toNat (ix v1.Strides b))).bind fun g =>
 Z03_J2 b g
 else none
 else none)
 else (
 if ((ix v1.Dims b) != 1)=true then (
 some (.inr (.inl (⟨([]:List Int),([]:List Int),(0:Int),(0:Int)⟩:View))))
 else (
 Z03_J2 b e))
 else none
 else none)
 else (
 some (.inr (.inr e)))
def Z03 (v1:View)(a:(List Int)):Option (View) :=
 (Z8 v1).bind fun h =>
 (bQ (!(!h)) (Zm a)).bind fun g =>
 if (((!h)||(!g))||(decide ((aH ((a.length:Int) - (v1.Dims.length:Int)))<0)))=true then (
 some (⟨([]:List Int),([]:List Int),(0:Int),(0:Int)⟩:View))
 else (
 (Zs a).bind fun b =>
 if (0≤(a.length:Int)∧(a.length:Int)≤140737488355328∧8*(a.length:Int)≤281474976710656) then
 (aR (fun s:(List Int)×Int=>Z03_L1 v1 a s.1 s.2) ((List.replicate (a.length:Int).toNat (0:Int)),(0:Int))).bind fun e=>match e with
 | .inl e=>some e
 | .inr e=>Z03_J3 v1 b e
 else none)
def Z02_J1 (b:(List Int))(a:(List Int)):Option (Tensor) :=
 some (⟨b,a⟩:Tensor)
def Z02_L1 (t1:Tensor)(b:(List Int))(e:(List Int))(a:Int):Option (((List Int)×Int)⊕((List Int))) :=
 if (decide (a<(b.length:Int)))=true then (
 if (0≤a∧a<(b.length:Int)) then
 if (0≤(ix b a)∧(ix b a)<(t1.Data.length:Int)) then
 if e.length+([(ix t1.Data (ix b a))]:List Int).length≤17592186044416 then
 some (.inl ((e++([(ix t1.Data (ix b a))]:List Int)),(aH (a+1))))
 else none
 else none
 else none)
 else (
 some (.inr e))
def Z02 (t1:Tensor)(v4:View):Option (Tensor) :=
 (Zp t1).bind fun a =>
 (bQ (!(!a)) (Z8 v4)).bind fun g =>
 if (((!a)||(!g))||(v4.Base != (t1.Data.length:Int)))=true then (
 some (⟨([]:List Int),([]:List Int)⟩:Tensor))
 else (
 (Zs v4.Dims).bind fun b =>
 (Z0c v4).bind fun h =>
 (aR (fun s:(List Int)×Int=>Z02_L1 t1 h s.1 s.2) (([]:List Int),(0:Int))).bind fun e=>Z02_J1 b e)
def Z0b_J3 (v1:View)(a:(List Int))(g:(List Int))(b:(List Int)):Option (View) :=
 (Z8 (⟨g,b,(ix a 0),v1.Base⟩:View)).bind fun e =>
 (bQ (!(!e)) (Z0c (⟨g,b,(ix a 0),v1.Base⟩:View))).bind fun h =>
 (bQ (!(!e)) (Z01 h a)).bind fun i =>
 if ((!e)||(!i))=true then (
 some (⟨([]:List Int),([]:List Int),(0:Int),(0:Int)⟩:View))
 else (
 some (⟨g,b,(ix a 0),v1.Base⟩:View))
def Z0b_J2 (a:(List Int))(e:Int)(b:Int):Option (((List Int)×Int)⊕((List Int))) :=
 if a.length+([b]:List Int).length≤17592186044416 then
 some (.inl ((a++([b]:List Int)),(aH (e+1))))
 else none
def Z0b_L1 (a:(List Int))(h:(List Int))(e:(List Int))(b:Int):Option (((List Int)×Int)⊕((List Int))) :=
 if (decide (b<(a.length:Int)))=true then (
 if (0≤b∧b<(a.length:Int)) then
 if (decide ((ix a b)>1))=true then (
 if (0≤(aH (b+1))∧(aH (b+1))≤(a.length:Int)∧(a.length:Int)≤(a.length:Int)) then
 (Zv (sub a (aH (b+1)) (a.length:Int))).bind fun g =>
 if (0≤g∧g<(h.length:Int)) then
 Z0b_J2 e b (aH ((ix h g) - (ix h 0)))
 else none
 else none)
 else (
 Z0b_J2 e b (0:Int))
 else none)
 else (
 some (.inr e))
def Z0b (v1:View)(a:(List Int)):Option (View) :=
 (Z8 v1).bind fun h =>
 (bQ (!(!h)) (Zm a)).bind fun b =>
 (bQ (!((!h)||(!b))) (Zv a)).bind fun i =>
 (bQ (!((!h)||(!b))) (Zv v1.Dims)).bind fun l =>
 if (((!h)||(!b))||(i != l))=true then (
 some (⟨([]:List Int),([]:List Int),(0:Int),(0:Int)⟩:View))
 else (
 (Z0c v1).bind fun g =>
 (Zs a).bind fun j =>
 if (0≤(0:Int)∧(0:Int)<(g.length:Int)) then
 (aR (fun s:(List Int)×Int=>Z0b_L1 a g s.1 s.2) (([]:List Int),(0:Int))).bind fun e=>Z0b_J3 v1 g j e
 else none)
def Z27 (v1:View)(a:Int):Option (Bool) :=
 (Z8 v1).bind fun b =>
 some ((b&&(decide (a≥0)))&&(decide (a<(v1.Dims.length:Int))))
def Z29 (v1:View):Option (View) :=
 (Zs v1.Dims).bind fun b =>
 (Zs v1.Strides).bind fun a =>
 some (⟨b,a,v1.Offset,v1.Base⟩:View)
def Z2a (v1:View):Option (View) :=
 (Z8 v1).bind fun a =>
 if (!a)=true then (
 some (⟨([]:List Int),([]:List Int),(0:Int),(0:Int)⟩:View))
 else (
 some v1)
def Z1a_J1 (a:Int)(i:Int)(e:Int)(b:View)(g:(List Int)):Option (View) :=
 (Z2a (⟨(b.Dims.set a.toNat e),g,(aH (b.Offset+(aH (i*(ix b.Strides a))))),b.Base⟩:View)).bind fun h =>
 some h
def Z1a (v1:View)(a:Int)(h:Int)(b:Int)(e:Int):Option (View) :=
 (Z27 v1 a).bind fun j =>
 if ((((((!j)||(decide (b<1)))||(decide (b>4096)))||(decide (e<(-4096:Int))))||(decide (e>4096)))||(decide (h<0)))=false→(0≤a∧a<(v1.Dims.length:Int)) then
 if (((((((!j)||(decide (b<1)))||(decide (b>4096)))||(decide (e<(-4096:Int))))||(decide (e>4096)))||(decide (h<0)))||(decide (h≥(ix v1.Dims a))))=true then (
 some (⟨([]:List Int),([]:List Int),(0:Int),(0:Int)⟩:View))
 else (
 if (decide ((aH (h+(aH ((aH (b - 1))*e))))<0))=false→(0≤a∧a<(v1.Dims.length:Int)) then
 if ((decide ((aH (h+(aH ((aH (b - 1))*e))))<0))||(decide ((aH (h+(aH ((aH (b - 1))*e))))≥(ix v1.Dims a))))=true then (
 some (⟨([]:List Int),([]:List Int),(0:Int),(0:Int)⟩:View))
 else (
 (Z29 v1).bind fun g =>
 if (0≤a∧a<(g.Strides.length:Int)) then
 if (0≤a∧a<(g.Dims.length:Int)) then
 (nm (g.Strides.set a.toNat (aH ((ix g.Strides a)*e)))).bind fun i =>
 if (b==1)=true then (
 Z1a_J1 a h b g (i.set a.toNat (0:Int)))
 else (
 Z1a_J1 a h b g i)
 else none
 else none)
 else none)
 else none
def Z1u (t1:Tensor)(a:(List Int))(e:Int):Option ((List Int)) :=
 (Z0n t1.Dims a).bind fun b =>
 if (0≤b∧b<(t1.Data.length:Int)) then
 some (t1.Data.set b.toNat e)
 else none
def Z0t_J1 (b:Tensor)(a:(List Int)):Option (Tensor) :=
 some (⟨b.Dims,a⟩:Tensor)
def Z0t_L1 (t1:Tensor)(a:Int)(e:Int)(h:Int)(l:Tensor)(i:(List Int))(b:Int):Option (((List Int)×Int)⊕((List Int))) :=
 if (decide (b<(t1.Data.length:Int)))=true then (
 (Zh t1.Dims b).bind fun g =>
 if (0≤a∧a<(g.length:Int)) then
 (Z0j g a (aH (e+(aH ((ix g a)*(aH (h+1))))))).bind fun m =>
 if (0≤b∧b<(t1.Data.length:Int)) then
 (Z1u (⟨l.Dims,i⟩:Tensor) m (ix t1.Data b)).bind fun j =>
 some (.inl (j,(aH (b+1))))
 else none
 else none)
 else (
 some (.inr i))
def Z0t (t1:Tensor)(a:Int)(b:Int)(g:Int)(h:Int):Option (Tensor) :=
 (Z1g t1 a).bind fun l =>
 if (((((((!l)||(decide (b<0)))||(decide (b>4096)))||(decide (g<0)))||(decide (g>4096)))||(decide (h<0)))||(decide (h>4096)))=true then (
 some (⟨([]:List Int),([]:List Int)⟩:Tensor))
 else (
 if (0≤a∧a<(t1.Dims.length:Int)) then
 (Z0j t1.Dims a (aH ((aH ((aH (b+(ix t1.Dims a)))+(aH ((aH ((ix t1.Dims a) - 1))*h))))+g))).bind fun j =>
 (Zm j).bind fun m =>
 if (!m)=true then (
 some (⟨([]:List Int),([]:List Int)⟩:Tensor))
 else (
 (Z0i j).bind fun i =>
 (aR (fun s:(List Int)×Int=>Z0t_L1 t1 a b h i s.1 s.2) (i.Data,(0:Int))).bind fun e=>Z0t_J1 i e)
 else none)
def Z0s_J1 (a:Tensor)(b:(List Int)):Option (Tensor) :=
 some (⟨a.Dims,b⟩:Tensor)
def Z0s_L1 (t1:Tensor)(a:Int)(b:(List Int))(j:(List Int))(h:Tensor)(i:(List Int))(e:Int):Option (((List Int)×Int)⊕((List Int))) :=
 if (decide (e<(h.Data.length:Int)))=true then (
 (Zh j e).bind fun g =>
 if (0≤a∧a<(g.length:Int)) then
 if (0≤(ix g a)∧(ix g a)<(b.length:Int)) then
 (Z0j g a (ix b (ix g a))).bind fun l =>
 (Z16 t1 l).bind fun m =>
 if (0≤e∧e<(h.Data.length:Int)) then
 some (.inl ((i.set e.toNat m),(aH (e+1))))
 else none
 else none
 else none)
 else (
 some (.inr i))
def Z0s (t1:Tensor)(b:Int)(a:(List Int)):Option (Tensor) :=
 (Z1g t1 b).bind fun i =>
 if ((!i)||((a.length:Int)==0))=false→(0≤b∧b<(t1.Dims.length:Int)) then
 (bQ (!((!i)||((a.length:Int)==0))) (Z0k a (ix t1.Dims b))).bind fun l =>
 if (((!i)||((a.length:Int)==0))||(!l))=true then (
 some (⟨([]:List Int),([]:List Int)⟩:Tensor))
 else (
 (Z0j t1.Dims b (a.length:Int)).bind fun g =>
 (Zm g).bind fun j =>
 if (!j)=true then (
 some (⟨([]:List Int),([]:List Int)⟩:Tensor))
 else (
 (Z0i g).bind fun h =>
 (aR (fun s:(List Int)×Int=>Z0s_L1 t1 b a g h s.1 s.2) (h.Data,(0:Int))).bind fun e=>Z0s_J1 h e))
 else none
def Z0u_J1 (a:Tensor)(b:(List Int)):Option (Tensor) :=
 some (⟨a.Dims,b⟩:Tensor)
def Z0u_L1 (t1:Tensor)(a:Int)(b:(List Int))(j:Tensor)(h:(List Int))(e:Int):Option (((List Int)×Int)⊕((List Int))) :=
 if (decide (e<(t1.Data.length:Int)))=true then (
 (Zh t1.Dims e).bind fun g =>
 if (0≤a∧a<(g.length:Int)) then
 if (0≤(ix g a)∧(ix g a)<(b.length:Int)) then
 (Z0j g a (ix b (ix g a))).bind fun i =>
 (Z16 (⟨j.Dims,h⟩:Tensor) i).bind fun m =>
 if (0≤e∧e<(t1.Data.length:Int)) then
 (Z1m m (ix t1.Data e)).bind fun q =>
 (Z1u (⟨j.Dims,h⟩:Tensor) i q).bind fun l =>
 some (.inl (l,(aH (e+1))))
 else none
 else none
 else none)
 else (
 some (.inr h))
def Z0u (t1:Tensor)(a:Int)(b:(List Int))(m:Int):Option (Tensor) :=
 (Z1g t1 a).bind fun g =>
 if (!g)=false→(0≤a∧a<(t1.Dims.length:Int)) then
 (bQ (!((!g)||((b.length:Int) != (ix t1.Dims a)))) (Z0k b m)).bind fun l =>
 if (((!g)||((b.length:Int) != (ix t1.Dims a)))||(!l))=true then (
 some (⟨([]:List Int),([]:List Int)⟩:Tensor))
 else (
 (Z0j t1.Dims a m).bind fun i =>
 (Zm i).bind fun j =>
 if (!j)=true then (
 some (⟨([]:List Int),([]:List Int)⟩:Tensor))
 else (
 (Z0i i).bind fun h =>
 (aR (fun s:(List Int)×Int=>Z0u_L1 t1 a b h s.1 s.2) (h.Data,(0:Int))).bind fun e=>Z0u_J1 h e))
 else none
def Z0e_J2 (a:Int)(e:View)(i:(List Int))(b:(List Int))(g:Int):Option (View) :=
 if b.length+([g]:List Int).length≤17592186044416 then
 (Z2a (⟨(i++([a]:List Int)),(b++([g]:List Int)),e.Offset,e.Base⟩:View)).bind fun h =>
 some h
 else none
def Z0e_J1 (v1:View)(b:Int)(a:Int)(h:View)(e:(List Int))(g:(List Int)):Option (View) :=
 if e.length+([a]:List Int).length≤17592186044416 then
 if (a==1)=true then (
 Z0e_J2 a h e g (0:Int))
 else (
 Z0e_J2 a h e g (ix v1.Strides b))
 else none
def Z0e (v1:View)(a:Int)(b:Int)(e:Int):Option (View) :=
 (Z27 v1 a).bind fun j =>
 if (((!j)||(decide (b<1)))||(decide (e<1)))=false→(0≤a∧a<(v1.Dims.length:Int)) then
 if ((((!j)||(decide (b<1)))||(decide (e<1)))||(decide (b>(ix v1.Dims a))))=true then (
 some (⟨([]:List Int),([]:List Int),(0:Int),(0:Int)⟩:View))
 else (
 (Z29 v1).bind fun g =>
 if (0≤a∧a<(v1.Dims.length:Int)) then
 if e≠0 then
 if (0≤a∧a<(v1.Strides.length:Int)) then
 if (0≤a∧a<(g.Dims.length:Int)) then
 (nm (g.Dims.set a.toNat (aH ((aH ((aH ((ix v1.Dims a) - b)).tdiv e))+1)))).bind fun h =>
 if (0≤a∧a<(g.Strides.length:Int)) then
 if (decide ((aH ((aH ((aH ((ix v1.Dims a) - b)).tdiv e))+1))>1))=true then (
 (nm ((g.Strides.set a.toNat (0:Int)).set a.toNat (aH ((ix v1.Strides a)*e)))).bind fun i =>
 Z0e_J1 v1 a b g h i)
 else (
 Z0e_J1 v1 a b g h (g.Strides.set a.toNat (0:Int)))
 else none
 else none
 else none
 else none
 else none)
 else none
def Z0r_J1 (a:Tensor)(b:(List Int)):Option (Tensor) :=
 some (⟨a.Dims,b⟩:Tensor)
def Z0r_L1 (t1:Tensor)(a:Int)(i:Int)(j:Tensor)(g:(List Int))(b:Int):Option (((List Int)×Int)⊕((List Int))) :=
 if (decide (b<(t1.Data.length:Int)))=true then (
 (Zh t1.Dims b).bind fun e =>
 if (0≤a∧a<(e.length:Int)) then
 if (0≤(aH ((t1.Dims.length:Int) - 1))∧(aH ((t1.Dims.length:Int) - 1))<(e.length:Int)) then
 (Z0j e a (aH ((aH ((ix e a)*i))+(ix e (aH ((t1.Dims.length:Int) - 1)))))).bind fun h =>
 if (0≤(0:Int)∧(0:Int)≤(aH ((t1.Dims.length:Int) - 1))∧(aH ((t1.Dims.length:Int) - 1))≤(h.length:Int)) then
 (Z16 (⟨j.Dims,g⟩:Tensor) (sub h (0:Int) (aH ((t1.Dims.length:Int) - 1)))).bind fun q =>
 if (0≤b∧b<(t1.Data.length:Int)) then
 (Z1m q (ix t1.Data b)).bind fun l =>
 (Z1u (⟨j.Dims,g⟩:Tensor) (sub h (0:Int) (aH ((t1.Dims.length:Int) - 1))) l).bind fun m =>
 some (.inl (m,(aH (b+1))))
 else none
 else none
 else none
 else none)
 else (
 some (.inr g))
def Z0r (t1:Tensor)(a:Int)(b:Int)(i:Int):Option (Tensor) :=
 (Z1g t1 a).bind fun l =>
 if (((((!l)||(a==(aH ((t1.Dims.length:Int) - 1))))||(decide (b<1)))||(decide (i<1)))||(decide (i>4096)))=true then (
 some (⟨([]:List Int),([]:List Int)⟩:Tensor))
 else (
 if (0≤(aH ((t1.Dims.length:Int) - 1))∧(aH ((t1.Dims.length:Int) - 1))<(t1.Dims.length:Int)) then
 if (decide ((ix t1.Dims (aH ((t1.Dims.length:Int) - 1)))>i))=false→b≠0 then
 if (decide ((ix t1.Dims (aH ((t1.Dims.length:Int) - 1)))>i))=false→(0≤a∧a<(t1.Dims.length:Int)) then
 if ((decide ((ix t1.Dims (aH ((t1.Dims.length:Int) - 1)))>i))||((aH ((aH ((aH (i - (ix t1.Dims (aH ((t1.Dims.length:Int) - 1))))).tdiv b))+1)) != (ix t1.Dims a)))=true then (
 some (⟨([]:List Int),([]:List Int)⟩:Tensor))
 else (
 (Z0j t1.Dims a i).bind fun h =>
 if (0≤(0:Int)∧(0:Int)≤(aH ((t1.Dims.length:Int) - 1))∧(aH ((t1.Dims.length:Int) - 1))≤(h.length:Int)) then
 (Zm (sub h (0:Int) (aH ((t1.Dims.length:Int) - 1)))).bind fun j =>
 if (!j)=true then (
 some (⟨([]:List Int),([]:List Int)⟩:Tensor))
 else (
 (Z0i (sub h (0:Int) (aH ((t1.Dims.length:Int) - 1)))).bind fun g =>
 (aR (fun s:(List Int)×Int=>Z0r_L1 t1 a b g s.1 s.2) (g.Data,(0:Int))).bind fun e=>Z0r_J1 g e)
 else none)
 else none
 else none
 else none)
def Z1_J2 (a:Node)(b:(List Tensor))(M:Bool):Option (Tensor) :=
 if M=true then (
 if (0≤(0:Int)∧(0:Int)<(b.length:Int)) then
 (Z12 (aH ((aH (a.Op - 6))+1)) (ix b 0)).bind fun G =>
 some G
 else none)
 else (
 if (a.Op==10)=true then (
 if (0≤(0:Int)∧(0:Int)<(b.length:Int)) then
 if (0≤(0:Int)∧(0:Int)<(a.Ints.length:Int)) then
 (Za (ix b 0) (ix a.Ints 0)).bind fun I =>
 some I
 else none
 else none)
 else (
 if (a.Op==11)=true then (
 (Z5 a.Form b).bind fun D =>
 some D)
 else (
 if (a.Op==12)=true then (
 if (0≤(0:Int)∧(0:Int)<(b.length:Int)) then
 (Zx ((ix b 0).Dims)).bind fun E =>
 (Z03 E a.Dims).bind fun L =>
 (Z02 (ix b 0) L).bind fun J =>
 some J
 else none)
 else (
 if (a.Op==13)=true then (
 if (0≤(0:Int)∧(0:Int)<(b.length:Int)) then
 (Zx ((ix b 0).Dims)).bind fun F =>
 (Z0b F a.Dims).bind fun e =>
 (Z02 (ix b 0) e).bind fun l =>
 some l
 else none)
 else (
 if (a.Op==14)=true then (
 if (0≤(3:Int)∧(3:Int)<(a.Ints.length:Int)) then
 if (decide ((ix a.Ints 3)<1))=true then (
 some (⟨([]:List Int),([]:List Int)⟩:Tensor))
 else (
 if (0≤(0:Int)∧(0:Int)<(b.length:Int)) then
 (Zx ((ix b 0).Dims)).bind fun s =>
 if (0≤(0:Int)∧(0:Int)<(a.Ints.length:Int)) then
 if (0≤(1:Int)∧(1:Int)<(a.Ints.length:Int)) then
 if (0≤(2:Int)∧(2:Int)<(a.Ints.length:Int)) then
 (Z1a s (ix a.Ints 0) (ix a.Ints 1) (ix a.Ints 2) (ix a.Ints 3)).bind fun r =>
 (Z02 (ix b 0) r).bind fun h =>
 some h
 else none
 else none
 else none
 else none)
 else none)
 else (
 if (a.Op==15)=true then (
 if (0≤(0:Int)∧(0:Int)<(b.length:Int)) then
 if (0≤(0:Int)∧(0:Int)<(a.Ints.length:Int)) then
 if (0≤(1:Int)∧(1:Int)<(a.Ints.length:Int)) then
 if (0≤(2:Int)∧(2:Int)<(a.Ints.length:Int)) then
 if (0≤(3:Int)∧(3:Int)<(a.Ints.length:Int)) then
 (Z0t (ix b 0) (ix a.Ints 0) (ix a.Ints 1) (ix a.Ints 2) (ix a.Ints 3)).bind fun q =>
 some q
 else none
 else none
 else none
 else none
 else none)
 else (
 if (a.Op==16)=true then (
 if (0≤(0:Int)∧(0:Int)<(b.length:Int)) then
 if (0≤(0:Int)∧(0:Int)<(a.Ints.length:Int)) then
 if (0≤(1:Int)∧(1:Int)≤(a.Ints.length:Int)∧(a.Ints.length:Int)≤(a.Ints.length:Int)) then
 (Z0s (ix b 0) (ix a.Ints 0) (sub a.Ints (1:Int) (a.Ints.length:Int))).bind fun B =>
 some B
 else none
 else none
 else none)
 else (
 if (a.Op==17)=true then (
 if (0≤(0:Int)∧(0:Int)<(b.length:Int)) then
 if (0≤(0:Int)∧(0:Int)<(a.Ints.length:Int)) then
 if (0≤(2:Int)∧(2:Int)≤(a.Ints.length:Int)∧(a.Ints.length:Int)≤(a.Ints.length:Int)) then
 if (0≤(1:Int)∧(1:Int)<(a.Ints.length:Int)) then
 (Z0u (ix b 0) (ix a.Ints 0) (sub a.Ints (2:Int) (a.Ints.length:Int)) (ix a.Ints 1)).bind fun g =>
 some g
 else none
 else none
 else none
 else none)
 else (
 if (a.Op==18)=true then (
 if (0≤(0:Int)∧(0:Int)<(b.length:Int)) then
 (Zx ((ix b 0).Dims)).bind fun m =>
 if (0≤(0:Int)∧(0:Int)<(a.Ints.length:Int)) then
 if (0≤(1:Int)∧(1:Int)<(a.Ints.length:Int)) then
 if (0≤(2:Int)∧(2:Int)<(a.Ints.length:Int)) then
 (Z0e m (ix a.Ints 0) (ix a.Ints 1) (ix a.Ints 2)).bind fun u =>
 (Z02 (ix b 0) u).bind fun i =>
 some i
 else none
 else none
 else none
 else none)
 else (
 if (0≤(0:Int)∧(0:Int)<(b.length:Int)) then
 if (0≤(0:Int)∧(0:Int)<(a.Ints.length:Int)) then
 if (0≤(1:Int)∧(1:Int)<(a.Ints.length:Int)) then
 if (0≤(2:Int)∧(2:Int)<(a.Ints.length:Int)) then
 (Z0r (ix b 0) (ix a.Ints 0) (ix a.Ints 1) (ix a.Ints 2)).bind fun j =>
 some j
 else none
 else none
 else none
 else none))))))))))
def Z1_J1 (a:Node)(b:(List Tensor))(e:Bool):Option (Tensor) :=
 if e=true then (
 if (0≤(0:Int)∧(0:Int)<(b.length:Int)) then
 if (0≤(1:Int)∧(1:Int)<(b.length:Int)) then
 (Z01 ((ix b 0).Dims) ((ix b 1).Dims)).bind fun h =>
 if (!h)=true then (
 some (⟨([]:List Int),([]:List Int)⟩:Tensor))
 else (
 (Z13 (aH ((aH (a.Op - 3))+1)) (ix b 0) (ix b 1)).bind fun g =>
 some g)
 else none
 else none)
 else (
 if (a.Op==6)=true then (
 Z1_J2 a b (a.Op==6))
 else (
 if (a.Op==7)=true then (
 Z1_J2 a b (a.Op==7))
 else (
 if (a.Op==8)=true then (
 Z1_J2 a b (a.Op==8))
 else (
 Z1_J2 a b (a.Op==9)))))
def Z1 (a:Node)(h:(List Tensor)):Option (Tensor) :=
 if (a.Op==2)=true then (
 (Zp (⟨a.Dims,a.Data⟩:Tensor)).bind fun e =>
 if (!e)=true then (
 some (⟨([]:List Int),([]:List Int)⟩:Tensor))
 else (
 (Zs a.Dims).bind fun g =>
 (Zs a.Data).bind fun b =>
 some (⟨g,b⟩:Tensor)))
 else (
 if (a.Op==3)=true then (
 Z1_J1 a h (a.Op==3))
 else (
 if (a.Op==4)=true then (
 Z1_J1 a h (a.Op==4))
 else (
 Z1_J1 a h (a.Op==5))))
def Z0q_J1 (b:Tensor)(a:(List Int)):Option (Tensor) :=
 some (⟨b.Dims,a⟩:Tensor)
def Z0q_L1 (h:Int)(g:Tensor)(b:(List Int))(a:Int):Option (((List Int)×Int)⊕((List Int))) :=
 if (decide (a<(g.Data.length:Int)))=true then (
 (Zo h).bind fun e =>
 if (0≤a∧a<(g.Data.length:Int)) then
 some (.inl ((b.set a.toNat e),(aH (a+1))))
 else none)
 else (
 some (.inr b))
def Z0q (a:(List Int))(h:Int):Option (Tensor) :=
 (Zm a).bind fun g =>
 if (!g)=true then (
 some (⟨([]:List Int),([]:List Int)⟩:Tensor))
 else (
 (Z0i a).bind fun b =>
 (aR (fun s:(List Int)×Int=>Z0q_L1 h b s.1 s.2) (b.Data,(0:Int))).bind fun e=>Z0q_J1 b e)
def Z9_J5 (g1:Graph)(a:(List Tensor))(b:Bool)(e:(List Tensor))(h:Int):Option ((List Tensor)×Bool) :=
 (Z0k g1.Outs (g1.Nodes.length:Int)).bind fun g =>
 some (e,(g&&(b||(h==(a.length:Int)))))
def Z9_J4 (a:(List Tensor))(g:Int)(h:Int)(e:(List Int))(b:(List Int)):Option (((List Tensor)×Int×Int)⊕(((List Tensor)×Bool)⊕((List Tensor)×Int))) :=
 if ((b.length:Int)==0)=true then (
 some (.inr (.inl (a,false))))
 else (
 if a.length+([(⟨e,b⟩:Tensor)]:List Tensor).length≤2932031007402 then
 some (.inl ((a++([(⟨e,b⟩:Tensor)]:List Tensor)),h,(aH (g+1))))
 else none)
def Z9_J3 (g1:Graph)(a:(List Tensor))(i:Bool)(g:(List Tensor))(b:Int)(e:Int)(q:(List Tensor)):Option (((List Tensor)×Int×Int)⊕(((List Tensor)×Bool)⊕((List Tensor)×Int))) :=
 if ((ix g1.Nodes e).Op != 1)=true then (
 (Z1 (ix g1.Nodes e) q).bind fun j =>
 Z9_J4 g e b j.Dims j.Data)
 else (
 if i=true then (
 (Z0q ((ix g1.Nodes e).Dims) (0:Int)).bind fun l =>
 Z9_J4 g e b l.Dims l.Data)
 else (
 if (decide (b≥(a.length:Int)))=false→(0≤b∧b<(a.length:Int)) then
 (bQ (!(decide (b≥(a.length:Int)))) (Zp (ix a b))).bind fun h =>
 if ((decide (b≥(a.length:Int)))||(!h))=false→(0≤b∧b<(a.length:Int)) then
 (bQ (!((decide (b≥(a.length:Int)))||(!h))) (Z01 ((ix a b).Dims) ((ix g1.Nodes e).Dims))).bind fun s =>
 if (((decide (b≥(a.length:Int)))||(!h))||(!s))=true then (
 some (.inr (.inl (g,false))))
 else (
 (Zs ((ix g1.Nodes e).Dims)).bind fun r =>
 if (0≤b∧b<(a.length:Int)) then
 (Zs ((ix a b).Data)).bind fun m =>
 Z9_J4 g e (aH (b+1)) r m
 else none)
 else none
 else none))
def Z9_L2 (g1:Graph)(g:(List Tensor))(b:Int)(e:(List Tensor))(a:Int):Option (((List Tensor)×Int)⊕((List Tensor))) :=
 if (decide (a<(((ix g1.Nodes b).Args).length:Int)))=true then (
 if (0≤a∧a<(((ix g1.Nodes b).Args).length:Int)) then
 if (0≤(ix ((ix g1.Nodes b).Args) a)∧(ix ((ix g1.Nodes b).Args) a)<(g.length:Int)) then
 if e.length+([(ix g (ix ((ix g1.Nodes b).Args) a))]:List Tensor).length≤2932031007402 then
 some (.inl ((e++([(ix g (ix ((ix g1.Nodes b).Args) a))]:List Tensor)),(aH (a+1))))
 else none
 else none
 else none)
 else (
 some (.inr e))
def Z9_L1 (g1:Graph)(g:(List Tensor))(h:Bool)(b:(List Tensor))(i:Int)(a:Int):Option (((List Tensor)×Int×Int)⊕(((List Tensor)×Bool)⊕((List Tensor)×Int))) :=
 if (decide (a<(g1.Nodes.length:Int)))=true then (
 if (0≤a∧a<(g1.Nodes.length:Int)) then
 (Z17 (ix g1.Nodes a)).bind fun j =>
 (bQ (!(!j)) (Z0k ((ix g1.Nodes a).Args) a)).bind fun l =>
 if ((!j)||(!l))=true then (
 some (.inr (.inl (b,false))))
 else (
 (aR (fun s:(List Tensor)×Int=>Z9_L2 g1 b a s.1 s.2) (([]:List Tensor),(0:Int))).bind fun e=>Z9_J3 g1 g h b i a e)
 else none)
 else (
 some (.inr (.inr (b,i))))
def Z9 (g1:Graph)(a:(List Tensor))(b:Bool):Option ((List Tensor)×Bool) :=
 if ((decide ((g1.Nodes.length:Int)>200))||(decide ((g1.Outs.length:Int)>40)))=true then (
 some (([]:List Tensor),false))
 else (
 (aR (fun s:(List Tensor)×Int×Int=>Z9_L1 g1 a b s.1 s.2.1 s.2.2) (([]:List Tensor),(0:Int),(0:Int))).bind fun e=>match e with
 | .inl e=>some e
 | .inr e=>Z9_J5 g1 a b e.1 e.2)
def Z2w (g1:Graph):Option (Bool) :=
 (Z9 g1 ([]:List Tensor) true).bind fun a =>
 some a.2
def Z39 (a:Int)(b:Int):Option (Int×Int) :=
 some (a,b)
def Z3a (a:Int)(b:Int):Option (Int×Int) :=
 some (a,b)
def Z3b (a:Int)(b:Int):Option (Int×Int) :=
 some (a,b)
def Z3c (a:Int)(b:Int):Option (Int×Int) :=
 some (a,b)
def Zy_J3 (a:Int)(i:Bool):Option (kindOfR) :=
 if i=true then (
 some (⟨6,false,(0:Int),(0:Int),eQ⟩:kindOfR))
 else (
 if (a==15)=true then (
 (Z39 (4:Int) (4:Int)).bind fun b =>
 some (⟨8,false,b.1,b.2,eQ⟩:kindOfR))
 else (
 if (a==16)=true then (
 (Z3a (1:Int) (4097:Int)).bind fun g =>
 some (⟨9,false,g.1,g.2,eQ⟩:kindOfR))
 else (
 if (a==17)=true then (
 (Z3b (2:Int) (4098:Int)).bind fun h =>
 some (⟨10,false,h.1,h.2,eQ⟩:kindOfR))
 else (
 if (a==19)=true then (
 (Z3c (3:Int) (3:Int)).bind fun e =>
 some (⟨11,false,e.1,e.2,eQ⟩:kindOfR))
 else (
 some (⟨0,false,(0:Int),(0:Int),([]:aN)⟩:kindOfR))))))
def Zy_J2 (a:Int)(b:Bool):Option (kindOfR) :=
 if b=true then (
 some (⟨3,false,(aH ((aH (a - 6))+1)),(0:Int),([]:aN)⟩:kindOfR))
 else (
 if (a==10)=true then (
 some (⟨4,false,(0:Int),(0:Int),([]:aN)⟩:kindOfR))
 else (
 if (a==11)=true then (
 some (⟨5,false,(0:Int),(0:Int),([]:aN)⟩:kindOfR))
 else (
 if (a==12)=true then (
 some (⟨6,false,(0:Int),(0:Int),gU⟩:kindOfR))
 else (
 if (a==13)=true then (
 some (⟨7,false,(0:Int),(0:Int),gU⟩:kindOfR))
 else (
 if (a==14)=true then (
 Zy_J3 a (a==14))
 else (
 Zy_J3 a (a==18)))))))
def Zy_J1 (a:Int)(b:Bool):Option (kindOfR) :=
 if b=true then (
 some (⟨2,false,(aH ((aH (a - 3))+1)),(0:Int),([]:aN)⟩:kindOfR))
 else (
 if (a==6)=true then (
 Zy_J2 a (a==6))
 else (
 if (a==7)=true then (
 Zy_J2 a (a==7))
 else (
 if (a==8)=true then (
 Zy_J2 a (a==8))
 else (
 Zy_J2 a (a==9)))))
def Zy (a:Int):Option (kindOfR) :=
 if (a==1)=true then (
 some (⟨1,false,(0:Int),(0:Int),([]:aN)⟩:kindOfR))
 else (
 if (a==2)=true then (
 some (⟨1,true,(0:Int),(0:Int),([]:aN)⟩:kindOfR))
 else (
 if (a==3)=true then (
 Zy_J1 a (a==3))
 else (
 if (a==4)=true then (
 Zy_J1 a (a==4))
 else (
 Zy_J1 a (a==5)))))
def Z3e (k1:leafKind):Option (aN) :=
 if k1.data=true then (
 some oB)
 else (
 some gU)
def Z3f (k1:pairKind):Option (aN) :=
 some ([]:aN)
def Z3m (k1:soloKind):Option (aN) :=
 some ([]:aN)
def Z3n (k1:topKind):Option (aN) :=
 some eQ
def Z3d (k1:formKind):Option (aN) :=
 some ki
def Z3k (k1:shiftKind):Option (aN) :=
 some k1.use
def Z3l (k1:shiftKind):Option (aN) :=
 some k1.use
def Z3g (k1:shiftKind)(a:Int)(b:Int):Option (aN) :=
 some k1.use
def Z3h (k1:shiftKind)(a:Int)(b:Int):Option (aN) :=
 some k1.use
def Z3i (k1:shiftKind)(a:Int)(b:Int):Option (aN) :=
 some k1.use
def Z3j (k1:shiftKind)(a:Int)(b:Int):Option (aN) :=
 some k1.use
def fN (r:kindOfR):Option (aN) :=
 if Nat.beq r.t 0=true then none else (if Nat.beq r.t 1=true then Z3e (⟨r.b0⟩:leafKind) else (if Nat.beq r.t 2=true then Z3f (⟨r.i0⟩:pairKind) else (if Nat.beq r.t 3=true then Z3m (⟨r.i0⟩:soloKind) else (if Nat.beq r.t 4=true then Z3n (⟨⟩:topKind) else (if Nat.beq r.t 5=true then Z3d (⟨⟩:formKind) else (if Nat.beq r.t 6=true then Z3k (⟨r.s0⟩:shiftKind) else (if Nat.beq r.t 7=true then Z3l (⟨r.s0⟩:shiftKind) else (if Nat.beq r.t 8=true then Z3g (⟨r.s0⟩:shiftKind) r.i0 r.i1 else (if Nat.beq r.t 9=true then Z3h (⟨r.s0⟩:shiftKind) r.i0 r.i1 else (if Nat.beq r.t 10=true then Z3i (⟨r.s0⟩:shiftKind) r.i0 r.i1 else (Z3j (⟨r.s0⟩:shiftKind) r.i0 r.i1)))))))))))
def cK (a b:aN):Option (Int) :=
 if a.length<4294967281 then some (Lib.index a b) else none
def Z2b (p1:aN)(a:aN):Option (Int) :=
 (cK p1 a).bind fun b =>
 some b
def Z3p (p1:aN)(a:aN):Option (Bool) :=
 (Z2b p1 a).bind fun b =>
 some (decide (b≥0))
def Z6 (b:aN)(a:aN):Option (Bool) :=
 (Z3p a b).bind fun e =>
 some e
def Z1v (b:Node)(a:aN):Option (Bool) :=
 (Z6 gU a).bind fun h =>
 (bQ (h||((b.Dims.length:Int)==0)) (Z6 eQ a)).bind fun e =>
 (bQ ((h||((b.Dims.length:Int)==0))&&(e||((b.Ints.length:Int)==0))) (Z6 ki a)).bind fun g =>
 (bQ (((h||((b.Dims.length:Int)==0))&&(e||((b.Ints.length:Int)==0)))&&(g||(b.Form==([]:aN)))) (Z6 oC a)).bind fun i =>
 some ((((h||((b.Dims.length:Int)==0))&&(e||((b.Ints.length:Int)==0)))&&(g||(b.Form==([]:aN))))&&(i||((b.Data.length:Int)==0)))
def Zb_J1 (a:(List Int)):Option (Bool) :=
 some (decide ((a.length:Int)≤6))
def Zb_L1 (a:(List Int))(e:Int)(b:Int):Option ((Int×Int)⊕((Bool)⊕(Unit))) :=
 if (decide (b<(a.length:Int)))=true then (
 if (0≤b∧b<(a.length:Int)) then
 if ((decide ((ix a b)<1))||(decide ((ix a b)>4096)))=true then (
 some (.inr (.inl false)))
 else (
 if (decide ((aH (e*(ix a b)))>4096))=true then (
 some (.inr (.inl false)))
 else (
 some (.inl ((aH (e*(ix a b))),(aH (b+1))))))
 else none)
 else (
 some (.inr (.inr ())))
def Zb (a:(List Int)):Option (Bool) :=
 (aR (fun s:Int×Int=>Zb_L1 a s.1 s.2) ((1:Int),(0:Int))).bind fun e=>match e with
 | .inl e=>some e
 | .inr e=>Zb_J1 a
def Zl_J1 (a:Int):Option (Int) :=
 some a
def Zl_L1 (a:(List Int))(e:Int)(b:Int):Option ((Int×Int)⊕(Int)) :=
 if (decide (b<(a.length:Int)))=true then (
 if (0≤b∧b<(a.length:Int)) then
 some (.inl ((aH (e*(ix a b))),(aH (b+1))))
 else none)
 else (
 some (.inr e))
def Zl (a:(List Int)):Option (Int) :=
 (aR (fun s:Int×Int=>Zl_L1 a s.1 s.2) ((1:Int),(0:Int))).bind fun e=>Zl_J1 e
def Z31 (p1:Int):Option (Bool) :=
 some ((decide (p1≥0))&&(decide (p1<2147483647)))
def Z14_J1:Option (Bool) :=
 some true
def Z14_L1 (b:(List Int))(a:Int):Option ((Int)⊕((Bool)⊕(Unit))) :=
 if (decide (a<(b.length:Int)))=true then (
 if (0≤a∧a<(b.length:Int)) then
 (Z31 (ix b a)).bind fun e =>
 if (!e)=true then (
 some (.inr (.inl false)))
 else (
 some (.inl (aH (a+1))))
 else none)
 else (
 some (.inr (.inr ())))
def Z14 (a:(List Int)):Option (Bool) :=
 (aR (fun s:Int=>Z14_L1 a s) (0:Int)).bind fun e=>match e with
 | .inl e=>some e
 | .inr e=>Z14_J1
def Z2k (t1:Tensor):Option (Bool) :=
 (Zb t1.Dims).bind fun a =>
 (bQ a (Zl t1.Dims)).bind fun b =>
 (bQ (a&&((t1.Data.length:Int)==b)) (Z14 t1.Data)).bind fun e =>
 some ((a&&((t1.Data.length:Int)==b))&&e)
def Z1k (k1:leafKind)(e:Node)(a:(List (List Int))):Option ((List Int)×Bool) :=
 (bQ (!((a.length:Int) != 0)) (Zb e.Dims)).bind fun b =>
 (bQ ((!(((a.length:Int) != 0)||(!b)))&&k1.data) (Z2k (⟨e.Dims,e.Data⟩:Tensor))).bind fun g =>
 if ((((a.length:Int) != 0)||(!b))||(k1.data&&(!g)))=true then (
 some (([]:List Int),false))
 else (
 some (e.Dims,true))
def Z11_J1:Option (Bool) :=
 some true
def Z11_L1 (b:(List Int))(e:(List Int))(a:Int):Option ((Int)⊕((Bool)⊕(Unit))) :=
 if (decide (a<(b.length:Int)))=true then (
 if (0≤a∧a<(b.length:Int)) then
 if (0≤a∧a<(e.length:Int)) then
 if ((ix b a) != (ix e a))=true then (
 some (.inr (.inl false)))
 else (
 some (.inl (aH (a+1))))
 else none
 else none)
 else (
 some (.inr (.inr ())))
def Z11 (b:(List Int))(a:(List Int)):Option (Bool) :=
 if ((b.length:Int) != (a.length:Int))=true then (
 some false)
 else (
 (aR (fun s:Int=>Z11_L1 b a s) (0:Int)).bind fun e=>match e with
 | .inl e=>some e
 | .inr e=>Z11_J1)
def Z22 (k1:pairKind)(e:Node)(a:(List (List Int))):Option ((List Int)×Bool) :=
 if ((a.length:Int) != 2)=false→(0≤(0:Int)∧(0:Int)<(a.length:Int)) then
 if ((a.length:Int) != 2)=false→(0≤(1:Int)∧(1:Int)<(a.length:Int)) then
 (bQ (!((a.length:Int) != 2)) (Z11 (ix a 0) (ix a 1))).bind fun b =>
 if (((a.length:Int) != 2)||(!b))=true then (
 some (([]:List Int),false))
 else (
 if (0≤(0:Int)∧(0:Int)<(a.length:Int)) then
 some ((ix a 0),true)
 else none)
 else none
 else none
def Z2t (k1:soloKind)(b:Node)(a:(List (List Int))):Option ((List Int)×Bool) :=
 if ((a.length:Int) != 1)=true then (
 some (([]:List Int),false))
 else (
 if (0≤(0:Int)∧(0:Int)<(a.length:Int)) then
 some ((ix a 0),true)
 else none)
def Zk (b:(List Int))(a:Int):Option (Bool) :=
 some ((decide (a≥0))&&(decide (a<(b.length:Int))))
def Z1w (k1:topKind)(b:Node)(a:(List (List Int))):Option ((List Int)×Bool) :=
 if (((a.length:Int) != 1)||((b.Ints.length:Int) != 1))=false→(0≤(0:Int)∧(0:Int)<(a.length:Int)) then
 if (((a.length:Int) != 1)||((b.Ints.length:Int) != 1))=false→(0≤(0:Int)∧(0:Int)<(b.Ints.length:Int)) then
 (bQ (!(((a.length:Int) != 1)||((b.Ints.length:Int) != 1))) (Zk (ix a 0) (ix b.Ints 0))).bind fun e =>
 if ((((a.length:Int) != 1)||((b.Ints.length:Int) != 1))||(!e))=true then (
 some (([]:List Int),false))
 else (
 if (0≤(0:Int)∧(0:Int)<(a.length:Int)) then
 some ((ix a 0),true)
 else none)
 else none
 else none
def dY (p1:aN)(a:aN):Option (aN×aN×Bool) :=
 (cK p1 a).bind fun b =>
 if (decide (b≥0))=true then (
 if (0≤(0:Int)∧(0:Int)≤b∧b≤(p1.length:Int)) then
 if (0≤(aH (b+(a.length:Int)))∧(aH (b+(a.length:Int)))≤(p1.length:Int)∧(p1.length:Int)≤(p1.length:Int)) then
 some ((sub p1 (0:Int) b),(sub p1 (aH (b+(a.length:Int))) (p1.length:Int)),true)
 else none
 else none)
 else (
 some (p1,([]:aN),false))
def Z2z (p1:aN)(a:aN):Option (aN×aN×Bool) :=
 (dY p1 a).bind fun b =>
 some (b.1,b.2.1,b.2.2)
def Z38 (b a:aN):Option (Int) :=
 match a with
 | [c]=>some (Lib.countByte b c)
 | _=>none
def Z0l_J3 (p1:aN)(b:Int)(g:aN)(e:(List aN))(a:Int):Option ((List aN)) :=
 if (0≤a∧a<((List.replicate (if (aH ((p1.length:Int)+1))<b then (aH ((p1.length:Int)+1)) else b).toNat ([]:aN)).length:Int)) then
 if (0≤(0:Int)∧(0:Int)≤(aH (a+1))∧(aH (a+1))≤((List.replicate (if (aH ((p1.length:Int)+1))<b then (aH ((p1.length:Int)+1)) else b).toNat ([]:aN)).length:Int)) then
 some (sub (e.set a.toNat g) (0:Int) (aH (a+1)))
 else none
 else none
def Z0l_L1 (p1:aN)(h:aN)(a:Int)(i:Int)(b:aN)(j:(List aN))(e:Int):Option ((aN×(List aN)×Int)⊕(aN×(List aN)×Int)) :=
 if (decide (e<(aH ((if (aH ((p1.length:Int)+1))<i then (aH ((p1.length:Int)+1)) else i) - 1))))=true then (
 (Z2b b h).bind fun g =>
 if (decide (g<0))=true then (
 some (.inr (b,j,e)))
 else (
 if (0≤(0:Int)∧(0:Int)≤(aH (g+a))∧(aH (g+a))≤(b.length:Int)) then
 if (0≤e∧e<((List.replicate (if (aH ((p1.length:Int)+1))<i then (aH ((p1.length:Int)+1)) else i).toNat ([]:aN)).length:Int)) then
 (nm (j.set e.toNat (sub b (0:Int) (aH (g+a))))).bind fun l =>
 if (0≤(aH (g+(h.length:Int)))∧(aH (g+(h.length:Int)))≤(b.length:Int)∧(b.length:Int)≤(b.length:Int)) then
 some (.inl ((sub b (aH (g+(h.length:Int))) (b.length:Int)),l,(aH (e+1))))
 else none
 else none
 else none))
 else (
 some (.inr (b,j,e)))
def Z0l_J2 (p1:aN)(g:aN)(b:Int)(a:Int):Option ((List aN)) :=
 if (0≤(if (aH ((p1.length:Int)+1))<a then (aH ((p1.length:Int)+1)) else a)∧(if (aH ((p1.length:Int)+1))<a then (aH ((p1.length:Int)+1)) else a)≤140737488355328∧16*(if (aH ((p1.length:Int)+1))<a then (aH ((p1.length:Int)+1)) else a)≤281474976710656) then
 (aR (fun s:aN×(List aN)×Int=>Z0l_L1 p1 g b a s.1 s.2.1 s.2.2) (p1,(List.replicate (if (aH ((p1.length:Int)+1))<a then (aH ((p1.length:Int)+1)) else a).toNat ([]:aN)),(0:Int))).bind fun e=>Z0l_J3 p1 a e.1 e.2.1 e.2.2
 else none
def Z0l (p1:aN)(b:aN)(a:Int)(e:Int):Option ((List aN)) :=
 if (e==0)=true then (
 some ([]:List aN))
 else (
 if (b==([]:aN))=true then (
 none)
 else (
 if (decide (e<0))=true then (
 (Z38 p1 b).bind fun g =>
 Z0l_J2 p1 b a (aH (g+1)))
 else (
 Z0l_J2 p1 b a e)))
def Z30 (p1:aN)(a:aN):Option ((List aN)) :=
 (Z0l p1 a (0:Int) (-1:Int)).bind fun b =>
 some b
def dE (a:aN)(b:Int):Option (Int) :=
 some (Lib.indexByte a b.toNat.toUInt8)
def Z1t (p1:aN)(a:Int):Option (Int) :=
 (dE p1 a).bind fun b =>
 some b
def Zd_J4 (a:aN×aN×Bool)(b:(List aN)):Option ((List aN)×aN×Bool) :=
 some (b,a.2.1,true)
def Zd_L3 (b:aN×aN×Bool)(a:Int):Option ((Int)⊕(((List aN)×aN×Bool)⊕(Unit))) :=
 if (decide (a<(b.2.1.length:Int)))=true then (
 if (0≤a∧a<(b.2.1.length:Int)) then
 if ((decide ((bt b.2.1 a)<97))||(decide ((bt b.2.1 a)>122)))=false→(0≤(0:Int)∧(0:Int)≤a∧a≤(b.2.1.length:Int)) then
 (bQ (!((decide ((bt b.2.1 a)<97))||(decide ((bt b.2.1 a)>122)))) (Z1t (sub b.2.1 (0:Int) a) (bt b.2.1 a))).bind fun e =>
 (bQ (!(((decide ((bt b.2.1 a)<97))||(decide ((bt b.2.1 a)>122)))||(decide (e≥0)))) (Z1t b.1 (bt b.2.1 a))).bind fun g =>
 if ((((decide ((bt b.2.1 a)<97))||(decide ((bt b.2.1 a)>122)))||(decide (e≥0)))||(decide (g<0)))=true then (
 some (.inr (.inl (([]:List aN),([]:aN),false))))
 else (
 some (.inl (aH (a+1))))
 else none
 else none)
 else (
 some (.inr (.inr ())))
def Zd_J3 (a:aN×aN×Bool)(b:(List aN)):Option ((List aN)×aN×Bool) :=
 (aR (fun s:Int=>Zd_L3 a s) (0:Int)).bind fun e=>match e with
 | .inl e=>some e
 | .inr e=>Zd_J4 a b
def Zd_J2 (a:Int):Option ((Int)⊕(((List aN)×aN×Bool)⊕(Unit))) :=
 some (.inl (aH (a+1)))
def Zd_L2 (e:(List aN))(b:Int)(a:Int):Option ((Int)⊕(((List aN)×aN×Bool)⊕(Unit))) :=
 if (decide (a<((ix e b).length:Int)))=true then (
 if (0≤a∧a<((ix e b).length:Int)) then
 if ((decide ((bt (ix e b) a)<97))||(decide ((bt (ix e b) a)>122)))=true then (
 some (.inr (.inl (([]:List aN),([]:aN),false))))
 else (
 some (.inl (aH (a+1))))
 else none)
 else (
 some (.inr (.inr ())))
def Zd_L1 (b:(List aN))(a:Int):Option ((Int)⊕(((List aN)×aN×Bool)⊕(Unit))) :=
 if (decide (a<(b.length:Int)))=true then (
 if (0≤a∧a<(b.length:Int)) then
 if (decide (((ix b a).length:Int)>6))=true then (
 some (.inr (.inl (([]:List aN),([]:aN),false))))
 else (
 (aR (fun s:Int=>Zd_L2 b a s) (0:Int)).bind fun e=>match e with
 | .inl e=>some (.inr (.inl e))
 | .inr e=>Zd_J2 a)
 else none)
 else (
 some (.inr (.inr ())))
def Zd (a:aN):Option ((List aN)×aN×Bool) :=
 (Z2z a str0).bind fun b =>
 if ((!b.2.2)||(decide ((b.2.1.length:Int)>6)))=true then (
 some (([]:List aN),([]:aN),false))
 else (
 (Z30 b.1 str6).bind fun g =>
 if (decide ((g.length:Int)>6))=true then (
 some (([]:List aN),([]:aN),false))
 else (
 (aR (fun s:Int=>Zd_L1 g s) (0:Int)).bind fun e=>match e with
 | .inl e=>some e
 | .inr e=>Zd_J3 b g))
def Zn (a:List Int):Option (List Int) :=
 if a.length≤17592186044416 then some a else none
def Z06_J3 (a:(List Int)):Option ((List Int)) :=
 some a
def Z06_J2 (a:(List Int))(g:Int)(b:Int)(e:(List Int)):Option (((List Int)×Int×Int)⊕((List Int))) :=
 if (0≤b∧b<(a.length:Int)) then
 some (.inl (e,(aH (g*(ix a b))),(aH (b - 1))))
 else none
def Z06_L1 (a:(List Int))(e:(List Int))(g:Int)(b:Int):Option (((List Int)×Int×Int)⊕((List Int))) :=
 if (decide (b≥0))=true then (
 if (0≤b∧b<(a.length:Int)) then
 if (decide ((ix a b)>1))=true then (
 if (0≤b∧b<((List.replicate (a.length:Int).toNat (0:Int)).length:Int)) then
 Z06_J2 a g b (e.set b.toNat g)
 else none)
 else (
 Z06_J2 a g b e)
 else none)
 else (
 some (.inr e))
def Z06 (a:(List Int)):Option ((List Int)) :=
 if (0≤(a.length:Int)∧(a.length:Int)≤140737488355328∧8*(a.length:Int)≤281474976710656) then
 (aR (fun s:(List Int)×Int×Int=>Z06_L1 a s.1 s.2.1 s.2.2) ((List.replicate (a.length:Int).toNat (0:Int)),(1:Int),(aH ((a.length:Int) - 1)))).bind fun e=>Z06_J3 e
 else none
def Zj_J7 (a:(List Int)):Option ((List Int)) :=
 some a
def Zj_J6 (a:Int)(b:(List Int)):Option (((List Int)×Int)⊕((List Int))) :=
 some (.inl (b,(aH (a+1))))
def Zj_J5 (b:Int)(a:(List Int)):Option (((List Int)×Int)⊕((List Int))) :=
 some (.inl (a,(aH (b+1))))
def Zj_L2 (f1:form)(a:aN)(g:(List Int))(e:Int)(h:(List Int))(b:Int):Option (((List Int)×Int)⊕((List Int))) :=
 if (decide (b<(a.length:Int)))=true then (
 if (0≤b∧b<(a.length:Int)) then
 if (0≤e∧e<(f1.order.length:Int)) then
 if ((bt a b)==(bt f1.order e))=true then (
 if (0≤e∧e<((List.replicate (f1.order.length:Int).toNat (0:Int)).length:Int)) then
 if (0≤b∧b<(g.length:Int)) then
 Zj_J5 b (h.set e.toNat (aH ((ix h e)+(ix g b))))
 else none
 else none)
 else (
 Zj_J5 b h)
 else none
 else none)
 else (
 some (.inr h))
def Zj_L1 (f1:form)(b:aN)(a:(List Int))(h:(List Int))(g:Int):Option (((List Int)×Int)⊕((List Int))) :=
 if (decide (g<((List.replicate (f1.order.length:Int).toNat (0:Int)).length:Int)))=true then (
 (aR (fun s:(List Int)×Int=>Zj_L2 f1 b a g s.1 s.2) (h,(0:Int))).bind fun e=>Zj_J6 g e)
 else (
 some (.inr h))
def Zj (f1:form)(a:aN)(b:(List Int)):Option ((List Int)) :=
 if (0≤(f1.order.length:Int)∧(f1.order.length:Int)≤140737488355328∧8*(f1.order.length:Int)≤281474976710656) then
 (aR (fun s:(List Int)×Int=>Zj_L1 f1 a b s.1 s.2) ((List.replicate (f1.order.length:Int).toNat (0:Int)),(0:Int))).bind fun e=>Zj_J7 e
 else none
def Z3_J9 (h:(List aN)×aN×Bool)(b:aN)(e:(List Int))(a:(List Int))(f224:(List (List Int))):Option (form×Bool) :=
 (Z06 a).bind fun g =>
 (Zj (⟨h.1,h.2.1,b,e,a,f224,([]:List Int)⟩:form) h.2.1 g).bind fun i =>
 some ((⟨h.1,h.2.1,b,e,a,f224,i⟩:form),true)
def Z3_L4 (b:(List (List Int)))(i:(List aN)×aN×Bool)(m:aN)(j:(List Int))(h:(List Int))(e:(List (List Int)))(a:Int):Option (((List (List Int))×Int)⊕((List (List Int)))) :=
 if (decide (a<(i.1.length:Int)))=true then (
 if (0≤a∧a<(i.1.length:Int)) then
 if (0≤a∧a<(b.length:Int)) then
 (Z06 (ix b a)).bind fun l =>
 (Zj (⟨i.1,i.2.1,m,j,h,e,([]:List Int)⟩:form) (ix i.1 a) l).bind fun g =>
 if e.length+([g]:List (List Int)).length≤5864062014805 then
 some (.inl ((e++([g]:List (List Int))),(aH (a+1))))
 else none
 else none
 else none)
 else (
 some (.inr e))
def Z3_J8 (g:(List (List Int)))(i:(List aN)×aN×Bool)(h:aN)(a:(List Int)):Option (form×Bool) :=
 if (0≤(0:Int)∧(0:Int)≤(i.2.1.length:Int)∧(i.2.1.length:Int)≤(a.length:Int)) then
 (Zn (sub a (0:Int) (i.2.1.length:Int))).bind fun b =>
 (Zb b).bind fun j =>
 if (!j)=true then (
 some ((⟨([]:List aN),([]:aN),([]:aN),([]:List Int),([]:List Int),([]:List (List Int)),([]:List Int)⟩:form),false))
 else (
 (aR (fun s:(List (List Int))×Int=>Z3_L4 g i h a b s.1 s.2) (([]:List (List Int)),(0:Int))).bind fun e=>Z3_J9 i h a b e)
 else none
def Z3_L3 (e:aN)(b:(List Int))(h:(List Int))(g:Int)(a:Int):Option (((List Int)×Int×Int)⊕((form×Bool)⊕((List Int)))) :=
 if (decide (a<(e.length:Int)))=true then (
 if (0≤a∧a<(e.length:Int)) then
 if (0≤(IntKind.wrap .u8 ((bt e a) - 97))∧(IntKind.wrap .u8 ((bt e a) - 97))<26) then
 if h.length+([(ix b (IntKind.wrap .u8 ((bt e a) - 97)))]:List Int).length≤17592186044416 then
 if (decide ((aH (g*(ix b (IntKind.wrap .u8 ((bt e a) - 97)))))>65536))=true then (
 some (.inr (.inl ((⟨([]:List aN),([]:aN),([]:aN),([]:List Int),([]:List Int),([]:List (List Int)),([]:List Int)⟩:form),false))))
 else (
 some (.inl ((h++([(ix b (IntKind.wrap .u8 ((bt e a) - 97)))]:List Int)),(aH (g*(ix b (IntKind.wrap .u8 ((bt e a) - 97))))),(aH (a+1)))))
 else none
 else none
 else none)
 else (
 some (.inr (.inr h)))
def Z3_J7 (a:(List (List Int)))(h:(List aN)×aN×Bool)(g:aN)(b:(List Int)):Option (form×Bool) :=
 (aR (fun s:(List Int)×Int×Int=>Z3_L3 g b s.1 s.2.1 s.2.2) (([]:List Int),(1:Int),(0:Int))).bind fun e=>match e with
 | .inl e=>some e
 | .inr e=>Z3_J8 a h g e
def Z3_J6 (e:Int)(b:aN)(a:(List Int)):Option ((aN×(List Int)×Int)⊕((form×Bool)⊕(aN×(List Int)))) :=
 some (.inl (b,a,(aH (e+1))))
def Z3_J5 (b:Int)(e:aN)(a:(List Int)):Option ((aN×(List Int)×Int)⊕((form×Bool)⊕(aN×(List Int)))) :=
 some (.inl (e,a,(aH (b+1))))
def Z3_L2 (g:(List (List Int)))(i:(List aN)×aN×Bool)(e:Int)(h:aN)(b:(List Int))(a:Int):Option ((aN×(List Int)×Int)⊕((form×Bool)⊕(aN×(List Int)))) :=
 if (decide (a<((ix i.1 e).length:Int)))=true then (
 if (0≤a∧a<((ix i.1 e).length:Int)) then
 if (0≤(IntKind.wrap .u8 ((bt (ix i.1 e) a) - 97))∧(IntKind.wrap .u8 ((bt (ix i.1 e) a) - 97))<26) then
 if ((ix b (IntKind.wrap .u8 ((bt (ix i.1 e) a) - 97))) != 0)=true→(0≤a∧a<((ix g e).length:Int)) then
 if (((ix b (IntKind.wrap .u8 ((bt (ix i.1 e) a) - 97))) != 0)&&((ix b (IntKind.wrap .u8 ((bt (ix i.1 e) a) - 97))) != (ix (ix g e) a)))=true then (
 some (.inr (.inl ((⟨([]:List aN),([]:aN),([]:aN),([]:List Int),([]:List Int),([]:List (List Int)),([]:List Int)⟩:form),false))))
 else (
 if (0≤a∧a<((ix g e).length:Int)) then
 (nm (b.set (IntKind.wrap .u8 ((bt (ix i.1 e) a) - 97)).toNat (ix (ix g e) a))).bind fun j =>
 (Z1t h (bt (ix i.1 e) a)).bind fun l =>
 if (decide (l<0))=true then (
 if (0≤a∧a≤(aH (a+1))∧(aH (a+1))≤((ix i.1 e).length:Int)) then
 if h.length+(sub (ix i.1 e) a (aH (a+1))).length≤9223372036854775807 then
 Z3_J5 a (h++(sub (ix i.1 e) a (aH (a+1)))) j
 else none
 else none)
 else (
 Z3_J5 a h j)
 else none)
 else none
 else none
 else none)
 else (
 some (.inr (.inr (h,b))))
def Z3_L1 (a:(List (List Int)))(i:(List aN)×aN×Bool)(h:aN)(g:(List Int))(b:Int):Option ((aN×(List Int)×Int)⊕((form×Bool)⊕(aN×(List Int)))) :=
 if (decide (b<(i.1.length:Int)))=true then (
 if (0≤b∧b<(i.1.length:Int)) then
 if (0≤b∧b<(a.length:Int)) then
 if (((ix i.1 b).length:Int) != ((ix a b).length:Int))=true then (
 some (.inr (.inl ((⟨([]:List aN),([]:aN),([]:aN),([]:List Int),([]:List Int),([]:List (List Int)),([]:List Int)⟩:form),false))))
 else (
 (aR (fun s:aN×(List Int)×Int=>Z3_L2 a i b s.1 s.2.1 s.2.2) (h,g,(0:Int))).bind fun e=>match e with
 | .inl e=>some (.inr (.inl e))
 | .inr e=>Z3_J6 b e.1 e.2)
 else none
 else none)
 else (
 some (.inr (.inr (h,g))))
def Z3 (b:aN)(a:(List (List Int))):Option (form×Bool) :=
 (Zd b).bind fun g =>
 if ((!g.2.2)||((g.1.length:Int) != (a.length:Int)))=true then (
 some ((⟨([]:List aN),([]:aN),([]:aN),([]:List Int),([]:List Int),([]:List (List Int)),([]:List Int)⟩:form),false))
 else (
 (aR (fun s:aN×(List Int)×Int=>Z3_L1 a g s.1 s.2.1 s.2.2) (g.2.1,(List.replicate 26 (0:Int)),(0:Int))).bind fun e=>match e with
 | .inl e=>some e
 | .inr e=>Z3_J7 a g e.1 e.2)
def Z2s (k1:formKind)(e:Node)(a:(List (List Int))):Option ((List Int)×Bool) :=
 (Z3 e.Form a).bind fun b =>
 some (b.1.dims,b.2)
def Z2m (a:(List Int)):Option (View) :=
 (Zb a).bind fun g =>
 if (!g)=true then (
 some (⟨([]:List Int),([]:List Int),(0:Int),(0:Int)⟩:View))
 else (
 (Zn a).bind fun h =>
 (Z06 a).bind fun b =>
 (Zl a).bind fun e =>
 some (⟨h,b,(0:Int),e⟩:View))
def Zg_J1 (v1:View)(b:Int)(a:Int):Option (Bool) :=
 some ((decide (b≥0))&&(decide (a<v1.Base)))
def Zg_L1 (v1:View)(b:Int)(e:Int)(a:Int):Option ((Int×Int×Int)⊕((Bool)⊕(Int×Int))) :=
 if (decide (a<(v1.Strides.length:Int)))=true then (
 if (0≤a∧a<(v1.Strides.length:Int)) then
 if ((decide ((ix v1.Strides a)<(-4096:Int)))||(decide ((ix v1.Strides a)>4096)))=true then (
 some (.inr (.inl false)))
 else (
 if (0≤a∧a<(v1.Dims.length:Int)) then
 some (.inl ((aH (b+(if (aH ((ix v1.Strides a)*(aH ((ix v1.Dims a) - 1))))<0 then (aH ((ix v1.Strides a)*(aH ((ix v1.Dims a) - 1)))) else (0:Int)))),(aH (e+(if (aH ((ix v1.Strides a)*(aH ((ix v1.Dims a) - 1))))>0 then (aH ((ix v1.Strides a)*(aH ((ix v1.Dims a) - 1)))) else (0:Int)))),(aH (a+1))))
 else none)
 else none)
 else (
 some (.inr (.inr (b,e))))
def Zg (v1:View):Option (Bool) :=
 (Zb v1.Dims).bind fun a =>
 if ((((((!a)||((v1.Strides.length:Int) != (v1.Dims.length:Int)))||(decide (v1.Base<1)))||(decide (v1.Base>4096)))||(decide (v1.Offset<0)))||(decide (v1.Offset≥v1.Base)))=true then (
 some false)
 else (
 (aR (fun s:Int×Int×Int=>Zg_L1 v1 s.1 s.2.1 s.2.2) (v1.Offset,v1.Offset,(0:Int))).bind fun e=>match e with
 | .inl e=>some e
 | .inr e=>Zg_J1 v1 e.1 e.2)
def Z08_J3 (p1:View)(a:(List Int))(b:(List Int)):Option (Bool×View) :=
 some (true,(⟨a,b,p1.Offset,p1.Base⟩:View))
def Z08_J2 (b:Int)(a:(List Int)):Option (((List Int)×Int)⊕((Bool×View)⊕((List Int)))) :=
 some (.inl (a,(aH (b+1))))
def Z08_L1 (p1:View)(e:(List Int))(b:View)(i:(List Int))(g:(List Int))(a:Int):Option (((List Int)×Int)⊕((Bool×View)⊕((List Int)))) :=
 if (decide (a<(b.Dims.length:Int)))=true then (
 if (0≤a∧a<(b.Dims.length:Int)) then
 if (0≤(aH ((aH ((e.length:Int) - (b.Dims.length:Int)))+a))∧(aH ((aH ((e.length:Int) - (b.Dims.length:Int)))+a))<(e.length:Int)) then
 if ((ix b.Dims a)==(ix e (aH ((aH ((e.length:Int) - (b.Dims.length:Int)))+a))))=true then (
 if (0≤a∧a<(b.Strides.length:Int)) then
 if (0≤(aH ((aH ((e.length:Int) - (b.Dims.length:Int)))+a))∧(aH ((aH ((e.length:Int) - (b.Dims.length:Int)))+a))<((List.replicate (e.length:Int).toNat (0:Int)).length:Int)) then
 (nm (g.set (aH ((aH ((e.length:Int) - (b.Dims.length:Int)))+a)).toNat (ix b.Strides a))).bind fun h =>
 Z08_J2 a h
 else none
 else none)
 else (
 if ((ix b.Dims a) != 1)=true then (
 some (.inr (.inl (false,(⟨i,g,p1.Offset,p1.Base⟩:View)))))
 else (
 Z08_J2 a g))
 else none
 else none)
 else (
 some (.inr (.inr g)))
def Z08 (p1:View)(a:(List Int))(h:View):Option (Bool×View) :=
 (Zb a).bind fun g =>
 if ((!g)||(decide ((a.length:Int)<(h.Dims.length:Int))))=true then (
 some (false,p1))
 else (
 (Zn a).bind fun b =>
 if (0≤(a.length:Int)∧(a.length:Int)≤140737488355328∧8*(a.length:Int)≤281474976710656) then
 (aR (fun s:(List Int)×Int=>Z08_L1 p1 a h b s.1 s.2) ((List.replicate (a.length:Int).toNat (0:Int)),(0:Int))).bind fun e=>match e with
 | .inl e=>some e
 | .inr e=>Z08_J3 p1 b e
 else none)
def Z34 (v1:View)(j:(List Int))(i:View):Option (View) :=
 (Zg v1).bind fun h =>
 if (!h)=true then (
 some (⟨([]:List Int),([]:List Int),(0:Int),(0:Int)⟩:View))
 else (
 (Zn v1.Dims).bind fun e =>
 (Zn v1.Strides).bind fun g =>
 (Z08 (⟨e,g,v1.Offset,v1.Base⟩:View) j i).bind fun a =>
 (bQ (!(!a.1)) (Zg a.2)).bind fun b =>
 if ((!a.1)||(!b))=true then (
 some (⟨([]:List Int),([]:List Int),(0:Int),(0:Int)⟩:View))
 else (
 some a.2))
def Z2d (v1:View)(a:(List Int)):Option (View) :=
 (Z34 v1 a v1).bind fun b =>
 some b
def Z0z_J3 (v1:View)(a:Int)(e:Int)(b:Int):Option (View) :=
 if (0≤a∧a<(v1.Dims.length:Int)) then
 if (0≤a∧a<(v1.Strides.length:Int)) then
 some (⟨(v1.Dims.set a.toNat e),(v1.Strides.set a.toNat b),v1.Offset,v1.Base⟩:View)
 else none
 else none
def Z0z (v1:View)(e:Int)(a:Int)(b:Int):Option (View) :=
 if (a==1)=true then (
 Z0z_J3 v1 e a (0:Int))
 else (
 Z0z_J3 v1 e a b)
def Z1i_J3 (p1:View)(b:Int)(h:Int)(g:Int)(a:Int):Option (Bool×View×Int) :=
 if (0≤b∧b<(p1.Strides.length:Int)) then
 (Z0z (⟨p1.Dims,p1.Strides,(aH (p1.Offset+(aH (g*(ix p1.Strides b))))),p1.Base⟩:View) b h (aH ((ix p1.Strides b)*a))).bind fun e =>
 some (true,e,a)
 else none
def Z1i (p1:View)(b:Int)(e:Int)(g:Int)(a:Int):Option (Bool×View×Int) :=
 (Zk p1.Dims b).bind fun h =>
 if (((!h)||(decide (e<1)))||(decide (e>4096)))=true then (
 some (false,p1,a))
 else (
 if (0≤b∧b<(p1.Dims.length:Int)) then
 if ((((decide (g<0))||(decide (g≥(ix p1.Dims b))))||(decide (a<(-4096:Int))))||(decide (a>4096)))=true then (
 some (false,p1,a))
 else (
 if (decide (e>1))=true then (
 if ((decide ((aH (g+(aH (a*(aH (e - 1))))))<0))||(decide ((aH (g+(aH (a*(aH (e - 1))))))≥(ix p1.Dims b))))=true then (
 some (false,p1,a))
 else (
 Z1i_J3 p1 b e g a))
 else (
 Z1i_J3 p1 b e g (0:Int)))
 else none)
def Z33 (v1:View)(j:Int)(m:Int)(l:Int)(b:Int):Option (View×Int) :=
 (Zg v1).bind fun h =>
 if (!h)=true then (
 some ((⟨([]:List Int),([]:List Int),(0:Int),(0:Int)⟩:View),b))
 else (
 (Zn v1.Dims).bind fun e =>
 (Zn v1.Strides).bind fun g =>
 (Z1i (⟨e,g,v1.Offset,v1.Base⟩:View) j m l b).bind fun a =>
 (bQ (!(!a.1)) (Zg a.2.1)).bind fun i =>
 if ((!a.1)||(!i))=true then (
 some ((⟨([]:List Int),([]:List Int),(0:Int),(0:Int)⟩:View),a.2.2))
 else (
 some (a.2.1,a.2.2)))
def Z2c (v1:View)(b:Int)(h:Int)(a:Int)(e:Int):Option (View) :=
 (Z33 v1 b a h e).bind fun g =>
 some g.1
def Z2l (v1:View)(b:Int)(a:Int):Option (View) :=
 if v1.Dims.length+([(0:Int)]:List Int).length≤17592186044416 then
 if v1.Strides.length+([(0:Int)]:List Int).length≤17592186044416 then
 (Z0z (⟨(v1.Dims++([(0:Int)]:List Int)),(v1.Strides++([(0:Int)]:List Int)),v1.Offset,v1.Base⟩:View) (aH (((v1.Dims++([(0:Int)]:List Int)).length:Int) - 1)) b a).bind fun e =>
 some e
 else none
 else none
def Z1j_J3 (p1:View)(b:Int)(h:Int)(i:Int)(a:Int):Option (Bool×View×Int) :=
 (Z0z p1 b (aH ((aH ((aH ((ix p1.Dims b) - h)).tdiv i))+1)) (aH ((ix p1.Strides b)*a))).bind fun e =>
 (Z2l e h (ix p1.Strides b)).bind fun g =>
 some (true,g,a)
def Z1j (p1:View)(a:Int)(e:Int)(b:Int):Option (Bool×View×Int) :=
 (Zk p1.Dims a).bind fun g =>
 if (((!g)||(decide (e<1)))||(decide (b<1)))=false→(0≤a∧a<(p1.Dims.length:Int)) then
 if ((((!g)||(decide (e<1)))||(decide (b<1)))||(decide (e>(ix p1.Dims a))))=true then (
 some (false,p1,b))
 else (
 if (0≤a∧a<(p1.Strides.length:Int)) then
 if (0≤a∧a<(p1.Dims.length:Int)) then
 if b≠0 then
 if ((aH ((aH ((aH ((ix p1.Dims a) - e)).tdiv b))+1))==1)=true then (
 Z1j_J3 p1 a e b (0:Int))
 else (
 Z1j_J3 p1 a e b b)
 else none
 else none
 else none)
 else none
def Z35 (v1:View)(j:Int)(l:Int)(i:Int):Option (View×Int) :=
 (Zg v1).bind fun e =>
 if (!e)=true then (
 some ((⟨([]:List Int),([]:List Int),(0:Int),(0:Int)⟩:View),i))
 else (
 (Zn v1.Dims).bind fun h =>
 (Zn v1.Strides).bind fun b =>
 (Z1j (⟨h,b,v1.Offset,v1.Base⟩:View) j l i).bind fun a =>
 (bQ (!(!a.1)) (Zg a.2.1)).bind fun g =>
 if ((!a.1)||(!g))=true then (
 some ((⟨([]:List Int),([]:List Int),(0:Int),(0:Int)⟩:View),a.2.2))
 else (
 some (a.2.1,a.2.2)))
def Z2e (v1:View)(a:Int)(b:Int)(e:Int):Option (View) :=
 (Z35 v1 a b e).bind fun g =>
 some g.1
def Z1c (a:Node)(b:(List Int)):Option (View) :=
 (Z2m b).bind fun e =>
 if (a.Op==12)=true then (
 (Z2d e a.Dims).bind fun i =>
 some i)
 else (
 if ((a.Op==14)&&((a.Ints.length:Int)==4))=true→(0≤(3:Int)∧(3:Int)<(a.Ints.length:Int)) then
 if (((a.Op==14)&&((a.Ints.length:Int)==4))&&(decide ((ix a.Ints 3)≥1)))=true then (
 if (0≤(0:Int)∧(0:Int)<(a.Ints.length:Int)) then
 if (0≤(1:Int)∧(1:Int)<(a.Ints.length:Int)) then
 if (0≤(2:Int)∧(2:Int)<(a.Ints.length:Int)) then
 if (0≤(3:Int)∧(3:Int)<(a.Ints.length:Int)) then
 (Z2c e (ix a.Ints 0) (ix a.Ints 1) (ix a.Ints 2) (ix a.Ints 3)).bind fun h =>
 some h
 else none
 else none
 else none
 else none)
 else (
 if ((a.Op==18)&&((a.Ints.length:Int)==3))=true then (
 if (0≤(0:Int)∧(0:Int)<(a.Ints.length:Int)) then
 if (0≤(1:Int)∧(1:Int)<(a.Ints.length:Int)) then
 if (0≤(2:Int)∧(2:Int)<(a.Ints.length:Int)) then
 (Z2e e (ix a.Ints 0) (ix a.Ints 1) (ix a.Ints 2)).bind fun g =>
 some g
 else none
 else none
 else none)
 else (
 some (⟨([]:List Int),([]:List Int),(0:Int),(0:Int)⟩:View)))
 else none)
def Z32 (e:(List Int))(a:(List Int))(b:Int):Option ((List Int)×Int×(List Int)) :=
 some (e,b,a)
def Z05_J2 (b:Type)(YF:b→Int→Option (b×Bool))(e:b×Bool)(a:(List Int))(h:Int)(g:Int):Option (((List Int)×Int×b)⊕(b)) :=
 if (decide (g<0))=true then (
 some (.inr e.1))
 else (
 some (.inl (a,h,e.1)))
def Z05_L2 (j:Type)(YF:j→Int→Option (j×Bool))(g:(List Int))(h:(List Int))(a:(List Int))(e:Int)(b:Int):Option (((List Int)×Int×Int)⊕((List Int)×Int×Int)) :=
 if (decide (b≥0))=true then (
 if (0≤b∧b<((List.replicate (g.length:Int).toNat (0:Int)).length:Int)) then
 if (0≤b∧b<(h.length:Int)) then
 if (0≤b∧b<(g.length:Int)) then
 if (decide ((ix (a.set b.toNat (aH ((ix a b)+1))) b)<(ix g b)))=true then (
 some (.inr ((a.set b.toNat (aH ((ix a b)+1))),(aH (e+(ix h b))),b)))
 else (
 (nm ((a.set b.toNat (aH ((ix a b)+1))).set b.toNat (0:Int))).bind fun i =>
 some (.inl (i,(aH ((aH (e+(ix h b))) - (aH ((ix h b)*(ix g b))))),(aH (b - 1)))))
 else none
 else none
 else none)
 else (
 some (.inr (a,e,b)))
def Z05_L1 (b:Type)(YF:b→Int→Option (b×Bool))(j:(List Int))(l:(List Int))(a:(List Int))(h:Int)(i:b):Option (((List Int)×Int×b)⊕(b)) :=
 (YF i h).bind fun g =>
 if (!g.2)=true then (
 some (.inr g.1))
 else (
 (aR (fun s:(List Int)×Int×Int=>Z05_L2 b YF j l s.1 s.2.1 s.2.2) (a,h,(aH ((j.length:Int) - 1)))).bind fun e=>Z05_J2 b YF g e.1 e.2.1 e.2.2)
def Z05 (b:Type)(YF:b→Int→Option (b×Bool))(a:b)(g:(List Int))(h:Int)(i:(List Int)):Option (b) :=
 if (0≤(g.length:Int)∧(g.length:Int)≤140737488355328∧8*(g.length:Int)≤281474976710656) then
 (aR (fun s:(List Int)×Int×b=>Z05_L1 b YF g i s.1 s.2.1 s.2.2) ((List.replicate (g.length:Int).toNat (0:Int)),h,a)).bind fun e=>some e
 else none
def Z3q (a:(List pair))(b:Int):Option (((List pair))×Bool) :=
 if a.length+([(⟨b,(a.length:Int)⟩:pair)]:List pair).length≤8796093022208 then
 some ((a++([(⟨b,(a.length:Int)⟩:pair)]:List pair)),true)
 else none
def Z2f (v1:View):Option ((List Int)×(List pair)×Bool) :=
 (Zg v1).bind fun e =>
 if (!e)=true then (
 some (([]:List Int),([]:List pair),false))
 else (
 (Z32 v1.Dims v1.Strides v1.Offset).bind fun a =>
 (Z05 ((List pair)) (fun (s:(List pair)) (x:Int)=>Z3q s x) ([]:List pair) a.1 a.2.1 a.2.2).bind fun b =>
 some (v1.Dims,b,true))
def Z2r (g:Node)(a:(List Int)):Option ((List Int)×(List pair)×Bool) :=
 (Z1c g a).bind fun e =>
 (Z2f e).bind fun b =>
 some (b.1,b.2.1,b.2.2)
def Z1s (k1:shiftKind)(e:Node)(a:(List (List Int))):Option ((List Int)×Bool) :=
 if ((a.length:Int) != 1)=true then (
 some (([]:List Int),false))
 else (
 if (0≤(0:Int)∧(0:Int)<(a.length:Int)) then
 (Z2r e (ix a 0)).bind fun b =>
 some (b.1,b.2.2)
 else none)
def Z10_J1 (b:Node)(a:(List pair)):Option ((List Int)×(List pair)×Bool) :=
 some (b.Dims,a,true)
def Z10_L1 (e:Int)(a:(List pair))(b:Int):Option (((List pair)×Int)⊕((List pair))) :=
 if (decide (b<e))=true then (
 if a.length+([(⟨b,b⟩:pair)]:List pair).length≤8796093022208 then
 some (.inl ((a++([(⟨b,b⟩:pair)]:List pair)),(aH (b+1))))
 else none)
 else (
 some (.inr a))
def Z10 (j:Node)(a:(List Int)):Option ((List Int)×(List pair)×Bool) :=
 (Zb j.Dims).bind fun b =>
 (bQ (!(!b)) (Zl j.Dims)).bind fun h =>
 (bQ (!(!b)) (Zl a)).bind fun i =>
 if ((!b)||(h != i))=true then (
 some (([]:List Int),([]:List pair),false))
 else (
 (Zl a).bind fun g =>
 (aR (fun s:(List pair)×Int=>Z10_L1 g s.1 s.2) (([]:List pair),(0:Int))).bind fun e=>Z10_J1 j e)
def Z23 (k1:shiftKind)(e:Node)(a:(List (List Int))):Option ((List Int)×Bool) :=
 if ((a.length:Int) != 1)=true then (
 some (([]:List Int),false))
 else (
 if (0≤(0:Int)∧(0:Int)<(a.length:Int)) then
 (Z10 e (ix a 0)).bind fun b =>
 some (b.1,b.2.2)
 else none)
def Z1l (b:(List Int))(a:Int)(g:Int):Option ((List Int)) :=
 (Zn b).bind fun e =>
 if (0≤a∧a<(e.length:Int)) then
 some (e.set a.toNat g)
 else none
def Z21 (a:(List Int))(b:Int):Option (Int×Int×Int) :=
 if (0≤(0:Int)∧(0:Int)≤b∧b≤(a.length:Int)) then
 (Zl (sub a (0:Int) b)).bind fun g =>
 if (0≤b∧b<(a.length:Int)) then
 if (0≤(aH (b+1))∧(aH (b+1))≤(a.length:Int)∧(a.length:Int)≤(a.length:Int)) then
 (Zl (sub a (aH (b+1)) (a.length:Int))).bind fun e =>
 some (g,(ix a b),e)
 else none
 else none
 else none
def Z7_J7 (a:(List pair)):Option ((List pair)) :=
 some a
def Z7_J6 (b:Int)(a:(List pair)):Option (((List pair)×Int)⊕((List pair))) :=
 some (.inl (a,(aH (b+1))))
def Z7_J5 (b:Int)(a:(List pair)):Option (((List pair)×Int)⊕((List pair))) :=
 some (.inl (a,(aH (b+1))))
def Z7_L3 (j:Int)(b:(List pair))(i:Int×Int×Int)(g:Int)(h:Int)(e:(List pair))(a:Int):Option (((List pair)×Int)⊕((List pair))) :=
 if (decide (a<i.2.2))=true then (
 if e.length+([(⟨(aH ((aH ((aH ((aH (g*i.2.1))+(ix b h).from_))*i.2.2))+a)),(aH ((aH ((aH ((aH (g*j))+(ix b h).to))*i.2.2))+a))⟩:pair)]:List pair).length≤8796093022208 then
 some (.inl ((e++([(⟨(aH ((aH ((aH ((aH (g*i.2.1))+(ix b h).from_))*i.2.2))+a)),(aH ((aH ((aH ((aH (g*j))+(ix b h).to))*i.2.2))+a))⟩:pair)]:List pair)),(aH (a+1))))
 else none)
 else (
 some (.inr e))
def Z7_L2 (i:Int)(a:(List pair))(j:Int×Int×Int)(h:Int)(g:(List pair))(b:Int):Option (((List pair)×Int)⊕((List pair))) :=
 if (decide (b<(a.length:Int)))=true then (
 if (0≤b∧b<(a.length:Int)) then
 (aR (fun s:(List pair)×Int=>Z7_L3 i a j h b s.1 s.2) (g,(0:Int))).bind fun e=>Z7_J5 b e
 else none)
 else (
 some (.inr g))
def Z7_L1 (i:Int)(b:(List pair))(h:Int×Int×Int)(g:(List pair))(a:Int):Option (((List pair)×Int)⊕((List pair))) :=
 if (decide (a<h.1))=true then (
 (aR (fun s:(List pair)×Int=>Z7_L2 i b h a s.1 s.2) (g,(0:Int))).bind fun e=>Z7_J6 a e)
 else (
 some (.inr g))
def Z7 (b:(List Int))(h:Int)(i:Int)(a:(List pair)):Option ((List pair)) :=
 (Z21 b h).bind fun g =>
 if (0≤(aH ((aH (g.1*g.2.2))*(a.length:Int)))∧(aH ((aH (g.1*g.2.2))*(a.length:Int)))≤140737488355328∧16*(aH ((aH (g.1*g.2.2))*(a.length:Int)))≤281474976710656) then
 (aR (fun s:(List pair)×Int=>Z7_L1 i a g s.1 s.2) (([]:List pair),(0:Int))).bind fun e=>Z7_J7 e
 else none
def Zz_J2 (a:(List Int))(b:Int)(e:Int)(g:Int)(i:Int)(j:(List Int))(h:(List pair)):Option ((List Int)×(List pair)×Bool) :=
 (Z7 a b (aH ((aH ((aH (e+(ix a b)))+(aH ((aH ((ix a b) - 1))*i))))+g)) h).bind fun l =>
 some (j,l,true)
def Zz_L2 (h:(List Int))(i:Int)(b:Int)(g:Int)(a:(List pair))(e:Int):Option (((List pair)×Int)⊕((List pair))) :=
 if (decide (e<(ix h i)))=true then (
 if a.length+([(⟨e,(aH (b+(aH (e*(aH (g+1))))))⟩:pair)]:List pair).length≤8796093022208 then
 some (.inl ((a++([(⟨e,(aH (b+(aH (e*(aH (g+1))))))⟩:pair)]:List pair)),(aH (e+1))))
 else none)
 else (
 some (.inr a))
def Zz_J1 (b:(List Int))(a:Int)(g:Int)(h:Int)(i:Int):Option ((List Int)×(List pair)×Bool) :=
 if (0≤a∧a<(b.length:Int)) then
 (Z1l b a (aH ((aH ((aH (g+(ix b a)))+(aH ((aH ((ix b a) - 1))*i))))+h))).bind fun j =>
 (Zb j).bind fun l =>
 if (!l)=true then (
 some (([]:List Int),([]:List pair),false))
 else (
 (aR (fun s:(List pair)×Int=>Zz_L2 b a g i s.1 s.2) (([]:List pair),(0:Int))).bind fun e=>Zz_J2 b a g h i j e)
 else none
def Zz_L1 (a:Int)(b:Int)(e:Int)(g:Int):Option ((Int)⊕(((List Int)×(List pair)×Bool)⊕(Unit))) :=
 if (decide (g<(([a,b,e]:List Int).length:Int)))=true then (
 if (0≤g∧g<(([a,b,e]:List Int).length:Int)) then
 if ((decide ((ix ([a,b,e]:List Int) g)<0))||(decide ((ix ([a,b,e]:List Int) g)>4096)))=true then (
 some (.inr (.inl (([]:List Int),([]:List pair),false))))
 else (
 some (.inl (aH (g+1))))
 else none)
 else (
 some (.inr (.inr ())))
def Zz (g:(List Int))(h:Int)(a:Int)(b:Int)(i:Int):Option ((List Int)×(List pair)×Bool) :=
 (Zk g h).bind fun j =>
 if (!j)=true then (
 some (([]:List Int),([]:List pair),false))
 else (
 (aR (fun s:Int=>Zz_L1 a b i s) (0:Int)).bind fun e=>match e with
 | .inl e=>some e
 | .inr e=>Zz_J1 g h a b i)
def Z1x (p1:(List Int))(b:(List Int)):Option ((List Int)×(List pair)×Bool) :=
 if (0≤(0:Int)∧(0:Int)<(p1.length:Int)) then
 if (0≤(1:Int)∧(1:Int)<(p1.length:Int)) then
 if (0≤(2:Int)∧(2:Int)<(p1.length:Int)) then
 if (0≤(3:Int)∧(3:Int)<(p1.length:Int)) then
 (Zz b (ix p1 0) (ix p1 1) (ix p1 2) (ix p1 3)).bind fun a =>
 some (a.1,a.2.1,a.2.2)
 else none
 else none
 else none
 else none
def Z2n (e:Node)(b:(List Int))(h:Int)(g:Int):Option ((List Int)×(List pair)×Bool) :=
 if ((decide ((e.Ints.length:Int)<h))||(decide ((e.Ints.length:Int)>g)))=true then (
 some (([]:List Int),([]:List pair),false))
 else (
 (Z1x e.Ints b).bind fun a =>
 some (a.1,a.2.1,a.2.2))
def Z1o (k1:shiftKind)(h:Int)(e:Int)(g:Node)(a:(List (List Int))):Option ((List Int)×Bool) :=
 if ((a.length:Int) != 1)=true then (
 some (([]:List Int),false))
 else (
 if (0≤(0:Int)∧(0:Int)<(a.length:Int)) then
 (Z2n g (ix a 0) h e).bind fun b =>
 some (b.1,b.2.2)
 else none)
def Z0f_J1 (b:(List Int))(e:Int)(a:(List Int))(g:(List pair)):Option ((List Int)×(List pair)×Bool) :=
 (Z1l b e (a.length:Int)).bind fun h =>
 (Zb h).bind fun j =>
 if (!j)=true then (
 some (([]:List Int),([]:List pair),false))
 else (
 (Z7 b e (a.length:Int) g).bind fun i =>
 some (h,i,true))
def Z0f_L1 (h:(List Int))(g:Int)(a:(List Int))(e:(List pair))(b:Int):Option (((List pair)×Int)⊕(((List Int)×(List pair)×Bool)⊕((List pair)))) :=
 if (decide (b<(a.length:Int)))=true then (
 if (0≤b∧b<(a.length:Int)) then
 if (decide ((ix a b)<0))=false→(0≤g∧g<(h.length:Int)) then
 if ((decide ((ix a b)<0))||(decide ((ix a b)≥(ix h g))))=true then (
 some (.inr (.inl (([]:List Int),([]:List pair),false))))
 else (
 if e.length+([(⟨(ix a b),b⟩:pair)]:List pair).length≤8796093022208 then
 some (.inl ((e++([(⟨(ix a b),b⟩:pair)]:List pair)),(aH (b+1))))
 else none)
 else none
 else none)
 else (
 some (.inr (.inr e)))
def Z0f (b:(List Int))(g:Int)(a:(List Int)):Option ((List Int)×(List pair)×Bool) :=
 (Zk b g).bind fun h =>
 if (((!h)||((a.length:Int)==0))||(decide ((a.length:Int)>4096)))=true then (
 some (([]:List Int),([]:List pair),false))
 else (
 (aR (fun s:(List pair)×Int=>Z0f_L1 b g a s.1 s.2) (([]:List pair),(0:Int))).bind fun e=>match e with
 | .inl e=>some e
 | .inr e=>Z0f_J1 b g a e)
def Z1y (p1:(List Int))(a:(List Int)):Option ((List Int)×(List pair)×Bool) :=
 if (0≤(0:Int)∧(0:Int)<(p1.length:Int)) then
 if (0≤(1:Int)∧(1:Int)≤(p1.length:Int)∧(p1.length:Int)≤(p1.length:Int)) then
 (Z0f a (ix p1 0) (sub p1 (1:Int) (p1.length:Int))).bind fun b =>
 some (b.1,b.2.1,b.2.2)
 else none
 else none
def Z2o (e:Node)(b:(List Int))(h:Int)(g:Int):Option ((List Int)×(List pair)×Bool) :=
 if ((decide ((e.Ints.length:Int)<h))||(decide ((e.Ints.length:Int)>g)))=true then (
 some (([]:List Int),([]:List pair),false))
 else (
 (Z1y e.Ints b).bind fun a =>
 some (a.1,a.2.1,a.2.2))
def Z1p (k1:shiftKind)(h:Int)(e:Int)(g:Node)(a:(List (List Int))):Option ((List Int)×Bool) :=
 if ((a.length:Int) != 1)=true then (
 some (([]:List Int),false))
 else (
 if (0≤(0:Int)∧(0:Int)<(a.length:Int)) then
 (Z2o g (ix a 0) h e).bind fun b =>
 some (b.1,b.2.2)
 else none)
def Z0g_J1 (a:(List Int))(b:Int)(j:Int)(e:(List pair)):Option ((List Int)×(List pair)×Bool) :=
 (Z1l a b j).bind fun g =>
 (Zb g).bind fun i =>
 if (!i)=true then (
 some (([]:List Int),([]:List pair),false))
 else (
 (Z7 a b j e).bind fun h =>
 some (g,h,true))
def Z0g_L1 (a:(List Int))(g:Int)(e:(List pair))(b:Int):Option (((List pair)×Int)⊕(((List Int)×(List pair)×Bool)⊕((List pair)))) :=
 if (decide (b<(a.length:Int)))=true then (
 if (0≤b∧b<(a.length:Int)) then
 if ((decide ((ix a b)<0))||(decide ((ix a b)≥g)))=true then (
 some (.inr (.inl (([]:List Int),([]:List pair),false))))
 else (
 if e.length+([(⟨b,(ix a b)⟩:pair)]:List pair).length≤8796093022208 then
 some (.inl ((e++([(⟨b,(ix a b)⟩:pair)]:List pair)),(aH (b+1))))
 else none)
 else none)
 else (
 some (.inr (.inr e)))
def Z0g (b:(List Int))(a:Int)(g:(List Int))(h:Int):Option ((List Int)×(List pair)×Bool) :=
 (Zk b a).bind fun i =>
 if (!i)=false→(0≤a∧a<(b.length:Int)) then
 if (((!i)||((g.length:Int) != (ix b a)))||(decide (h<1)))=true then (
 some (([]:List Int),([]:List pair),false))
 else (
 (aR (fun s:(List pair)×Int=>Z0g_L1 g h s.1 s.2) (([]:List pair),(0:Int))).bind fun e=>match e with
 | .inl e=>some e
 | .inr e=>Z0g_J1 b a h e)
 else none
def Z1z (p1:(List Int))(b:(List Int)):Option ((List Int)×(List pair)×Bool) :=
 if (0≤(0:Int)∧(0:Int)<(p1.length:Int)) then
 if (0≤(2:Int)∧(2:Int)≤(p1.length:Int)∧(p1.length:Int)≤(p1.length:Int)) then
 if (0≤(1:Int)∧(1:Int)<(p1.length:Int)) then
 (Z0g b (ix p1 0) (sub p1 (2:Int) (p1.length:Int)) (ix p1 1)).bind fun a =>
 some (a.1,a.2.1,a.2.2)
 else none
 else none
 else none
def Z2p (e:Node)(b:(List Int))(h:Int)(g:Int):Option ((List Int)×(List pair)×Bool) :=
 if ((decide ((e.Ints.length:Int)<h))||(decide ((e.Ints.length:Int)>g)))=true then (
 some (([]:List Int),([]:List pair),false))
 else (
 (Z1z e.Ints b).bind fun a =>
 some (a.1,a.2.1,a.2.2))
def Z1q (k1:shiftKind)(h:Int)(e:Int)(g:Node)(a:(List (List Int))):Option ((List Int)×Bool) :=
 if ((a.length:Int) != 1)=true then (
 some (([]:List Int),false))
 else (
 if (0≤(0:Int)∧(0:Int)<(a.length:Int)) then
 (Z2p g (ix a 0) h e).bind fun b =>
 some (b.1,b.2.2)
 else none)
def Z4_J16 (b:(List Int))(e:(List Int))(a:(List pair)):Option ((List Int)×(List pair)×Bool) :=
 some ((sub e (0:Int) (aH ((b.length:Int) - 1))),a,true)
def Z4_J15 (b:Int)(a:(List pair)):Option (((List pair)×Int)⊕((List pair))) :=
 some (.inl (a,(aH (b+1))))
def Z4_J14 (b:Int)(a:(List pair)):Option (((List pair)×Int)⊕((List pair))) :=
 some (.inl (a,(aH (b+1))))
def Z4_J13 (b:Int)(a:(List pair)):Option (((List pair)×Int)⊕((List pair))) :=
 some (.inl (a,(aH (b+1))))
def Z4_L4 (a:(List Int))(m:Int)(h:Int)(l:Int×Int×Int)(g:Int)(i:Int)(j:Int)(b:(List pair))(e:Int):Option (((List pair)×Int)⊕((List pair))) :=
 if (0≤(aH ((a.length:Int) - 1))∧(aH ((a.length:Int) - 1))<(a.length:Int)) then
 if (decide (e<(ix a (aH ((a.length:Int) - 1)))))=true then (
 if b.length+([(⟨(aH ((aH ((aH ((aH ((aH ((aH (g*l.2.1))+i))*l.2.2))+j))*(ix a (aH ((a.length:Int) - 1)))))+e)),(aH ((aH ((aH ((aH ((aH (g*m))+(aH (i*h))))+e))*l.2.2))+j))⟩:pair)]:List pair).length≤8796093022208 then
 some (.inl ((b++([(⟨(aH ((aH ((aH ((aH ((aH ((aH (g*l.2.1))+i))*l.2.2))+j))*(ix a (aH ((a.length:Int) - 1)))))+e)),(aH ((aH ((aH ((aH ((aH (g*m))+(aH (i*h))))+e))*l.2.2))+j))⟩:pair)]:List pair)),(aH (e+1))))
 else none)
 else (
 some (.inr b))
 else none
def Z4_L3 (h:(List Int))(m:Int)(g:Int)(l:Int×Int×Int)(i:Int)(j:Int)(a:(List pair))(b:Int):Option (((List pair)×Int)⊕((List pair))) :=
 if (decide (b<l.2.2))=true then (
 (aR (fun s:(List pair)×Int=>Z4_L4 h m g l i j b s.1 s.2) (a,(0:Int))).bind fun e=>Z4_J13 b e)
 else (
 some (.inr a))
def Z4_L2 (h:(List Int))(l:Int)(g:Int)(j:Int×Int×Int)(i:Int)(a:(List pair))(b:Int):Option (((List pair)×Int)⊕((List pair))) :=
 if (decide (b<j.2.1))=true then (
 (aR (fun s:(List pair)×Int=>Z4_L3 h l g j i b s.1 s.2) (a,(0:Int))).bind fun e=>Z4_J14 b e)
 else (
 some (.inr a))
def Z4_L1 (h:(List Int))(j:Int)(g:Int)(i:Int×Int×Int)(a:(List pair))(b:Int):Option (((List pair)×Int)⊕((List pair))) :=
 if (decide (b<i.1))=true then (
 (aR (fun s:(List pair)×Int=>Z4_L2 h j g i b s.1 s.2) (a,(0:Int))).bind fun e=>Z4_J15 b e)
 else (
 some (.inr a))
def Z4_J1 (a:(List Int))(g:Int)(j:Int)(h:(List Int))(b:Int):Option ((List Int)×(List pair)×Bool) :=
 if (0≤(0:Int)∧(0:Int)≤(aH ((a.length:Int) - 1))∧(aH ((a.length:Int) - 1))≤(a.length:Int)) then
 (Z21 (sub a (0:Int) (aH ((a.length:Int) - 1))) g).bind fun i =>
 (aR (fun s:(List pair)×Int=>Z4_L1 a j b i s.1 s.2) (([]:List pair),(0:Int))).bind fun e=>Z4_J16 a h e
 else none
def Z4 (a:(List Int))(b:Int)(e:Int)(g:Int):Option ((List Int)×(List pair)×Bool) :=
 (Zk a b).bind fun i =>
 if (((((!i)||(b==(aH ((a.length:Int) - 1))))||(decide (e<1)))||(decide (g<1)))||(decide (g>4096)))=false→(0≤(aH ((a.length:Int) - 1))∧(aH ((a.length:Int) - 1))<(a.length:Int)) then
 if ((((((!i)||(b==(aH ((a.length:Int) - 1))))||(decide (e<1)))||(decide (g<1)))||(decide (g>4096)))||(decide ((ix a (aH ((a.length:Int) - 1)))>g)))=false→(0≤b∧b<(a.length:Int)) then
 if ((((((!i)||(b==(aH ((a.length:Int) - 1))))||(decide (e<1)))||(decide (g<1)))||(decide (g>4096)))||(decide ((ix a (aH ((a.length:Int) - 1)))>g)))=false→(0≤(aH ((a.length:Int) - 1))∧(aH ((a.length:Int) - 1))<(a.length:Int)) then
 if ((((((!i)||(b==(aH ((a.length:Int) - 1))))||(decide (e<1)))||(decide (g<1)))||(decide (g>4096)))||(decide ((ix a (aH ((a.length:Int) - 1)))>g)))=false→e≠0 then
 if (((((((!i)||(b==(aH ((a.length:Int) - 1))))||(decide (e<1)))||(decide (g<1)))||(decide (g>4096)))||(decide ((ix a (aH ((a.length:Int) - 1)))>g)))||((ix a b) != (aH ((aH ((aH (g - (ix a (aH ((a.length:Int) - 1))))).tdiv e))+1))))=true then (
 some (([]:List Int),([]:List pair),false))
 else (
 (Z1l a b g).bind fun h =>
 if (0≤(0:Int)∧(0:Int)≤(aH ((a.length:Int) - 1))∧(aH ((a.length:Int) - 1))≤(h.length:Int)) then
 (Zb (sub h (0:Int) (aH ((a.length:Int) - 1)))).bind fun j =>
 if (!j)=true then (
 some (([]:List Int),([]:List pair),false))
 else (
 if (0≤b∧b<(a.length:Int)) then
 if ((ix a b)==1)=true then (
 Z4_J1 a b g h (0:Int))
 else (
 Z4_J1 a b g h e)
 else none)
 else none)
 else none
 else none
 else none
 else none
def Z20 (p1:(List Int))(a:(List Int)):Option ((List Int)×(List pair)×Bool) :=
 if (0≤(0:Int)∧(0:Int)<(p1.length:Int)) then
 if (0≤(1:Int)∧(1:Int)<(p1.length:Int)) then
 if (0≤(2:Int)∧(2:Int)<(p1.length:Int)) then
 (Z4 a (ix p1 0) (ix p1 1) (ix p1 2)).bind fun b =>
 some (b.1,b.2.1,b.2.2)
 else none
 else none
 else none
def Z2q (e:Node)(b:(List Int))(h:Int)(g:Int):Option ((List Int)×(List pair)×Bool) :=
 if ((decide ((e.Ints.length:Int)<h))||(decide ((e.Ints.length:Int)>g)))=true then (
 some (([]:List Int),([]:List pair),false))
 else (
 (Z20 e.Ints b).bind fun a =>
 some (a.1,a.2.1,a.2.2))
def Z1r (k1:shiftKind)(h:Int)(e:Int)(g:Node)(a:(List (List Int))):Option ((List Int)×Bool) :=
 if ((a.length:Int) != 1)=true then (
 some (([]:List Int),false))
 else (
 if (0≤(0:Int)∧(0:Int)<(a.length:Int)) then
 (Z2q g (ix a 0) h e).bind fun b =>
 some (b.1,b.2.2)
 else none)
def bO (r:kindOfR)(b:Node)(a:(List (List Int))):Option ((List Int)×Bool) :=
 if Nat.beq r.t 0=true then none else (if Nat.beq r.t 1=true then Z1k (⟨r.b0⟩:leafKind) b a else (if Nat.beq r.t 2=true then Z22 (⟨r.i0⟩:pairKind) b a else (if Nat.beq r.t 3=true then Z2t (⟨r.i0⟩:soloKind) b a else (if Nat.beq r.t 4=true then Z1w (⟨⟩:topKind) b a else (if Nat.beq r.t 5=true then Z2s (⟨⟩:formKind) b a else (if Nat.beq r.t 6=true then Z1s (⟨r.s0⟩:shiftKind) b a else (if Nat.beq r.t 7=true then Z23 (⟨r.s0⟩:shiftKind) b a else (if Nat.beq r.t 8=true then Z1o (⟨r.s0⟩:shiftKind) r.i0 r.i1 b a else (if Nat.beq r.t 9=true then Z1p (⟨r.s0⟩:shiftKind) r.i0 r.i1 b a else (if Nat.beq r.t 10=true then Z1q (⟨r.s0⟩:shiftKind) r.i0 r.i1 b a else (Z1r (⟨r.s0⟩:shiftKind) r.i0 r.i1 b a)))))))))))
def Ze_J1 (g:Node)(e:kindOfR)(a:(List (List Int))):Option ((List Int)×Bool) :=
 (bO e g a).bind fun b =>
 some (b.1,b.2)
def Ze_L1 (g:Node)(a:(List (List Int)))(e:(List (List Int)))(b:Int):Option (((List (List Int))×Int)⊕(((List Int)×Bool)⊕((List (List Int))))) :=
 if (decide (b<(g.Args.length:Int)))=true then (
 if (0≤b∧b<(g.Args.length:Int)) then
 if ((decide ((ix g.Args b)<0))||(decide ((ix g.Args b)≥(a.length:Int))))=true then (
 some (.inr (.inl (([]:List Int),false))))
 else (
 if (0≤(ix g.Args b)∧(ix g.Args b)<(a.length:Int)) then
 if e.length+([(ix a (ix g.Args b))]:List (List Int)).length≤5864062014805 then
 some (.inl ((e++([(ix a (ix g.Args b))]:List (List Int))),(aH (b+1))))
 else none
 else none)
 else none)
 else (
 some (.inr (.inr e)))
def Ze (g:Node)(a:(List (List Int))):Option ((List Int)×Bool) :=
 (Zy g.Op).bind fun b =>
 (bQ (!(Nat.beq b.t 0)) (fN b)).bind fun i =>
 (bQ (!(Nat.beq b.t 0)) (Z1v g i)).bind fun h =>
 if (((Nat.beq b.t 0)||(!h))||(decide ((g.Args.length:Int)>6)))=true then (
 some (([]:List Int),false))
 else (
 (aR (fun s:(List (List Int))×Int=>Ze_L1 g a s.1 s.2) (([]:List (List Int)),(0:Int))).bind fun e=>match e with
 | .inl e=>some e
 | .inr e=>Ze_J1 g b e)
def Zi_J2 (a:(List (List Int))):Option ((List (List Int))×Bool) :=
 some (a,true)
def Zi_L2 (g1:Graph)(a:Int):Option ((Int)⊕(((List (List Int))×Bool)⊕(Unit))) :=
 if (decide (a<(g1.Outs.length:Int)))=true then (
 if (0≤a∧a<(g1.Outs.length:Int)) then
 if ((decide ((ix g1.Outs a)<0))||(decide ((ix g1.Outs a)≥(g1.Nodes.length:Int))))=true then (
 some (.inr (.inl (([]:List (List Int)),false))))
 else (
 some (.inl (aH (a+1))))
 else none)
 else (
 some (.inr (.inr ())))
def Zi_J1 (g1:Graph)(a:(List (List Int))):Option ((List (List Int))×Bool) :=
 (aR (fun s:Int=>Zi_L2 g1 s) (0:Int)).bind fun e=>match e with
 | .inl e=>some e
 | .inr e=>Zi_J2 a
def Zi_L1 (g1:Graph)(b:(List (List Int)))(a:Int):Option (((List (List Int))×Int)⊕(((List (List Int))×Bool)⊕((List (List Int))))) :=
 if (decide (a<(g1.Nodes.length:Int)))=true then (
 if (0≤a∧a<(g1.Nodes.length:Int)) then
 (Ze (ix g1.Nodes a) b).bind fun e =>
 if (!e.2)=true then (
 some (.inr (.inl (([]:List (List Int)),false))))
 else (
 if b.length+([e.1]:List (List Int)).length≤5864062014805 then
 some (.inl ((b++([e.1]:List (List Int))),(aH (a+1))))
 else none)
 else none)
 else (
 some (.inr (.inr b)))
def Zi (g1:Graph):Option ((List (List Int))×Bool) :=
 if ((decide ((g1.Nodes.length:Int)>200))||(decide ((g1.Outs.length:Int)>40)))=true then (
 some (([]:List (List Int)),false))
 else (
 (aR (fun s:(List (List Int))×Int=>Zi_L1 g1 s.1 s.2) (([]:List (List Int)),(0:Int))).bind fun e=>match e with
 | .inl e=>some e
 | .inr e=>Zi_J1 g1 e)
def Z2j (g1:Graph):Option (Bool) :=
 (Zi g1).bind fun a =>
 some a.2
def Zw_J1:Option (Bool) :=
 some true
def Zw_L1 (b:(List Int))(e:(List Int))(a:Int):Option ((Int)⊕((Bool)⊕(Unit))) :=
 if (decide (a<(b.length:Int)))=true then (
 if (0≤a∧a<(b.length:Int)) then
 if (0≤a∧a<(e.length:Int)) then
 if ((ix b a) != (ix e a))=true then (
 some (.inr (.inl false)))
 else (
 some (.inl (aH (a+1))))
 else none
 else none)
 else (
 some (.inr (.inr ())))
def Zw (a:(List Int))(b:(List Int)):Option (Bool) :=
 if ((a.length:Int) != (b.length:Int))=true then (
 some false)
 else (
 (aR (fun s:Int=>Zw_L1 a b s) (0:Int)).bind fun e=>match e with
 | .inl e=>some e
 | .inr e=>Zw_J1)
def Z2h (a:Node)(b:Node):Option (Bool) :=
 if (a.Op != b.Op)=true then (
 some false)
 else (
 (Zw a.Args b.Args).bind fun h =>
 if (!h)=true then (
 some false)
 else (
 (Zw a.Dims b.Dims).bind fun e =>
 if (!e)=true then (
 some false)
 else (
 (Zw a.Ints b.Ints).bind fun g =>
 if (!g)=true then (
 some false)
 else (
 if (!(a.Form==b.Form))=true then (
 some false)
 else (
 (Zw a.Data b.Data).bind fun i =>
 if (!i)=true then (
 some false)
 else (
 some true))))))
def Z1d_J1:Option (Bool) :=
 some true
def Z1d_L1 (b:(List Node))(g:(List Node))(a:Int):Option ((Int)⊕((Bool)⊕(Unit))) :=
 if (decide (a<(b.length:Int)))=true then (
 if (0≤a∧a<(b.length:Int)) then
 if (0≤a∧a<(g.length:Int)) then
 (Z2h (ix b a) (ix g a)).bind fun e =>
 if (!e)=true then (
 some (.inr (.inl false)))
 else (
 some (.inl (aH (a+1))))
 else none
 else none)
 else (
 some (.inr (.inr ())))
def Z1d (a:(List Node))(b:(List Node)):Option (Bool) :=
 if ((a.length:Int) != (b.length:Int))=true then (
 some false)
 else (
 (aR (fun s:Int=>Z1d_L1 a b s) (0:Int)).bind fun e=>match e with
 | .inl e=>some e
 | .inr e=>Z1d_J1)
def Z2g (b:Graph)(e:Graph):Option (Bool) :=
 (Z1d b.Nodes e.Nodes).bind fun g =>
 if (!g)=true then (
 some false)
 else (
 (Zw b.Outs e.Outs).bind fun a =>
 if (!a)=true then (
 some false)
 else (
 some true))
def Zu_J1 (b:Int)(a:(List Int)):Option (Int×(List Int)) :=
 some (b,a)
def Zu_L1 (e:(List Int))(g:(List Int))(b:Int)(a:Int):Option (((List Int)×Int×Int)⊕(Int×(List Int))) :=
 if (decide (a<(e.length:Int)))=true then (
 if (0≤a∧a<(e.length:Int)) then
 some (.inl ((g.set a.toNat b),(aH (b+1)),(aH (a+1))))
 else none)
 else (
 some (.inr (b,g)))
def Zu (a:(List Int))(b:Int):Option (Int×(List Int)) :=
 (aR (fun s:(List Int)×Int×Int=>Zu_L1 a s.1 s.2.1 s.2.2) (a,b,(0:Int))).bind fun e=>Zu_J1 e.1 e.2
def Z0o_J1 (a:aN):Option (aN) :=
 if str8.length+a.length≤9223372036854775807 then
 some (str8++a)
 else none
def Z0o_L1 (a:Int)(b:aN):Option ((Int×aN)⊕(aN)) :=
 if (decide (a>0))=true then (
 if (nz ([(IntKind.wrap .u8 ((aH ((48:Int)+(a.tmod (10:Int))))))]:List Int)).length+b.length≤9223372036854775807 then
 some (.inl ((aH (a.tdiv (10:Int))),((nz ([(IntKind.wrap .u8 ((aH ((48:Int)+(a.tmod (10:Int))))))]:List Int))++b)))
 else none)
 else (
 some (.inr b))
def Z0o (k1:Int):Option (aN) :=
 if (decide (k1≤0))=true then (
 some yA)
 else (
 (aR (fun s:Int×aN=>Z0o_L1 s.1 s.2) (k1,([]:aN))).bind fun e=>Z0o_J1 e)
def Z0m_J1 (b:Int)(a:(List Node)):Option (Int×(List Node)) :=
 some (b,a)
def Z0m_L1 (B:(List Node))(a46:(List Node))(l:Int)(a:Int):Option (((List Node)×Int×Int)⊕(Int×(List Node))) :=
 if (decide (a<(B.length:Int)))=true then (
 if (0≤a∧a<(B.length:Int)) then
 (nm (a46.set a.toNat (⟨l,(ix a46 a).Args,(ix a46 a).Dims,(ix a46 a).Ints,(ix a46 a).Form,(ix a46 a).Data⟩:Node))).bind fun e =>
 (Zu ((ix e a).Args) (aH (l+1))).bind fun m =>
 (nm (e.set a.toNat (⟨(ix e a).Op,m.2,(ix e a).Dims,(ix e a).Ints,(ix e a).Form,(ix e a).Data⟩:Node))).bind fun h =>
 (Zu ((ix h a).Dims) m.1).bind fun r =>
 (nm (h.set a.toNat (⟨(ix h a).Op,(ix h a).Args,r.2,(ix h a).Ints,(ix h a).Form,(ix h a).Data⟩:Node))).bind fun g =>
 (Zu ((ix g a).Ints) r.1).bind fun j =>
 (nm (g.set a.toNat (⟨(ix g a).Op,(ix g a).Args,(ix g a).Dims,j.2,(ix g a).Form,(ix g a).Data⟩:Node))).bind fun i =>
 (Z0o j.1).bind fun s =>
 (nm (i.set a.toNat (⟨(ix i a).Op,(ix i a).Args,(ix i a).Dims,(ix i a).Ints,s,(ix i a).Data⟩:Node))).bind fun b =>
 (Zu ((ix b a).Data) (aH (j.1+1))).bind fun q =>
 (nm (b.set a.toNat (⟨(ix b a).Op,(ix b a).Args,(ix b a).Dims,(ix b a).Ints,(ix b a).Form,q.2⟩:Node))).bind fun u =>
 some (.inl (u,q.1,(aH (a+1))))
 else none)
 else (
 some (.inr (l,a46)))
def Z0m (a:(List Node))(b:Int):Option (Int×(List Node)) :=
 (aR (fun s:(List Node)×Int×Int=>Z0m_L1 a s.1 s.2.1 s.2.2) (a,b,(0:Int))).bind fun e=>Z0m_J1 e.1 e.2
def Z24 (a:Graph)(g:Int):Option (Int×(List Node)×(List Int)) :=
 (Z0m a.Nodes g).bind fun b =>
 (Zu a.Outs b.1).bind fun e =>
 some (e.1,b.2,e.2)
def Z0d_J1 (a:Int):Option (Int) :=
 some a
def Z0d_L1 (b:(List Int))(e:Int)(a:Int):Option ((Int×Int)⊕((Int)⊕(Int))) :=
 if (decide (a<(b.length:Int)))=true then (
 if (0≤a∧a<(b.length:Int)) then
 if ((ix b a) != e)=true then (
 some (.inr (.inl (-1:Int))))
 else (
 some (.inl ((aH (e+1)),(aH (a+1)))))
 else none)
 else (
 some (.inr (.inr e)))
def Z0d (a:(List Int))(b:Int):Option (Int) :=
 (aR (fun s:Int×Int=>Z0d_L1 a s.1 s.2) (b,(0:Int))).bind fun e=>match e with
 | .inl e=>some e
 | .inr e=>Z0d_J1 e
def Zt_J2 (a:(List Bool)):Option ((List Bool)) :=
 some a
def Zt_L1 (g1:Graph)(e:Int)(h:Graph→Int→(List Bool)→Option ((List Bool)))(a:(List Bool))(b:Int):Option (((List Bool)×Int)⊕((List Bool))) :=
 if (0≤e∧e<(g1.Nodes.length:Int)) then
 if (decide (b<(((ix g1.Nodes e).Args).length:Int)))=true then (
 if (0≤b∧b<(((ix g1.Nodes e).Args).length:Int)) then
 (h g1 (ix ((ix g1.Nodes e).Args) b) a).bind fun g =>
 some (.inl (g,(aH (b+1))))
 else none)
 else (
 some (.inr a))
 else none
def Zt_S (g:Graph→Int→(List Bool)→Option ((List Bool)))(g1:Graph)(b:Int)(a:(List Bool)):Option ((List Bool)) :=
 if (0≤b∧b<(a.length:Int)) then
 if (ix a b)=true then (
 some a)
 else (
 (aR (fun s:(List Bool)×Int=>Zt_L1 g1 b g s.1 s.2) ((a.set b.toNat true),(0:Int))).bind fun e=>Zt_J2 e)
 else none
def Zt_R:Nat→Graph→Int→(List Bool)→Option ((List Bool))
 | 0=>fun _ _ _=>none
 | n+1=>Zt_S (Zt_R n)
def Zt (g1:Graph)(b:Int)(a:(List Bool)):Option ((List Bool)):=Zt_R jv g1 b a
def Z0y_J1 (a:(List Bool)):Option ((List Bool)) :=
 some a
def Z0y_L1 (g1:Graph)(a:(List Bool))(b:Int):Option (((List Bool)×Int)⊕((List Bool))) :=
 if (decide (b<(g1.Outs.length:Int)))=true then (
 if (0≤b∧b<(g1.Outs.length:Int)) then
 (Zt g1 (ix g1.Outs b) a).bind fun e =>
 some (.inl (e,(aH (b+1))))
 else none)
 else (
 some (.inr a))
def Z0y (g1:Graph):Option ((List Bool)) :=
 if (0≤(g1.Nodes.length:Int)∧(g1.Nodes.length:Int)≤140737488355328∧1*(g1.Nodes.length:Int)≤281474976710656) then
 (aR (fun s:(List Bool)×Int=>Z0y_L1 g1 s.1 s.2) ((List.replicate (g1.Nodes.length:Int).toNat false),(0:Int))).bind fun e=>Z0y_J1 e
 else none
def Z04_J3 (a:(List Int)):Option ((List Int)) :=
 some a
def Z04_J2 (a:Int)(b:(List Int)):Option (((List Int)×Int)⊕((List Int))) :=
 some (.inl (b,(aH (a+1))))
def Z04_L1 (e:(List Bool))(b:(List Int))(a:Int):Option (((List Int)×Int)⊕((List Int))) :=
 if (decide (a<(e.length:Int)))=true then (
 if (0≤a∧a<(e.length:Int)) then
 if (ix e a)=true then (
 if b.length+([a]:List Int).length≤17592186044416 then
 Z04_J2 a (b++([a]:List Int))
 else none)
 else (
 Z04_J2 a b)
 else none)
 else (
 some (.inr b))
def Z04 (g1:Graph):Option ((List Int)) :=
 (Z2w g1).bind fun b =>
 if (!b)=true then (
 some ([]:List Int))
 else (
 (Z0y g1).bind fun a =>
 (aR (fun s:(List Int)×Int=>Z04_L1 a s.1 s.2) (([]:List Int),(0:Int))).bind fun e=>Z04_J3 e)
def Zc_J4 (a:(List Bool)):Option ((List Bool)) :=
 some a
def Zc_J3 (b:Int)(a:(List Bool)):Option (((List Bool)×Int)⊕((List Bool))) :=
 some (.inl (a,(aH (b - 1))))
def Zc_L3 (g1:Graph)(a:Int)(e:(List Bool))(b:Int):Option (((List Bool)×Int)⊕((List Bool))) :=
 if (decide (b<(((ix g1.Nodes a).Args).length:Int)))=true then (
 if (0≤b∧b<(((ix g1.Nodes a).Args).length:Int)) then
 if (0≤(ix ((ix g1.Nodes a).Args) b)∧(ix ((ix g1.Nodes a).Args) b)<((List.replicate (g1.Nodes.length:Int).toNat false).length:Int)) then
 if (ix e (ix ((ix g1.Nodes a).Args) b))=false→(0≤a∧a<((List.replicate (g1.Nodes.length:Int).toNat false).length:Int)) then
 (nm (e.set (ix ((ix g1.Nodes a).Args) b).toNat ((ix e (ix ((ix g1.Nodes a).Args) b))||(ix e a)))).bind fun g =>
 some (.inl (g,(aH (b+1))))
 else none
 else none
 else none)
 else (
 some (.inr e))
def Zc_L2 (g1:Graph)(b:(List Bool))(a:Int):Option (((List Bool)×Int)⊕((List Bool))) :=
 if (decide (a≥0))=true then (
 if (0≤a∧a<(g1.Nodes.length:Int)) then
 (aR (fun s:(List Bool)×Int=>Zc_L3 g1 a s.1 s.2) (b,(0:Int))).bind fun e=>Zc_J3 a e
 else none)
 else (
 some (.inr b))
def Zc_J1 (g1:Graph)(a:(List Bool)):Option ((List Bool)) :=
 (aR (fun s:(List Bool)×Int=>Zc_L2 g1 s.1 s.2) (a,(aH ((g1.Nodes.length:Int) - 1)))).bind fun e=>Zc_J4 e
def Zc_L1 (g1:Graph)(b:(List Bool))(a:Int):Option (((List Bool)×Int)⊕((List Bool))) :=
 if (decide (a<(g1.Outs.length:Int)))=true then (
 if (0≤a∧a<(g1.Outs.length:Int)) then
 if (0≤(ix g1.Outs a)∧(ix g1.Outs a)<((List.replicate (g1.Nodes.length:Int).toNat false).length:Int)) then
 some (.inl ((b.set (ix g1.Outs a).toNat true),(aH (a+1))))
 else none
 else none)
 else (
 some (.inr b))
def Zc (g1:Graph):Option ((List Bool)) :=
 if (0≤(g1.Nodes.length:Int)∧(g1.Nodes.length:Int)≤140737488355328∧1*(g1.Nodes.length:Int)≤281474976710656) then
 (aR (fun s:(List Bool)×Int=>Zc_L1 g1 s.1 s.2) ((List.replicate (g1.Nodes.length:Int).toNat false),(0:Int))).bind fun e=>Zc_J1 g1 e
 else none
def Z0a_J3 (a:(List Int)):Option ((List Int)) :=
 some a
def Z0a_J2 (a:Int)(b:(List Int)):Option (((List Int)×Int)⊕((List Int))) :=
 some (.inl (b,(aH (a+1))))
def Z0a_L1 (e:(List Bool))(b:(List Int))(a:Int):Option (((List Int)×Int)⊕((List Int))) :=
 if (decide (a<(e.length:Int)))=true then (
 if (0≤a∧a<(e.length:Int)) then
 if (ix e a)=true then (
 if b.length+([a]:List Int).length≤17592186044416 then
 Z0a_J2 a (b++([a]:List Int))
 else none)
 else (
 Z0a_J2 a b)
 else none)
 else (
 some (.inr b))
def Z0a (g1:Graph):Option ((List Int)) :=
 (Z2j g1).bind fun b =>
 if (!b)=true then (
 some ([]:List Int))
 else (
 (Zc g1).bind fun a =>
 (aR (fun s:(List Int)×Int=>Z0a_L1 a s.1 s.2) (([]:List Int),(0:Int))).bind fun e=>Z0a_J3 e)
def Z36 (a:Graph):Option (Bool) :=
 (Z2u a (1048576:Int)).bind fun E =>
 if (decide (E<0))=true then (
 some true)
 else (
 (Z19 a).bind fun F =>
 (Z04 F).bind fun g =>
 (Z19 a).bind fun h =>
 (Z0a h).bind fun e =>
 (Zw e g).bind fun B =>
 if (!B)=true then (
 some false)
 else (
 (Z19 a).bind fun r =>
 (Z2g h r).bind fun u =>
 if (!u)=true then (
 some false)
 else (
 (Z24 h (1:Int)).bind fun i =>
 (bQ (!(decide (i.1<0))) (Zw e g)).bind fun m =>
 if ((decide (i.1<0))||(!m))=true then (
 some false)
 else (
 (Zu e (1:Int)).bind fun b =>
 (Z0d b.2 (1:Int)).bind fun l =>
 if (decide (l<0))=true then (
 some false)
 else (
 if (l != b.1)=true then (
 some false)
 else (
 (Z19 a).bind fun q =>
 (Z0a q).bind fun D =>
 (Zw D g).bind fun s =>
 if (!s)=true then (
 some false)
 else (
 (Z0d b.2 (1:Int)).bind fun j =>
 if (decide (j<0))=true then (
 some false)
 else (
 if (j != b.1)=true then (
 some false)
 else (
 some true)))))))))
end
end Go.Proofs.YtmpnollfdpdipaaGreat
