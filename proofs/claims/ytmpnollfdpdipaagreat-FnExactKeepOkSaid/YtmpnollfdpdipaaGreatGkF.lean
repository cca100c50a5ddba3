import Derived.Test.YtmpnollfdpdipaaGreatGkH
set_option linter.unusedVariables false
namespace Go.Proofs.YtmpnollfdpdipaaGreat
open Go Go.Pg
noncomputable section
def Z1e (b:(List Int))(a:Int):Option (Int) :=
 if (decide ((aG (a - (b.length:Int)))<0))=true then (
 some (-1:Int))
 else (
 some (aG (a - (b.length:Int))))
def Z2i (e:Node)(a:Int):Option (Int) :=
 (Z1e e.Args a).bind fun i =>
 if (decide (i<0))=true then (
 some (-1:Int))
 else (
 (Z1e e.Dims i).bind fun g =>
 if (decide (g<0))=true then (
 some (-1:Int))
 else (
 (Z1e e.Ints g).bind fun b =>
 if (decide (b<0))=true then (
 some (-1:Int))
 else (
 if (decide ((aG (b - (e.Form.length:Int)))<0))=true then (
 some (-1:Int))
 else (
 (Z1e e.Data (aG (b - (e.Form.length:Int)))).bind fun h =>
 if (decide (h<0))=true then (
 some (-1:Int))
 else (
 some h)))))
def Z16_J1 (a:Int):Option (Int) :=
 some a
def Z16_L1 (g:(List Node))(a:Int)(b:Int):Option ((Int×Int)⊕((Int)⊕(Int))) :=
 if (decide (b<(g.length:Int)))=true then (
 if (0≤b∧b<(g.length:Int)) then
 (Z2i (ix g b) a).bind fun e =>
 if (decide (e<0))=true then (
 some (.inr (.inl (-1:Int))))
 else (
 some (.inl (e,(aG (b+1)))))
 else none)
 else (
 some (.inr (.inr a)))
def Z16 (b:(List Node))(a:Int):Option (Int) :=
 if (decide ((aG (a - (b.length:Int)))<0))=true then (
 some (-1:Int))
 else (
 (aU (fun s:Int×Int=>Z16_L1 b s.1 s.2) ((aG (a - (b.length:Int))),(0:Int))).bind fun e=>match e with
 | .inl e=>some e
 | .inr e=>Z16_J1 e)
def Z2v (b:Graph)(a:Int):Option (Int) :=
 (Z16 b.Nodes a).bind fun e =>
 if (decide (e<0))=true then (
 some (-1:Int))
 else (
 (Z1e b.Outs e).bind fun g =>
 if (decide (g<0))=true then (
 some (-1:Int))
 else (
 some g))
def Ze_J1 (a:(List Int)):Option ((List Int)) :=
 some a
def Ze_L1 (e:(List Int))(b:(List Int))(a:Int):Option (((List Int)×Int)⊕((List Int))) :=
 if (decide (a<(e.length:Int)))=true then (
 if (0≤a∧a<(e.length:Int)) then
 if (0≤a∧a<((List.replicate (e.length:Int).toNat (0:Int)).length:Int)) then
 some (.inl ((b.set a.toNat (ix e a)),(aG (a+1))))
 else none
 else none)
 else (
 some (.inr b))
def Ze (a:(List Int)):Option ((List Int)) :=
 if (0≤(a.length:Int)∧(a.length:Int)≤140737488355328∧8*(a.length:Int)≤281474976710656) then
 (aU (fun s:(List Int)×Int=>Ze_L1 a s.1 s.2) ((List.replicate (a.length:Int).toNat (0:Int)),(0:Int))).bind fun e=>Ze_J1 e
 else none
def Z2w (a:Node):Option (Node) :=
 (Ze a.Args).bind fun h =>
 (Ze a.Dims).bind fun b =>
 (Ze a.Ints).bind fun e =>
 (Ze a.Data).bind fun g =>
 some (⟨a.Op,h,b,e,a.Form,g⟩:Node)
def Z0m_J1 (a:(List Node)):Option ((List Node)) :=
 some a
def Z0m_L1 (e:(List Node))(b:(List Node))(a:Int):Option (((List Node)×Int)⊕((List Node))) :=
 if (decide (a<(e.length:Int)))=true then (
 if (0≤a∧a<(e.length:Int)) then
 (Z2w (ix e a)).bind fun g =>
 if (0≤a∧a<((List.replicate (e.length:Int).toNat zT54.z).length:Int)) then
 some (.inl ((b.set a.toNat g),(aG (a+1))))
 else none
 else none)
 else (
 some (.inr b))
def Z0m (a:(List Node)):Option ((List Node)) :=
 if (0≤(a.length:Int)∧(a.length:Int)≤140737488355328∧120*(a.length:Int)≤281474976710656) then
 (aU (fun s:(List Node)×Int=>Z0m_L1 a s.1 s.2) ((List.replicate (a.length:Int).toNat zT54.z),(0:Int))).bind fun e=>Z0m_J1 e
 else none
def Z1r (b:Graph):Option (Graph) :=
 (Z0m b.Nodes).bind fun e =>
 (Ze b.Outs).bind fun a =>
 some (⟨e,a⟩:Graph)
def Z2z (a:Int):Option (Int×Int) :=
 if (decide (a≤2))=true then (
 some ((0:Int),(0:Int)))
 else (
 if (decide (a≤5))=true then (
 some ((2:Int),(2:Int)))
 else (
 if (a==11)=true then (
 some ((1:Int),(6:Int)))
 else (
 some ((1:Int),(1:Int)))))
def Z3b (a:Int):Option (Bool) :=
 some ((((a==1)||(a==2))||(a==12))||(a==13))
def Z18_J2 (a:Bool):Option (Int) :=
 if a=true then (
 some (3:Int))
 else (
 some (0:Int))
def Z18_J1 (a:Int)(b:Bool):Option (Int) :=
 if b=true then (
 some (4:Int))
 else (
 if (a==16)=true then (
 some (1:Int))
 else (
 if (a==17)=true then (
 some (2:Int))
 else (
 if (a==18)=true then (
 Z18_J2 (a==18))
 else (
 Z18_J2 (a==19)))))
def Z18 (a:Int):Option (Int) :=
 if (a==10)=true then (
 some (1:Int))
 else (
 if (a==14)=true then (
 Z18_J1 a (a==14))
 else (
 Z18_J1 a (a==15)))
def Z15 (a:Node):Option (Bool) :=
 if ((decide (a.Op<1))||(decide (a.Op>19)))=true then (
 some false)
 else (
 (Z2z a.Op).bind fun g =>
 if ((decide ((a.Args.length:Int)<g.1))||(decide ((a.Args.length:Int)>g.2)))=true then (
 some false)
 else (
 (Z3b a.Op).bind fun e =>
 if ((((!e)&&(decide ((a.Dims.length:Int)>0)))||((a.Op != 11)&&(!(a.Form==([]:aM)))))||((a.Op != 2)&&(decide ((a.Data.length:Int)>0))))=true then (
 some false)
 else (
 (Z18 a.Op).bind fun b =>
 if ((a.Op==16)||(a.Op==17))=true then (
 some ((decide ((a.Ints.length:Int)≥b))&&(decide ((a.Ints.length:Int)≤(aG (b+4096))))))
 else (
 some ((a.Ints.length:Int)==b)))))
def Z0i_J1:Option (Bool) :=
 some true
def Z0i_L1 (a:(List Int))(e:Int)(b:Int):Option ((Int)⊕((Bool)⊕(Unit))) :=
 if (decide (b<(a.length:Int)))=true then (
 if (0≤b∧b<(a.length:Int)) then
 if ((decide ((ix a b)<0))||(decide ((ix a b)≥e)))=true then (
 some (.inr (.inl false)))
 else (
 some (.inl (aG (b+1))))
 else none)
 else (
 some (.inr (.inr ())))
def Z0i (a:(List Int))(b:Int):Option (Bool) :=
 (aU (fun s:Int=>Z0i_L1 a b s) (0:Int)).bind fun e=>match e with
 | .inl e=>some e
 | .inr e=>Z0i_J1
def Zu_J1 (a:Int):Option (Int) :=
 some a
def Zu_L1 (a:(List Int))(e:Int)(b:Int):Option ((Int×Int)⊕((Int)⊕(Int))) :=
 if (decide (b<(a.length:Int)))=true then (
 if (0≤b∧b<(a.length:Int)) then
 if ((decide ((ix a b)<1))||(decide ((ix a b)>4096)))=true then (
 some (.inr (.inl (0:Int))))
 else (
 if (decide ((aG (e*(ix a b)))>4096))=true then (
 some (.inr (.inl (0:Int))))
 else (
 some (.inl ((aG (e*(ix a b))),(aG (b+1))))))
 else none)
 else (
 some (.inr (.inr e)))
def Zu (a:(List Int)):Option (Int) :=
 (aU (fun s:Int×Int=>Zu_L1 a s.1 s.2) ((1:Int),(0:Int))).bind fun e=>match e with
 | .inl e=>some e
 | .inr e=>Zu_J1 e
def Zn (a:(List Int)):Option (Bool) :=
 (bI (decide ((a.length:Int)≤6)) (Zu a)).bind fun b =>
 some ((decide ((a.length:Int)≤6))&&(decide (b>0)))
def Zq_J1:Option (Bool) :=
 some true
def Zq_L1 (t1:Tensor)(a:Int):Option ((Int)⊕((Bool)⊕(Unit))) :=
 if (decide (a<(t1.Data.length:Int)))=true then (
 if (0≤a∧a<(t1.Data.length:Int)) then
 if ((decide ((ix t1.Data a)<0))||(decide ((ix t1.Data a)≥2147483647)))=true then (
 some (.inr (.inl false)))
 else (
 some (.inl (aG (a+1))))
 else none)
 else (
 some (.inr (.inr ())))
def Zq (t1:Tensor):Option (Bool) :=
 (Zn t1.Dims).bind fun a =>
 (bI (!(!a)) (Zu t1.Dims)).bind fun b =>
 if ((!a)||((t1.Data.length:Int) != b))=true then (
 some false)
 else (
 (aU (fun s:Int=>Zq_L1 t1 s) (0:Int)).bind fun e=>match e with
 | .inl e=>some e
 | .inr e=>Zq_J1)
def Zt (a:(List Int)):Option ((List Int)) :=
 if ([]:List Int).length+a.length≤17592186044416 then
 some (([]:List Int)++a)
 else none
def Zz_J1:Option (Bool) :=
 some true
def Zz_L1 (b:(List Int))(e:(List Int))(a:Int):Option ((Int)⊕((Bool)⊕(Unit))) :=
 if (decide (a<(b.length:Int)))=true then (
 if (0≤a∧a<(b.length:Int)) then
 if (0≤a∧a<(e.length:Int)) then
 if ((ix b a) != (ix e a))=true then (
 some (.inr (.inl false)))
 else (
 some (.inl (aG (a+1))))
 else none
 else none)
 else (
 some (.inr (.inr ())))
def Zz (a:(List Int))(b:(List Int)):Option (Bool) :=
 if ((a.length:Int) != (b.length:Int))=true then (
 some false)
 else (
 (aU (fun s:Int=>Zz_L1 a b s) (0:Int)).bind fun e=>match e with
 | .inl e=>some e
 | .inr e=>Zz_J1)
def Z27 (a:(List Int))(b:Int):Option (Int) :=
 if (decide (b≥(a.length:Int)))=true then (
 some (1:Int))
 else (
 if (0≤(aG ((aG ((a.length:Int) - 1)) - b))∧(aG ((aG ((a.length:Int) - 1)) - b))<(a.length:Int)) then
 some (ix a (aG ((aG ((a.length:Int) - 1)) - b)))
 else none)
def Zy_J4 (a:(List Int)):Option ((List Int)) :=
 (Zn a).bind fun b =>
 if (!b)=true then (
 some ([]:List Int))
 else (
 some a)
def Zy_J3 (b:Int)(e:(List Int))(a:Int)(g:Int):Option (((List Int)×Int)⊕(((List Int))⊕((List Int)))) :=
 if (0≤(aG ((aG (b - 1)) - a))∧(aG ((aG (b - 1)) - a))<((List.replicate b.toNat (0:Int)).length:Int)) then
 some (.inl ((e.set (aG ((aG (b - 1)) - a)).toNat g),(aG (a+1))))
 else none
def Zy_L1 (i:(List Int))(j:(List Int))(g:Int)(h:(List Int))(a:Int):Option (((List Int)×Int)⊕(((List Int))⊕((List Int)))) :=
 if (decide (a<g))=true then (
 (Z27 i a).bind fun b =>
 (Z27 j a).bind fun e =>
 if (((b != e)&&(b != 1))&&(e != 1))=true then (
 some (.inr (.inl ([]:List Int))))
 else (
 if (decide (e>b))=true then (
 Zy_J3 g h a e)
 else (
 Zy_J3 g h a b)))
 else (
 some (.inr (.inr h)))
def Zy_J1 (b:(List Int))(g:(List Int))(a:Int):Option ((List Int)) :=
 if (0≤a∧a≤140737488355328∧8*a≤281474976710656) then
 (aU (fun s:(List Int)×Int=>Zy_L1 b g a s.1 s.2) ((List.replicate a.toNat (0:Int)),(0:Int))).bind fun e=>match e with
 | .inl e=>some e
 | .inr e=>Zy_J4 e
 else none
def Zy (a:(List Int))(b:(List Int)):Option ((List Int)) :=
 (Zn a).bind fun e =>
 (bI (!(!e)) (Zn b)).bind fun g =>
 if ((!e)||(!g))=true then (
 some ([]:List Int))
 else (
 if (decide ((b.length:Int)>(a.length:Int)))=true then (
 Zy_J1 a b (b.length:Int))
 else (
 Zy_J1 a b (a.length:Int)))
def Z0g (a:(List Int)):Option (Tensor) :=
 (Zt a).bind fun e =>
 (Zu a).bind fun b =>
 if (0≤b∧b≤140737488355328∧8*b≤281474976710656) then
 some (⟨e,(List.replicate b.toNat (0:Int))⟩:Tensor)
 else none
def Zi_J1 (a:(List Int)):Option ((List Int)) :=
 some a
def Zi_L1 (a:(List Int))(e:Int)(g:(List Int))(b:Int):Option ((Int×(List Int)×Int)⊕((List Int))) :=
 if (decide (b≥0))=true then (
 if (0≤b∧b<(a.length:Int)) then
 if (ix a b)≠0 then
 if (0≤b∧b<((List.replicate (a.length:Int).toNat (0:Int)).length:Int)) then
 some (.inl ((aG (e.tdiv (ix a b))),(g.set b.toNat (e.tmod (ix a b))),(aG (b - 1))))
 else none
 else none
 else none)
 else (
 some (.inr g))
def Zi (a:(List Int))(b:Int):Option ((List Int)) :=
 if (0≤(a.length:Int)∧(a.length:Int)≤140737488355328∧8*(a.length:Int)≤281474976710656) then
 (aU (fun s:Int×(List Int)×Int=>Zi_L1 a s.1 s.2.1 s.2.2) (b,(List.replicate (a.length:Int).toNat (0:Int)),(aG ((a.length:Int) - 1)))).bind fun e=>Zi_J1 e
 else none
def Z0l_J1 (tu:Int):Option (Int) :=
 some tu
def Z0l_L1 (b:(List Int))(e:(List Int))(g:Int)(a:Int):Option ((Int×Int)⊕(Int)) :=
 if (decide (a<(b.length:Int)))=true then (
 if (0≤a∧a<(b.length:Int)) then
 if (0≤a∧a<(e.length:Int)) then
 some (.inl ((aG ((aG (g*(ix b a)))+(ix e a))),(aG (a+1))))
 else none
 else none)
 else (
 some (.inr g))
def Z0l (b:(List Int))(a:(List Int)):Option (Int) :=
 (aU (fun s:Int×Int=>Z0l_L1 b a s.1 s.2) ((0:Int),(0:Int))).bind fun e=>Z0l_J1 e
def Z14 (t1:Tensor)(a:(List Int)):Option (Int) :=
 (Z0l t1.Dims a).bind fun b =>
 if (0≤b∧b<(t1.Data.length:Int)) then
 some (ix t1.Data b)
 else none
def Z06_J3 (t1:Tensor)(b:(List Int)):Option (Int) :=
 (Z14 t1 b).bind fun a =>
 some a
def Z06_J2 (a:(List Int))(e:Int)(b:Int):Option (((List Int)×Int)⊕((List Int))) :=
 if a.length+([b]:List Int).length≤17592186044416 then
 some (.inl ((a++([b]:List Int)),(aG (e+1))))
 else none
def Z06_L1 (t1:Tensor)(a:(List Int))(e:(List Int))(b:Int):Option (((List Int)×Int)⊕((List Int))) :=
 if (decide (b<(t1.Dims.length:Int)))=true then (
 if (0≤(aG ((aG ((a.length:Int) - (t1.Dims.length:Int)))+b))∧(aG ((aG ((a.length:Int) - (t1.Dims.length:Int)))+b))<(a.length:Int)) then
 if (0≤b∧b<(t1.Dims.length:Int)) then
 if ((ix t1.Dims b)==1)=true then (
 Z06_J2 e b (0:Int))
 else (
 Z06_J2 e b (ix a (aG ((aG ((a.length:Int) - (t1.Dims.length:Int)))+b))))
 else none
 else none)
 else (
 some (.inr e))
def Z06 (t1:Tensor)(a:(List Int)):Option (Int) :=
 (aU (fun s:(List Int)×Int=>Z06_L1 t1 a s.1 s.2) (([]:List Int),(0:Int))).bind fun e=>Z06_J3 t1 e
def Zp_J1 (a:Int):Option (Int) :=
 some a
def Zp (p1:Int):Option (Int) :=
 if (decide ((p1.tmod (2147483647:Int))<0))=true then (
 Zp_J1 (aG ((p1.tmod (2147483647:Int))+2147483647)))
 else (
 Zp_J1 (p1.tmod (2147483647:Int)))
def Z1b (b:Int):Option (Int) :=
 (Zp b).bind fun a =>
 if (decide (a>1073741823))=true then (
 some (aG (a - 2147483647)))
 else (
 some a)
def Z1j (a:Int)(b:Int):Option (Int) :=
 (Zp a).bind fun e =>
 (Zp b).bind fun g =>
 (Zp (aG (e+g))).bind fun h =>
 some h
def Z25 (a:Int)(b:Int):Option (Int) :=
 (Zp a).bind fun e =>
 (Zp b).bind fun g =>
 (Zp (aG (e - g))).bind fun h =>
 some h
def Z1c (a:Int)(b:Int):Option (Int) :=
 (Zp a).bind fun e =>
 (Zp b).bind fun g =>
 (Zp (aG (e*g))).bind fun h =>
 some h
def Zs_J1 (a:Int):Option (Int) :=
 some a
def Zs_S (i:Int→Int→Option (Int))(b:Int)(a:Int):Option (Int) :=
 if (a==0)=true then (
 some (1:Int))
 else (
 (i b (aG (a.tdiv (2:Int)))).bind fun e =>
 (Z1c e e).bind fun g =>
 if ((a.tmod (2:Int))==1)=true then (
 (Z1c g b).bind fun h =>
 Zs_J1 h)
 else (
 Zs_J1 g))
def Zs_R:Nat→Int→Int→Option (Int)
 | 0=>fun _ _=>none
 | n+1=>Zs_S (Zs_R n)
def Zs (a:Int)(b:Int):Option (Int):=Zs_R nb a b
def Z24 (a:Int):Option (Int) :=
 (Zp a).bind fun b =>
 (Zs b (2147483645:Int)).bind fun e =>
 some e
def Z3t (a:Int)(b:Int):Option (Int) :=
 (Z24 b).bind fun e =>
 (Z1c a e).bind fun g =>
 some g
def Z1k_J1 (a:Bool):Option (Int) :=
 if a=true then (
 some (1:Int))
 else (
 some (0:Int))
def Z1k (a:Int)(b:Int)(e:Int):Option (Int) :=
 (Z1b b).bind fun j =>
 (Z1b e).bind fun l =>
 if (a==1)=true then (
 (Z1j b e).bind fun m =>
 some m)
 else (
 if (a==2)=true then (
 (Z25 b e).bind fun g =>
 some g)
 else (
 if (a==3)=true then (
 (Z1c b e).bind fun h =>
 some h)
 else (
 if (a==4)=true then (
 (Z3t b e).bind fun i =>
 some i)
 else (
 if (a==5)=true then (
 if (decide (j<l))=true then (
 some e)
 else (
 some b))
 else (
 if (a==6)=true then (
 if (decide (j<l))=true then (
 some b)
 else (
 some e))
 else (
 if (a==7)=true then (
 Z1k_J1 (decide (j<l)))
 else (
 if (a==8)=true then (
 Z1k_J1 (b==e))
 else (
 Z1k_J1 false))))))))
def Z10_J1 (a:Tensor)(b:(List Int)):Option (Tensor) :=
 some (⟨a.Dims,b⟩:Tensor)
def Z10_L1 (h:Int)(q:Tensor)(r:Tensor)(i:(List Int))(b:Tensor)(g:(List Int))(a:Int):Option (((List Int)×Int)⊕((List Int))) :=
 if (decide (a<(b.Data.length:Int)))=true then (
 (Zi i a).bind fun e =>
 (Z06 q e).bind fun j =>
 (Z06 r e).bind fun l =>
 (Z1k h j l).bind fun m =>
 if (0≤a∧a<(b.Data.length:Int)) then
 some (.inl ((g.set a.toNat m),(aG (a+1))))
 else none)
 else (
 some (.inr g))
def Z10 (b:Int)(i:Tensor)(j:Tensor):Option (Tensor) :=
 (Zq i).bind fun h =>
 (bI (!(!h)) (Zq j)).bind fun l =>
 if ((((!h)||(!l))||(decide (b<1)))||(decide (b>8)))=true then (
 some (⟨([]:List Int),([]:List Int)⟩:Tensor))
 else (
 (Zy i.Dims j.Dims).bind fun a =>
 if ((decide ((a.length:Int)<(i.Dims.length:Int)))||(decide ((a.length:Int)<(j.Dims.length:Int))))=true then (
 some (⟨([]:List Int),([]:List Int)⟩:Tensor))
 else (
 (Z0g a).bind fun g =>
 (aU (fun s:(List Int)×Int=>Z10_L1 b i j a g s.1 s.2) (g.Data,(0:Int))).bind fun e=>Z10_J1 g e))
def Z2y (a:Int)(b:Int):Option (Int) :=
 if (a==1)=true then (
 (Z25 (0:Int) b).bind fun e =>
 some e)
 else (
 if (a==2)=true then (
 (Z24 b).bind fun g =>
 some g)
 else (
 (Z1b b).bind fun h =>
 if (decide (h≤0))=true then (
 some (0:Int))
 else (
 if (a==3)=true then (
 some (1:Int))
 else (
 some b))))
def Z0z_J1 (a:Tensor)(b:(List Int)):Option (Tensor) :=
 some (⟨a.Dims,b⟩:Tensor)
def Z0z_L1 (e:Int)(i:Tensor)(g:Tensor)(b:(List Int))(a:Int):Option (((List Int)×Int)⊕((List Int))) :=
 if (decide (a<(i.Data.length:Int)))=true then (
 if (0≤a∧a<(i.Data.length:Int)) then
 (Z2y e (ix i.Data a)).bind fun h =>
 if (0≤a∧a<(g.Data.length:Int)) then
 some (.inl ((b.set a.toNat h),(aG (a+1))))
 else none
 else none)
 else (
 some (.inr b))
def Z0z (a:Int)(g:Tensor):Option (Tensor) :=
 (Zq g).bind fun h =>
 if (((!h)||(decide (a<1)))||(decide (a>4)))=true then (
 some (⟨([]:List Int),([]:List Int)⟩:Tensor))
 else (
 (Z0g g.Dims).bind fun b =>
 (aU (fun s:(List Int)×Int=>Z0z_L1 a g b s.1 s.2) (b.Data,(0:Int))).bind fun e=>Z0z_J1 b e)
def Z1d (t1:Tensor)(a:Int):Option (Bool) :=
 (Zq t1).bind fun b =>
 some ((b&&(decide (a≥0)))&&(decide (a<(t1.Dims.length:Int))))
def Z0h (e:(List Int))(a:Int)(g:Int):Option ((List Int)) :=
 (Zt e).bind fun b =>
 if (0≤a∧a<(b.length:Int)) then
 some (b.set a.toNat g)
 else none
def Z0u_J1 (a:(List Int)):Option ((List Int)) :=
 some a
def Z0u_L1 (t1:Tensor)(a:Int)(h:(List Int))(b:(List Int))(tu:Int):Option (((List Int)×Int)⊕((List Int))) :=
 if (0≤a∧a<(t1.Dims.length:Int)) then
 if (decide (tu<(ix t1.Dims a)))=true then (
 (Z0h h a tu).bind fun g =>
 (Z14 t1 g).bind fun e =>
 if b.length+([e]:List Int).length≤17592186044416 then
 some (.inl ((b++([e]:List Int)),(aG (tu+1))))
 else none)
 else (
 some (.inr b))
 else none
def Z0u (t1:Tensor)(a:Int)(b:(List Int)):Option ((List Int)) :=
 (aU (fun s:(List Int)×Int=>Z0u_L1 t1 a b s.1 s.2) (([]:List Int),(0:Int))).bind fun e=>Z0u_J1 e
def Za_J9 (b:Tensor)(a:(List Int)):Option (Tensor) :=
 some (⟨b.Dims,a⟩:Tensor)
def Za_J8 (b:Int)(a:(List Int)):Option (((List Int)×Int)⊕((List Int))) :=
 some (.inl (a,(aG (b+1))))
def Za_J7 (g:Tensor)(e:(List Int))(b:Int)(a:Bool):Option (((List Int)×Int)⊕((List Int))) :=
 if a=true then (
 if (0≤b∧b<(g.Data.length:Int)) then
 Za_J8 b (e.set b.toNat (1:Int))
 else none)
 else (
 Za_J8 b e)
def Za_J6 (b:Int)(a:Bool):Option ((Bool×Int)⊕(Bool)) :=
 some (.inl (a,(aG (b+1))))
def Za_L2 (t1:Tensor)(e:Int)(i:Int)(l:(List Int))(j:(List Int))(b:Bool)(a:Int):Option ((Bool×Int)⊕(Bool)) :=
 if (decide (a<(j.length:Int)))=true then (
 if (0≤a∧a<(j.length:Int)) then
 (Z1b (ix j a)).bind fun g =>
 if (0≤i∧i<(t1.Data.length:Int)) then
 (Z1b (ix t1.Data i)).bind fun h =>
 if (decide (g>h))=false→(g==h)=true→(0≤e∧e<(l.length:Int)) then
 if ((decide (g>h))||((g==h)&&(decide (a<(ix l e)))))=true then (
 Za_J6 a false)
 else (
 Za_J6 a b)
 else none
 else none
 else none)
 else (
 some (.inr b))
def Za_L1 (t1:Tensor)(a:Int)(i:Tensor)(h:(List Int))(b:Int):Option (((List Int)×Int)⊕((List Int))) :=
 if (decide (b<(t1.Data.length:Int)))=true then (
 (Zi t1.Dims b).bind fun g =>
 (Z0u t1 a g).bind fun j =>
 (aU (fun s:Bool×Int=>Za_L2 t1 a b g j s.1 s.2) (true,(0:Int))).bind fun e=>Za_J7 i h b e)
 else (
 some (.inr h))
def Za (t1:Tensor)(a:Int):Option (Tensor) :=
 (Z1d t1 a).bind fun g =>
 if (!g)=true then (
 some (⟨([]:List Int),([]:List Int)⟩:Tensor))
 else (
 (Z0g t1.Dims).bind fun b =>
 (aU (fun s:(List Int)×Int=>Za_L1 t1 a b s.1 s.2) (b.Data,(0:Int))).bind fun e=>Za_J9 b e)
def Z0t_J1 (p1:aM):Option (Bool) :=
 some (decide ((p1.length:Int)≤6))
def Z0t_L1 (p1:aM)(a:Int):Option ((Int)⊕((Bool)⊕(Unit))) :=
 if (decide (a<(p1.length:Int)))=true then (
 if (0≤a∧a<(p1.length:Int)) then
 if ((decide ((bt p1 a)<97))||(decide ((bt p1 a)>122)))=true then (
 some (.inr (.inl false)))
 else (
 some (.inl (aG (a+1))))
 else none)
 else (
 some (.inr (.inr ())))
def Z0t (p1:aM):Option (Bool) :=
 (aU (fun s:Int=>Z0t_L1 p1 s) (0:Int)).bind fun e=>match e with
 | .inl e=>some e
 | .inr e=>Z0t_J1 p1
def Z0s_J1:Option (Bool) :=
 some false
def Z0s_L1 (p1:aM)(b:Int)(a:Int):Option ((Int)⊕((Bool)⊕(Unit))) :=
 if (decide (a<(p1.length:Int)))=true then (
 if (0≤a∧a<(p1.length:Int)) then
 if ((bt p1 a)==b)=true then (
 some (.inr (.inl true)))
 else (
 some (.inl (aG (a+1))))
 else none)
 else (
 some (.inr (.inr ())))
def Z0s (p1:aM)(a:Int):Option (Bool) :=
 (aU (fun s:Int=>Z0s_L1 p1 a s) (0:Int)).bind fun e=>match e with
 | .inl e=>some e
 | .inr e=>Z0s_J1
def Z0_J8 (b:aM)(e:Int)(a:(List aM)):Option ((List aM)×aM×Bool) :=
 some (a,(sub b (aG (e+2)) (b.length:Int)),true)
def Z0_J7 (a:aM)(g:Int)(b:Int)(e:Bool):Option ((Int)⊕(((List aM)×aM×Bool)⊕(Unit))) :=
 if (!e)=false→(0≤(0:Int)∧(0:Int)≤b∧b≤((sub a (aG (g+2)) (a.length:Int)).length:Int)) then
 if (!e)=false→(0≤b∧b<((sub a (aG (g+2)) (a.length:Int)).length:Int)) then
 (bI (!(!e)) (Z0s (sub (sub a (aG (g+2)) (a.length:Int)) (0:Int) b) (bt (sub a (aG (g+2)) (a.length:Int)) b))).bind fun h =>
 if ((!e)||h)=true then (
 some (.inr (.inl (([]:List aM),([]:aM),false))))
 else (
 some (.inl (aG (b+1))))
 else none
 else none
def Z0_L5 (b:aM)(j:Int)(a:(List aM))(h:Int)(g:Bool)(e:Int):Option ((Bool×Int)⊕(Bool)) :=
 if (decide (e<(a.length:Int)))=true then (
 if g=false→(0≤e∧e<(a.length:Int)) then
 if g=false→(0≤h∧h<((sub b (aG (j+2)) (b.length:Int)).length:Int)) then
 (bI (!g) (Z0s (ix a e) (bt (sub b (aG (j+2)) (b.length:Int)) h))).bind fun i =>
 some (.inl ((g||i),(aG (e+1))))
 else none
 else none)
 else (
 some (.inr g))
def Z0_L4 (a:aM)(h:Int)(b:(List aM))(g:Int):Option ((Int)⊕(((List aM)×aM×Bool)⊕(Unit))) :=
 if (decide (g<((sub a (aG (h+2)) (a.length:Int)).length:Int)))=true then (
 (aU (fun s:Bool×Int=>Z0_L5 a h b g s.1 s.2) (false,(0:Int))).bind fun e=>Z0_J7 a h g e)
 else (
 some (.inr (.inr ())))
def Z0_J5 (b:aM)(g:Int)(a:(List aM)):Option ((List aM)×aM×Bool) :=
 (aU (fun s:Int=>Z0_L4 b g a s) (0:Int)).bind fun e=>match e with
 | .inl e=>some e
 | .inr e=>Z0_J8 b g a
def Z0_L3 (a:(List aM))(b:Int):Option ((Int)⊕(((List aM)×aM×Bool)⊕(Unit))) :=
 if (decide (b<(a.length:Int)))=true then (
 if (0≤b∧b<(a.length:Int)) then
 (Z0t (ix a b)).bind fun e =>
 if (!e)=true then (
 some (.inr (.inl (([]:List aM),([]:aM),false))))
 else (
 some (.inl (aG (b+1))))
 else none)
 else (
 some (.inr (.inr ())))
def Z0_J4 (b:aM)(g:Int)(a:(List aM)):Option ((List aM)×aM×Bool) :=
 if (0≤(aG (g+2))∧(aG (g+2))≤(b.length:Int)∧(b.length:Int)≤(b.length:Int)) then
 (bI (!(decide ((a.length:Int)>6))) (Z0t (sub b (aG (g+2)) (b.length:Int)))).bind fun h =>
 if ((decide ((a.length:Int)>6))||(!h))=true then (
 some (([]:List aM),([]:aM),false))
 else (
 (aU (fun s:Int=>Z0_L3 a s) (0:Int)).bind fun e=>match e with
 | .inl e=>some e
 | .inr e=>Z0_J5 b g a)
 else none
def Z0_J3 (b:Int)(a:(List aM))(e:Int):Option (((List aM)×Int×Int)⊕((List aM))) :=
 some (.inl (a,e,(aG (b+1))))
def Z0_L2 (e:aM)(h:Int)(a:(List aM))(g:Int)(b:Int):Option (((List aM)×Int×Int)⊕((List aM))) :=
 if (decide (b≤h))=true then (
 if (b==h)=false→(0≤b∧b<(e.length:Int)) then
 if ((b==h)||((bt e b)==44))=true then (
 if (0≤g∧g≤b∧b≤(e.length:Int)) then
 if a.length+([(sub e g b)]:List aM).length≤8796093022208 then
 Z0_J3 b (a++([(sub e g b)]:List aM)) (aG (b+1))
 else none
 else none)
 else (
 Z0_J3 b a g)
 else none)
 else (
 some (.inr a))
def Z0_J1 (a:aM)(b:Int):Option ((List aM)×aM×Bool) :=
 if (decide ((aG (b+1))≥(a.length:Int)))=true then (
 some (([]:List aM),([]:aM),false))
 else (
 (aU (fun s:(List aM)×Int×Int=>Z0_L2 a b s.1 s.2.1 s.2.2) (([]:List aM),(0:Int),(0:Int))).bind fun e=>Z0_J4 a b e)
def Z0_L1 (a:aM)(b:Int):Option ((Int)⊕(Int)) :=
 if (decide ((aG (b+1))<(a.length:Int)))=true→(0≤b∧b≤(aG (b+2))∧(aG (b+2))≤(a.length:Int)) then
 if ((decide ((aG (b+1))<(a.length:Int)))&&(!((sub a b (aG (b+2)))==str0)))=true then (
 some (.inl (aG (b+1))))
 else (
 some (.inr b))
 else none
def Z0 (a:aM):Option ((List aM)×aM×Bool) :=
 (aU (fun s:Int=>Z0_L1 a s) (0:Int)).bind fun e=>Z0_J1 a e
def Z2_J12 (b:aM)(a:(List Int)):Option (aM×(List Int)×Bool) :=
 some (b,a,true)
def Z2_L4 (a:(List Int))(e:Int)(b:Int):Option ((Int×Int)⊕((aM×(List Int)×Bool)⊕(Unit))) :=
 if (decide (b<(a.length:Int)))=true then (
 if (0≤b∧b<(a.length:Int)) then
 if (decide ((aG (e*(ix a b)))>65536))=true then (
 some (.inr (.inl (([]:aM),a,false))))
 else (
 some (.inl ((aG (e*(ix a b))),(aG (b+1)))))
 else none)
 else (
 some (.inr (.inr ())))
def Z2_J11 (b:aM)(a:(List Int)):Option (aM×(List Int)×Bool) :=
 (aU (fun s:Int×Int=>Z2_L4 a s.1 s.2) ((1:Int),(0:Int))).bind fun e=>match e with
 | .inl e=>some e
 | .inr e=>Z2_J12 b a
def Z2_J10 (e:Int)(b:aM)(a:(List Int)):Option ((aM×(List Int)×Int)⊕((aM×(List Int)×Bool)⊕(aM×(List Int)))) :=
 some (.inl (b,a,(aG (e+1))))
def Z2_J9 (g:(List (List Int)))(i:Int)(b:Int)(e:Int)(h:aM)(a:(List Int)):Option ((aM×(List Int)×Int)⊕((aM×(List Int)×Bool)⊕(aM×(List Int)))) :=
 if (0≤e∧e<(a.length:Int)) then
 if ((ix a e) != 0)=true→(0≤b∧b<((ix g i).length:Int)) then
 if (((ix a e) != 0)&&((ix a e) != (ix (ix g i) b)))=true then (
 some (.inr (.inl (([]:aM),a,false))))
 else (
 if (0≤b∧b<((ix g i).length:Int)) then
 some (.inl (h,(a.set e.toNat (ix (ix g i) b)),(aG (b+1))))
 else none)
 else none
 else none
def Z2_J8 (g:(List aM))(i:(List (List Int)))(h:Int)(a:aM)(b:(List Int))(e:Int)(j:Int):Option ((aM×(List Int)×Int)⊕((aM×(List Int)×Bool)⊕(aM×(List Int)))) :=
 if (j==(a.length:Int))=true then (
 if (0≤e∧e≤(aG (e+1))∧(aG (e+1))≤((ix g h).length:Int)) then
 if a.length+(sub (ix g h) e (aG (e+1))).length≤9223372036854775807 then
 if b.length+([(0:Int)]:List Int).length≤17592186044416 then
 Z2_J9 i h e j (a++(sub (ix g h) e (aG (e+1)))) (b++([(0:Int)]:List Int))
 else none
 else none
 else none)
 else (
 Z2_J9 i h e j a b)
def Z2_L3 (e:(List aM))(h:Int)(a:aM)(g:Int)(b:Int):Option ((Int)⊕(Int)) :=
 if (decide (b<(a.length:Int)))=true→(0≤b∧b<(a.length:Int)) then
 if (decide (b<(a.length:Int)))=true→(0≤g∧g<((ix e h).length:Int)) then
 if ((decide (b<(a.length:Int)))&&((bt a b) != (bt (ix e h) g)))=true then (
 some (.inl (aG (b+1))))
 else (
 some (.inr b))
 else none
 else none
def Z2_L2 (g:(List aM))(j:(List (List Int)))(i:Int)(a:aM)(b:(List Int))(h:Int):Option ((aM×(List Int)×Int)⊕((aM×(List Int)×Bool)⊕(aM×(List Int)))) :=
 if (decide (h<((ix g i).length:Int)))=true then (
 (aU (fun s:Int=>Z2_L3 g i a h s) (0:Int)).bind fun e=>Z2_J8 g j i a b h e)
 else (
 some (.inr (.inr (a,b))))
def Z2_L1 (b:(List aM))(i:(List (List Int)))(h:aM)(a:(List Int))(g:Int):Option ((aM×(List Int)×Int)⊕((aM×(List Int)×Bool)⊕(aM×(List Int)))) :=
 if (decide (g<(b.length:Int)))=true then (
 if (0≤g∧g<(i.length:Int)) then
 if (0≤g∧g<(b.length:Int)) then
 if (((ix i g).length:Int) != ((ix b g).length:Int))=true then (
 some (.inr (.inl (([]:aM),a,false))))
 else (
 (aU (fun s:aM×(List Int)×Int=>Z2_L2 b i g s.1 s.2.1 s.2.2) (h,a,(0:Int))).bind fun e=>match e with
 | .inl e=>some (.inr (.inl e))
 | .inr e=>Z2_J10 g e.1 e.2)
 else none
 else none)
 else (
 some (.inr (.inr (h,a))))
def Z2 (a:(List aM))(g:aM)(b:(List (List Int))):Option (aM×(List Int)×Bool) :=
 if (0≤(g.length:Int)∧(g.length:Int)≤140737488355328∧8*(g.length:Int)≤281474976710656) then
 (aU (fun s:aM×(List Int)×Int=>Z2_L1 a b s.1 s.2.1 s.2.2) (g,(List.replicate (g.length:Int).toNat (0:Int)),(0:Int))).bind fun e=>match e with
 | .inl e=>some e
 | .inr e=>Z2_J11 e.1 e.2
 else none
def Zg_J7 (a:(List Int)):Option ((List Int)) :=
 some a
def Zg_J6 (a:Int)(b:(List Int)):Option (((List Int)×Int)⊕((List Int))) :=
 some (.inl (b,(aG (a+1))))
def Zg_J5 (a:Int)(b:(List Int)):Option (((List Int)×Int)⊕((List Int))) :=
 some (.inl (b,(aG (a+1))))
def Zg_L2 (g:aM)(a:aM)(b:(List Int))(i:Int)(h:(List Int))(e:Int):Option (((List Int)×Int)⊕((List Int))) :=
 if (decide (e<(a.length:Int)))=true then (
 if (0≤e∧e<(a.length:Int)) then
 if (0≤i∧i<(g.length:Int)) then
 if ((bt a e)==(bt g i))=true then (
 if (0≤e∧e<(b.length:Int)) then
 if h.length+([(ix b e)]:List Int).length≤17592186044416 then
 Zg_J5 e (h++([(ix b e)]:List Int))
 else none
 else none)
 else (
 Zg_J5 e h)
 else none
 else none)
 else (
 some (.inr h))
def Zg_L1 (a:aM)(b:aM)(g:(List Int))(i:(List Int))(h:Int):Option (((List Int)×Int)⊕((List Int))) :=
 if (decide (h<(a.length:Int)))=true then (
 (aU (fun s:(List Int)×Int=>Zg_L2 a b g h s.1 s.2) (i,(0:Int))).bind fun e=>Zg_J6 h e)
 else (
 some (.inr i))
def Zg (g:aM)(a:aM)(b:(List Int)):Option ((List Int)) :=
 (aU (fun s:(List Int)×Int=>Zg_L1 g a b s.1 s.2) (([]:List Int),(0:Int))).bind fun e=>Zg_J7 e
def Z5_J5 (b:Tensor)(a:(List Int)):Option (Tensor) :=
 some (⟨b.Dims,a⟩:Tensor)
def Z5_J4 (l:(List aM)×aM×Bool)(i:Tensor)(b:(List Int))(g:Int)(e:(List Int))(j:Int):Option (((List Int)×Int)⊕((List Int))) :=
 if (0≤(0:Int)∧(0:Int)≤(l.2.1.length:Int)∧(l.2.1.length:Int)≤(e.length:Int)) then
 (Z0l i.Dims (sub e (0:Int) (l.2.1.length:Int))).bind fun a =>
 if (0≤a∧a<(i.Data.length:Int)) then
 (Z1j (ix b a) j).bind fun h =>
 some (.inl ((b.set a.toNat h),(aG (g+1))))
 else none
 else none
def Z5_L4 (j:(List Tensor))(m:(List aM)×aM×Bool)(l:aM×(List Int)×Bool)(e:(List Int))(b:Int)(a:Int):Option ((Int×Int)⊕(Int)) :=
 if (decide (a<(m.1.length:Int)))=true then (
 if (0≤a∧a<(j.length:Int)) then
 if (0≤a∧a<(m.1.length:Int)) then
 (Zg (ix m.1 a) l.1 e).bind fun g =>
 (Z14 (ix j a) g).bind fun h =>
 (Z1c b h).bind fun i =>
 some (.inl (i,(aG (a+1))))
 else none
 else none)
 else (
 some (.inr b))
def Z5_L3 (l:(List Tensor))(m:(List aM)×aM×Bool)(i:aM×(List Int)×Bool)(j:Tensor)(g:Int)(a:(List Int))(b:Int):Option (((List Int)×Int)⊕((List Int))) :=
 if (decide (b<g))=true then (
 (Zi i.2.1 b).bind fun h =>
 (aU (fun s:Int×Int=>Z5_L4 l m i h s.1 s.2) ((1:Int),(0:Int))).bind fun e=>Z5_J4 m j a b h e)
 else (
 some (.inr a))
def Z5_J2 (h:(List Tensor))(i:(List aM)×aM×Bool)(g:aM×(List Int)×Bool)(b:Tensor)(a:Int):Option (Tensor) :=
 (aU (fun s:(List Int)×Int=>Z5_L3 h i g b a s.1 s.2) (b.Data,(0:Int))).bind fun e=>Z5_J5 b e
def Z5_L2 (e:aM×(List Int)×Bool)(a:Int)(b:Int):Option ((Int×Int)⊕(Int)) :=
 if (decide (b<(e.2.1.length:Int)))=true then (
 if (0≤b∧b<(e.2.1.length:Int)) then
 some (.inl ((aG (a*(ix e.2.1 b))),(aG (b+1))))
 else none)
 else (
 some (.inr a))
def Z5_J1 (j:(List Tensor))(g:(List aM)×aM×Bool)(b:(List (List Int))):Option (Tensor) :=
 (Z2 g.1 g.2.1 b).bind fun a =>
 if (!a.2.2)=false→(0≤(0:Int)∧(0:Int)≤(g.2.1.length:Int)∧(g.2.1.length:Int)≤(a.2.1.length:Int)) then
 (bI (!(!a.2.2)) (Zn (sub a.2.1 (0:Int) (g.2.1.length:Int)))).bind fun h =>
 if ((!a.2.2)||(!h))=true then (
 some (⟨([]:List Int),([]:List Int)⟩:Tensor))
 else (
 if (0≤(0:Int)∧(0:Int)≤(g.2.1.length:Int)∧(g.2.1.length:Int)≤(a.2.1.length:Int)) then
 (Z0g (sub a.2.1 (0:Int) (g.2.1.length:Int))).bind fun i =>
 (aU (fun s:Int×Int=>Z5_L2 a s.1 s.2) ((1:Int),(0:Int))).bind fun e=>Z5_J2 j g a i e
 else none)
 else none
def Z5_L1 (e:(List Tensor))(a:(List (List Int)))(b:Int):Option (((List (List Int))×Int)⊕((Tensor)⊕((List (List Int))))) :=
 if (decide (b<(e.length:Int)))=true then (
 if (0≤b∧b<(e.length:Int)) then
 (Zq (ix e b)).bind fun g =>
 if (!g)=true then (
 some (.inr (.inl (⟨([]:List Int),([]:List Int)⟩:Tensor))))
 else (
 if a.length+([(ix e b).Dims]:List (List Int)).length≤5864062014805 then
 some (.inl ((a++([(ix e b).Dims]:List (List Int))),(aG (b+1))))
 else none)
 else none)
 else (
 some (.inr (.inr a)))
def Z5 (a:aM)(b:(List Tensor)):Option (Tensor) :=
 (Z0 a).bind fun g =>
 if ((!g.2.2)||((g.1.length:Int) != (b.length:Int)))=true then (
 some (⟨([]:List Int),([]:List Int)⟩:Tensor))
 else (
 (aU (fun s:(List (List Int))×Int=>Z5_L1 b s.1 s.2) (([]:List (List Int)),(0:Int))).bind fun e=>match e with
 | .inl e=>some e
 | .inr e=>Z5_J1 b g e)
def Z0f_J3 (v1:View)(a:(List Int)):Option (View) :=
 some (⟨v1.Dims,a,v1.Offset,v1.Base⟩:View)
def Z0f_J2 (a:Int)(b:(List Int)):Option ((Int×(List Int))⊕((List Int))) :=
 some (.inl ((aG (a+1)),b))
def Z0f_L1 (v1:View)(a:Int)(b:(List Int)):Option ((Int×(List Int))⊕((List Int))) :=
 if (decide (a<(v1.Dims.length:Int)))=true then (
 if (0≤a∧a<(v1.Dims.length:Int)) then
 if ((ix v1.Dims a)==1)=true then (
 if (0≤a∧a<(v1.Strides.length:Int)) then
 Z0f_J2 a (b.set a.toNat (0:Int))
 else none)
 else (
 Z0f_J2 a b)
 else none)
 else (
 some (.inr b))
def Z0f (v1:View):Option (View) :=
 (aU (fun s:Int×(List Int)=>Z0f_L1 v1 s.1 s.2) ((0:Int),v1.Strides)).bind fun e=>Z0f_J3 v1 e
def Zv_J1 (g:(List Int))(a:Int)(e:(List Int)):Option (View) :=
 (Z0f (⟨g,e,(0:Int),a⟩:View)).bind fun b =>
 some b
def Zv_L1 (a:(List Int))(e:(List Int))(b:Int):Option (((List Int)×Int)⊕((List Int))) :=
 if (decide (b<(a.length:Int)))=true then (
 if (0≤(aG (b+1))∧(aG (b+1))≤(a.length:Int)∧(a.length:Int)≤(a.length:Int)) then
 (Zu (sub a (aG (b+1)) (a.length:Int))).bind fun g =>
 if e.length+([g]:List Int).length≤17592186044416 then
 some (.inl ((e++([g]:List Int)),(aG (b+1))))
 else none
 else none)
 else (
 some (.inr e))
def Zv (a:(List Int)):Option (View) :=
 (Zn a).bind fun g =>
 if (!g)=true then (
 some (⟨([]:List Int),([]:List Int),(0:Int),(0:Int)⟩:View))
 else (
 (Zt a).bind fun h =>
 (Zu a).bind fun b =>
 (aU (fun s:(List Int)×Int=>Zv_L1 a s.1 s.2) (([]:List Int),(0:Int))).bind fun e=>Zv_J1 h b e)
def Z13_J1 (a:Int):Option (Int) :=
 some a
def Z13_L1 (v1:View)(a:(List Int))(e:Int)(b:Int):Option ((Int×Int)⊕(Int)) :=
 if (decide (b<(a.length:Int)))=true then (
 if (0≤b∧b<(a.length:Int)) then
 if (0≤b∧b<(v1.Strides.length:Int)) then
 some (.inl ((aG (e+(aG ((ix a b)*(ix v1.Strides b))))),(aG (b+1))))
 else none
 else none)
 else (
 some (.inr e))
def Z13 (v1:View)(a:(List Int)):Option (Int) :=
 (aU (fun s:Int×Int=>Z13_L1 v1 a s.1 s.2) (v1.Offset,(0:Int))).bind fun e=>Z13_J1 e
def Z09_J1 (a:(List Int)):Option ((List Int)) :=
 some a
def Z09_L1 (v1:View)(h:Int)(b:(List Int))(a:Int):Option (((List Int)×Int)⊕((List Int))) :=
 if (decide (a<h))=true then (
 (Zi v1.Dims a).bind fun g =>
 (Z13 v1 g).bind fun e =>
 if b.length+([e]:List Int).length≤17592186044416 then
 some (.inl ((b++([e]:List Int)),(aG (a+1))))
 else none)
 else (
 some (.inr b))
def Z09 (v1:View):Option ((List Int)) :=
 (Zu v1.Dims).bind fun a =>
 (aU (fun s:(List Int)×Int=>Z09_L1 v1 a s.1 s.2) (([]:List Int),(0:Int))).bind fun e=>Z09_J1 e
def Z8_J2:Option (Bool) :=
 some true
def Z8_L2 (v1:View)(b:(List Int))(a:Int):Option ((Int)⊕((Bool)⊕(Unit))) :=
 if (decide (a<(b.length:Int)))=true then (
 if (0≤a∧a<(b.length:Int)) then
 if ((decide ((ix b a)<0))||(decide ((ix b a)≥v1.Base)))=true then (
 some (.inr (.inl false)))
 else (
 some (.inl (aG (a+1))))
 else none)
 else (
 some (.inr (.inr ())))
def Z8_J1 (v1:View):Option (Bool) :=
 (Z09 v1).bind fun a =>
 (aU (fun s:Int=>Z8_L2 v1 a s) (0:Int)).bind fun e=>match e with
 | .inl e=>some e
 | .inr e=>Z8_J2
def Z8_L1 (v1:View)(a:Int):Option ((Int)⊕((Bool)⊕(Unit))) :=
 if (decide (a<(v1.Strides.length:Int)))=true then (
 if (0≤a∧a<(v1.Strides.length:Int)) then
 if ((decide ((ix v1.Strides a)<(-4096:Int)))||(decide ((ix v1.Strides a)>4096)))=true then (
 some (.inr (.inl false)))
 else (
 some (.inl (aG (a+1))))
 else none)
 else (
 some (.inr (.inr ())))
def Z8 (v1:View):Option (Bool) :=
 (Zn v1.Dims).bind fun a =>
 if ((((((!a)||((v1.Strides.length:Int) != (v1.Dims.length:Int)))||(decide (v1.Base<1)))||(decide (v1.Base>4096)))||(decide (v1.Offset<0)))||(decide (v1.Offset≥v1.Base)))=true then (
 some false)
 else (
 (aU (fun s:Int=>Z8_L1 v1 s) (0:Int)).bind fun e=>match e with
 | .inl e=>some e
 | .inr e=>Z8_J1 v1)
def Z02_J3 (v1:View)(a:(List Int))(b:(List Int)):Option (View) :=
 some (⟨a,b,v1.Offset,v1.Base⟩:View)
def Z02_J2 (a:Int)(b:(List Int)):Option (((List Int)×Int)⊕((View)⊕((List Int)))) :=
 some (.inl (b,(aG (a+1))))
def Z02_L1 (v1:View)(a:(List Int))(e:(List Int))(b:Int):Option (((List Int)×Int)⊕((View)⊕((List Int)))) :=
 if (decide (b<(v1.Dims.length:Int)))=true then (
 if (0≤b∧b<(v1.Dims.length:Int)) then
 if (0≤(aG ((aG ((a.length:Int) - (v1.Dims.length:Int)))+b))∧(aG ((aG ((a.length:Int) - (v1.Dims.length:Int)))+b))<(a.length:Int)) then
 if ((ix v1.Dims b)==(ix a (aG ((aG ((a.length:Int) - (v1.Dims.length:Int)))+b))))=true then (
 if (0≤b∧b<(v1.Strides.length:Int)) then
 if (0≤(aG ((aG ((a.length:Int) - (v1.Dims.length:Int)))+b))∧(aG ((aG ((a.length:Int) - (v1.Dims.length:Int)))+b))<((List.replicate (a.length:Int).toNat (0:Int)).length:Int)) then
 (nm (e.set (aG ((aG ((a.length:Int) - (v1.Dims.length:Int)))+b)).toNat (ix v1.Strides b))).bind fun g =>
 Z02_J2 b g
 else none
 else none)
 else (
 if ((ix v1.Dims b) != 1)=true then (
 some (.inr (.inl (⟨([]:List Int),([]:List Int),(0:Int),(0:Int)⟩:View))))
 else (
 Z02_J2 b e))
 else none
 else none)
 else (
 some (.inr (.inr e)))
def Z02 (v1:View)(a:(List Int)):Option (View) :=
 (Z8 v1).bind fun h =>
 (bI (!(!h)) (Zn a)).bind fun b =>
 if (((!h)||(!b))||(decide ((aG ((a.length:Int) - (v1.Dims.length:Int)))<0)))=true then (
 some (⟨([]:List Int),([]:List Int),(0:Int),(0:Int)⟩:View))
 else (
 (Zt a).bind fun g =>
 if (0≤(a.length:Int)∧(a.length:Int)≤140737488355328∧8*(a.length:Int)≤281474976710656) then
 (aU (fun s:(List Int)×Int=>Z02_L1 v1 a s.1 s.2) ((List.replicate (a.length:Int).toNat (0:Int)),(0:Int))).bind fun e=>match e with
 | .inl e=>some e
 | .inr e=>Z02_J3 v1 g e
 else none)
def Z00_J1 (a:(List Int))(b:(List Int)):Option (Tensor) :=
 some (⟨a,b⟩:Tensor)
def Z00_L1 (t1:Tensor)(b:(List Int))(e:(List Int))(a:Int):Option (((List Int)×Int)⊕((List Int))) :=
 if (decide (a<(b.length:Int)))=true then (
 if (0≤a∧a<(b.length:Int)) then
 if (0≤(ix b a)∧(ix b a)<(t1.Data.length:Int)) then
 if e.length+([(ix t1.Data (ix b a))]:List Int).length≤17592186044416 then
 some (.inl ((e++([(ix t1.Data (ix b a))]:List Int)),(aG (a+1))))
 else none
 else none
 else none)
 else (
 some (.inr e))
def Z00 (t1:Tensor)(v4:View):Option (Tensor) :=
 (Zq t1).bind fun a =>
 (bI (!(!a)) (Z8 v4)).bind fun b =>
 if (((!a)||(!b))||(v4.Base != (t1.Data.length:Int)))=true then (
 some (⟨([]:List Int),([]:List Int)⟩:Tensor))
 else (
 (Zt v4.Dims).bind fun g =>
 (Z09 v4).bind fun h =>
 (aU (fun s:(List Int)×Int=>Z00_L1 t1 h s.1 s.2) (([]:List Int),(0:Int))).bind fun e=>Z00_J1 g e)
def Z08_J3 (v1:View)(a:(List Int))(b:(List Int))(g:(List Int)):Option (View) :=
 (Z8 (⟨b,g,(ix a 0),v1.Base⟩:View)).bind fun e =>
 (bI (!(!e)) (Z09 (⟨b,g,(ix a 0),v1.Base⟩:View))).bind fun h =>
 (bI (!(!e)) (Zz h a)).bind fun i =>
 if ((!e)||(!i))=true then (
 some (⟨([]:List Int),([]:List Int),(0:Int),(0:Int)⟩:View))
 else (
 some (⟨b,g,(ix a 0),v1.Base⟩:View))
def Z08_J2 (a:(List Int))(e:Int)(b:Int):Option (((List Int)×Int)⊕((List Int))) :=
 if a.length+([b]:List Int).length≤17592186044416 then
 some (.inl ((a++([b]:List Int)),(aG (e+1))))
 else none
def Z08_L1 (a:(List Int))(e:(List Int))(h:(List Int))(b:Int):Option (((List Int)×Int)⊕((List Int))) :=
 if (decide (b<(a.length:Int)))=true then (
 if (0≤b∧b<(a.length:Int)) then
 if (decide ((ix a b)>1))=true then (
 if (0≤(aG (b+1))∧(aG (b+1))≤(a.length:Int)∧(a.length:Int)≤(a.length:Int)) then
 (Zu (sub a (aG (b+1)) (a.length:Int))).bind fun g =>
 if (0≤g∧g<(e.length:Int)) then
 Z08_J2 h b (aG ((ix e g) - (ix e 0)))
 else none
 else none)
 else (
 Z08_J2 h b (0:Int))
 else none)
 else (
 some (.inr h))
def Z08 (v1:View)(a:(List Int)):Option (View) :=
 (Z8 v1).bind fun h =>
 (bI (!(!h)) (Zn a)).bind fun b =>
 (bI (!((!h)||(!b))) (Zu a)).bind fun i =>
 (bI (!((!h)||(!b))) (Zu v1.Dims)).bind fun j =>
 if (((!h)||(!b))||(i != j))=true then (
 some (⟨([]:List Int),([]:List Int),(0:Int),(0:Int)⟩:View))
 else (
 (Z09 v1).bind fun g =>
 (Zt a).bind fun l =>
 if (0≤(0:Int)∧(0:Int)<(g.length:Int)) then
 (aU (fun s:(List Int)×Int=>Z08_L1 a g s.1 s.2) (([]:List Int),(0:Int))).bind fun e=>Z08_J3 v1 g l e
 else none)
def Z26 (v1:View)(a:Int):Option (Bool) :=
 (Z8 v1).bind fun b =>
 some ((b&&(decide (a≥0)))&&(decide (a<(v1.Dims.length:Int))))
def Z28 (v1:View):Option (View) :=
 (Zt v1.Dims).bind fun a =>
 (Zt v1.Strides).bind fun b =>
 some (⟨a,b,v1.Offset,v1.Base⟩:View)
def Z29 (v1:View):Option (View) :=
 (Z8 v1).bind fun a =>
 if (!a)=true then (
 some (⟨([]:List Int),([]:List Int),(0:Int),(0:Int)⟩:View))
 else (
 some v1)
def Z17_J1 (a:Int)(i:Int)(b:Int)(e:View)(h:(List Int)):Option (View) :=
 (Z29 (⟨(e.Dims.set a.toNat b),h,(aG (e.Offset+(aG (i*(ix e.Strides a))))),e.Base⟩:View)).bind fun g =>
 some g
def Z17 (v1:View)(a:Int)(h:Int)(b:Int)(e:Int):Option (View) :=
 (Z26 v1 a).bind fun j =>
 if ((((((!j)||(decide (b<1)))||(decide (b>4096)))||(decide (e<(-4096:Int))))||(decide (e>4096)))||(decide (h<0)))=false→(0≤a∧a<(v1.Dims.length:Int)) then
 if (((((((!j)||(decide (b<1)))||(decide (b>4096)))||(decide (e<(-4096:Int))))||(decide (e>4096)))||(decide (h<0)))||(decide (h≥(ix v1.Dims a))))=true then (
 some (⟨([]:List Int),([]:List Int),(0:Int),(0:Int)⟩:View))
 else (
 if (decide ((aG (h+(aG ((aG (b - 1))*e))))<0))=false→(0≤a∧a<(v1.Dims.length:Int)) then
 if ((decide ((aG (h+(aG ((aG (b - 1))*e))))<0))||(decide ((aG (h+(aG ((aG (b - 1))*e))))≥(ix v1.Dims a))))=true then (
 some (⟨([]:List Int),([]:List Int),(0:Int),(0:Int)⟩:View))
 else (
 (Z28 v1).bind fun g =>
 if (0≤a∧a<(g.Strides.length:Int)) then
 if (0≤a∧a<(g.Dims.length:Int)) then
 (nm (g.Strides.set a.toNat (aG ((ix g.Strides a)*e)))).bind fun i =>
 if (b==1)=true then (
 Z17_J1 a h b g (i.set a.toNat (0:Int)))
 else (
 Z17_J1 a h b g i)
 else none
 else none)
 else none)
 else none
def Z1s (t1:Tensor)(a:(List Int))(e:Int):Option ((List Int)) :=
 (Z0l t1.Dims a).bind fun b =>
 if (0≤b∧b<(t1.Data.length:Int)) then
 some (t1.Data.set b.toNat e)
 else none
def Z0q_J1 (a:Tensor)(b:(List Int)):Option (Tensor) :=
 some (⟨a.Dims,b⟩:Tensor)
def Z0q_L1 (t1:Tensor)(a:Int)(e:Int)(h:Int)(j:Tensor)(i:(List Int))(b:Int):Option (((List Int)×Int)⊕((List Int))) :=
 if (decide (b<(t1.Data.length:Int)))=true then (
 (Zi t1.Dims b).bind fun g =>
 if (0≤a∧a<(g.length:Int)) then
 (Z0h g a (aG (e+(aG ((ix g a)*(aG (h+1))))))).bind fun l =>
 if (0≤b∧b<(t1.Data.length:Int)) then
 (Z1s (⟨j.Dims,i⟩:Tensor) l (ix t1.Data b)).bind fun m =>
 some (.inl (m,(aG (b+1))))
 else none
 else none)
 else (
 some (.inr i))
def Z0q (t1:Tensor)(a:Int)(b:Int)(g:Int)(h:Int):Option (Tensor) :=
 (Z1d t1 a).bind fun l =>
 if (((((((!l)||(decide (b<0)))||(decide (b>4096)))||(decide (g<0)))||(decide (g>4096)))||(decide (h<0)))||(decide (h>4096)))=true then (
 some (⟨([]:List Int),([]:List Int)⟩:Tensor))
 else (
 if (0≤a∧a<(t1.Dims.length:Int)) then
 (Z0h t1.Dims a (aG ((aG ((aG (b+(ix t1.Dims a)))+(aG ((aG ((ix t1.Dims a) - 1))*h))))+g))).bind fun j =>
 (Zn j).bind fun m =>
 if (!m)=true then (
 some (⟨([]:List Int),([]:List Int)⟩:Tensor))
 else (
 (Z0g j).bind fun i =>
 (aU (fun s:(List Int)×Int=>Z0q_L1 t1 a b h i s.1 s.2) (i.Data,(0:Int))).bind fun e=>Z0q_J1 i e)
 else none)
def Z0p_J1 (a:Tensor)(b:(List Int)):Option (Tensor) :=
 some (⟨a.Dims,b⟩:Tensor)
def Z0p_L1 (t1:Tensor)(a:Int)(b:(List Int))(j:(List Int))(h:Tensor)(i:(List Int))(e:Int):Option (((List Int)×Int)⊕((List Int))) :=
 if (decide (e<(h.Data.length:Int)))=true then (
 (Zi j e).bind fun g =>
 if (0≤a∧a<(g.length:Int)) then
 if (0≤(ix g a)∧(ix g a)<(b.length:Int)) then
 (Z0h g a (ix b (ix g a))).bind fun l =>
 (Z14 t1 l).bind fun m =>
 if (0≤e∧e<(h.Data.length:Int)) then
 some (.inl ((i.set e.toNat m),(aG (e+1))))
 else none
 else none
 else none)
 else (
 some (.inr i))
def Z0p (t1:Tensor)(b:Int)(a:(List Int)):Option (Tensor) :=
 (Z1d t1 b).bind fun l =>
 if ((!l)||((a.length:Int)==0))=false→(0≤b∧b<(t1.Dims.length:Int)) then
 (bI (!((!l)||((a.length:Int)==0))) (Z0i a (ix t1.Dims b))).bind fun i =>
 if (((!l)||((a.length:Int)==0))||(!i))=true then (
 some (⟨([]:List Int),([]:List Int)⟩:Tensor))
 else (
 (Z0h t1.Dims b (a.length:Int)).bind fun g =>
 (Zn g).bind fun j =>
 if (!j)=true then (
 some (⟨([]:List Int),([]:List Int)⟩:Tensor))
 else (
 (Z0g g).bind fun h =>
 (aU (fun s:(List Int)×Int=>Z0p_L1 t1 b a g h s.1 s.2) (h.Data,(0:Int))).bind fun e=>Z0p_J1 h e))
 else none
def Z0r_J1 (a:Tensor)(b:(List Int)):Option (Tensor) :=
 some (⟨a.Dims,b⟩:Tensor)
def Z0r_L1 (t1:Tensor)(a:Int)(b:(List Int))(i:Tensor)(h:(List Int))(e:Int):Option (((List Int)×Int)⊕((List Int))) :=
 if (decide (e<(t1.Data.length:Int)))=true then (
 (Zi t1.Dims e).bind fun g =>
 if (0≤a∧a<(g.length:Int)) then
 if (0≤(ix g a)∧(ix g a)<(b.length:Int)) then
 (Z0h g a (ix b (ix g a))).bind fun j =>
 (Z14 (⟨i.Dims,h⟩:Tensor) j).bind fun l =>
 if (0≤e∧e<(t1.Data.length:Int)) then
 (Z1j l (ix t1.Data e)).bind fun m =>
 (Z1s (⟨i.Dims,h⟩:Tensor) j m).bind fun q =>
 some (.inl (q,(aG (e+1))))
 else none
 else none
 else none)
 else (
 some (.inr h))
def Z0r (t1:Tensor)(a:Int)(b:(List Int))(m:Int):Option (Tensor) :=
 (Z1d t1 a).bind fun g =>
 if (!g)=false→(0≤a∧a<(t1.Dims.length:Int)) then
 (bI (!((!g)||((b.length:Int) != (ix t1.Dims a)))) (Z0i b m)).bind fun j =>
 if (((!g)||((b.length:Int) != (ix t1.Dims a)))||(!j))=true then (
 some (⟨([]:List Int),([]:List Int)⟩:Tensor))
 else (
 (Z0h t1.Dims a m).bind fun i =>
 (Zn i).bind fun l =>
 if (!l)=true then (
 some (⟨([]:List Int),([]:List Int)⟩:Tensor))
 else (
 (Z0g i).bind fun h =>
 (aU (fun s:(List Int)×Int=>Z0r_L1 t1 a b h s.1 s.2) (h.Data,(0:Int))).bind fun e=>Z0r_J1 h e))
 else none
def Z0b_J2 (a:Int)(b:View)(h:(List Int))(e:(List Int))(g:Int):Option (View) :=
 if e.length+([g]:List Int).length≤17592186044416 then
 (Z29 (⟨(h++([a]:List Int)),(e++([g]:List Int)),b.Offset,b.Base⟩:View)).bind fun i =>
 some i
 else none
def Z0b_J1 (v1:View)(b:Int)(a:Int)(g:View)(e:(List Int))(h:(List Int)):Option (View) :=
 if e.length+([a]:List Int).length≤17592186044416 then
 if (a==1)=true then (
 Z0b_J2 a g e h (0:Int))
 else (
 Z0b_J2 a g e h (ix v1.Strides b))
 else none
def Z0b (v1:View)(a:Int)(b:Int)(e:Int):Option (View) :=
 (Z26 v1 a).bind fun j =>
 if (((!j)||(decide (b<1)))||(decide (e<1)))=false→(0≤a∧a<(v1.Dims.length:Int)) then
 if ((((!j)||(decide (b<1)))||(decide (e<1)))||(decide (b>(ix v1.Dims a))))=true then (
 some (⟨([]:List Int),([]:List Int),(0:Int),(0:Int)⟩:View))
 else (
 (Z28 v1).bind fun g =>
 if (0≤a∧a<(v1.Dims.length:Int)) then
 if e≠0 then
 if (0≤a∧a<(v1.Strides.length:Int)) then
 if (0≤a∧a<(g.Dims.length:Int)) then
 (nm (g.Dims.set a.toNat (aG ((aG ((aG ((ix v1.Dims a) - b)).tdiv e))+1)))).bind fun h =>
 if (0≤a∧a<(g.Strides.length:Int)) then
 if (decide ((aG ((aG ((aG ((ix v1.Dims a) - b)).tdiv e))+1))>1))=true then (
 (nm ((g.Strides.set a.toNat (0:Int)).set a.toNat (aG ((ix v1.Strides a)*e)))).bind fun i =>
 Z0b_J1 v1 a b g h i)
 else (
 Z0b_J1 v1 a b g h (g.Strides.set a.toNat (0:Int)))
 else none
 else none
 else none
 else none
 else none)
 else none
def Z0o_J1 (a:Tensor)(b:(List Int)):Option (Tensor) :=
 some (⟨a.Dims,b⟩:Tensor)
def Z0o_L1 (t1:Tensor)(a:Int)(h:Int)(j:Tensor)(i:(List Int))(b:Int):Option (((List Int)×Int)⊕((List Int))) :=
 if (decide (b<(t1.Data.length:Int)))=true then (
 (Zi t1.Dims b).bind fun e =>
 if (0≤a∧a<(e.length:Int)) then
 if (0≤(aG ((t1.Dims.length:Int) - 1))∧(aG ((t1.Dims.length:Int) - 1))<(e.length:Int)) then
 (Z0h e a (aG ((aG ((ix e a)*h))+(ix e (aG ((t1.Dims.length:Int) - 1)))))).bind fun g =>
 if (0≤(0:Int)∧(0:Int)≤(aG ((t1.Dims.length:Int) - 1))∧(aG ((t1.Dims.length:Int) - 1))≤(g.length:Int)) then
 (Z14 (⟨j.Dims,i⟩:Tensor) (sub g (0:Int) (aG ((t1.Dims.length:Int) - 1)))).bind fun l =>
 if (0≤b∧b<(t1.Data.length:Int)) then
 (Z1j l (ix t1.Data b)).bind fun m =>
 (Z1s (⟨j.Dims,i⟩:Tensor) (sub g (0:Int) (aG ((t1.Dims.length:Int) - 1))) m).bind fun q =>
 some (.inl (q,(aG (b+1))))
 else none
 else none
 else none
 else none)
 else (
 some (.inr i))
def Z0o (t1:Tensor)(a:Int)(b:Int)(g:Int):Option (Tensor) :=
 (Z1d t1 a).bind fun l =>
 if (((((!l)||(a==(aG ((t1.Dims.length:Int) - 1))))||(decide (b<1)))||(decide (g<1)))||(decide (g>4096)))=true then (
 some (⟨([]:List Int),([]:List Int)⟩:Tensor))
 else (
 if (0≤(aG ((t1.Dims.length:Int) - 1))∧(aG ((t1.Dims.length:Int) - 1))<(t1.Dims.length:Int)) then
 if (decide ((ix t1.Dims (aG ((t1.Dims.length:Int) - 1)))>g))=false→b≠0 then
 if (decide ((ix t1.Dims (aG ((t1.Dims.length:Int) - 1)))>g))=false→(0≤a∧a<(t1.Dims.length:Int)) then
 if ((decide ((ix t1.Dims (aG ((t1.Dims.length:Int) - 1)))>g))||((aG ((aG ((aG (g - (ix t1.Dims (aG ((t1.Dims.length:Int) - 1))))).tdiv b))+1)) != (ix t1.Dims a)))=true then (
 some (⟨([]:List Int),([]:List Int)⟩:Tensor))
 else (
 (Z0h t1.Dims a g).bind fun h =>
 if (0≤(0:Int)∧(0:Int)≤(aG ((t1.Dims.length:Int) - 1))∧(aG ((t1.Dims.length:Int) - 1))≤(h.length:Int)) then
 (Zn (sub h (0:Int) (aG ((t1.Dims.length:Int) - 1)))).bind fun j =>
 if (!j)=true then (
 some (⟨([]:List Int),([]:List Int)⟩:Tensor))
 else (
 (Z0g (sub h (0:Int) (aG ((t1.Dims.length:Int) - 1)))).bind fun i =>
 (aU (fun s:(List Int)×Int=>Z0o_L1 t1 a b i s.1 s.2) (i.Data,(0:Int))).bind fun e=>Z0o_J1 i e)
 else none)
 else none
 else none
 else none)
def Z1_J2 (a:Node)(b:(List Tensor))(M:Bool):Option (Tensor) :=
 if M=true then (
 if (0≤(0:Int)∧(0:Int)<(b.length:Int)) then
 (Z0z (aG ((aG (a.Op - 6))+1)) (ix b 0)).bind fun D =>
 some D
 else none)
 else (
 if (a.Op==10)=true then (
 if (0≤(0:Int)∧(0:Int)<(b.length:Int)) then
 if (0≤(0:Int)∧(0:Int)<(a.Ints.length:Int)) then
 (Za (ix b 0) (ix a.Ints 0)).bind fun E =>
 some E
 else none
 else none)
 else (
 if (a.Op==11)=true then (
 (Z5 a.Form b).bind fun F =>
 some F)
 else (
 if (a.Op==12)=true then (
 if (0≤(0:Int)∧(0:Int)<(b.length:Int)) then
 (Zv ((ix b 0).Dims)).bind fun G =>
 (Z02 G a.Dims).bind fun I =>
 (Z00 (ix b 0) I).bind fun J =>
 some J
 else none)
 else (
 if (a.Op==13)=true then (
 if (0≤(0:Int)∧(0:Int)<(b.length:Int)) then
 (Zv ((ix b 0).Dims)).bind fun L =>
 (Z08 L a.Dims).bind fun e =>
 (Z00 (ix b 0) e).bind fun g =>
 some g
 else none)
 else (
 if (a.Op==14)=true then (
 if (0≤(3:Int)∧(3:Int)<(a.Ints.length:Int)) then
 if (decide ((ix a.Ints 3)<1))=true then (
 some (⟨([]:List Int),([]:List Int)⟩:Tensor))
 else (
 if (0≤(0:Int)∧(0:Int)<(b.length:Int)) then
 (Zv ((ix b 0).Dims)).bind fun h =>
 if (0≤(0:Int)∧(0:Int)<(a.Ints.length:Int)) then
 if (0≤(1:Int)∧(1:Int)<(a.Ints.length:Int)) then
 if (0≤(2:Int)∧(2:Int)<(a.Ints.length:Int)) then
 (Z17 h (ix a.Ints 0) (ix a.Ints 1) (ix a.Ints 2) (ix a.Ints 3)).bind fun i =>
 (Z00 (ix b 0) i).bind fun j =>
 some j
 else none
 else none
 else none
 else none)
 else none)
 else (
 if (a.Op==15)=true then (
 if (0≤(0:Int)∧(0:Int)<(b.length:Int)) then
 if (0≤(0:Int)∧(0:Int)<(a.Ints.length:Int)) then
 if (0≤(1:Int)∧(1:Int)<(a.Ints.length:Int)) then
 if (0≤(2:Int)∧(2:Int)<(a.Ints.length:Int)) then
 if (0≤(3:Int)∧(3:Int)<(a.Ints.length:Int)) then
 (Z0q (ix b 0) (ix a.Ints 0) (ix a.Ints 1) (ix a.Ints 2) (ix a.Ints 3)).bind fun l =>
 some l
 else none
 else none
 else none
 else none
 else none)
 else (
 if (a.Op==16)=true then (
 if (0≤(0:Int)∧(0:Int)<(b.length:Int)) then
 if (0≤(0:Int)∧(0:Int)<(a.Ints.length:Int)) then
 if (0≤(1:Int)∧(1:Int)≤(a.Ints.length:Int)∧(a.Ints.length:Int)≤(a.Ints.length:Int)) then
 (Z0p (ix b 0) (ix a.Ints 0) (sub a.Ints (1:Int) (a.Ints.length:Int))).bind fun m =>
 some m
 else none
 else none
 else none)
 else (
 if (a.Op==17)=true then (
 if (0≤(0:Int)∧(0:Int)<(b.length:Int)) then
 if (0≤(0:Int)∧(0:Int)<(a.Ints.length:Int)) then
 if (0≤(2:Int)∧(2:Int)≤(a.Ints.length:Int)∧(a.Ints.length:Int)≤(a.Ints.length:Int)) then
 if (0≤(1:Int)∧(1:Int)<(a.Ints.length:Int)) then
 (Z0r (ix b 0) (ix a.Ints 0) (sub a.Ints (2:Int) (a.Ints.length:Int)) (ix a.Ints 1)).bind fun q =>
 some q
 else none
 else none
 else none
 else none)
 else (
 if (a.Op==18)=true then (
 if (0≤(0:Int)∧(0:Int)<(b.length:Int)) then
 (Zv ((ix b 0).Dims)).bind fun r =>
 if (0≤(0:Int)∧(0:Int)<(a.Ints.length:Int)) then
 if (0≤(1:Int)∧(1:Int)<(a.Ints.length:Int)) then
 if (0≤(2:Int)∧(2:Int)<(a.Ints.length:Int)) then
 (Z0b r (ix a.Ints 0) (ix a.Ints 1) (ix a.Ints 2)).bind fun s =>
 (Z00 (ix b 0) s).bind fun u =>
 some u
 else none
 else none
 else none
 else none)
 else (
 if (0≤(0:Int)∧(0:Int)<(b.length:Int)) then
 if (0≤(0:Int)∧(0:Int)<(a.Ints.length:Int)) then
 if (0≤(1:Int)∧(1:Int)<(a.Ints.length:Int)) then
 if (0≤(2:Int)∧(2:Int)<(a.Ints.length:Int)) then
 (Z0o (ix b 0) (ix a.Ints 0) (ix a.Ints 1) (ix a.Ints 2)).bind fun B =>
 some B
 else none
 else none
 else none
 else none))))))))))
def Z1_J1 (a:Node)(b:(List Tensor))(h:Bool):Option (Tensor) :=
 if h=true then (
 if (0≤(0:Int)∧(0:Int)<(b.length:Int)) then
 if (0≤(1:Int)∧(1:Int)<(b.length:Int)) then
 (Zz ((ix b 0).Dims) ((ix b 1).Dims)).bind fun e =>
 if (!e)=true then (
 some (⟨([]:List Int),([]:List Int)⟩:Tensor))
 else (
 (Z10 (aG ((aG (a.Op - 3))+1)) (ix b 0) (ix b 1)).bind fun g =>
 some g)
 else none
 else none)
 else (
 if (a.Op==6)=true then (
 Z1_J2 a b (a.Op==6))
 else (
 if (a.Op==7)=true then (
 Z1_J2 a b (a.Op==7))
 else (
 if (a.Op==8)=true then (
 Z1_J2 a b (a.Op==8))
 else (
 Z1_J2 a b (a.Op==9)))))
def Z1 (a:Node)(b:(List Tensor)):Option (Tensor) :=
 if (a.Op==2)=true then (
 (Zq (⟨a.Dims,a.Data⟩:Tensor)).bind fun e =>
 if (!e)=true then (
 some (⟨([]:List Int),([]:List Int)⟩:Tensor))
 else (
 (Zt a.Dims).bind fun g =>
 (Zt a.Data).bind fun h =>
 some (⟨g,h⟩:Tensor)))
 else (
 if (a.Op==3)=true then (
 Z1_J1 a b (a.Op==3))
 else (
 if (a.Op==4)=true then (
 Z1_J1 a b (a.Op==4))
 else (
 Z1_J1 a b (a.Op==5))))
def Z0n_J1 (b:Tensor)(a:(List Int)):Option (Tensor) :=
 some (⟨b.Dims,a⟩:Tensor)
def Z0n_L1 (h:Int)(g:Tensor)(b:(List Int))(a:Int):Option (((List Int)×Int)⊕((List Int))) :=
 if (decide (a<(g.Data.length:Int)))=true then (
 (Zp h).bind fun e =>
 if (0≤a∧a<(g.Data.length:Int)) then
 some (.inl ((b.set a.toNat e),(aG (a+1))))
 else none)
 else (
 some (.inr b))
def Z0n (a:(List Int))(g:Int):Option (Tensor) :=
 (Zn a).bind fun h =>
 if (!h)=true then (
 some (⟨([]:List Int),([]:List Int)⟩:Tensor))
 else (
 (Z0g a).bind fun b =>
 (aU (fun s:(List Int)×Int=>Z0n_L1 g b s.1 s.2) (b.Data,(0:Int))).bind fun e=>Z0n_J1 b e)
def Z9_J5 (g1:Graph)(a:(List Tensor))(b:Bool)(g:(List Tensor))(h:Int):Option ((List Tensor)×Bool) :=
 (Z0i g1.Outs (g1.Nodes.length:Int)).bind fun e =>
 some (g,(e&&(b||(h==(a.length:Int)))))
def Z9_J4 (b:(List Tensor))(g:Int)(h:Int)(e:(List Int))(a:(List Int)):Option (((List Tensor)×Int×Int)⊕(((List Tensor)×Bool)⊕((List Tensor)×Int))) :=
 if ((a.length:Int)==0)=true then (
 some (.inr (.inl (b,false))))
 else (
 if b.length+([(⟨e,a⟩:Tensor)]:List Tensor).length≤2932031007402 then
 some (.inl ((b++([(⟨e,a⟩:Tensor)]:List Tensor)),h,(aG (g+1))))
 else none)
def Z9_J3 (g1:Graph)(a:(List Tensor))(i:Bool)(g:(List Tensor))(b:Int)(e:Int)(m:(List Tensor)):Option (((List Tensor)×Int×Int)⊕(((List Tensor)×Bool)⊕((List Tensor)×Int))) :=
 if ((ix g1.Nodes e).Op != 1)=true then (
 (Z1 (ix g1.Nodes e) m).bind fun j =>
 Z9_J4 g e b j.Dims j.Data)
 else (
 if i=true then (
 (Z0n ((ix g1.Nodes e).Dims) (0:Int)).bind fun l =>
 Z9_J4 g e b l.Dims l.Data)
 else (
 if (decide (b≥(a.length:Int)))=false→(0≤b∧b<(a.length:Int)) then
 (bI (!(decide (b≥(a.length:Int)))) (Zq (ix a b))).bind fun h =>
 if ((decide (b≥(a.length:Int)))||(!h))=false→(0≤b∧b<(a.length:Int)) then
 (bI (!((decide (b≥(a.length:Int)))||(!h))) (Zz ((ix a b).Dims) ((ix g1.Nodes e).Dims))).bind fun q =>
 if (((decide (b≥(a.length:Int)))||(!h))||(!q))=true then (
 some (.inr (.inl (g,false))))
 else (
 (Zt ((ix g1.Nodes e).Dims)).bind fun r =>
 if (0≤b∧b<(a.length:Int)) then
 (Zt ((ix a b).Data)).bind fun s =>
 Z9_J4 g e (aG (b+1)) r s
 else none)
 else none
 else none))
def Z9_L2 (g1:Graph)(g:(List Tensor))(b:Int)(e:(List Tensor))(a:Int):Option (((List Tensor)×Int)⊕((List Tensor))) :=
 if (decide (a<(((ix g1.Nodes b).Args).length:Int)))=true then (
 if (0≤a∧a<(((ix g1.Nodes b).Args).length:Int)) then
 if (0≤(ix ((ix g1.Nodes b).Args) a)∧(ix ((ix g1.Nodes b).Args) a)<(g.length:Int)) then
 if e.length+([(ix g (ix ((ix g1.Nodes b).Args) a))]:List Tensor).length≤2932031007402 then
 some (.inl ((e++([(ix g (ix ((ix g1.Nodes b).Args) a))]:List Tensor)),(aG (a+1))))
 else none
 else none
 else none)
 else (
 some (.inr e))
def Z9_L1 (g1:Graph)(g:(List Tensor))(h:Bool)(b:(List Tensor))(j:Int)(a:Int):Option (((List Tensor)×Int×Int)⊕(((List Tensor)×Bool)⊕((List Tensor)×Int))) :=
 if (decide (a<(g1.Nodes.length:Int)))=true then (
 if (0≤a∧a<(g1.Nodes.length:Int)) then
 (Z15 (ix g1.Nodes a)).bind fun i =>
 (bI (!(!i)) (Z0i ((ix g1.Nodes a).Args) a)).bind fun l =>
 if ((!i)||(!l))=true then (
 some (.inr (.inl (b,false))))
 else (
 (aU (fun s:(List Tensor)×Int=>Z9_L2 g1 b a s.1 s.2) (([]:List Tensor),(0:Int))).bind fun e=>Z9_J3 g1 g h b j a e)
 else none)
 else (
 some (.inr (.inr (b,j))))
def Z9 (g1:Graph)(a:(List Tensor))(b:Bool):Option ((List Tensor)×Bool) :=
 if ((decide ((g1.Nodes.length:Int)>200))||(decide ((g1.Outs.length:Int)>40)))=true then (
 some (([]:List Tensor),false))
 else (
 (aU (fun s:(List Tensor)×Int×Int=>Z9_L1 g1 a b s.1 s.2.1 s.2.2) (([]:List Tensor),(0:Int),(0:Int))).bind fun e=>match e with
 | .inl e=>some e
 | .inr e=>Z9_J5 g1 a b e.1 e.2)
def Z2x (g1:Graph):Option (Bool) :=
 (Z9 g1 ([]:List Tensor) true).bind fun a =>
 some a.2
def Z3e (a:Int)(b:Int):Option (Int×Int) :=
 some (a,b)
def Z3f (a:Int)(b:Int):Option (Int×Int) :=
 some (a,b)
def Z3g (a:Int)(b:Int):Option (Int×Int) :=
 some (a,b)
def Z3h (a:Int)(b:Int):Option (Int×Int) :=
 some (a,b)
def Zw_J3 (a:Int)(i:Bool):Option (kindOfR) :=
 if i=true then (
 some (⟨6,false,(0:Int),(0:Int),eM⟩:kindOfR))
 else (
 if (a==15)=true then (
 (Z3e (4:Int) (4:Int)).bind fun b =>
 some (⟨8,false,b.1,b.2,eM⟩:kindOfR))
 else (
 if (a==16)=true then (
 (Z3f (1:Int) (4097:Int)).bind fun e =>
 some (⟨9,false,e.1,e.2,eM⟩:kindOfR))
 else (
 if (a==17)=true then (
 (Z3g (2:Int) (4098:Int)).bind fun g =>
 some (⟨10,false,g.1,g.2,eM⟩:kindOfR))
 else (
 if (a==19)=true then (
 (Z3h (3:Int) (3:Int)).bind fun h =>
 some (⟨11,false,h.1,h.2,eM⟩:kindOfR))
 else (
 some (⟨0,false,(0:Int),(0:Int),([]:aM)⟩:kindOfR))))))
def Zw_J2 (a:Int)(b:Bool):Option (kindOfR) :=
 if b=true then (
 some (⟨3,false,(aG ((aG (a - 6))+1)),(0:Int),([]:aM)⟩:kindOfR))
 else (
 if (a==10)=true then (
 some (⟨4,false,(0:Int),(0:Int),([]:aM)⟩:kindOfR))
 else (
 if (a==11)=true then (
 some (⟨5,false,(0:Int),(0:Int),([]:aM)⟩:kindOfR))
 else (
 if (a==12)=true then (
 some (⟨6,false,(0:Int),(0:Int),gQ⟩:kindOfR))
 else (
 if (a==13)=true then (
 some (⟨7,false,(0:Int),(0:Int),gQ⟩:kindOfR))
 else (
 if (a==14)=true then (
 Zw_J3 a (a==14))
 else (
 Zw_J3 a (a==18)))))))
def Zw_J1 (a:Int)(b:Bool):Option (kindOfR) :=
 if b=true then (
 some (⟨2,false,(aG ((aG (a - 3))+1)),(0:Int),([]:aM)⟩:kindOfR))
 else (
 if (a==6)=true then (
 Zw_J2 a (a==6))
 else (
 if (a==7)=true then (
 Zw_J2 a (a==7))
 else (
 if (a==8)=true then (
 Zw_J2 a (a==8))
 else (
 Zw_J2 a (a==9)))))
def Zw (a:Int):Option (kindOfR) :=
 if (a==1)=true then (
 some (⟨1,false,(0:Int),(0:Int),([]:aM)⟩:kindOfR))
 else (
 if (a==2)=true then (
 some (⟨1,true,(0:Int),(0:Int),([]:aM)⟩:kindOfR))
 else (
 if (a==3)=true then (
 Zw_J1 a (a==3))
 else (
 if (a==4)=true then (
 Zw_J1 a (a==4))
 else (
 Zw_J1 a (a==5)))))
def Z3j (k1:leafKind):Option (aM) :=
 if k1.data=true then (
 some nY)
 else (
 some gQ)
def Z3k (k1:pairKind):Option (aM) :=
 some ([]:aM)
def Z3r (k1:soloKind):Option (aM) :=
 some ([]:aM)
def Z3s (k1:topKind):Option (aM) :=
 some eM
def Z3i (k1:formKind):Option (aM) :=
 some jU
def Z3p (k1:shiftKind):Option (aM) :=
 some k1.use
def Z3q (k1:shiftKind):Option (aM) :=
 some k1.use
def Z3l (k1:shiftKind)(a:Int)(b:Int):Option (aM) :=
 some k1.use
def Z3m (k1:shiftKind)(a:Int)(b:Int):Option (aM) :=
 some k1.use
def Z3n (k1:shiftKind)(a:Int)(b:Int):Option (aM) :=
 some k1.use
def Z3o (k1:shiftKind)(a:Int)(b:Int):Option (aM) :=
 some k1.use
def fN (r:kindOfR):Option (aM) :=
 if Nat.beq r.t 0=true then none else (if Nat.beq r.t 1=true then Z3j (⟨r.b0⟩:leafKind) else (if Nat.beq r.t 2=true then Z3k (⟨r.i0⟩:pairKind) else (if Nat.beq r.t 3=true then Z3r (⟨r.i0⟩:soloKind) else (if Nat.beq r.t 4=true then Z3s (⟨⟩:topKind) else (if Nat.beq r.t 5=true then Z3i (⟨⟩:formKind) else (if Nat.beq r.t 6=true then Z3p (⟨r.s0⟩:shiftKind) else (if Nat.beq r.t 7=true then Z3q (⟨r.s0⟩:shiftKind) else (if Nat.beq r.t 8=true then Z3l (⟨r.s0⟩:shiftKind) r.i0 r.i1 else (if Nat.beq r.t 9=true then Z3m (⟨r.s0⟩:shiftKind) r.i0 r.i1 else (if Nat.beq r.t 10=true then Z3n (⟨r.s0⟩:shiftKind) r.i0 r.i1 else (Z3o (⟨r.s0⟩:shiftKind) r.i0 r.i1)))))))))))
def cJ (a b:aM):Option (Int) :=
 if a.length<4294967281 then some (Lib.index a b) else none
def Z2a (p1:aM)(a:aM):Option (Int) :=
 (cJ p1 a).bind fun b =>
 some b
def Z3u (p1:aM)(a:aM):Option (Bool) :=
 (Z2a p1 a).bind fun b =>
 some (decide (b≥0))
def Z6 (a:aM)(b:aM):Option (Bool) :=
 (Z3u b a).bind fun e =>
 some e
def Z1u (b:Node)(a:aM):Option (Bool) :=
 (Z6 gQ a).bind fun h =>
 (bI (h||((b.Dims.length:Int)==0)) (Z6 eM a)).bind fun e =>
 (bI ((h||((b.Dims.length:Int)==0))&&(e||((b.Ints.length:Int)==0))) (Z6 jU a)).bind fun g =>
 (bI (((h||((b.Dims.length:Int)==0))&&(e||((b.Ints.length:Int)==0)))&&(g||(b.Form==([]:aM)))) (Z6 nZ a)).bind fun i =>
 some ((((h||((b.Dims.length:Int)==0))&&(e||((b.Ints.length:Int)==0)))&&(g||(b.Form==([]:aM))))&&(i||((b.Data.length:Int)==0)))
def Zc_J1 (a:(List Int)):Option (Bool) :=
 some (decide ((a.length:Int)≤6))
def Zc_L1 (a:(List Int))(e:Int)(b:Int):Option ((Int×Int)⊕((Bool)⊕(Unit))) :=
 if (decide (b<(a.length:Int)))=true then (
 if (0≤b∧b<(a.length:Int)) then
 if ((decide ((ix a b)<1))||(decide ((ix a b)>4096)))=true then (
 some (.inr (.inl false)))
 else (
 if (decide ((aG (e*(ix a b)))>4096))=true then (
 some (.inr (.inl false)))
 else (
 some (.inl ((aG (e*(ix a b))),(aG (b+1))))))
 else none)
 else (
 some (.inr (.inr ())))
def Zc (a:(List Int)):Option (Bool) :=
 (aU (fun s:Int×Int=>Zc_L1 a s.1 s.2) ((1:Int),(0:Int))).bind fun e=>match e with
 | .inl e=>some e
 | .inr e=>Zc_J1 a
def Zm_J1 (a:Int):Option (Int) :=
 some a
def Zm_L1 (a:(List Int))(e:Int)(b:Int):Option ((Int×Int)⊕(Int)) :=
 if (decide (b<(a.length:Int)))=true then (
 if (0≤b∧b<(a.length:Int)) then
 some (.inl ((aG (e*(ix a b))),(aG (b+1))))
 else none)
 else (
 some (.inr e))
def Zm (a:(List Int)):Option (Int) :=
 (aU (fun s:Int×Int=>Zm_L1 a s.1 s.2) ((1:Int),(0:Int))).bind fun e=>Zm_J1 e
def Z34 (p1:Int):Option (Bool) :=
 some ((decide (p1≥0))&&(decide (p1<2147483647)))
def Z12_J1:Option (Bool) :=
 some true
def Z12_L1 (b:(List Int))(a:Int):Option ((Int)⊕((Bool)⊕(Unit))) :=
 if (decide (a<(b.length:Int)))=true then (
 if (0≤a∧a<(b.length:Int)) then
 (Z34 (ix b a)).bind fun e =>
 if (!e)=true then (
 some (.inr (.inl false)))
 else (
 some (.inl (aG (a+1))))
 else none)
 else (
 some (.inr (.inr ())))
def Z12 (a:(List Int)):Option (Bool) :=
 (aU (fun s:Int=>Z12_L1 a s) (0:Int)).bind fun e=>match e with
 | .inl e=>some e
 | .inr e=>Z12_J1
def Z2k (t1:Tensor):Option (Bool) :=
 (Zc t1.Dims).bind fun a =>
 (bI a (Zm t1.Dims)).bind fun b =>
 (bI (a&&((t1.Data.length:Int)==b)) (Z12 t1.Data)).bind fun e =>
 some ((a&&((t1.Data.length:Int)==b))&&e)
def Z1h (k1:leafKind)(e:Node)(a:(List (List Int))):Option ((List Int)×Bool) :=
 (bI (!((a.length:Int) != 0)) (Zc e.Dims)).bind fun b =>
 (bI ((!(((a.length:Int) != 0)||(!b)))&&k1.data) (Z2k (⟨e.Dims,e.Data⟩:Tensor))).bind fun g =>
 if ((((a.length:Int) != 0)||(!b))||(k1.data&&(!g)))=true then (
 some (([]:List Int),false))
 else (
 some (e.Dims,true))
def Z0y_J1:Option (Bool) :=
 some true
def Z0y_L1 (b:(List Int))(e:(List Int))(a:Int):Option ((Int)⊕((Bool)⊕(Unit))) :=
 if (decide (a<(b.length:Int)))=true then (
 if (0≤a∧a<(b.length:Int)) then
 if (0≤a∧a<(e.length:Int)) then
 if ((ix b a) != (ix e a))=true then (
 some (.inr (.inl false)))
 else (
 some (.inl (aG (a+1))))
 else none
 else none)
 else (
 some (.inr (.inr ())))
def Z0y (a:(List Int))(b:(List Int)):Option (Bool) :=
 if ((a.length:Int) != (b.length:Int))=true then (
 some false)
 else (
 (aU (fun s:Int=>Z0y_L1 a b s) (0:Int)).bind fun e=>match e with
 | .inl e=>some e
 | .inr e=>Z0y_J1)
def Z21 (k1:pairKind)(e:Node)(a:(List (List Int))):Option ((List Int)×Bool) :=
 if ((a.length:Int) != 2)=false→(0≤(0:Int)∧(0:Int)<(a.length:Int)) then
 if ((a.length:Int) != 2)=false→(0≤(1:Int)∧(1:Int)<(a.length:Int)) then
 (bI (!((a.length:Int) != 2)) (Z0y (ix a 0) (ix a 1))).bind fun b =>
 if (((a.length:Int) != 2)||(!b))=true then (
 some (([]:List Int),false))
 else (
 if (0≤(0:Int)∧(0:Int)<(a.length:Int)) then
 some ((ix a 0),true)
 else none)
 else none
 else none
def Z2t (k1:soloKind)(b:Node)(a:(List (List Int))):Option ((List Int)×Bool) :=
 if ((a.length:Int) != 1)=true then (
 some (([]:List Int),false))
 else (
 if (0≤(0:Int)∧(0:Int)<(a.length:Int)) then
 some ((ix a 0),true)
 else none)
def Zl (b:(List Int))(a:Int):Option (Bool) :=
 some ((decide (a≥0))&&(decide (a<(b.length:Int))))
def Z1v (k1:topKind)(b:Node)(a:(List (List Int))):Option ((List Int)×Bool) :=
 if (((a.length:Int) != 1)||((b.Ints.length:Int) != 1))=false→(0≤(0:Int)∧(0:Int)<(a.length:Int)) then
 if (((a.length:Int) != 1)||((b.Ints.length:Int) != 1))=false→(0≤(0:Int)∧(0:Int)<(b.Ints.length:Int)) then
 (bI (!(((a.length:Int) != 1)||((b.Ints.length:Int) != 1))) (Zl (ix a 0) (ix b.Ints 0))).bind fun e =>
 if ((((a.length:Int) != 1)||((b.Ints.length:Int) != 1))||(!e))=true then (
 some (([]:List Int),false))
 else (
 if (0≤(0:Int)∧(0:Int)<(a.length:Int)) then
 some ((ix a 0),true)
 else none)
 else none
 else none
def dT (p1:aM)(a:aM):Option (aM×aM×Bool) :=
 (cJ p1 a).bind fun b =>
 if (decide (b≥0))=true then (
 if (0≤(0:Int)∧(0:Int)≤b∧b≤(p1.length:Int)) then
 if (0≤(aG (b+(a.length:Int)))∧(aG (b+(a.length:Int)))≤(p1.length:Int)∧(p1.length:Int)≤(p1.length:Int)) then
 some ((sub p1 (0:Int) b),(sub p1 (aG (b+(a.length:Int))) (p1.length:Int)),true)
 else none
 else none)
 else (
 some (p1,([]:aM),false))
def Z30 (p1:aM)(a:aM):Option (aM×aM×Bool) :=
 (dT p1 a).bind fun b =>
 some (b.1,b.2.1,b.2.2)
def Z3d (a b:aM):Option (Int) :=
 match b with
 | [c]=>some (Lib.countByte a c)
 | _=>none
def Z0j_J3 (p1:aM)(b:Int)(g:aM)(e:(List aM))(a:Int):Option ((List aM)) :=
 if (0≤a∧a<((List.replicate (if (aG ((p1.length:Int)+1))<b then (aG ((p1.length:Int)+1)) else b).toNat ([]:aM)).length:Int)) then
 if (0≤(0:Int)∧(0:Int)≤(aG (a+1))∧(aG (a+1))≤((List.replicate (if (aG ((p1.length:Int)+1))<b then (aG ((p1.length:Int)+1)) else b).toNat ([]:aM)).length:Int)) then
 some (sub (e.set a.toNat g) (0:Int) (aG (a+1)))
 else none
 else none
def Z0j_L1 (p1:aM)(h:aM)(a:Int)(i:Int)(b:aM)(j:(List aM))(e:Int):Option ((aM×(List aM)×Int)⊕(aM×(List aM)×Int)) :=
 if (decide (e<(aG ((if (aG ((p1.length:Int)+1))<i then (aG ((p1.length:Int)+1)) else i) - 1))))=true then (
 (Z2a b h).bind fun g =>
 if (decide (g<0))=true then (
 some (.inr (b,j,e)))
 else (
 if (0≤(0:Int)∧(0:Int)≤(aG (g+a))∧(aG (g+a))≤(b.length:Int)) then
 if (0≤e∧e<((List.replicate (if (aG ((p1.length:Int)+1))<i then (aG ((p1.length:Int)+1)) else i).toNat ([]:aM)).length:Int)) then
 (nm (j.set e.toNat (sub b (0:Int) (aG (g+a))))).bind fun l =>
 if (0≤(aG (g+(h.length:Int)))∧(aG (g+(h.length:Int)))≤(b.length:Int)∧(b.length:Int)≤(b.length:Int)) then
 some (.inl ((sub b (aG (g+(h.length:Int))) (b.length:Int)),l,(aG (e+1))))
 else none
 else none
 else none))
 else (
 some (.inr (b,j,e)))
def Z0j_J2 (p1:aM)(g:aM)(b:Int)(a:Int):Option ((List aM)) :=
 if (0≤(if (aG ((p1.length:Int)+1))<a then (aG ((p1.length:Int)+1)) else a)∧(if (aG ((p1.length:Int)+1))<a then (aG ((p1.length:Int)+1)) else a)≤140737488355328∧16*(if (aG ((p1.length:Int)+1))<a then (aG ((p1.length:Int)+1)) else a)≤281474976710656) then
 (aU (fun s:aM×(List aM)×Int=>Z0j_L1 p1 g b a s.1 s.2.1 s.2.2) (p1,(List.replicate (if (aG ((p1.length:Int)+1))<a then (aG ((p1.length:Int)+1)) else a).toNat ([]:aM)),(0:Int))).bind fun e=>Z0j_J3 p1 a e.1 e.2.1 e.2.2
 else none
def Z0j (p1:aM)(b:aM)(a:Int)(e:Int):Option ((List aM)) :=
 if (e==0)=true then (
 some ([]:List aM))
 else (
 if (b==([]:aM))=true then (
 none)
 else (
 if (decide (e<0))=true then (
 (Z3d p1 b).bind fun g =>
 Z0j_J2 p1 b a (aG (g+1)))
 else (
 Z0j_J2 p1 b a e)))
def Z31 (p1:aM)(a:aM):Option ((List aM)) :=
 (Z0j p1 a (0:Int) (-1:Int)).bind fun b =>
 some b
def dA (b:aM)(a:Int):Option (Int) :=
 some (Lib.indexByte b a.toNat.toUInt8)
def Z1q (p1:aM)(a:Int):Option (Int) :=
 (dA p1 a).bind fun b =>
 some b
def Zd_J4 (a:aM×aM×Bool)(b:(List aM)):Option ((List aM)×aM×Bool) :=
 some (b,a.2.1,true)
def Zd_L3 (b:aM×aM×Bool)(a:Int):Option ((Int)⊕(((List aM)×aM×Bool)⊕(Unit))) :=
 if (decide (a<(b.2.1.length:Int)))=true then (
 if (0≤a∧a<(b.2.1.length:Int)) then
 if ((decide ((bt b.2.1 a)<97))||(decide ((bt b.2.1 a)>122)))=false→(0≤(0:Int)∧(0:Int)≤a∧a≤(b.2.1.length:Int)) then
 (bI (!((decide ((bt b.2.1 a)<97))||(decide ((bt b.2.1 a)>122)))) (Z1q (sub b.2.1 (0:Int) a) (bt b.2.1 a))).bind fun e =>
 (bI (!(((decide ((bt b.2.1 a)<97))||(decide ((bt b.2.1 a)>122)))||(decide (e≥0)))) (Z1q b.1 (bt b.2.1 a))).bind fun g =>
 if ((((decide ((bt b.2.1 a)<97))||(decide ((bt b.2.1 a)>122)))||(decide (e≥0)))||(decide (g<0)))=true then (
 some (.inr (.inl (([]:List aM),([]:aM),false))))
 else (
 some (.inl (aG (a+1))))
 else none
 else none)
 else (
 some (.inr (.inr ())))
def Zd_J3 (a:aM×aM×Bool)(b:(List aM)):Option ((List aM)×aM×Bool) :=
 (aU (fun s:Int=>Zd_L3 a s) (0:Int)).bind fun e=>match e with
 | .inl e=>some e
 | .inr e=>Zd_J4 a b
def Zd_J2 (a:Int):Option ((Int)⊕(((List aM)×aM×Bool)⊕(Unit))) :=
 some (.inl (aG (a+1)))
def Zd_L2 (e:(List aM))(b:Int)(a:Int):Option ((Int)⊕(((List aM)×aM×Bool)⊕(Unit))) :=
 if (decide (a<((ix e b).length:Int)))=true then (
 if (0≤a∧a<((ix e b).length:Int)) then
 if ((decide ((bt (ix e b) a)<97))||(decide ((bt (ix e b) a)>122)))=true then (
 some (.inr (.inl (([]:List aM),([]:aM),false))))
 else (
 some (.inl (aG (a+1))))
 else none)
 else (
 some (.inr (.inr ())))
def Zd_L1 (b:(List aM))(a:Int):Option ((Int)⊕(((List aM)×aM×Bool)⊕(Unit))) :=
 if (decide (a<(b.length:Int)))=true then (
 if (0≤a∧a<(b.length:Int)) then
 if (decide (((ix b a).length:Int)>6))=true then (
 some (.inr (.inl (([]:List aM),([]:aM),false))))
 else (
 (aU (fun s:Int=>Zd_L2 b a s) (0:Int)).bind fun e=>match e with
 | .inl e=>some (.inr (.inl e))
 | .inr e=>Zd_J2 a)
 else none)
 else (
 some (.inr (.inr ())))
def Zd (a:aM):Option ((List aM)×aM×Bool) :=
 (Z30 a str0).bind fun b =>
 if ((!b.2.2)||(decide ((b.2.1.length:Int)>6)))=true then (
 some (([]:List aM),([]:aM),false))
 else (
 (Z31 b.1 str6).bind fun g =>
 if (decide ((g.length:Int)>6))=true then (
 some (([]:List aM),([]:aM),false))
 else (
 (aU (fun s:Int=>Zd_L1 g s) (0:Int)).bind fun e=>match e with
 | .inl e=>some e
 | .inr e=>Zd_J3 b g))
def Zo (a:List Int):Option (List Int) :=
 if a.length≤17592186044416 then some a else none
def Z04_J3 (a:(List Int)):Option ((List Int)) :=
 some a
def Z04_J2 (a:(List Int))(e:Int)(b:Int)(g:(List Int)):Option (((List Int)×Int×Int)⊕((List Int))) :=
 if (0≤b∧b<(a.length:Int)) then
 some (.inl (g,(aG (e*(ix a b))),(aG (b - 1))))
 else none
def Z04_L1 (a:(List Int))(g:(List Int))(e:Int)(b:Int):Option (((List Int)×Int×Int)⊕((List Int))) :=
 if (decide (b≥0))=true then (
 if (0≤b∧b<(a.length:Int)) then
 if (decide ((ix a b)>1))=true then (
 if (0≤b∧b<((List.replicate (a.length:Int).toNat (0:Int)).length:Int)) then
 Z04_J2 a e b (g.set b.toNat e)
 else none)
 else (
 Z04_J2 a e b g)
 else none)
 else (
 some (.inr g))
def Z04 (a:(List Int)):Option ((List Int)) :=
 if (0≤(a.length:Int)∧(a.length:Int)≤140737488355328∧8*(a.length:Int)≤281474976710656) then
 (aU (fun s:(List Int)×Int×Int=>Z04_L1 a s.1 s.2.1 s.2.2) ((List.replicate (a.length:Int).toNat (0:Int)),(1:Int),(aG ((a.length:Int) - 1)))).bind fun e=>Z04_J3 e
 else none
def Zk_J7 (a:(List Int)):Option ((List Int)) :=
 some a
def Zk_J6 (a:Int)(b:(List Int)):Option (((List Int)×Int)⊕((List Int))) :=
 some (.inl (b,(aG (a+1))))
def Zk_J5 (a:Int)(b:(List Int)):Option (((List Int)×Int)⊕((List Int))) :=
 some (.inl (b,(aG (a+1))))
def Zk_L2 (f1:form)(a:aM)(g:(List Int))(e:Int)(h:(List Int))(b:Int):Option (((List Int)×Int)⊕((List Int))) :=
 if (decide (b<(a.length:Int)))=true then (
 if (0≤b∧b<(a.length:Int)) then
 if (0≤e∧e<(f1.order.length:Int)) then
 if ((bt a b)==(bt f1.order e))=true then (
 if (0≤e∧e<((List.replicate (f1.order.length:Int).toNat (0:Int)).length:Int)) then
 if (0≤b∧b<(g.length:Int)) then
 Zk_J5 b (h.set e.toNat (aG ((ix h e)+(ix g b))))
 else none
 else none)
 else (
 Zk_J5 b h)
 else none
 else none)
 else (
 some (.inr h))
def Zk_L1 (f1:form)(a:aM)(b:(List Int))(h:(List Int))(g:Int):Option (((List Int)×Int)⊕((List Int))) :=
 if (decide (g<((List.replicate (f1.order.length:Int).toNat (0:Int)).length:Int)))=true then (
 (aU (fun s:(List Int)×Int=>Zk_L2 f1 a b g s.1 s.2) (h,(0:Int))).bind fun e=>Zk_J6 g e)
 else (
 some (.inr h))
def Zk (f1:form)(a:aM)(b:(List Int)):Option ((List Int)) :=
 if (0≤(f1.order.length:Int)∧(f1.order.length:Int)≤140737488355328∧8*(f1.order.length:Int)≤281474976710656) then
 (aU (fun s:(List Int)×Int=>Zk_L1 f1 a b s.1 s.2) ((List.replicate (f1.order.length:Int).toNat (0:Int)),(0:Int))).bind fun e=>Zk_J7 e
 else none
def Z3_J9 (i:(List aM)×aM×Bool)(b:aM)(e:(List Int))(a:(List Int))(f224:(List (List Int))):Option (form×Bool) :=
 (Z04 a).bind fun g =>
 (Zk (⟨i.1,i.2.1,b,e,a,f224,([]:List Int)⟩:form) i.2.1 g).bind fun h =>
 some ((⟨i.1,i.2.1,b,e,a,f224,h⟩:form),true)
def Z3_L4 (b:(List (List Int)))(m:(List aM)×aM×Bool)(h:aM)(i:(List Int))(j:(List Int))(e:(List (List Int)))(a:Int):Option (((List (List Int))×Int)⊕((List (List Int)))) :=
 if (decide (a<(m.1.length:Int)))=true then (
 if (0≤a∧a<(m.1.length:Int)) then
 if (0≤a∧a<(b.length:Int)) then
 (Z04 (ix b a)).bind fun l =>
 (Zk (⟨m.1,m.2.1,h,i,j,e,([]:List Int)⟩:form) (ix m.1 a) l).bind fun g =>
 if e.length+([g]:List (List Int)).length≤5864062014805 then
 some (.inl ((e++([g]:List (List Int))),(aG (a+1))))
 else none
 else none
 else none)
 else (
 some (.inr e))
def Z3_J8 (g:(List (List Int)))(j:(List aM)×aM×Bool)(h:aM)(a:(List Int)):Option (form×Bool) :=
 if (0≤(0:Int)∧(0:Int)≤(j.2.1.length:Int)∧(j.2.1.length:Int)≤(a.length:Int)) then
 (Zo (sub a (0:Int) (j.2.1.length:Int))).bind fun b =>
 (Zc b).bind fun i =>
 if (!i)=true then (
 some ((⟨([]:List aM),([]:aM),([]:aM),([]:List Int),([]:List Int),([]:List (List Int)),([]:List Int)⟩:form),false))
 else (
 (aU (fun s:(List (List Int))×Int=>Z3_L4 g j h a b s.1 s.2) (([]:List (List Int)),(0:Int))).bind fun e=>Z3_J9 j h a b e)
 else none
def Z3_L3 (e:aM)(b:(List Int))(h:(List Int))(g:Int)(a:Int):Option (((List Int)×Int×Int)⊕((form×Bool)⊕((List Int)))) :=
 if (decide (a<(e.length:Int)))=true then (
 if (0≤a∧a<(e.length:Int)) then
 if (0≤(IntKind.wrap .u8 ((bt e a) - 97))∧(IntKind.wrap .u8 ((bt e a) - 97))<26) then
 if h.length+([(ix b (IntKind.wrap .u8 ((bt e a) - 97)))]:List Int).length≤17592186044416 then
 if (decide ((aG (g*(ix b (IntKind.wrap .u8 ((bt e a) - 97)))))>65536))=true then (
 some (.inr (.inl ((⟨([]:List aM),([]:aM),([]:aM),([]:List Int),([]:List Int),([]:List (List Int)),([]:List Int)⟩:form),false))))
 else (
 some (.inl ((h++([(ix b (IntKind.wrap .u8 ((bt e a) - 97)))]:List Int)),(aG (g*(ix b (IntKind.wrap .u8 ((bt e a) - 97))))),(aG (a+1)))))
 else none
 else none
 else none)
 else (
 some (.inr (.inr h)))
def Z3_J7 (b:(List (List Int)))(h:(List aM)×aM×Bool)(g:aM)(a:(List Int)):Option (form×Bool) :=
 (aU (fun s:(List Int)×Int×Int=>Z3_L3 g a s.1 s.2.1 s.2.2) (([]:List Int),(1:Int),(0:Int))).bind fun e=>match e with
 | .inl e=>some e
 | .inr e=>Z3_J8 b h g e
def Z3_J6 (e:Int)(b:aM)(a:(List Int)):Option ((aM×(List Int)×Int)⊕((form×Bool)⊕(aM×(List Int)))) :=
 some (.inl (b,a,(aG (e+1))))
def Z3_J5 (e:Int)(b:aM)(a:(List Int)):Option ((aM×(List Int)×Int)⊕((form×Bool)⊕(aM×(List Int)))) :=
 some (.inl (b,a,(aG (e+1))))
def Z3_L2 (g:(List (List Int)))(i:(List aM)×aM×Bool)(e:Int)(h:aM)(b:(List Int))(a:Int):Option ((aM×(List Int)×Int)⊕((form×Bool)⊕(aM×(List Int)))) :=
 if (decide (a<((ix i.1 e).length:Int)))=true then (
 if (0≤a∧a<((ix i.1 e).length:Int)) then
 if (0≤(IntKind.wrap .u8 ((bt (ix i.1 e) a) - 97))∧(IntKind.wrap .u8 ((bt (ix i.1 e) a) - 97))<26) then
 if ((ix b (IntKind.wrap .u8 ((bt (ix i.1 e) a) - 97))) != 0)=true→(0≤a∧a<((ix g e).length:Int)) then
 if (((ix b (IntKind.wrap .u8 ((bt (ix i.1 e) a) - 97))) != 0)&&((ix b (IntKind.wrap .u8 ((bt (ix i.1 e) a) - 97))) != (ix (ix g e) a)))=true then (
 some (.inr (.inl ((⟨([]:List aM),([]:aM),([]:aM),([]:List Int),([]:List Int),([]:List (List Int)),([]:List Int)⟩:form),false))))
 else (
 if (0≤a∧a<((ix g e).length:Int)) then
 (nm (b.set (IntKind.wrap .u8 ((bt (ix i.1 e) a) - 97)).toNat (ix (ix g e) a))).bind fun j =>
 (Z1q h (bt (ix i.1 e) a)).bind fun l =>
 if (decide (l<0))=true then (
 if (0≤a∧a≤(aG (a+1))∧(aG (a+1))≤((ix i.1 e).length:Int)) then
 if h.length+(sub (ix i.1 e) a (aG (a+1))).length≤9223372036854775807 then
 Z3_J5 a (h++(sub (ix i.1 e) a (aG (a+1)))) j
 else none
 else none)
 else (
 Z3_J5 a h j)
 else none)
 else none
 else none
 else none)
 else (
 some (.inr (.inr (h,b))))
def Z3_L1 (a:(List (List Int)))(i:(List aM)×aM×Bool)(h:aM)(g:(List Int))(b:Int):Option ((aM×(List Int)×Int)⊕((form×Bool)⊕(aM×(List Int)))) :=
 if (decide (b<(i.1.length:Int)))=true then (
 if (0≤b∧b<(i.1.length:Int)) then
 if (0≤b∧b<(a.length:Int)) then
 if (((ix i.1 b).length:Int) != ((ix a b).length:Int))=true then (
 some (.inr (.inl ((⟨([]:List aM),([]:aM),([]:aM),([]:List Int),([]:List Int),([]:List (List Int)),([]:List Int)⟩:form),false))))
 else (
 (aU (fun s:aM×(List Int)×Int=>Z3_L2 a i b s.1 s.2.1 s.2.2) (h,g,(0:Int))).bind fun e=>match e with
 | .inl e=>some (.inr (.inl e))
 | .inr e=>Z3_J6 b e.1 e.2)
 else none
 else none)
 else (
 some (.inr (.inr (h,g))))
def Z3 (b:aM)(a:(List (List Int))):Option (form×Bool) :=
 (Zd b).bind fun g =>
 if ((!g.2.2)||((g.1.length:Int) != (a.length:Int)))=true then (
 some ((⟨([]:List aM),([]:aM),([]:aM),([]:List Int),([]:List Int),([]:List (List Int)),([]:List Int)⟩:form),false))
 else (
 (aU (fun s:aM×(List Int)×Int=>Z3_L1 a g s.1 s.2.1 s.2.2) (g.2.1,(List.replicate 26 (0:Int)),(0:Int))).bind fun e=>match e with
 | .inl e=>some e
 | .inr e=>Z3_J7 a g e.1 e.2)
def Z2s (k1:formKind)(e:Node)(a:(List (List Int))):Option ((List Int)×Bool) :=
 (Z3 e.Form a).bind fun b =>
 some (b.1.dims,b.2)
def Z2m (a:(List Int)):Option (View) :=
 (Zc a).bind fun g =>
 if (!g)=true then (
 some (⟨([]:List Int),([]:List Int),(0:Int),(0:Int)⟩:View))
 else (
 (Zo a).bind fun h =>
 (Z04 a).bind fun b =>
 (Zm a).bind fun e =>
 some (⟨h,b,(0:Int),e⟩:View))
def Zh_J1 (v1:View)(b:Int)(a:Int):Option (Bool) :=
 some ((decide (b≥0))&&(decide (a<v1.Base)))
def Zh_L1 (v1:View)(e:Int)(b:Int)(a:Int):Option ((Int×Int×Int)⊕((Bool)⊕(Int×Int))) :=
 if (decide (a<(v1.Strides.length:Int)))=true then (
 if (0≤a∧a<(v1.Strides.length:Int)) then
 if ((decide ((ix v1.Strides a)<(-4096:Int)))||(decide ((ix v1.Strides a)>4096)))=true then (
 some (.inr (.inl false)))
 else (
 if (0≤a∧a<(v1.Dims.length:Int)) then
 some (.inl ((aG (e+(if (aG ((ix v1.Strides a)*(aG ((ix v1.Dims a) - 1))))<0 then (aG ((ix v1.Strides a)*(aG ((ix v1.Dims a) - 1)))) else (0:Int)))),(aG (b+(if (aG ((ix v1.Strides a)*(aG ((ix v1.Dims a) - 1))))>0 then (aG ((ix v1.Strides a)*(aG ((ix v1.Dims a) - 1)))) else (0:Int)))),(aG (a+1))))
 else none)
 else none)
 else (
 some (.inr (.inr (e,b))))
def Zh (v1:View):Option (Bool) :=
 (Zc v1.Dims).bind fun a =>
 if ((((((!a)||((v1.Strides.length:Int) != (v1.Dims.length:Int)))||(decide (v1.Base<1)))||(decide (v1.Base>4096)))||(decide (v1.Offset<0)))||(decide (v1.Offset≥v1.Base)))=true then (
 some false)
 else (
 (aU (fun s:Int×Int×Int=>Zh_L1 v1 s.1 s.2.1 s.2.2) (v1.Offset,v1.Offset,(0:Int))).bind fun e=>match e with
 | .inl e=>some e
 | .inr e=>Zh_J1 v1 e.1 e.2)
def Z05_J3 (p1:View)(b:(List Int))(a:(List Int)):Option (Bool×View) :=
 some (true,(⟨b,a,p1.Offset,p1.Base⟩:View))
def Z05_J2 (a:Int)(b:(List Int)):Option (((List Int)×Int)⊕((Bool×View)⊕((List Int)))) :=
 some (.inl (b,(aG (a+1))))
def Z05_L1 (p1:View)(e:(List Int))(b:View)(i:(List Int))(g:(List Int))(a:Int):Option (((List Int)×Int)⊕((Bool×View)⊕((List Int)))) :=
 if (decide (a<(b.Dims.length:Int)))=true then (
 if (0≤a∧a<(b.Dims.length:Int)) then
 if (0≤(aG ((aG ((e.length:Int) - (b.Dims.length:Int)))+a))∧(aG ((aG ((e.length:Int) - (b.Dims.length:Int)))+a))<(e.length:Int)) then
 if ((ix b.Dims a)==(ix e (aG ((aG ((e.length:Int) - (b.Dims.length:Int)))+a))))=true then (
 if (0≤a∧a<(b.Strides.length:Int)) then
 if (0≤(aG ((aG ((e.length:Int) - (b.Dims.length:Int)))+a))∧(aG ((aG ((e.length:Int) - (b.Dims.length:Int)))+a))<((List.replicate (e.length:Int).toNat (0:Int)).length:Int)) then
 (nm (g.set (aG ((aG ((e.length:Int) - (b.Dims.length:Int)))+a)).toNat (ix b.Strides a))).bind fun h =>
 Z05_J2 a h
 else none
 else none)
 else (
 if ((ix b.Dims a) != 1)=true then (
 some (.inr (.inl (false,(⟨i,g,p1.Offset,p1.Base⟩:View)))))
 else (
 Z05_J2 a g))
 else none
 else none)
 else (
 some (.inr (.inr g)))
def Z05 (p1:View)(a:(List Int))(h:View):Option (Bool×View) :=
 (Zc a).bind fun g =>
 if ((!g)||(decide ((a.length:Int)<(h.Dims.length:Int))))=true then (
 some (false,p1))
 else (
 (Zo a).bind fun b =>
 if (0≤(a.length:Int)∧(a.length:Int)≤140737488355328∧8*(a.length:Int)≤281474976710656) then
 (aU (fun s:(List Int)×Int=>Z05_L1 p1 a h b s.1 s.2) ((List.replicate (a.length:Int).toNat (0:Int)),(0:Int))).bind fun e=>match e with
 | .inl e=>some e
 | .inr e=>Z05_J3 p1 b e
 else none)
def Z38 (v1:View)(i:(List Int))(j:View):Option (View) :=
 (Zh v1).bind fun b =>
 if (!b)=true then (
 some (⟨([]:List Int),([]:List Int),(0:Int),(0:Int)⟩:View))
 else (
 (Zo v1.Dims).bind fun e =>
 (Zo v1.Strides).bind fun g =>
 (Z05 (⟨e,g,v1.Offset,v1.Base⟩:View) i j).bind fun a =>
 (bI (!(!a.1)) (Zh a.2)).bind fun h =>
 if ((!a.1)||(!h))=true then (
 some (⟨([]:List Int),([]:List Int),(0:Int),(0:Int)⟩:View))
 else (
 some a.2))
def Z2e (v1:View)(a:(List Int)):Option (View) :=
 (Z38 v1 a v1).bind fun b =>
 some b
def Z0w_J3 (v1:View)(a:Int)(b:Int)(e:Int):Option (View) :=
 if (0≤a∧a<(v1.Dims.length:Int)) then
 if (0≤a∧a<(v1.Strides.length:Int)) then
 some (⟨(v1.Dims.set a.toNat b),(v1.Strides.set a.toNat e),v1.Offset,v1.Base⟩:View)
 else none
 else none
def Z0w (v1:View)(b:Int)(a:Int)(e:Int):Option (View) :=
 if (a==1)=true then (
 Z0w_J3 v1 b a (0:Int))
 else (
 Z0w_J3 v1 b a e)
def Z1f_J3 (p1:View)(a:Int)(g:Int)(h:Int)(b:Int):Option (Bool×View×Int) :=
 if (0≤a∧a<(p1.Strides.length:Int)) then
 (Z0w (⟨p1.Dims,p1.Strides,(aG (p1.Offset+(aG (h*(ix p1.Strides a))))),p1.Base⟩:View) a g (aG ((ix p1.Strides a)*b))).bind fun e =>
 some (true,e,b)
 else none
def Z1f (p1:View)(b:Int)(e:Int)(g:Int)(a:Int):Option (Bool×View×Int) :=
 (Zl p1.Dims b).bind fun h =>
 if (((!h)||(decide (e<1)))||(decide (e>4096)))=true then (
 some (false,p1,a))
 else (
 if (0≤b∧b<(p1.Dims.length:Int)) then
 if ((((decide (g<0))||(decide (g≥(ix p1.Dims b))))||(decide (a<(-4096:Int))))||(decide (a>4096)))=true then (
 some (false,p1,a))
 else (
 if (decide (e>1))=true then (
 if ((decide ((aG (g+(aG (a*(aG (e - 1))))))<0))||(decide ((aG (g+(aG (a*(aG (e - 1))))))≥(ix p1.Dims b))))=true then (
 some (false,p1,a))
 else (
 Z1f_J3 p1 b e g a))
 else (
 Z1f_J3 p1 b e g (0:Int)))
 else none)
def Z37 (v1:View)(j:Int)(l:Int)(m:Int)(b:Int):Option (View×Int) :=
 (Zh v1).bind fun e =>
 if (!e)=true then (
 some ((⟨([]:List Int),([]:List Int),(0:Int),(0:Int)⟩:View),b))
 else (
 (Zo v1.Dims).bind fun g =>
 (Zo v1.Strides).bind fun h =>
 (Z1f (⟨g,h,v1.Offset,v1.Base⟩:View) j l m b).bind fun a =>
 (bI (!(!a.1)) (Zh a.2.1)).bind fun i =>
 if ((!a.1)||(!i))=true then (
 some ((⟨([]:List Int),([]:List Int),(0:Int),(0:Int)⟩:View),a.2.2))
 else (
 some (a.2.1,a.2.2)))
def Z2d (v1:View)(b:Int)(h:Int)(a:Int)(e:Int):Option (View) :=
 (Z37 v1 b a h e).bind fun g =>
 some g.1
def Z2l (v1:View)(a:Int)(b:Int):Option (View) :=
 if v1.Dims.length+([(0:Int)]:List Int).length≤17592186044416 then
 if v1.Strides.length+([(0:Int)]:List Int).length≤17592186044416 then
 (Z0w (⟨(v1.Dims++([(0:Int)]:List Int)),(v1.Strides++([(0:Int)]:List Int)),v1.Offset,v1.Base⟩:View) (aG (((v1.Dims++([(0:Int)]:List Int)).length:Int) - 1)) a b).bind fun e =>
 some e
 else none
 else none
def Z1g_J3 (p1:View)(b:Int)(h:Int)(i:Int)(a:Int):Option (Bool×View×Int) :=
 (Z0w p1 b (aG ((aG ((aG ((ix p1.Dims b) - h)).tdiv i))+1)) (aG ((ix p1.Strides b)*a))).bind fun e =>
 (Z2l e h (ix p1.Strides b)).bind fun g =>
 some (true,g,a)
def Z1g (p1:View)(a:Int)(e:Int)(b:Int):Option (Bool×View×Int) :=
 (Zl p1.Dims a).bind fun g =>
 if (((!g)||(decide (e<1)))||(decide (b<1)))=false→(0≤a∧a<(p1.Dims.length:Int)) then
 if ((((!g)||(decide (e<1)))||(decide (b<1)))||(decide (e>(ix p1.Dims a))))=true then (
 some (false,p1,b))
 else (
 if (0≤a∧a<(p1.Strides.length:Int)) then
 if (0≤a∧a<(p1.Dims.length:Int)) then
 if b≠0 then
 if ((aG ((aG ((aG ((ix p1.Dims a) - e)).tdiv b))+1))==1)=true then (
 Z1g_J3 p1 a e b (0:Int))
 else (
 Z1g_J3 p1 a e b b)
 else none
 else none
 else none)
 else none
def Z39 (v1:View)(j:Int)(l:Int)(i:Int):Option (View×Int) :=
 (Zh v1).bind fun b =>
 if (!b)=true then (
 some ((⟨([]:List Int),([]:List Int),(0:Int),(0:Int)⟩:View),i))
 else (
 (Zo v1.Dims).bind fun e =>
 (Zo v1.Strides).bind fun g =>
 (Z1g (⟨e,g,v1.Offset,v1.Base⟩:View) j l i).bind fun a =>
 (bI (!(!a.1)) (Zh a.2.1)).bind fun h =>
 if ((!a.1)||(!h))=true then (
 some ((⟨([]:List Int),([]:List Int),(0:Int),(0:Int)⟩:View),a.2.2))
 else (
 some (a.2.1,a.2.2)))
def Z2f (v1:View)(a:Int)(b:Int)(e:Int):Option (View) :=
 (Z39 v1 a b e).bind fun g =>
 some g.1
def Z19 (a:Node)(b:(List Int)):Option (View) :=
 (Z2m b).bind fun e =>
 if (a.Op==12)=true then (
 (Z2e e a.Dims).bind fun g =>
 some g)
 else (
 if ((a.Op==14)&&((a.Ints.length:Int)==4))=true→(0≤(3:Int)∧(3:Int)<(a.Ints.length:Int)) then
 if (((a.Op==14)&&((a.Ints.length:Int)==4))&&(decide ((ix a.Ints 3)≥1)))=true then (
 if (0≤(0:Int)∧(0:Int)<(a.Ints.length:Int)) then
 if (0≤(1:Int)∧(1:Int)<(a.Ints.length:Int)) then
 if (0≤(2:Int)∧(2:Int)<(a.Ints.length:Int)) then
 if (0≤(3:Int)∧(3:Int)<(a.Ints.length:Int)) then
 (Z2d e (ix a.Ints 0) (ix a.Ints 1) (ix a.Ints 2) (ix a.Ints 3)).bind fun h =>
 some h
 else none
 else none
 else none
 else none)
 else (
 if ((a.Op==18)&&((a.Ints.length:Int)==3))=true then (
 if (0≤(0:Int)∧(0:Int)<(a.Ints.length:Int)) then
 if (0≤(1:Int)∧(1:Int)<(a.Ints.length:Int)) then
 if (0≤(2:Int)∧(2:Int)<(a.Ints.length:Int)) then
 (Z2f e (ix a.Ints 0) (ix a.Ints 1) (ix a.Ints 2)).bind fun i =>
 some i
 else none
 else none
 else none)
 else (
 some (⟨([]:List Int),([]:List Int),(0:Int),(0:Int)⟩:View)))
 else none)
def Z36 (e:(List Int))(a:(List Int))(b:Int):Option ((List Int)×Int×(List Int)) :=
 some (e,b,a)
def Z03_J2 (b:Type)(YF:b→Int→Option (b×Bool))(e:b×Bool)(a:(List Int))(h:Int)(g:Int):Option (((List Int)×Int×b)⊕(b)) :=
 if (decide (g<0))=true then (
 some (.inr e.1))
 else (
 some (.inl (a,h,e.1)))
def Z03_L2 (j:Type)(YF:j→Int→Option (j×Bool))(g:(List Int))(h:(List Int))(b:(List Int))(e:Int)(a:Int):Option (((List Int)×Int×Int)⊕((List Int)×Int×Int)) :=
 if (decide (a≥0))=true then (
 if (0≤a∧a<((List.replicate (g.length:Int).toNat (0:Int)).length:Int)) then
 if (0≤a∧a<(h.length:Int)) then
 if (0≤a∧a<(g.length:Int)) then
 if (decide ((ix (b.set a.toNat (aG ((ix b a)+1))) a)<(ix g a)))=true then (
 some (.inr ((b.set a.toNat (aG ((ix b a)+1))),(aG (e+(ix h a))),a)))
 else (
 (nm ((b.set a.toNat (aG ((ix b a)+1))).set a.toNat (0:Int))).bind fun i =>
 some (.inl (i,(aG ((aG (e+(ix h a))) - (aG ((ix h a)*(ix g a))))),(aG (a - 1)))))
 else none
 else none
 else none)
 else (
 some (.inr (b,e,a)))
def Z03_L1 (b:Type)(YF:b→Int→Option (b×Bool))(j:(List Int))(l:(List Int))(a:(List Int))(h:Int)(i:b):Option (((List Int)×Int×b)⊕(b)) :=
 (YF i h).bind fun g =>
 if (!g.2)=true then (
 some (.inr g.1))
 else (
 (aU (fun s:(List Int)×Int×Int=>Z03_L2 b YF j l s.1 s.2.1 s.2.2) (a,h,(aG ((j.length:Int) - 1)))).bind fun e=>Z03_J2 b YF g e.1 e.2.1 e.2.2)
def Z03 (b:Type)(YF:b→Int→Option (b×Bool))(a:b)(g:(List Int))(h:Int)(i:(List Int)):Option (b) :=
 if (0≤(g.length:Int)∧(g.length:Int)≤140737488355328∧8*(g.length:Int)≤281474976710656) then
 (aU (fun s:(List Int)×Int×b=>Z03_L1 b YF g i s.1 s.2.1 s.2.2) ((List.replicate (g.length:Int).toNat (0:Int)),h,a)).bind fun e=>some e
 else none
def Z3v (a:(List pair))(b:Int):Option (((List pair))×Bool) :=
 if a.length+([(⟨b,(a.length:Int)⟩:pair)]:List pair).length≤8796093022208 then
 some ((a++([(⟨b,(a.length:Int)⟩:pair)]:List pair)),true)
 else none
def Z2g (v1:View):Option ((List Int)×(List pair)×Bool) :=
 (Zh v1).bind fun e =>
 if (!e)=true then (
 some (([]:List Int),([]:List pair),false))
 else (
 (Z36 v1.Dims v1.Strides v1.Offset).bind fun a =>
 (Z03 ((List pair)) (fun (s:(List pair)) (x:Int)=>Z3v s x) ([]:List pair) a.1 a.2.1 a.2.2).bind fun b =>
 some (v1.Dims,b,true))
def Z2r (e:Node)(a:(List Int)):Option ((List Int)×(List pair)×Bool) :=
 (Z19 e a).bind fun g =>
 (Z2g g).bind fun b =>
 some (b.1,b.2.1,b.2.2)
def Z1p (k1:shiftKind)(e:Node)(a:(List (List Int))):Option ((List Int)×Bool) :=
 if ((a.length:Int) != 1)=true then (
 some (([]:List Int),false))
 else (
 if (0≤(0:Int)∧(0:Int)<(a.length:Int)) then
 (Z2r e (ix a 0)).bind fun b =>
 some (b.1,b.2.2)
 else none)
def Z0x_J1 (b:Node)(a:(List pair)):Option ((List Int)×(List pair)×Bool) :=
 some (b.Dims,a,true)
def Z0x_L1 (e:Int)(a:(List pair))(b:Int):Option (((List pair)×Int)⊕((List pair))) :=
 if (decide (b<e))=true then (
 if a.length+([(⟨b,b⟩:pair)]:List pair).length≤8796093022208 then
 some (.inl ((a++([(⟨b,b⟩:pair)]:List pair)),(aG (b+1))))
 else none)
 else (
 some (.inr a))
def Z0x (b:Node)(a:(List Int)):Option ((List Int)×(List pair)×Bool) :=
 (Zc b.Dims).bind fun j =>
 (bI (!(!j)) (Zm b.Dims)).bind fun g =>
 (bI (!(!j)) (Zm a)).bind fun h =>
 if ((!j)||(g != h))=true then (
 some (([]:List Int),([]:List pair),false))
 else (
 (Zm a).bind fun i =>
 (aU (fun s:(List pair)×Int=>Z0x_L1 i s.1 s.2) (([]:List pair),(0:Int))).bind fun e=>Z0x_J1 b e)
def Z22 (k1:shiftKind)(e:Node)(a:(List (List Int))):Option ((List Int)×Bool) :=
 if ((a.length:Int) != 1)=true then (
 some (([]:List Int),false))
 else (
 if (0≤(0:Int)∧(0:Int)<(a.length:Int)) then
 (Z0x e (ix a 0)).bind fun b =>
 some (b.1,b.2.2)
 else none)
def Z1i (b:(List Int))(a:Int)(g:Int):Option ((List Int)) :=
 (Zo b).bind fun e =>
 if (0≤a∧a<(e.length:Int)) then
 some (e.set a.toNat g)
 else none
def Z20 (b:(List Int))(a:Int):Option (Int×Int×Int) :=
 if (0≤(0:Int)∧(0:Int)≤a∧a≤(b.length:Int)) then
 (Zm (sub b (0:Int) a)).bind fun g =>
 if (0≤a∧a<(b.length:Int)) then
 if (0≤(aG (a+1))∧(aG (a+1))≤(b.length:Int)∧(b.length:Int)≤(b.length:Int)) then
 (Zm (sub b (aG (a+1)) (b.length:Int))).bind fun e =>
 some (g,(ix b a),e)
 else none
 else none
 else none
def Z7_J7 (a:(List pair)):Option ((List pair)) :=
 some a
def Z7_J6 (b:Int)(a:(List pair)):Option (((List pair)×Int)⊕((List pair))) :=
 some (.inl (a,(aG (b+1))))
def Z7_J5 (b:Int)(a:(List pair)):Option (((List pair)×Int)⊕((List pair))) :=
 some (.inl (a,(aG (b+1))))
def Z7_L3 (j:Int)(b:(List pair))(i:Int×Int×Int)(g:Int)(h:Int)(e:(List pair))(a:Int):Option (((List pair)×Int)⊕((List pair))) :=
 if (decide (a<i.2.2))=true then (
 if e.length+([(⟨(aG ((aG ((aG ((aG (g*i.2.1))+(ix b h).from_))*i.2.2))+a)),(aG ((aG ((aG ((aG (g*j))+(ix b h).to))*i.2.2))+a))⟩:pair)]:List pair).length≤8796093022208 then
 some (.inl ((e++([(⟨(aG ((aG ((aG ((aG (g*i.2.1))+(ix b h).from_))*i.2.2))+a)),(aG ((aG ((aG ((aG (g*j))+(ix b h).to))*i.2.2))+a))⟩:pair)]:List pair)),(aG (a+1))))
 else none)
 else (
 some (.inr e))
def Z7_L2 (i:Int)(a:(List pair))(j:Int×Int×Int)(h:Int)(g:(List pair))(b:Int):Option (((List pair)×Int)⊕((List pair))) :=
 if (decide (b<(a.length:Int)))=true then (
 if (0≤b∧b<(a.length:Int)) then
 (aU (fun s:(List pair)×Int=>Z7_L3 i a j h b s.1 s.2) (g,(0:Int))).bind fun e=>Z7_J5 b e
 else none)
 else (
 some (.inr g))
def Z7_L1 (i:Int)(b:(List pair))(h:Int×Int×Int)(g:(List pair))(a:Int):Option (((List pair)×Int)⊕((List pair))) :=
 if (decide (a<h.1))=true then (
 (aU (fun s:(List pair)×Int=>Z7_L2 i b h a s.1 s.2) (g,(0:Int))).bind fun e=>Z7_J6 a e)
 else (
 some (.inr g))
def Z7 (g:(List Int))(b:Int)(i:Int)(a:(List pair)):Option ((List pair)) :=
 (Z20 g b).bind fun h =>
 if (0≤(aG ((aG (h.1*h.2.2))*(a.length:Int)))∧(aG ((aG (h.1*h.2.2))*(a.length:Int)))≤140737488355328∧16*(aG ((aG (h.1*h.2.2))*(a.length:Int)))≤281474976710656) then
 (aU (fun s:(List pair)×Int=>Z7_L1 i a h s.1 s.2) (([]:List pair),(0:Int))).bind fun e=>Z7_J7 e
 else none
def Zx_J2 (b:(List Int))(a:Int)(e:Int)(g:Int)(i:Int)(j:(List Int))(h:(List pair)):Option ((List Int)×(List pair)×Bool) :=
 (Z7 b a (aG ((aG ((aG (e+(ix b a)))+(aG ((aG ((ix b a) - 1))*i))))+g)) h).bind fun l =>
 some (j,l,true)
def Zx_L2 (i:(List Int))(h:Int)(b:Int)(g:Int)(a:(List pair))(e:Int):Option (((List pair)×Int)⊕((List pair))) :=
 if (decide (e<(ix i h)))=true then (
 if a.length+([(⟨e,(aG (b+(aG (e*(aG (g+1))))))⟩:pair)]:List pair).length≤8796093022208 then
 some (.inl ((a++([(⟨e,(aG (b+(aG (e*(aG (g+1))))))⟩:pair)]:List pair)),(aG (e+1))))
 else none)
 else (
 some (.inr a))
def Zx_J1 (b:(List Int))(a:Int)(g:Int)(h:Int)(i:Int):Option ((List Int)×(List pair)×Bool) :=
 if (0≤a∧a<(b.length:Int)) then
 (Z1i b a (aG ((aG ((aG (g+(ix b a)))+(aG ((aG ((ix b a) - 1))*i))))+h))).bind fun j =>
 (Zc j).bind fun l =>
 if (!l)=true then (
 some (([]:List Int),([]:List pair),false))
 else (
 (aU (fun s:(List pair)×Int=>Zx_L2 b a g i s.1 s.2) (([]:List pair),(0:Int))).bind fun e=>Zx_J2 b a g h i j e)
 else none
def Zx_L1 (a:Int)(b:Int)(e:Int)(g:Int):Option ((Int)⊕(((List Int)×(List pair)×Bool)⊕(Unit))) :=
 if (decide (g<(([a,b,e]:List Int).length:Int)))=true then (
 if (0≤g∧g<(([a,b,e]:List Int).length:Int)) then
 if ((decide ((ix ([a,b,e]:List Int) g)<0))||(decide ((ix ([a,b,e]:List Int) g)>4096)))=true then (
 some (.inr (.inl (([]:List Int),([]:List pair),false))))
 else (
 some (.inl (aG (g+1))))
 else none)
 else (
 some (.inr (.inr ())))
def Zx (h:(List Int))(g:Int)(a:Int)(b:Int)(i:Int):Option ((List Int)×(List pair)×Bool) :=
 (Zl h g).bind fun j =>
 if (!j)=true then (
 some (([]:List Int),([]:List pair),false))
 else (
 (aU (fun s:Int=>Zx_L1 a b i s) (0:Int)).bind fun e=>match e with
 | .inl e=>some e
 | .inr e=>Zx_J1 h g a b i)
def Z1w (p1:(List Int))(a:(List Int)):Option ((List Int)×(List pair)×Bool) :=
 if (0≤(0:Int)∧(0:Int)<(p1.length:Int)) then
 if (0≤(1:Int)∧(1:Int)<(p1.length:Int)) then
 if (0≤(2:Int)∧(2:Int)<(p1.length:Int)) then
 if (0≤(3:Int)∧(3:Int)<(p1.length:Int)) then
 (Zx a (ix p1 0) (ix p1 1) (ix p1 2) (ix p1 3)).bind fun b =>
 some (b.1,b.2.1,b.2.2)
 else none
 else none
 else none
 else none
def Z2n (e:Node)(a:(List Int))(h:Int)(g:Int):Option ((List Int)×(List pair)×Bool) :=
 if ((decide ((e.Ints.length:Int)<h))||(decide ((e.Ints.length:Int)>g)))=true then (
 some (([]:List Int),([]:List pair),false))
 else (
 (Z1w e.Ints a).bind fun b =>
 some (b.1,b.2.1,b.2.2))
def Z1l (k1:shiftKind)(g:Int)(h:Int)(e:Node)(a:(List (List Int))):Option ((List Int)×Bool) :=
 if ((a.length:Int) != 1)=true then (
 some (([]:List Int),false))
 else (
 if (0≤(0:Int)∧(0:Int)<(a.length:Int)) then
 (Z2n e (ix a 0) g h).bind fun b =>
 some (b.1,b.2.2)
 else none)
def Z0c_J1 (e:(List Int))(b:Int)(a:(List Int))(g:(List pair)):Option ((List Int)×(List pair)×Bool) :=
 (Z1i e b (a.length:Int)).bind fun h =>
 (Zc h).bind fun i =>
 if (!i)=true then (
 some (([]:List Int),([]:List pair),false))
 else (
 (Z7 e b (a.length:Int) g).bind fun j =>
 some (h,j,true))
def Z0c_L1 (h:(List Int))(g:Int)(a:(List Int))(e:(List pair))(b:Int):Option (((List pair)×Int)⊕(((List Int)×(List pair)×Bool)⊕((List pair)))) :=
 if (decide (b<(a.length:Int)))=true then (
 if (0≤b∧b<(a.length:Int)) then
 if (decide ((ix a b)<0))=false→(0≤g∧g<(h.length:Int)) then
 if ((decide ((ix a b)<0))||(decide ((ix a b)≥(ix h g))))=true then (
 some (.inr (.inl (([]:List Int),([]:List pair),false))))
 else (
 if e.length+([(⟨(ix a b),b⟩:pair)]:List pair).length≤8796093022208 then
 some (.inl ((e++([(⟨(ix a b),b⟩:pair)]:List pair)),(aG (b+1))))
 else none)
 else none
 else none)
 else (
 some (.inr (.inr e)))
def Z0c (g:(List Int))(b:Int)(a:(List Int)):Option ((List Int)×(List pair)×Bool) :=
 (Zl g b).bind fun h =>
 if (((!h)||((a.length:Int)==0))||(decide ((a.length:Int)>4096)))=true then (
 some (([]:List Int),([]:List pair),false))
 else (
 (aU (fun s:(List pair)×Int=>Z0c_L1 g b a s.1 s.2) (([]:List pair),(0:Int))).bind fun e=>match e with
 | .inl e=>some e
 | .inr e=>Z0c_J1 g b a e)
def Z1x (p1:(List Int))(a:(List Int)):Option ((List Int)×(List pair)×Bool) :=
 if (0≤(0:Int)∧(0:Int)<(p1.length:Int)) then
 if (0≤(1:Int)∧(1:Int)≤(p1.length:Int)∧(p1.length:Int)≤(p1.length:Int)) then
 (Z0c a (ix p1 0) (sub p1 (1:Int) (p1.length:Int))).bind fun b =>
 some (b.1,b.2.1,b.2.2)
 else none
 else none
def Z2o (e:Node)(a:(List Int))(h:Int)(g:Int):Option ((List Int)×(List pair)×Bool) :=
 if ((decide ((e.Ints.length:Int)<h))||(decide ((e.Ints.length:Int)>g)))=true then (
 some (([]:List Int),([]:List pair),false))
 else (
 (Z1x e.Ints a).bind fun b =>
 some (b.1,b.2.1,b.2.2))
def Z1m (k1:shiftKind)(g:Int)(h:Int)(e:Node)(a:(List (List Int))):Option ((List Int)×Bool) :=
 if ((a.length:Int) != 1)=true then (
 some (([]:List Int),false))
 else (
 if (0≤(0:Int)∧(0:Int)<(a.length:Int)) then
 (Z2o e (ix a 0) g h).bind fun b =>
 some (b.1,b.2.2)
 else none)
def Z0d_J1 (b:(List Int))(a:Int)(j:Int)(e:(List pair)):Option ((List Int)×(List pair)×Bool) :=
 (Z1i b a j).bind fun g =>
 (Zc g).bind fun h =>
 if (!h)=true then (
 some (([]:List Int),([]:List pair),false))
 else (
 (Z7 b a j e).bind fun i =>
 some (g,i,true))
def Z0d_L1 (a:(List Int))(g:Int)(e:(List pair))(b:Int):Option (((List pair)×Int)⊕(((List Int)×(List pair)×Bool)⊕((List pair)))) :=
 if (decide (b<(a.length:Int)))=true then (
 if (0≤b∧b<(a.length:Int)) then
 if ((decide ((ix a b)<0))||(decide ((ix a b)≥g)))=true then (
 some (.inr (.inl (([]:List Int),([]:List pair),false))))
 else (
 if e.length+([(⟨b,(ix a b)⟩:pair)]:List pair).length≤8796093022208 then
 some (.inl ((e++([(⟨b,(ix a b)⟩:pair)]:List pair)),(aG (b+1))))
 else none)
 else none)
 else (
 some (.inr (.inr e)))
def Z0d (b:(List Int))(a:Int)(g:(List Int))(h:Int):Option ((List Int)×(List pair)×Bool) :=
 (Zl b a).bind fun i =>
 if (!i)=false→(0≤a∧a<(b.length:Int)) then
 if (((!i)||((g.length:Int) != (ix b a)))||(decide (h<1)))=true then (
 some (([]:List Int),([]:List pair),false))
 else (
 (aU (fun s:(List pair)×Int=>Z0d_L1 g h s.1 s.2) (([]:List pair),(0:Int))).bind fun e=>match e with
 | .inl e=>some e
 | .inr e=>Z0d_J1 b a h e)
 else none
def Z1y (p1:(List Int))(a:(List Int)):Option ((List Int)×(List pair)×Bool) :=
 if (0≤(0:Int)∧(0:Int)<(p1.length:Int)) then
 if (0≤(2:Int)∧(2:Int)≤(p1.length:Int)∧(p1.length:Int)≤(p1.length:Int)) then
 if (0≤(1:Int)∧(1:Int)<(p1.length:Int)) then
 (Z0d a (ix p1 0) (sub p1 (2:Int) (p1.length:Int)) (ix p1 1)).bind fun b =>
 some (b.1,b.2.1,b.2.2)
 else none
 else none
 else none
def Z2p (e:Node)(a:(List Int))(h:Int)(g:Int):Option ((List Int)×(List pair)×Bool) :=
 if ((decide ((e.Ints.length:Int)<h))||(decide ((e.Ints.length:Int)>g)))=true then (
 some (([]:List Int),([]:List pair),false))
 else (
 (Z1y e.Ints a).bind fun b =>
 some (b.1,b.2.1,b.2.2))
def Z1n (k1:shiftKind)(g:Int)(h:Int)(e:Node)(a:(List (List Int))):Option ((List Int)×Bool) :=
 if ((a.length:Int) != 1)=true then (
 some (([]:List Int),false))
 else (
 if (0≤(0:Int)∧(0:Int)<(a.length:Int)) then
 (Z2p e (ix a 0) g h).bind fun b =>
 some (b.1,b.2.2)
 else none)
def Z4_J16 (b:(List Int))(e:(List Int))(a:(List pair)):Option ((List Int)×(List pair)×Bool) :=
 some ((sub e (0:Int) (aG ((b.length:Int) - 1))),a,true)
def Z4_J15 (b:Int)(a:(List pair)):Option (((List pair)×Int)⊕((List pair))) :=
 some (.inl (a,(aG (b+1))))
def Z4_J14 (b:Int)(a:(List pair)):Option (((List pair)×Int)⊕((List pair))) :=
 some (.inl (a,(aG (b+1))))
def Z4_J13 (b:Int)(a:(List pair)):Option (((List pair)×Int)⊕((List pair))) :=
 some (.inl (a,(aG (b+1))))
def Z4_L4 (a:(List Int))(m:Int)(j:Int)(l:Int×Int×Int)(g:Int)(i:Int)(h:Int)(b:(List pair))(e:Int):Option (((List pair)×Int)⊕((List pair))) :=
 if (0≤(aG ((a.length:Int) - 1))∧(aG ((a.length:Int) - 1))<(a.length:Int)) then
 if (decide (e<(ix a (aG ((a.length:Int) - 1)))))=true then (
 if b.length+([(⟨(aG ((aG ((aG ((aG ((aG ((aG (g*l.2.1))+i))*l.2.2))+h))*(ix a (aG ((a.length:Int) - 1)))))+e)),(aG ((aG ((aG ((aG ((aG (g*m))+(aG (i*j))))+e))*l.2.2))+h))⟩:pair)]:List pair).length≤8796093022208 then
 some (.inl ((b++([(⟨(aG ((aG ((aG ((aG ((aG ((aG (g*l.2.1))+i))*l.2.2))+h))*(ix a (aG ((a.length:Int) - 1)))))+e)),(aG ((aG ((aG ((aG ((aG (g*m))+(aG (i*j))))+e))*l.2.2))+h))⟩:pair)]:List pair)),(aG (e+1))))
 else none)
 else (
 some (.inr b))
 else none
def Z4_L3 (h:(List Int))(m:Int)(g:Int)(l:Int×Int×Int)(i:Int)(j:Int)(a:(List pair))(b:Int):Option (((List pair)×Int)⊕((List pair))) :=
 if (decide (b<l.2.2))=true then (
 (aU (fun s:(List pair)×Int=>Z4_L4 h m g l i j b s.1 s.2) (a,(0:Int))).bind fun e=>Z4_J13 b e)
 else (
 some (.inr a))
def Z4_L2 (h:(List Int))(l:Int)(g:Int)(j:Int×Int×Int)(i:Int)(a:(List pair))(b:Int):Option (((List pair)×Int)⊕((List pair))) :=
 if (decide (b<j.2.1))=true then (
 (aU (fun s:(List pair)×Int=>Z4_L3 h l g j i b s.1 s.2) (a,(0:Int))).bind fun e=>Z4_J14 b e)
 else (
 some (.inr a))
def Z4_L1 (h:(List Int))(j:Int)(g:Int)(i:Int×Int×Int)(a:(List pair))(b:Int):Option (((List pair)×Int)⊕((List pair))) :=
 if (decide (b<i.1))=true then (
 (aU (fun s:(List pair)×Int=>Z4_L2 h j g i b s.1 s.2) (a,(0:Int))).bind fun e=>Z4_J15 b e)
 else (
 some (.inr a))
def Z4_J1 (a:(List Int))(g:Int)(j:Int)(h:(List Int))(b:Int):Option ((List Int)×(List pair)×Bool) :=
 if (0≤(0:Int)∧(0:Int)≤(aG ((a.length:Int) - 1))∧(aG ((a.length:Int) - 1))≤(a.length:Int)) then
 (Z20 (sub a (0:Int) (aG ((a.length:Int) - 1))) g).bind fun i =>
 (aU (fun s:(List pair)×Int=>Z4_L1 a j b i s.1 s.2) (([]:List pair),(0:Int))).bind fun e=>Z4_J16 a h e
 else none
def Z4 (a:(List Int))(b:Int)(e:Int)(g:Int):Option ((List Int)×(List pair)×Bool) :=
 (Zl a b).bind fun i =>
 if (((((!i)||(b==(aG ((a.length:Int) - 1))))||(decide (e<1)))||(decide (g<1)))||(decide (g>4096)))=false→(0≤(aG ((a.length:Int) - 1))∧(aG ((a.length:Int) - 1))<(a.length:Int)) then
 if ((((((!i)||(b==(aG ((a.length:Int) - 1))))||(decide (e<1)))||(decide (g<1)))||(decide (g>4096)))||(decide ((ix a (aG ((a.length:Int) - 1)))>g)))=false→(0≤b∧b<(a.length:Int)) then
 if ((((((!i)||(b==(aG ((a.length:Int) - 1))))||(decide (e<1)))||(decide (g<1)))||(decide (g>4096)))||(decide ((ix a (aG ((a.length:Int) - 1)))>g)))=false→(0≤(aG ((a.length:Int) - 1))∧(aG ((a.length:Int) - 1))<(a.length:Int)) then
 if ((((((!i)||(b==(aG ((a.length:Int) - 1))))||(decide (e<1)))||(decide (g<1)))||(decide (g>4096)))||(decide ((ix a (aG ((a.length:Int) - 1)))>g)))=false→e≠0 then
 if (((((((!i)||(b==(aG ((a.length:Int) - 1))))||(decide (e<1)))||(decide (g<1)))||(decide (g>4096)))||(decide ((ix a (aG ((a.length:Int) - 1)))>g)))||((ix a b) != (aG ((aG ((aG (g - (ix a (aG ((a.length:Int) - 1))))).tdiv e))+1))))=true then (
 some (([]:List Int),([]:List pair),false))
 else (
 (Z1i a b g).bind fun h =>
 if (0≤(0:Int)∧(0:Int)≤(aG ((a.length:Int) - 1))∧(aG ((a.length:Int) - 1))≤(h.length:Int)) then
 (Zc (sub h (0:Int) (aG ((a.length:Int) - 1)))).bind fun j =>
 if (!j)=true then (
 some (([]:List Int),([]:List pair),false))
 else (
 if (0≤b∧b<(a.length:Int)) then
 if ((ix a b)==1)=true then (
 Z4_J1 a b g h (0:Int))
 else (
 Z4_J1 a b g h e)
 else none)
 else none)
 else none
 else none
 else none
 else none
def Z1z (p1:(List Int))(a:(List Int)):Option ((List Int)×(List pair)×Bool) :=
 if (0≤(0:Int)∧(0:Int)<(p1.length:Int)) then
 if (0≤(1:Int)∧(1:Int)<(p1.length:Int)) then
 if (0≤(2:Int)∧(2:Int)<(p1.length:Int)) then
 (Z4 a (ix p1 0) (ix p1 1) (ix p1 2)).bind fun b =>
 some (b.1,b.2.1,b.2.2)
 else none
 else none
 else none
def Z2q (e:Node)(a:(List Int))(h:Int)(g:Int):Option ((List Int)×(List pair)×Bool) :=
 if ((decide ((e.Ints.length:Int)<h))||(decide ((e.Ints.length:Int)>g)))=true then (
 some (([]:List Int),([]:List pair),false))
 else (
 (Z1z e.Ints a).bind fun b =>
 some (b.1,b.2.1,b.2.2))
def Z1o (k1:shiftKind)(g:Int)(h:Int)(e:Node)(a:(List (List Int))):Option ((List Int)×Bool) :=
 if ((a.length:Int) != 1)=true then (
 some (([]:List Int),false))
 else (
 if (0≤(0:Int)∧(0:Int)<(a.length:Int)) then
 (Z2q e (ix a 0) g h).bind fun b =>
 some (b.1,b.2.2)
 else none)
def bO (r:kindOfR)(a:Node)(b:(List (List Int))):Option ((List Int)×Bool) :=
 if Nat.beq r.t 0=true then none else (if Nat.beq r.t 1=true then Z1h (⟨r.b0⟩:leafKind) a b else (if Nat.beq r.t 2=true then Z21 (⟨r.i0⟩:pairKind) a b else (if Nat.beq r.t 3=true then Z2t (⟨r.i0⟩:soloKind) a b else (if Nat.beq r.t 4=true then Z1v (⟨⟩:topKind) a b else (if Nat.beq r.t 5=true then Z2s (⟨⟩:formKind) a b else (if Nat.beq r.t 6=true then Z1p (⟨r.s0⟩:shiftKind) a b else (if Nat.beq r.t 7=true then Z22 (⟨r.s0⟩:shiftKind) a b else (if Nat.beq r.t 8=true then Z1l (⟨r.s0⟩:shiftKind) r.i0 r.i1 a b else (if Nat.beq r.t 9=true then Z1m (⟨r.s0⟩:shiftKind) r.i0 r.i1 a b else (if Nat.beq r.t 10=true then Z1n (⟨r.s0⟩:shiftKind) r.i0 r.i1 a b else (Z1o (⟨r.s0⟩:shiftKind) r.i0 r.i1 a b)))))))))))
def Zf_J1 (e:Node)(g:kindOfR)(a:(List (List Int))):Option ((List Int)×Bool) :=
 (bO g e a).bind fun b =>
 some (b.1,b.2)
def Zf_L1 (g:Node)(a:(List (List Int)))(e:(List (List Int)))(b:Int):Option (((List (List Int))×Int)⊕(((List Int)×Bool)⊕((List (List Int))))) :=
 if (decide (b<(g.Args.length:Int)))=true then (
 if (0≤b∧b<(g.Args.length:Int)) then
 if ((decide ((ix g.Args b)<0))||(decide ((ix g.Args b)≥(a.length:Int))))=true then (
 some (.inr (.inl (([]:List Int),false))))
 else (
 if (0≤(ix g.Args b)∧(ix g.Args b)<(a.length:Int)) then
 if e.length+([(ix a (ix g.Args b))]:List (List Int)).length≤5864062014805 then
 some (.inl ((e++([(ix a (ix g.Args b))]:List (List Int))),(aG (b+1))))
 else none
 else none)
 else none)
 else (
 some (.inr (.inr e)))
def Zf (b:Node)(a:(List (List Int))):Option ((List Int)×Bool) :=
 (Zw b.Op).bind fun g =>
 (bI (!(Nat.beq g.t 0)) (fN g)).bind fun h =>
 (bI (!(Nat.beq g.t 0)) (Z1u b h)).bind fun i =>
 if (((Nat.beq g.t 0)||(!i))||(decide ((b.Args.length:Int)>6)))=true then (
 some (([]:List Int),false))
 else (
 (aU (fun s:(List (List Int))×Int=>Zf_L1 b a s.1 s.2) (([]:List (List Int)),(0:Int))).bind fun e=>match e with
 | .inl e=>some e
 | .inr e=>Zf_J1 b g e)
def Zj_J2 (a:(List (List Int))):Option ((List (List Int))×Bool) :=
 some (a,true)
def Zj_L2 (g1:Graph)(a:Int):Option ((Int)⊕(((List (List Int))×Bool)⊕(Unit))) :=
 if (decide (a<(g1.Outs.length:Int)))=true then (
 if (0≤a∧a<(g1.Outs.length:Int)) then
 if ((decide ((ix g1.Outs a)<0))||(decide ((ix g1.Outs a)≥(g1.Nodes.length:Int))))=true then (
 some (.inr (.inl (([]:List (List Int)),false))))
 else (
 some (.inl (aG (a+1))))
 else none)
 else (
 some (.inr (.inr ())))
def Zj_J1 (g1:Graph)(a:(List (List Int))):Option ((List (List Int))×Bool) :=
 (aU (fun s:Int=>Zj_L2 g1 s) (0:Int)).bind fun e=>match e with
 | .inl e=>some e
 | .inr e=>Zj_J2 a
def Zj_L1 (g1:Graph)(b:(List (List Int)))(a:Int):Option (((List (List Int))×Int)⊕(((List (List Int))×Bool)⊕((List (List Int))))) :=
 if (decide (a<(g1.Nodes.length:Int)))=true then (
 if (0≤a∧a<(g1.Nodes.length:Int)) then
 (Zf (ix g1.Nodes a) b).bind fun e =>
 if (!e.2)=true then (
 some (.inr (.inl (([]:List (List Int)),false))))
 else (
 if b.length+([e.1]:List (List Int)).length≤5864062014805 then
 some (.inl ((b++([e.1]:List (List Int))),(aG (a+1))))
 else none)
 else none)
 else (
 some (.inr (.inr b)))
def Zj (g1:Graph):Option ((List (List Int))×Bool) :=
 if ((decide ((g1.Nodes.length:Int)>200))||(decide ((g1.Outs.length:Int)>40)))=true then (
 some (([]:List (List Int)),false))
 else (
 (aU (fun s:(List (List Int))×Int=>Zj_L1 g1 s.1 s.2) (([]:List (List Int)),(0:Int))).bind fun e=>match e with
 | .inl e=>some e
 | .inr e=>Zj_J1 g1 e)
def Z2c (g1:Graph):Option (Bool) :=
 (Zj g1).bind fun a =>
 some a.2
def Z07_J1:Option (Bool) :=
 some true
def Z07_L1 (b:(List Int))(e:(List Int))(a:Int):Option ((Int)⊕((Bool)⊕(Unit))) :=
 if (decide (a<(b.length:Int)))=true then (
 if (0≤a∧a<(b.length:Int)) then
 if (0≤a∧a<(e.length:Int)) then
 if ((ix b a) != (ix e a))=true then (
 some (.inr (.inl false)))
 else (
 some (.inl (aG (a+1))))
 else none
 else none)
 else (
 some (.inr (.inr ())))
def Z07 (a:(List Int))(b:(List Int)):Option (Bool) :=
 if ((a.length:Int) != (b.length:Int))=true then (
 some false)
 else (
 (aU (fun s:Int=>Z07_L1 a b s) (0:Int)).bind fun e=>match e with
 | .inl e=>some e
 | .inr e=>Z07_J1)
def Z2h (a:Node)(b:Node):Option (Bool) :=
 if (a.Op != b.Op)=true then (
 some false)
 else (
 (Z07 a.Args b.Args).bind fun e =>
 if (!e)=true then (
 some false)
 else (
 (Z07 a.Dims b.Dims).bind fun g =>
 if (!g)=true then (
 some false)
 else (
 (Z07 a.Ints b.Ints).bind fun h =>
 if (!h)=true then (
 some false)
 else (
 if (!(a.Form==b.Form))=true then (
 some false)
 else (
 (Z07 a.Data b.Data).bind fun i =>
 if (!i)=true then (
 some false)
 else (
 some true))))))
def Z1a_J1:Option (Bool) :=
 some true
def Z1a_L1 (b:(List Node))(g:(List Node))(a:Int):Option ((Int)⊕((Bool)⊕(Unit))) :=
 if (decide (a<(b.length:Int)))=true then (
 if (0≤a∧a<(b.length:Int)) then
 if (0≤a∧a<(g.length:Int)) then
 (Z2h (ix b a) (ix g a)).bind fun e =>
 if (!e)=true then (
 some (.inr (.inl false)))
 else (
 some (.inl (aG (a+1))))
 else none
 else none)
 else (
 some (.inr (.inr ())))
def Z1a (a:(List Node))(b:(List Node)):Option (Bool) :=
 if ((a.length:Int) != (b.length:Int))=true then (
 some false)
 else (
 (aU (fun s:Int=>Z1a_L1 a b s) (0:Int)).bind fun e=>match e with
 | .inl e=>some e
 | .inr e=>Z1a_J1)
def Z2u (b:Graph)(e:Graph):Option (Bool) :=
 (Z1a b.Nodes e.Nodes).bind fun g =>
 if (!g)=true then (
 some false)
 else (
 (Z07 b.Outs e.Outs).bind fun a =>
 if (!a)=true then (
 some false)
 else (
 some true))
def Z0a_J3 (a:Int):Option (Int) :=
 some a
def Z0a_J2 (a:Int)(b:Int):Option ((Int×Int)⊕(Int)) :=
 some (.inl (b,(aG (a+1))))
def Z0a_L1 (a:(List Int))(g:Int)(e:Int)(b:Int):Option ((Int×Int)⊕(Int)) :=
 if (decide (b<(a.length:Int)))=true then (
 if (0≤b∧b<(a.length:Int)) then
 if (decide ((ix a b)<g))=true then (
 Z0a_J2 b (aG (e+1)))
 else (
 Z0a_J2 b e)
 else none)
 else (
 some (.inr e))
def Z0a (a:(List Int))(b:Int):Option (Int) :=
 (aU (fun s:Int×Int=>Z0a_L1 a b s.1 s.2) ((0:Int),(0:Int))).bind fun e=>Z0a_J3 e
def Z11_J1:Option (Bool) :=
 some false
def Z11_L1 (a:(List Int))(e:Int)(b:Int):Option ((Int)⊕((Bool)⊕(Unit))) :=
 if (decide (b<(a.length:Int)))=true then (
 if (0≤b∧b<(a.length:Int)) then
 if ((ix a b)==e)=true then (
 some (.inr (.inl true)))
 else (
 some (.inl (aG (b+1))))
 else none)
 else (
 some (.inr (.inr ())))
def Z11 (a:(List Int))(b:Int):Option (Bool) :=
 (aU (fun s:Int=>Z11_L1 a b s) (0:Int)).bind fun e=>match e with
 | .inl e=>some e
 | .inr e=>Z11_J1
def Z3c (a:Node):Option (Bool) :=
 some ((a.Op==1)||(a.Op==2))
def Zb_J4:Option (Bool) :=
 some true
def Zb_J3 (a:Int):Option ((Int)⊕((Bool)⊕(Unit))) :=
 some (.inl (aG (a+1)))
def Zb_L3 (g1:Graph)(e:(List Int))(b:Int)(a:Int):Option ((Int)⊕((Bool)⊕(Unit))) :=
 if (0≤b∧b<(g1.Nodes.length:Int)) then
 if (decide (a<(((ix g1.Nodes b).Args).length:Int)))=true then (
 if (0≤a∧a<(((ix g1.Nodes b).Args).length:Int)) then
 (Z0a e (ix ((ix g1.Nodes b).Args) a)).bind fun g =>
 (Z0a e b).bind fun h =>
 (bI (g != h) (Z11 e (ix ((ix g1.Nodes b).Args) a))).bind fun i =>
 if ((g != h)&&(!i))=true→(0≤(ix ((ix g1.Nodes b).Args) a)∧(ix ((ix g1.Nodes b).Args) a)<(g1.Nodes.length:Int)) then
 (bI ((g != h)&&(!i)) (Z3c (ix g1.Nodes (ix ((ix g1.Nodes b).Args) a)))).bind fun j =>
 if (((g != h)&&(!i))&&(!j))=true then (
 some (.inr (.inl false)))
 else (
 some (.inl (aG (a+1))))
 else none
 else none)
 else (
 some (.inr (.inr ())))
 else none
def Zb_L2 (g1:Graph)(b:(List Int))(a:Int):Option ((Int)⊕((Bool)⊕(Unit))) :=
 if (decide (a<(g1.Nodes.length:Int)))=true then (
 (aU (fun s:Int=>Zb_L3 g1 b a s) (0:Int)).bind fun e=>match e with
 | .inl e=>some (.inr (.inl e))
 | .inr e=>Zb_J3 a)
 else (
 some (.inr (.inr ())))
def Zb_J1 (g1:Graph)(a:(List Int)):Option (Bool) :=
 (aU (fun s:Int=>Zb_L2 g1 a s) (0:Int)).bind fun e=>match e with
 | .inl e=>some e
 | .inr e=>Zb_J4
def Zb_L1 (g1:Graph)(a:(List Int))(b:Int):Option ((Int)⊕((Bool)⊕(Unit))) :=
 if (decide (b<(a.length:Int)))=true then (
 if (0≤b∧b<(a.length:Int)) then
 if ((decide ((ix a b)<0))||(decide ((ix a b)≥(g1.Nodes.length:Int))))=false→(decide (b>0))=true→(0≤(aG (b - 1))∧(aG (b - 1))<(a.length:Int)) then
 if (((decide ((ix a b)<0))||(decide ((ix a b)≥(g1.Nodes.length:Int))))||((decide (b>0))&&(decide ((ix a (aG (b - 1)))≥(ix a b)))))=true then (
 some (.inr (.inl false)))
 else (
 some (.inl (aG (b+1))))
 else none
 else none)
 else (
 some (.inr (.inr ())))
def Zb (g1:Graph)(a:(List Int)):Option (Bool) :=
 (aU (fun s:Int=>Zb_L1 g1 a s) (0:Int)).bind fun e=>match e with
 | .inl e=>some e
 | .inr e=>Zb_J1 g1 a
def Z2j (g1:Graph)(a:(List Int)):Option (Bool) :=
 (Z2x g1).bind fun b =>
 (bI b (Zb g1 a)).bind fun e =>
 some (b&&e)
def Z35 (a:(List Int)):Option ((List Int)) :=
 some a
def Z2b (p1:Int):Option (Bool) :=
 some (p1 != p1)
def Z32 (p1:Int)(b:Int):Option (Bool) :=
 (Z2b p1).bind fun a =>
 (bI a (Z2b b)).bind fun e =>
 some ((a&&(!e))||(decide (p1<b)))
def Z23 (p1:Int):Option (Bool) :=
 some (p1 != p1)
def Z0k_J1 (p1:(List Int))(a:Int)(b:Int):Option (Int×Bool) :=
 if (decide (b<(p1.length:Int)))=true→(0≤b∧b<(p1.length:Int)) then
 if (decide (b<(p1.length:Int)))=true→((ix p1 b)==a)=false→(0≤b∧b<(p1.length:Int)) then
 (bI ((decide (b<(p1.length:Int)))&&(!((ix p1 b)==a))) (Z23 (ix p1 b))).bind fun e =>
 (bI ((decide (b<(p1.length:Int)))&&((!((ix p1 b)==a))&&e)) (Z23 a)).bind fun g =>
 some (b,((decide (b<(p1.length:Int)))&&(((ix p1 b)==a)||(e&&g))))
 else none
 else none
def Z0k_L1 (p1:(List Int))(e:Int)(a:Int)(b:Int):Option ((Int×Int)⊕(Int)) :=
 if (decide (a<b))=true then (
 if (0≤(aG (((IntKind.wrap .u64 ((aG (a+b)))) / 2 ^ (1:Int).toNat)))∧(aG (((IntKind.wrap .u64 ((aG (a+b)))) / 2 ^ (1:Int).toNat)))<(p1.length:Int)) then
 (Z32 (ix p1 (aG (((IntKind.wrap .u64 ((aG (a+b)))) / 2 ^ (1:Int).toNat)))) e).bind fun g =>
 if g=true then (
 some (.inl ((aG ((aG (((IntKind.wrap .u64 ((aG (a+b)))) / 2 ^ (1:Int).toNat)))+1)),b)))
 else (
 some (.inl (a,(aG (((IntKind.wrap .u64 ((aG (a+b)))) / 2 ^ (1:Int).toNat))))))
 else none)
 else (
 some (.inr a))
def Z0k (p1:(List Int))(a:Int):Option (Int×Bool) :=
 (aU (fun s:Int×Int=>Z0k_L1 p1 a s.1 s.2) ((0:Int),(p1.length:Int))).bind fun e=>Z0k_J1 p1 a e
def Z1t (k1:Int)(a:(List Int)):Option (Bool) :=
 (Z0k a k1).bind fun b =>
 some b.2
def Z0e_J3 (a:(List Int)):Option ((List Int)) :=
 some a
def Z0e_J2 (b:(List Int))(e:Int)(a:Int)(g:Int):Option (((List Int)×Int×Int)⊕((List Int))) :=
 some (.inl ((b.set a.toNat e),g,(aG (a+1))))
def Z0e_L1 (h:Int)(i:(List Int))(e:(List Int))(b:Int)(a:Int):Option (((List Int)×Int×Int)⊕((List Int))) :=
 if (decide (a<((List.replicate h.toNat (0:Int)).length:Int)))=true then (
 if (0≤a∧a<((List.replicate h.toNat (0:Int)).length:Int)) then
 (Z1t a i).bind fun g =>
 if g=true then (
 Z0e_J2 e b a (aG (b+1)))
 else (
 Z0e_J2 e b a b)
 else none)
 else (
 some (.inr e))
def Z0e (a:Int)(b:(List Int)):Option ((List Int)) :=
 if (0≤a∧a≤140737488355328∧8*a≤281474976710656) then
 (aU (fun s:(List Int)×Int×Int=>Z0e_L1 a b s.1 s.2.1 s.2.2) ((List.replicate a.toNat (0:Int)),(0:Int),(0:Int))).bind fun e=>Z0e_J3 e
 else none
def Z33 (a:Node):Option (Bool) :=
 some ((a.Op==1)||(a.Op==2))
def Z01_J3:Option (Bool) :=
 some true
def Z01_J2 (a:Int):Option ((Int)⊕((Bool)⊕(Unit))) :=
 some (.inl (aG (a+1)))
def Z01_L2 (g1:Graph)(i:(List Int))(g:(List Int))(b:Int)(a:Int):Option ((Int)⊕((Bool)⊕(Unit))) :=
 if (decide (a<(((ix g1.Nodes b).Args).length:Int)))=true then (
 if (0≤a∧a<(((ix g1.Nodes b).Args).length:Int)) then
 if (0≤(ix ((ix g1.Nodes b).Args) a)∧(ix ((ix g1.Nodes b).Args) a)<(g.length:Int)) then
 if (0≤b∧b<(g.length:Int)) then
 (bI ((ix g (ix ((ix g1.Nodes b).Args) a)) != (ix g b)) (Z1t (ix ((ix g1.Nodes b).Args) a) i)).bind fun e =>
 if (((ix g (ix ((ix g1.Nodes b).Args) a)) != (ix g b))&&(!e))=true→(0≤(ix ((ix g1.Nodes b).Args) a)∧(ix ((ix g1.Nodes b).Args) a)<(g1.Nodes.length:Int)) then
 (bI (((ix g (ix ((ix g1.Nodes b).Args) a)) != (ix g b))&&(!e)) (Z33 (ix g1.Nodes (ix ((ix g1.Nodes b).Args) a)))).bind fun h =>
 if ((((ix g (ix ((ix g1.Nodes b).Args) a)) != (ix g b))&&(!e))&&(!h))=true then (
 some (.inr (.inl false)))
 else (
 some (.inl (aG (a+1))))
 else none
 else none
 else none
 else none)
 else (
 some (.inr (.inr ())))
def Z01_L1 (g1:Graph)(b:(List Int))(g:(List Int))(a:Int):Option ((Int)⊕((Bool)⊕(Unit))) :=
 if (decide (a<(g1.Nodes.length:Int)))=true then (
 if (0≤a∧a<(g1.Nodes.length:Int)) then
 (aU (fun s:Int=>Z01_L2 g1 b g a s) (0:Int)).bind fun e=>match e with
 | .inl e=>some (.inr (.inl e))
 | .inr e=>Z01_J2 a
 else none)
 else (
 some (.inr (.inr ())))
def Z01 (g1:Graph)(a:(List Int)):Option (Bool) :=
 (Z0e (g1.Nodes.length:Int) a).bind fun b =>
 (aU (fun s:Int=>Z01_L1 g1 a b s) (0:Int)).bind fun e=>match e with
 | .inl e=>some e
 | .inr e=>Z01_J3
def Z0v_J1 (g1:Graph)(a:(List Int)):Option (Bool) :=
 (Z35 a).bind fun b =>
 (Z01 g1 b).bind fun e =>
 some e
def Z0v_L1 (g1:Graph)(a:(List Int))(b:Int):Option ((Int)⊕((Bool)⊕(Unit))) :=
 if (decide (b<(a.length:Int)))=true then (
 if (0≤b∧b<(a.length:Int)) then
 if ((decide ((ix a b)<0))||(decide ((ix a b)≥(g1.Nodes.length:Int))))=false→(decide (b>0))=true→(0≤(aG (b - 1))∧(aG (b - 1))<(a.length:Int)) then
 if (((decide ((ix a b)<0))||(decide ((ix a b)≥(g1.Nodes.length:Int))))||((decide (b>0))&&(decide ((ix a (aG (b - 1)))≥(ix a b)))))=true then (
 some (.inr (.inl false)))
 else (
 some (.inl (aG (b+1))))
 else none
 else none)
 else (
 some (.inr (.inr ())))
def Z0v (g1:Graph)(a:(List Int)):Option (Bool) :=
 (Z2c g1).bind fun b =>
 if (!b)=true then (
 some false)
 else (
 (aU (fun s:Int=>Z0v_L1 g1 a s) (0:Int)).bind fun e=>match e with
 | .inl e=>some e
 | .inr e=>Z0v_J1 g1 a)
def Z3a (b:Graph)(a:(List Int)):Option (Bool) :=
 if (decide ((a.length:Int)>1048576))=true then (
 some true)
 else (
 (Z2v b (1048576:Int)).bind fun u =>
 if (decide (u<0))=true then (
 some true)
 else (
 (Z1r b).bind fun h =>
 (Ze a).bind fun i =>
 (Z2j h i).bind fun j =>
 (Z1r b).bind fun e =>
 (Ze a).bind fun g =>
 (Z0v e g).bind fun l =>
 if (!(l==j))=true then (
 some false)
 else (
 (Z1r b).bind fun m =>
 (Z2u e m).bind fun q =>
 if (!q)=true then (
 some false)
 else (
 (Ze a).bind fun r =>
 (Z07 g r).bind fun s =>
 if (!s)=true then (
 some false)
 else (
 some true)))))
end
end Go.Proofs.YtmpnollfdpdipaaGreat
