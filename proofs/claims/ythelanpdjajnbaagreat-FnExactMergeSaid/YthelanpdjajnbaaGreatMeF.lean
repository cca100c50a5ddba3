import Derived.Test.YthelanpdjajnbaaGreatMeH
set_option linter.unusedVariables false
namespace Go.Proofs.YthelanpdjajnbaaGreat
open Go Go.Pg
noncomputable section
def Z1n (a1:(List Int))(a:Int):Option (Int) :=
 if (decide ((aK (a - (a1.length:Int)))<0))=true then (
 some (-1:Int))
 else (
 some (aK (a - (a1.length:Int))))
def Z2r (a1:Node)(a:Int):Option (Int) :=
 (Z1n a1.Args a).bind fun h =>
 if (decide (h<0))=true then (
 some (-1:Int))
 else (
 (Z1n a1.Dims h).bind fun e =>
 if (decide (e<0))=true then (
 some (-1:Int))
 else (
 (Z1n a1.Ints e).bind fun b =>
 if (decide (b<0))=true then (
 some (-1:Int))
 else (
 if (decide ((aK (b - (a1.Form.length:Int)))<0))=true then (
 some (-1:Int))
 else (
 (Z1n a1.Data (aK (b - (a1.Form.length:Int)))).bind fun g =>
 if (decide (g<0))=true then (
 some (-1:Int))
 else (
 some g)))))
def Z1e_J1 (a:Int):Option (Int) :=
 some a
def Z1e_L1 (a1:(List Node))(a:Int)(b:Int):Option ((Int×Int)⊕((Int)⊕(Int))) :=
 if (decide (b<(a1.length:Int)))=true then (
 if (0≤b∧b<(a1.length:Int)) then
 (Z2r (ix a1 b) a).bind fun e =>
 if (decide (e<0))=true then (
 some (.inr (.inl (-1:Int))))
 else (
 some (.inl (e,(aK (b+1)))))
 else none)
 else (
 some (.inr (.inr a)))
def Z1e (a1:(List Node))(a:Int):Option (Int) :=
 if (decide ((aK (a - (a1.length:Int)))<0))=true then (
 some (-1:Int))
 else (
 (aU (fun s:Int×Int=>Z1e_L1 a1 s.1 s.2) ((aK (a - (a1.length:Int))),(0:Int))).bind fun e=>match e with
 | .inl e=>some e
 | .inr e=>Z1e_J1 e)
def Z2d (a1:Graph)(a:Int):Option (Int) :=
 (Z1e a1.Nodes a).bind fun b =>
 if (decide (b<0))=true then (
 some (-1:Int))
 else (
 (Z1n a1.Outs b).bind fun e =>
 if (decide (e<0))=true then (
 some (-1:Int))
 else (
 some e))
def Z0a_J1 (a:(List Int)):Option ((List Int)) :=
 some a
def Z0a_L1 (a1:(List Int))(b:(List Int))(a:Int):Option (((List Int)×Int)⊕((List Int))) :=
 if (decide (a<(a1.length:Int)))=true then (
 if (0≤a∧a<(a1.length:Int)) then
 if (0≤a∧a<((List.replicate (a1.length:Int).toNat (0:Int)).length:Int)) then
 some (.inl ((b.set a.toNat (ix a1 a)),(aK (a+1))))
 else none
 else none)
 else (
 some (.inr b))
def Z0a (a1:(List Int)):Option ((List Int)) :=
 if (0≤(a1.length:Int)∧(a1.length:Int)≤140737488355328∧8*(a1.length:Int)≤281474976710656) then
 (aU (fun s:(List Int)×Int=>Z0a_L1 a1 s.1 s.2) ((List.replicate (a1.length:Int).toNat (0:Int)),(0:Int))).bind fun e=>Z0a_J1 e
 else none
def Z34 (a1:Node):Option (Node) :=
 (Z0a a1.Args).bind fun g =>
 (Z0a a1.Dims).bind fun a =>
 (Z0a a1.Ints).bind fun b =>
 (Z0a a1.Data).bind fun e =>
 some (⟨a1.Op,g,a,b,a1.Form,e⟩:Node)
def Z0x_J1 (a:(List Node)):Option ((List Node)) :=
 some a
def Z0x_L1 (a1:(List Node))(b:(List Node))(a:Int):Option (((List Node)×Int)⊕((List Node))) :=
 if (decide (a<(a1.length:Int)))=true then (
 if (0≤a∧a<(a1.length:Int)) then
 (Z34 (ix a1 a)).bind fun e =>
 if (0≤a∧a<((List.replicate (a1.length:Int).toNat zT65.z).length:Int)) then
 some (.inl ((b.set a.toNat e),(aK (a+1))))
 else none
 else none)
 else (
 some (.inr b))
def Z0x (a1:(List Node)):Option ((List Node)) :=
 if (0≤(a1.length:Int)∧(a1.length:Int)≤140737488355328∧120*(a1.length:Int)≤281474976710656) then
 (aU (fun s:(List Node)×Int=>Z0x_L1 a1 s.1 s.2) ((List.replicate (a1.length:Int).toNat zT65.z),(0:Int))).bind fun e=>Z0x_J1 e
 else none
def Z09 (a1:Graph):Option (Graph) :=
 (Z0x a1.Nodes).bind fun b =>
 (Z0a a1.Outs).bind fun a =>
 some (⟨b,a⟩:Graph)
def Z36 (a:Int):Option (Int×Int) :=
 if (decide (a≤2))=true then (
 some ((0:Int),(0:Int)))
 else (
 if (decide (a≤5))=true then (
 some ((2:Int),(2:Int)))
 else (
 if (a==11)=true then (
 some ((1:Int),(6:Int)))
 else (
 some ((1:Int),(1:Int)))))
def Z3h (a:Int):Option (Bool) :=
 some ((((a==1)||(a==2))||(a==12))||(a==13))
def Z1g_J2 (a:Bool):Option (Int) :=
 if a=true then (
 some (3:Int))
 else (
 some (0:Int))
def Z1g_J1 (a:Int)(b:Bool):Option (Int) :=
 if b=true then (
 some (4:Int))
 else (
 if (a==16)=true then (
 some (1:Int))
 else (
 if (a==17)=true then (
 some (2:Int))
 else (
 if (a==18)=true then (
 Z1g_J2 (a==18))
 else (
 Z1g_J2 (a==19)))))
def Z1g (a:Int):Option (Int) :=
 if (a==10)=true then (
 some (1:Int))
 else (
 if (a==14)=true then (
 Z1g_J1 a (a==14))
 else (
 Z1g_J1 a (a==15)))
def Z1d (a:Node):Option (Bool) :=
 if ((decide (a.Op<1))||(decide (a.Op>19)))=true then (
 some false)
 else (
 (Z36 a.Op).bind fun g =>
 if ((decide ((a.Args.length:Int)<g.1))||(decide ((a.Args.length:Int)>g.2)))=true then (
 some false)
 else (
 (Z3h a.Op).bind fun e =>
 if ((((!e)&&(decide ((a.Dims.length:Int)>0)))||((a.Op != 11)&&(!(a.Form==([]:aP)))))||((a.Op != 2)&&(decide ((a.Data.length:Int)>0))))=true then (
 some false)
 else (
 (Z1g a.Op).bind fun b =>
 if ((a.Op==16)||(a.Op==17))=true then (
 some ((decide ((a.Ints.length:Int)≥b))&&(decide ((a.Ints.length:Int)≤(aK (b+4096))))))
 else (
 some ((a.Ints.length:Int)==b)))))
def Z0m_J1:Option (Bool) :=
 some true
def Z0m_L1 (a:(List Int))(e:Int)(b:Int):Option ((Int)⊕((Bool)⊕(Unit))) :=
 if (decide (b<(a.length:Int)))=true then (
 if (0≤b∧b<(a.length:Int)) then
 if ((decide ((ix a b)<0))||(decide ((ix a b)≥e)))=true then (
 some (.inr (.inl false)))
 else (
 some (.inl (aK (b+1))))
 else none)
 else (
 some (.inr (.inr ())))
def Z0m (a:(List Int))(b:Int):Option (Bool) :=
 (aU (fun s:Int=>Z0m_L1 a b s) (0:Int)).bind fun e=>match e with
 | .inl e=>some e
 | .inr e=>Z0m_J1
def Zu_J1 (a:Int):Option (Int) :=
 some a
def Zu_L1 (a:(List Int))(e:Int)(b:Int):Option ((Int×Int)⊕((Int)⊕(Int))) :=
 if (decide (b<(a.length:Int)))=true then (
 if (0≤b∧b<(a.length:Int)) then
 if ((decide ((ix a b)<1))||(decide ((ix a b)>4096)))=true then (
 some (.inr (.inl (0:Int))))
 else (
 if (decide ((aK (e*(ix a b)))>4096))=true then (
 some (.inr (.inl (0:Int))))
 else (
 some (.inl ((aK (e*(ix a b))),(aK (b+1))))))
 else none)
 else (
 some (.inr (.inr e)))
def Zu (a:(List Int)):Option (Int) :=
 (aU (fun s:Int×Int=>Zu_L1 a s.1 s.2) ((1:Int),(0:Int))).bind fun e=>match e with
 | .inl e=>some e
 | .inr e=>Zu_J1 e
def Zp (a:(List Int)):Option (Bool) :=
 (bT (decide ((a.length:Int)≤6)) (Zu a)).bind fun b =>
 some ((decide ((a.length:Int)≤6))&&(decide (b>0)))
def Zs_J1:Option (Bool) :=
 some true
def Zs_L1 (t1:Tensor)(a:Int):Option ((Int)⊕((Bool)⊕(Unit))) :=
 if (decide (a<(t1.Data.length:Int)))=true then (
 if (0≤a∧a<(t1.Data.length:Int)) then
 if ((decide ((ix t1.Data a)<0))||(decide ((ix t1.Data a)≥2147483647)))=true then (
 some (.inr (.inl false)))
 else (
 some (.inl (aK (a+1))))
 else none)
 else (
 some (.inr (.inr ())))
def Zs (t1:Tensor):Option (Bool) :=
 (Zp t1.Dims).bind fun a =>
 (bT (!(!a)) (Zu t1.Dims)).bind fun b =>
 if ((!a)||((t1.Data.length:Int) != b))=true then (
 some false)
 else (
 (aU (fun s:Int=>Zs_L1 t1 s) (0:Int)).bind fun e=>match e with
 | .inl e=>some e
 | .inr e=>Zs_J1)
def Ze (a1:(List Int)):Option ((List Int)) :=
 if ([]:List Int).length+a1.length≤17592186044416 then
 some (([]:List Int)++a1)
 else none
def Zw_J1:Option (Bool) :=
 some true
def Zw_L1 (a1:(List Int))(b:(List Int))(a:Int):Option ((Int)⊕((Bool)⊕(Unit))) :=
 if (decide (a<(a1.length:Int)))=true then (
 if (0≤a∧a<(a1.length:Int)) then
 if (0≤a∧a<(b.length:Int)) then
 if ((ix a1 a) != (ix b a))=true then (
 some (.inr (.inl false)))
 else (
 some (.inl (aK (a+1))))
 else none
 else none)
 else (
 some (.inr (.inr ())))
def Zw (a1:(List Int))(a:(List Int)):Option (Bool) :=
 if ((a1.length:Int) != (a.length:Int))=true then (
 some false)
 else (
 (aU (fun s:Int=>Zw_L1 a1 a s) (0:Int)).bind fun e=>match e with
 | .inl e=>some e
 | .inr e=>Zw_J1)
def Z2h (a:(List Int))(b:Int):Option (Int) :=
 if (decide (b≥(a.length:Int)))=true then (
 some (1:Int))
 else (
 if (0≤(aK ((aK ((a.length:Int) - 1)) - b))∧(aK ((aK ((a.length:Int) - 1)) - b))<(a.length:Int)) then
 some (ix a (aK ((aK ((a.length:Int) - 1)) - b)))
 else none)
def Z01_J4 (a:(List Int)):Option ((List Int)) :=
 (Zp a).bind fun b =>
 if (!b)=true then (
 some ([]:List Int))
 else (
 some a)
def Z01_J3 (b:Int)(e:(List Int))(a:Int)(g:Int):Option (((List Int)×Int)⊕(((List Int))⊕((List Int)))) :=
 if (0≤(aK ((aK (b - 1)) - a))∧(aK ((aK (b - 1)) - a))<((List.replicate b.toNat (0:Int)).length:Int)) then
 some (.inl ((e.set (aK ((aK (b - 1)) - a)).toNat g),(aK (a+1))))
 else none
def Z01_L1 (a1:(List Int))(i:(List Int))(g:Int)(h:(List Int))(a:Int):Option (((List Int)×Int)⊕(((List Int))⊕((List Int)))) :=
 if (decide (a<g))=true then (
 (Z2h a1 a).bind fun b =>
 (Z2h i a).bind fun e =>
 if (((b != e)&&(b != 1))&&(e != 1))=true then (
 some (.inr (.inl ([]:List Int))))
 else (
 if (decide (e>b))=true then (
 Z01_J3 g h a e)
 else (
 Z01_J3 g h a b)))
 else (
 some (.inr (.inr h)))
def Z01_J1 (a1:(List Int))(b:(List Int))(a:Int):Option ((List Int)) :=
 if (0≤a∧a≤140737488355328∧8*a≤281474976710656) then
 (aU (fun s:(List Int)×Int=>Z01_L1 a1 b a s.1 s.2) ((List.replicate a.toNat (0:Int)),(0:Int))).bind fun e=>match e with
 | .inl e=>some e
 | .inr e=>Z01_J4 e
 else none
def Z01 (a1:(List Int))(a:(List Int)):Option ((List Int)) :=
 (Zp a1).bind fun b =>
 (bT (!(!b)) (Zp a)).bind fun e =>
 if ((!b)||(!e))=true then (
 some ([]:List Int))
 else (
 if (decide ((a.length:Int)>(a1.length:Int)))=true then (
 Z01_J1 a1 a (a.length:Int))
 else (
 Z01_J1 a1 a (a1.length:Int)))
def Z0k (a:(List Int)):Option (Tensor) :=
 (Ze a).bind fun e =>
 (Zu a).bind fun b =>
 if (0≤b∧b≤140737488355328∧8*b≤281474976710656) then
 some (⟨e,(List.replicate b.toNat (0:Int))⟩:Tensor)
 else none
def Zl_J1 (a:(List Int)):Option ((List Int)) :=
 some a
def Zl_L1 (a:(List Int))(e:Int)(g:(List Int))(b:Int):Option ((Int×(List Int)×Int)⊕((List Int))) :=
 if (decide (b≥0))=true then (
 if (0≤b∧b<(a.length:Int)) then
 if (ix a b)≠0 then
 if (0≤b∧b<((List.replicate (a.length:Int).toNat (0:Int)).length:Int)) then
 some (.inl ((aK (e.tdiv (ix a b))),(g.set b.toNat (e.tmod (ix a b))),(aK (b - 1))))
 else none
 else none
 else none)
 else (
 some (.inr g))
def Zl (a:(List Int))(b:Int):Option ((List Int)) :=
 if (0≤(a.length:Int)∧(a.length:Int)≤140737488355328∧8*(a.length:Int)≤281474976710656) then
 (aU (fun s:Int×(List Int)×Int=>Zl_L1 a s.1 s.2.1 s.2.2) (b,(List.replicate (a.length:Int).toNat (0:Int)),(aK ((a.length:Int) - 1)))).bind fun e=>Zl_J1 e
 else none
def Z0w_J1 (a:Int):Option (Int) :=
 some a
def Z0w_L1 (b:(List Int))(e:(List Int))(g:Int)(a:Int):Option ((Int×Int)⊕(Int)) :=
 if (decide (a<(b.length:Int)))=true then (
 if (0≤a∧a<(b.length:Int)) then
 if (0≤a∧a<(e.length:Int)) then
 some (.inl ((aK ((aK (g*(ix b a)))+(ix e a))),(aK (a+1))))
 else none
 else none)
 else (
 some (.inr g))
def Z0w (b:(List Int))(a:(List Int)):Option (Int) :=
 (aU (fun s:Int×Int=>Z0w_L1 b a s.1 s.2) ((0:Int),(0:Int))).bind fun e=>Z0w_J1 e
def Z1c (t1:Tensor)(a:(List Int)):Option (Int) :=
 (Z0w t1.Dims a).bind fun b =>
 if (0≤b∧b<(t1.Data.length:Int)) then
 some (ix t1.Data b)
 else none
def Z0c_J3 (t1:Tensor)(b:(List Int)):Option (Int) :=
 (Z1c t1 b).bind fun a =>
 some a
def Z0c_J2 (a:(List Int))(e:Int)(b:Int):Option (((List Int)×Int)⊕((List Int))) :=
 if a.length+([b]:List Int).length≤17592186044416 then
 some (.inl ((a++([b]:List Int)),(aK (e+1))))
 else none
def Z0c_L1 (t1:Tensor)(a:(List Int))(e:(List Int))(b:Int):Option (((List Int)×Int)⊕((List Int))) :=
 if (decide (b<(t1.Dims.length:Int)))=true then (
 if (0≤(aK ((aK ((a.length:Int) - (t1.Dims.length:Int)))+b))∧(aK ((aK ((a.length:Int) - (t1.Dims.length:Int)))+b))<(a.length:Int)) then
 if (0≤b∧b<(t1.Dims.length:Int)) then
 if ((ix t1.Dims b)==1)=true then (
 Z0c_J2 e b (0:Int))
 else (
 Z0c_J2 e b (ix a (aK ((aK ((a.length:Int) - (t1.Dims.length:Int)))+b))))
 else none
 else none)
 else (
 some (.inr e))
def Z0c (t1:Tensor)(a:(List Int)):Option (Int) :=
 (aU (fun s:(List Int)×Int=>Z0c_L1 t1 a s.1 s.2) (([]:List Int),(0:Int))).bind fun e=>Z0c_J3 t1 e
def Zq_J1 (a:Int):Option (Int) :=
 some a
def Zq (p1:Int):Option (Int) :=
 if (decide ((p1.tmod (2147483647:Int))<0))=true then (
 Zq_J1 (aK ((p1.tmod (2147483647:Int))+2147483647)))
 else (
 Zq_J1 (p1.tmod (2147483647:Int)))
def Z1k (a1:Int):Option (Int) :=
 (Zq a1).bind fun a =>
 if (decide (a>1073741823))=true then (
 some (aK (a - 2147483647)))
 else (
 some a)
def Z1s (a1:Int)(a:Int):Option (Int) :=
 (Zq a1).bind fun b =>
 (Zq a).bind fun e =>
 (Zq (aK (b+e))).bind fun g =>
 some g
def Z2f (a1:Int)(a:Int):Option (Int) :=
 (Zq a1).bind fun b =>
 (Zq a).bind fun e =>
 (Zq (aK (b - e))).bind fun g =>
 some g
def Z1l (a1:Int)(a:Int):Option (Int) :=
 (Zq a1).bind fun b =>
 (Zq a).bind fun e =>
 (Zq (aK (b*e))).bind fun g =>
 some g
def Zt_J1 (a:Int):Option (Int) :=
 some a
def Zt_S (h:Int→Int→Option (Int))(a1:Int)(a:Int):Option (Int) :=
 if (a==0)=true then (
 some (1:Int))
 else (
 (h a1 (aK (a.tdiv (2:Int)))).bind fun b =>
 (Z1l b b).bind fun e =>
 if ((a.tmod (2:Int))==1)=true then (
 (Z1l e a1).bind fun g =>
 Zt_J1 g)
 else (
 Zt_J1 e))
def Zt_R:Nat→Int→Int→Option (Int)
 | 0=>fun _ _=>none
 | n+1=>Zt_S (Zt_R n)
def Zt (a1:Int)(a:Int):Option (Int):=Zt_R oa a1 a
def Z2e (a1:Int):Option (Int) :=
 (Zq a1).bind fun a =>
 (Zt a (2147483645:Int)).bind fun b =>
 some b
def Z3y (a1:Int)(a:Int):Option (Int) :=
 (Z2e a).bind fun b =>
 (Z1l a1 b).bind fun e =>
 some e
def Z1t_J1 (a:Bool):Option (Int) :=
 if a=true then (
 some (1:Int))
 else (
 some (0:Int))
def Z1t (a:Int)(b:Int)(e:Int):Option (Int) :=
 (Z1k b).bind fun j =>
 (Z1k e).bind fun l =>
 if (a==1)=true then (
 (Z1s b e).bind fun m =>
 some m)
 else (
 if (a==2)=true then (
 (Z2f b e).bind fun g =>
 some g)
 else (
 if (a==3)=true then (
 (Z1l b e).bind fun h =>
 some h)
 else (
 if (a==4)=true then (
 (Z3y b e).bind fun i =>
 some i)
 else (
 if (a==5)=true then (
 if (decide (j<l))=true then (
 some e)
 else (
 some b))
 else (
 if (a==6)=true then (
 if (decide (j<l))=true then (
 some b)
 else (
 some e))
 else (
 if (a==7)=true then (
 Z1t_J1 (decide (j<l)))
 else (
 if (a==8)=true then (
 Z1t_J1 (b==e))
 else (
 Z1t_J1 false))))))))
def Z19_J1 (a:Tensor)(b:(List Int)):Option (Tensor) :=
 some (⟨a.Dims,b⟩:Tensor)
def Z19_L1 (h:Int)(q:Tensor)(r:Tensor)(i:(List Int))(b:Tensor)(g:(List Int))(a:Int):Option (((List Int)×Int)⊕((List Int))) :=
 if (decide (a<(b.Data.length:Int)))=true then (
 (Zl i a).bind fun e =>
 (Z0c q e).bind fun j =>
 (Z0c r e).bind fun l =>
 (Z1t h j l).bind fun m =>
 if (0≤a∧a<(b.Data.length:Int)) then
 some (.inl ((g.set a.toNat m),(aK (a+1))))
 else none)
 else (
 some (.inr g))
def Z19 (b:Int)(i:Tensor)(j:Tensor):Option (Tensor) :=
 (Zs i).bind fun h =>
 (bT (!(!h)) (Zs j)).bind fun l =>
 if ((((!h)||(!l))||(decide (b<1)))||(decide (b>8)))=true then (
 some (⟨([]:List Int),([]:List Int)⟩:Tensor))
 else (
 (Z01 i.Dims j.Dims).bind fun a =>
 if ((decide ((a.length:Int)<(i.Dims.length:Int)))||(decide ((a.length:Int)<(j.Dims.length:Int))))=true then (
 some (⟨([]:List Int),([]:List Int)⟩:Tensor))
 else (
 (Z0k a).bind fun g =>
 (aU (fun s:(List Int)×Int=>Z19_L1 b i j a g s.1 s.2) (g.Data,(0:Int))).bind fun e=>Z19_J1 g e))
def Z35 (a:Int)(b:Int):Option (Int) :=
 if (a==1)=true then (
 (Z2f (0:Int) b).bind fun e =>
 some e)
 else (
 if (a==2)=true then (
 (Z2e b).bind fun g =>
 some g)
 else (
 (Z1k b).bind fun h =>
 if (decide (h≤0))=true then (
 some (0:Int))
 else (
 if (a==3)=true then (
 some (1:Int))
 else (
 some b))))
def Z18_J1 (a:Tensor)(b:(List Int)):Option (Tensor) :=
 some (⟨a.Dims,b⟩:Tensor)
def Z18_L1 (e:Int)(i:Tensor)(g:Tensor)(b:(List Int))(a:Int):Option (((List Int)×Int)⊕((List Int))) :=
 if (decide (a<(i.Data.length:Int)))=true then (
 if (0≤a∧a<(i.Data.length:Int)) then
 (Z35 e (ix i.Data a)).bind fun h =>
 if (0≤a∧a<(g.Data.length:Int)) then
 some (.inl ((b.set a.toNat h),(aK (a+1))))
 else none
 else none)
 else (
 some (.inr b))
def Z18 (a:Int)(g:Tensor):Option (Tensor) :=
 (Zs g).bind fun h =>
 if (((!h)||(decide (a<1)))||(decide (a>4)))=true then (
 some (⟨([]:List Int),([]:List Int)⟩:Tensor))
 else (
 (Z0k g.Dims).bind fun b =>
 (aU (fun s:(List Int)×Int=>Z18_L1 a g b s.1 s.2) (b.Data,(0:Int))).bind fun e=>Z18_J1 b e)
def Z1m (t1:Tensor)(a:Int):Option (Bool) :=
 (Zs t1).bind fun b =>
 some ((b&&(decide (a≥0)))&&(decide (a<(t1.Dims.length:Int))))
def Z0l (a1:(List Int))(a:Int)(e:Int):Option ((List Int)) :=
 (Ze a1).bind fun b =>
 if (0≤a∧a<(b.length:Int)) then
 some (b.set a.toNat e)
 else none
def Z15_J1 (a:(List Int)):Option ((List Int)) :=
 some a
def Z15_L1 (t1:Tensor)(a:Int)(i:(List Int))(e:(List Int))(b:Int):Option (((List Int)×Int)⊕((List Int))) :=
 if (0≤a∧a<(t1.Dims.length:Int)) then
 if (decide (b<(ix t1.Dims a)))=true then (
 (Z0l i a b).bind fun h =>
 (Z1c t1 h).bind fun g =>
 if e.length+([g]:List Int).length≤17592186044416 then
 some (.inl ((e++([g]:List Int)),(aK (b+1))))
 else none)
 else (
 some (.inr e))
 else none
def Z15 (t1:Tensor)(a:Int)(b:(List Int)):Option ((List Int)) :=
 (aU (fun s:(List Int)×Int=>Z15_L1 t1 a b s.1 s.2) (([]:List Int),(0:Int))).bind fun e=>Z15_J1 e
def Zd_J9 (b:Tensor)(a:(List Int)):Option (Tensor) :=
 some (⟨b.Dims,a⟩:Tensor)
def Zd_J8 (b:Int)(a:(List Int)):Option (((List Int)×Int)⊕((List Int))) :=
 some (.inl (a,(aK (b+1))))
def Zd_J7 (g:Tensor)(e:(List Int))(b:Int)(a:Bool):Option (((List Int)×Int)⊕((List Int))) :=
 if a=true then (
 if (0≤b∧b<(g.Data.length:Int)) then
 Zd_J8 b (e.set b.toNat (1:Int))
 else none)
 else (
 Zd_J8 b e)
def Zd_J6 (b:Int)(a:Bool):Option ((Bool×Int)⊕(Bool)) :=
 some (.inl (a,(aK (b+1))))
def Zd_L2 (t1:Tensor)(e:Int)(i:Int)(l:(List Int))(j:(List Int))(b:Bool)(a:Int):Option ((Bool×Int)⊕(Bool)) :=
 if (decide (a<(j.length:Int)))=true then (
 if (0≤a∧a<(j.length:Int)) then
 (Z1k (ix j a)).bind fun g =>
 if (0≤i∧i<(t1.Data.length:Int)) then
 (Z1k (ix t1.Data i)).bind fun h =>
 if (decide (g>h))=false→(g==h)=true→(0≤e∧e<(l.length:Int)) then
 if ((decide (g>h))||((g==h)&&(decide (a<(ix l e)))))=true then (
 Zd_J6 a false)
 else (
 Zd_J6 a b)
 else none
 else none
 else none)
 else (
 some (.inr b))
def Zd_L1 (t1:Tensor)(a:Int)(i:Tensor)(h:(List Int))(b:Int):Option (((List Int)×Int)⊕((List Int))) :=
 if (decide (b<(t1.Data.length:Int)))=true then (
 (Zl t1.Dims b).bind fun g =>
 (Z15 t1 a g).bind fun j =>
 (aU (fun s:Bool×Int=>Zd_L2 t1 a b g j s.1 s.2) (true,(0:Int))).bind fun e=>Zd_J7 i h b e)
 else (
 some (.inr h))
def Zd (t1:Tensor)(a:Int):Option (Tensor) :=
 (Z1m t1 a).bind fun g =>
 if (!g)=true then (
 some (⟨([]:List Int),([]:List Int)⟩:Tensor))
 else (
 (Z0k t1.Dims).bind fun b =>
 (aU (fun s:(List Int)×Int=>Zd_L1 t1 a b s.1 s.2) (b.Data,(0:Int))).bind fun e=>Zd_J9 b e)
def Z14_J1 (p1:aP):Option (Bool) :=
 some (decide ((p1.length:Int)≤6))
def Z14_L1 (p1:aP)(a:Int):Option ((Int)⊕((Bool)⊕(Unit))) :=
 if (decide (a<(p1.length:Int)))=true then (
 if (0≤a∧a<(p1.length:Int)) then
 if ((decide ((bt p1 a)<97))||(decide ((bt p1 a)>122)))=true then (
 some (.inr (.inl false)))
 else (
 some (.inl (aK (a+1))))
 else none)
 else (
 some (.inr (.inr ())))
def Z14 (p1:aP):Option (Bool) :=
 (aU (fun s:Int=>Z14_L1 p1 s) (0:Int)).bind fun e=>match e with
 | .inl e=>some e
 | .inr e=>Z14_J1 p1
def Z13_J1:Option (Bool) :=
 some false
def Z13_L1 (p1:aP)(b:Int)(a:Int):Option ((Int)⊕((Bool)⊕(Unit))) :=
 if (decide (a<(p1.length:Int)))=true then (
 if (0≤a∧a<(p1.length:Int)) then
 if ((bt p1 a)==b)=true then (
 some (.inr (.inl true)))
 else (
 some (.inl (aK (a+1))))
 else none)
 else (
 some (.inr (.inr ())))
def Z13 (p1:aP)(a:Int):Option (Bool) :=
 (aU (fun s:Int=>Z13_L1 p1 a s) (0:Int)).bind fun e=>match e with
 | .inl e=>some e
 | .inr e=>Z13_J1
def Z1_J8 (b:aP)(e:Int)(a:(List aP)):Option ((List aP)×aP×Bool) :=
 some (a,(sub b (aK (e+2)) (b.length:Int)),true)
def Z1_J7 (a:aP)(g:Int)(b:Int)(e:Bool):Option ((Int)⊕(((List aP)×aP×Bool)⊕(Unit))) :=
 if (!e)=false→(0≤(0:Int)∧(0:Int)≤b∧b≤((sub a (aK (g+2)) (a.length:Int)).length:Int)) then
 if (!e)=false→(0≤b∧b<((sub a (aK (g+2)) (a.length:Int)).length:Int)) then
 (bT (!(!e)) (Z13 (sub (sub a (aK (g+2)) (a.length:Int)) (0:Int) b) (bt (sub a (aK (g+2)) (a.length:Int)) b))).bind fun h =>
 if ((!e)||h)=true then (
 some (.inr (.inl (([]:List aP),([]:aP),false))))
 else (
 some (.inl (aK (b+1))))
 else none
 else none
def Z1_L5 (b:aP)(j:Int)(a:(List aP))(h:Int)(g:Bool)(e:Int):Option ((Bool×Int)⊕(Bool)) :=
 if (decide (e<(a.length:Int)))=true then (
 if g=false→(0≤e∧e<(a.length:Int)) then
 if g=false→(0≤h∧h<((sub b (aK (j+2)) (b.length:Int)).length:Int)) then
 (bT (!g) (Z13 (ix a e) (bt (sub b (aK (j+2)) (b.length:Int)) h))).bind fun i =>
 some (.inl ((g||i),(aK (e+1))))
 else none
 else none)
 else (
 some (.inr g))
def Z1_L4 (a:aP)(h:Int)(b:(List aP))(g:Int):Option ((Int)⊕(((List aP)×aP×Bool)⊕(Unit))) :=
 if (decide (g<((sub a (aK (h+2)) (a.length:Int)).length:Int)))=true then (
 (aU (fun s:Bool×Int=>Z1_L5 a h b g s.1 s.2) (false,(0:Int))).bind fun e=>Z1_J7 a h g e)
 else (
 some (.inr (.inr ())))
def Z1_J5 (b:aP)(g:Int)(a:(List aP)):Option ((List aP)×aP×Bool) :=
 (aU (fun s:Int=>Z1_L4 b g a s) (0:Int)).bind fun e=>match e with
 | .inl e=>some e
 | .inr e=>Z1_J8 b g a
def Z1_L3 (a:(List aP))(b:Int):Option ((Int)⊕(((List aP)×aP×Bool)⊕(Unit))) :=
 if (decide (b<(a.length:Int)))=true then (
 if (0≤b∧b<(a.length:Int)) then
 (Z14 (ix a b)).bind fun e =>
 if (!e)=true then (
 some (.inr (.inl (([]:List aP),([]:aP),false))))
 else (
 some (.inl (aK (b+1))))
 else none)
 else (
 some (.inr (.inr ())))
def Z1_J4 (b:aP)(g:Int)(a:(List aP)):Option ((List aP)×aP×Bool) :=
 if (0≤(aK (g+2))∧(aK (g+2))≤(b.length:Int)∧(b.length:Int)≤(b.length:Int)) then
 (bT (!(decide ((a.length:Int)>6))) (Z14 (sub b (aK (g+2)) (b.length:Int)))).bind fun h =>
 if ((decide ((a.length:Int)>6))||(!h))=true then (
 some (([]:List aP),([]:aP),false))
 else (
 (aU (fun s:Int=>Z1_L3 a s) (0:Int)).bind fun e=>match e with
 | .inl e=>some e
 | .inr e=>Z1_J5 b g a)
 else none
def Z1_J3 (b:Int)(a:(List aP))(e:Int):Option (((List aP)×Int×Int)⊕((List aP))) :=
 some (.inl (a,e,(aK (b+1))))
def Z1_L2 (e:aP)(h:Int)(a:(List aP))(g:Int)(b:Int):Option (((List aP)×Int×Int)⊕((List aP))) :=
 if (decide (b≤h))=true then (
 if (b==h)=false→(0≤b∧b<(e.length:Int)) then
 if ((b==h)||((bt e b)==44))=true then (
 if (0≤g∧g≤b∧b≤(e.length:Int)) then
 if a.length+([(sub e g b)]:List aP).length≤8796093022208 then
 Z1_J3 b (a++([(sub e g b)]:List aP)) (aK (b+1))
 else none
 else none)
 else (
 Z1_J3 b a g)
 else none)
 else (
 some (.inr a))
def Z1_J1 (a:aP)(b:Int):Option ((List aP)×aP×Bool) :=
 if (decide ((aK (b+1))≥(a.length:Int)))=true then (
 some (([]:List aP),([]:aP),false))
 else (
 (aU (fun s:(List aP)×Int×Int=>Z1_L2 a b s.1 s.2.1 s.2.2) (([]:List aP),(0:Int),(0:Int))).bind fun e=>Z1_J4 a b e)
def Z1_L1 (a:aP)(b:Int):Option ((Int)⊕(Int)) :=
 if (decide ((aK (b+1))<(a.length:Int)))=true→(0≤b∧b≤(aK (b+2))∧(aK (b+2))≤(a.length:Int)) then
 if ((decide ((aK (b+1))<(a.length:Int)))&&(!((sub a b (aK (b+2)))==str0)))=true then (
 some (.inl (aK (b+1))))
 else (
 some (.inr b))
 else none
def Z1 (a:aP):Option ((List aP)×aP×Bool) :=
 (aU (fun s:Int=>Z1_L1 a s) (0:Int)).bind fun e=>Z1_J1 a e
def Z3_J12 (b:aP)(a:(List Int)):Option (aP×(List Int)×Bool) :=
 some (b,a,true)
def Z3_L4 (a:(List Int))(e:Int)(b:Int):Option ((Int×Int)⊕((aP×(List Int)×Bool)⊕(Unit))) :=
 if (decide (b<(a.length:Int)))=true then (
 if (0≤b∧b<(a.length:Int)) then
 if (decide ((aK (e*(ix a b)))>65536))=true then (
 some (.inr (.inl (([]:aP),a,false))))
 else (
 some (.inl ((aK (e*(ix a b))),(aK (b+1)))))
 else none)
 else (
 some (.inr (.inr ())))
def Z3_J11 (b:aP)(a:(List Int)):Option (aP×(List Int)×Bool) :=
 (aU (fun s:Int×Int=>Z3_L4 a s.1 s.2) ((1:Int),(0:Int))).bind fun e=>match e with
 | .inl e=>some e
 | .inr e=>Z3_J12 b a
def Z3_J10 (e:Int)(b:aP)(a:(List Int)):Option ((aP×(List Int)×Int)⊕((aP×(List Int)×Bool)⊕(aP×(List Int)))) :=
 some (.inl (b,a,(aK (e+1))))
def Z3_J9 (g:(List (List Int)))(i:Int)(b:Int)(e:Int)(h:aP)(a:(List Int)):Option ((aP×(List Int)×Int)⊕((aP×(List Int)×Bool)⊕(aP×(List Int)))) :=
 if (0≤e∧e<(a.length:Int)) then
 if ((ix a e) != 0)=true→(0≤b∧b<((ix g i).length:Int)) then
 if (((ix a e) != 0)&&((ix a e) != (ix (ix g i) b)))=true then (
 some (.inr (.inl (([]:aP),a,false))))
 else (
 if (0≤b∧b<((ix g i).length:Int)) then
 some (.inl (h,(a.set e.toNat (ix (ix g i) b)),(aK (b+1))))
 else none)
 else none
 else none
def Z3_J8 (g:(List aP))(i:(List (List Int)))(h:Int)(a:aP)(b:(List Int))(e:Int)(j:Int):Option ((aP×(List Int)×Int)⊕((aP×(List Int)×Bool)⊕(aP×(List Int)))) :=
 if (j==(a.length:Int))=true then (
 if (0≤e∧e≤(aK (e+1))∧(aK (e+1))≤((ix g h).length:Int)) then
 if a.length+(sub (ix g h) e (aK (e+1))).length≤9223372036854775807 then
 if b.length+([(0:Int)]:List Int).length≤17592186044416 then
 Z3_J9 i h e j (a++(sub (ix g h) e (aK (e+1)))) (b++([(0:Int)]:List Int))
 else none
 else none
 else none)
 else (
 Z3_J9 i h e j a b)
def Z3_L3 (e:(List aP))(h:Int)(a:aP)(g:Int)(b:Int):Option ((Int)⊕(Int)) :=
 if (decide (b<(a.length:Int)))=true→(0≤b∧b<(a.length:Int)) then
 if (decide (b<(a.length:Int)))=true→(0≤g∧g<((ix e h).length:Int)) then
 if ((decide (b<(a.length:Int)))&&((bt a b) != (bt (ix e h) g)))=true then (
 some (.inl (aK (b+1))))
 else (
 some (.inr b))
 else none
 else none
def Z3_L2 (g:(List aP))(j:(List (List Int)))(i:Int)(a:aP)(b:(List Int))(h:Int):Option ((aP×(List Int)×Int)⊕((aP×(List Int)×Bool)⊕(aP×(List Int)))) :=
 if (decide (h<((ix g i).length:Int)))=true then (
 (aU (fun s:Int=>Z3_L3 g i a h s) (0:Int)).bind fun e=>Z3_J8 g j i a b h e)
 else (
 some (.inr (.inr (a,b))))
def Z3_L1 (b:(List aP))(i:(List (List Int)))(h:aP)(a:(List Int))(g:Int):Option ((aP×(List Int)×Int)⊕((aP×(List Int)×Bool)⊕(aP×(List Int)))) :=
 if (decide (g<(b.length:Int)))=true then (
 if (0≤g∧g<(i.length:Int)) then
 if (0≤g∧g<(b.length:Int)) then
 if (((ix i g).length:Int) != ((ix b g).length:Int))=true then (
 some (.inr (.inl (([]:aP),a,false))))
 else (
 (aU (fun s:aP×(List Int)×Int=>Z3_L2 b i g s.1 s.2.1 s.2.2) (h,a,(0:Int))).bind fun e=>match e with
 | .inl e=>some (.inr (.inl e))
 | .inr e=>Z3_J10 g e.1 e.2)
 else none
 else none)
 else (
 some (.inr (.inr (h,a))))
def Z3 (a:(List aP))(g:aP)(b:(List (List Int))):Option (aP×(List Int)×Bool) :=
 if (0≤(g.length:Int)∧(g.length:Int)≤140737488355328∧8*(g.length:Int)≤281474976710656) then
 (aU (fun s:aP×(List Int)×Int=>Z3_L1 a b s.1 s.2.1 s.2.2) (g,(List.replicate (g.length:Int).toNat (0:Int)),(0:Int))).bind fun e=>match e with
 | .inl e=>some e
 | .inr e=>Z3_J11 e.1 e.2
 else none
def Zj_J7 (a:(List Int)):Option ((List Int)) :=
 some a
def Zj_J6 (a:Int)(b:(List Int)):Option (((List Int)×Int)⊕((List Int))) :=
 some (.inl (b,(aK (a+1))))
def Zj_J5 (a:Int)(b:(List Int)):Option (((List Int)×Int)⊕((List Int))) :=
 some (.inl (b,(aK (a+1))))
def Zj_L2 (g:aP)(a:aP)(b:(List Int))(i:Int)(h:(List Int))(e:Int):Option (((List Int)×Int)⊕((List Int))) :=
 if (decide (e<(a.length:Int)))=true then (
 if (0≤e∧e<(a.length:Int)) then
 if (0≤i∧i<(g.length:Int)) then
 if ((bt a e)==(bt g i))=true then (
 if (0≤e∧e<(b.length:Int)) then
 if h.length+([(ix b e)]:List Int).length≤17592186044416 then
 Zj_J5 e (h++([(ix b e)]:List Int))
 else none
 else none)
 else (
 Zj_J5 e h)
 else none
 else none)
 else (
 some (.inr h))
def Zj_L1 (a:aP)(b:aP)(g:(List Int))(i:(List Int))(h:Int):Option (((List Int)×Int)⊕((List Int))) :=
 if (decide (h<(a.length:Int)))=true then (
 (aU (fun s:(List Int)×Int=>Zj_L2 a b g h s.1 s.2) (i,(0:Int))).bind fun e=>Zj_J6 h e)
 else (
 some (.inr i))
def Zj (g:aP)(a:aP)(b:(List Int)):Option ((List Int)) :=
 (aU (fun s:(List Int)×Int=>Zj_L1 g a b s.1 s.2) (([]:List Int),(0:Int))).bind fun e=>Zj_J7 e
def Z6_J5 (b:Tensor)(a:(List Int)):Option (Tensor) :=
 some (⟨b.Dims,a⟩:Tensor)
def Z6_J4 (l:(List aP)×aP×Bool)(i:Tensor)(b:(List Int))(g:Int)(e:(List Int))(j:Int):Option (((List Int)×Int)⊕((List Int))) :=
 if (0≤(0:Int)∧(0:Int)≤(l.2.1.length:Int)∧(l.2.1.length:Int)≤(e.length:Int)) then
 (Z0w i.Dims (sub e (0:Int) (l.2.1.length:Int))).bind fun a =>
 if (0≤a∧a<(i.Data.length:Int)) then
 (Z1s (ix b a) j).bind fun h =>
 some (.inl ((b.set a.toNat h),(aK (g+1))))
 else none
 else none
def Z6_L4 (j:(List Tensor))(m:(List aP)×aP×Bool)(l:aP×(List Int)×Bool)(e:(List Int))(b:Int)(a:Int):Option ((Int×Int)⊕(Int)) :=
 if (decide (a<(m.1.length:Int)))=true then (
 if (0≤a∧a<(j.length:Int)) then
 if (0≤a∧a<(m.1.length:Int)) then
 (Zj (ix m.1 a) l.1 e).bind fun g =>
 (Z1c (ix j a) g).bind fun h =>
 (Z1l b h).bind fun i =>
 some (.inl (i,(aK (a+1))))
 else none
 else none)
 else (
 some (.inr b))
def Z6_L3 (l:(List Tensor))(m:(List aP)×aP×Bool)(i:aP×(List Int)×Bool)(j:Tensor)(g:Int)(a:(List Int))(b:Int):Option (((List Int)×Int)⊕((List Int))) :=
 if (decide (b<g))=true then (
 (Zl i.2.1 b).bind fun h =>
 (aU (fun s:Int×Int=>Z6_L4 l m i h s.1 s.2) ((1:Int),(0:Int))).bind fun e=>Z6_J4 m j a b h e)
 else (
 some (.inr a))
def Z6_J2 (h:(List Tensor))(i:(List aP)×aP×Bool)(g:aP×(List Int)×Bool)(b:Tensor)(a:Int):Option (Tensor) :=
 (aU (fun s:(List Int)×Int=>Z6_L3 h i g b a s.1 s.2) (b.Data,(0:Int))).bind fun e=>Z6_J5 b e
def Z6_L2 (e:aP×(List Int)×Bool)(a:Int)(b:Int):Option ((Int×Int)⊕(Int)) :=
 if (decide (b<(e.2.1.length:Int)))=true then (
 if (0≤b∧b<(e.2.1.length:Int)) then
 some (.inl ((aK (a*(ix e.2.1 b))),(aK (b+1))))
 else none)
 else (
 some (.inr a))
def Z6_J1 (j:(List Tensor))(g:(List aP)×aP×Bool)(b:(List (List Int))):Option (Tensor) :=
 (Z3 g.1 g.2.1 b).bind fun a =>
 if (!a.2.2)=false→(0≤(0:Int)∧(0:Int)≤(g.2.1.length:Int)∧(g.2.1.length:Int)≤(a.2.1.length:Int)) then
 (bT (!(!a.2.2)) (Zp (sub a.2.1 (0:Int) (g.2.1.length:Int)))).bind fun h =>
 if ((!a.2.2)||(!h))=true then (
 some (⟨([]:List Int),([]:List Int)⟩:Tensor))
 else (
 if (0≤(0:Int)∧(0:Int)≤(g.2.1.length:Int)∧(g.2.1.length:Int)≤(a.2.1.length:Int)) then
 (Z0k (sub a.2.1 (0:Int) (g.2.1.length:Int))).bind fun i =>
 (aU (fun s:Int×Int=>Z6_L2 a s.1 s.2) ((1:Int),(0:Int))).bind fun e=>Z6_J2 j g a i e
 else none)
 else none
def Z6_L1 (e:(List Tensor))(a:(List (List Int)))(b:Int):Option (((List (List Int))×Int)⊕((Tensor)⊕((List (List Int))))) :=
 if (decide (b<(e.length:Int)))=true then (
 if (0≤b∧b<(e.length:Int)) then
 (Zs (ix e b)).bind fun g =>
 if (!g)=true then (
 some (.inr (.inl (⟨([]:List Int),([]:List Int)⟩:Tensor))))
 else (
 if a.length+([(ix e b).Dims]:List (List Int)).length≤5864062014805 then
 some (.inl ((a++([(ix e b).Dims]:List (List Int))),(aK (b+1))))
 else none)
 else none)
 else (
 some (.inr (.inr a)))
def Z6 (a:aP)(b:(List Tensor)):Option (Tensor) :=
 (Z1 a).bind fun g =>
 if ((!g.2.2)||((g.1.length:Int) != (b.length:Int)))=true then (
 some (⟨([]:List Int),([]:List Int)⟩:Tensor))
 else (
 (aU (fun s:(List (List Int))×Int=>Z6_L1 b s.1 s.2) (([]:List (List Int)),(0:Int))).bind fun e=>match e with
 | .inl e=>some e
 | .inr e=>Z6_J1 b g e)
def Z0j_J3 (v1:View)(a:(List Int)):Option (View) :=
 some (⟨v1.Dims,a,v1.Offset,v1.Base⟩:View)
def Z0j_J2 (a:Int)(b:(List Int)):Option ((Int×(List Int))⊕((List Int))) :=
 some (.inl ((aK (a+1)),b))
def Z0j_L1 (v1:View)(a:Int)(b:(List Int)):Option ((Int×(List Int))⊕((List Int))) :=
 if (decide (a<(v1.Dims.length:Int)))=true then (
 if (0≤a∧a<(v1.Dims.length:Int)) then
 if ((ix v1.Dims a)==1)=true then (
 if (0≤a∧a<(v1.Strides.length:Int)) then
 Z0j_J2 a (b.set a.toNat (0:Int))
 else none)
 else (
 Z0j_J2 a b)
 else none)
 else (
 some (.inr b))
def Z0j (v1:View):Option (View) :=
 (aU (fun s:Int×(List Int)=>Z0j_L1 v1 s.1 s.2) ((0:Int),v1.Strides)).bind fun e=>Z0j_J3 v1 e
def Zv_J1 (g:(List Int))(a:Int)(e:(List Int)):Option (View) :=
 (Z0j (⟨g,e,(0:Int),a⟩:View)).bind fun b =>
 some b
def Zv_L1 (a:(List Int))(e:(List Int))(b:Int):Option (((List Int)×Int)⊕((List Int))) :=
 if (decide (b<(a.length:Int)))=true then (
 if (0≤(aK (b+1))∧(aK (b+1))≤(a.length:Int)∧(a.length:Int)≤(a.length:Int)) then
 (Zu (sub a (aK (b+1)) (a.length:Int))).bind fun g =>
 if e.length+([g]:List Int).length≤17592186044416 then
 some (.inl ((e++([g]:List Int)),(aK (b+1))))
 else none
 else none)
 else (
 some (.inr e))
def Zv (a:(List Int)):Option (View) :=
 (Zp a).bind fun g =>
 if (!g)=true then (
 some (⟨([]:List Int),([]:List Int),(0:Int),(0:Int)⟩:View))
 else (
 (Ze a).bind fun h =>
 (Zu a).bind fun b =>
 (aU (fun s:(List Int)×Int=>Zv_L1 a s.1 s.2) (([]:List Int),(0:Int))).bind fun e=>Zv_J1 h b e)
def Z1b_J1 (a:Int):Option (Int) :=
 some a
def Z1b_L1 (v1:View)(a:(List Int))(e:Int)(b:Int):Option ((Int×Int)⊕(Int)) :=
 if (decide (b<(a.length:Int)))=true then (
 if (0≤b∧b<(a.length:Int)) then
 if (0≤b∧b<(v1.Strides.length:Int)) then
 some (.inl ((aK (e+(aK ((ix a b)*(ix v1.Strides b))))),(aK (b+1))))
 else none
 else none)
 else (
 some (.inr e))
def Z1b (v1:View)(a:(List Int)):Option (Int) :=
 (aU (fun s:Int×Int=>Z1b_L1 v1 a s.1 s.2) (v1.Offset,(0:Int))).bind fun e=>Z1b_J1 e
def Z0e_J1 (a:(List Int)):Option ((List Int)) :=
 some a
def Z0e_L1 (v1:View)(h:Int)(b:(List Int))(a:Int):Option (((List Int)×Int)⊕((List Int))) :=
 if (decide (a<h))=true then (
 (Zl v1.Dims a).bind fun g =>
 (Z1b v1 g).bind fun e =>
 if b.length+([e]:List Int).length≤17592186044416 then
 some (.inl ((b++([e]:List Int)),(aK (a+1))))
 else none)
 else (
 some (.inr b))
def Z0e (v1:View):Option ((List Int)) :=
 (Zu v1.Dims).bind fun a =>
 (aU (fun s:(List Int)×Int=>Z0e_L1 v1 a s.1 s.2) (([]:List Int),(0:Int))).bind fun e=>Z0e_J1 e
def Zb_J2:Option (Bool) :=
 some true
def Zb_L2 (v1:View)(b:(List Int))(a:Int):Option ((Int)⊕((Bool)⊕(Unit))) :=
 if (decide (a<(b.length:Int)))=true then (
 if (0≤a∧a<(b.length:Int)) then
 if ((decide ((ix b a)<0))||(decide ((ix b a)≥v1.Base)))=true then (
 some (.inr (.inl false)))
 else (
 some (.inl (aK (a+1))))
 else none)
 else (
 some (.inr (.inr ())))
def Zb_J1 (v1:View):Option (Bool) :=
 (Z0e v1).bind fun a =>
 (aU (fun s:Int=>Zb_L2 v1 a s) (0:Int)).bind fun e=>match e with
 | .inl e=>some e
 | .inr e=>Zb_J2
def Zb_L1 (v1:View)(a:Int):Option ((Int)⊕((Bool)⊕(Unit))) :=
 if (decide (a<(v1.Strides.length:Int)))=true then (
 if (0≤a∧a<(v1.Strides.length:Int)) then
 if ((decide ((ix v1.Strides a)<(-4096:Int)))||(decide ((ix v1.Strides a)>4096)))=true then (
 some (.inr (.inl false)))
 else (
 some (.inl (aK (a+1))))
 else none)
 else (
 some (.inr (.inr ())))
def Zb (v1:View):Option (Bool) :=
 (Zp v1.Dims).bind fun a =>
 if ((((((!a)||((v1.Strides.length:Int) != (v1.Dims.length:Int)))||(decide (v1.Base<1)))||(decide (v1.Base>4096)))||(decide (v1.Offset<0)))||(decide (v1.Offset≥v1.Base)))=true then (
 some false)
 else (
 (aU (fun s:Int=>Zb_L1 v1 s) (0:Int)).bind fun e=>match e with
 | .inl e=>some e
 | .inr e=>Zb_J1 v1)
def Z05_J3 (v1:View)(a:(List Int))(b:(List Int)):Option (View) :=
 some (⟨a,b,v1.Offset,v1.Base⟩:View)
def Z05_J2 (a:Int)(b:(List Int)):Option (((List Int)×Int)⊕((View)⊕((List Int)))) :=
 some (.inl (b,(aK (a+1))))
def Z05_L1 (v1:View)(a:(List Int))(e:(List Int))(b:Int):Option (((List Int)×Int)⊕((View)⊕((List Int)))) :=
 if (decide (b<(v1.Dims.length:Int)))=true then (
 if (0≤b∧b<(v1.Dims.length:Int)) then
 if (0≤(aK ((aK ((a.length:Int) - (v1.Dims.length:Int)))+b))∧(aK ((aK ((a.length:Int) - (v1.Dims.length:Int)))+b))<(a.length:Int)) then
 if ((ix v1.Dims b)==(ix a (aK ((aK ((a.length:Int) - (v1.Dims.length:Int)))+b))))=true then (
 if (0≤b∧b<(v1.Strides.length:Int)) then
 if (0≤(aK ((aK ((a.length:Int) - (v1.Dims.length:Int)))+b))∧(aK ((aK ((a.length:Int) - (v1.Dims.length:Int)))+b))<((List.replicate (a.length:Int).toNat (0:Int)).length:Int)) then
 (nm (e.set (aK ((aK ((a.length:Int) - (v1.Dims.length:Int)))+b)).toNat (ix v1.Strides b))).bind fun g =>
 Z05_J2 b g
 else none
 else none)
 else (
 if ((ix v1.Dims b) != 1)=true then (
 some (.inr (.inl (⟨([]:List Int),([]:List Int),(0:Int),(0:Int)⟩:View))))
 else (
 Z05_J2 b e))
 else none
 else none)
 else (
 some (.inr (.inr e)))
def Z05 (v1:View)(a:(List Int)):Option (View) :=
 (Zb v1).bind fun h =>
 (bT (!(!h)) (Zp a)).bind fun b =>
 if (((!h)||(!b))||(decide ((aK ((a.length:Int) - (v1.Dims.length:Int)))<0)))=true then (
 some (⟨([]:List Int),([]:List Int),(0:Int),(0:Int)⟩:View))
 else (
 (Ze a).bind fun g =>
 if (0≤(a.length:Int)∧(a.length:Int)≤140737488355328∧8*(a.length:Int)≤281474976710656) then
 (aU (fun s:(List Int)×Int=>Z05_L1 v1 a s.1 s.2) ((List.replicate (a.length:Int).toNat (0:Int)),(0:Int))).bind fun e=>match e with
 | .inl e=>some e
 | .inr e=>Z05_J3 v1 g e
 else none)
def Z02_J1 (a:(List Int))(b:(List Int)):Option (Tensor) :=
 some (⟨a,b⟩:Tensor)
def Z02_L1 (t1:Tensor)(b:(List Int))(e:(List Int))(a:Int):Option (((List Int)×Int)⊕((List Int))) :=
 if (decide (a<(b.length:Int)))=true then (
 if (0≤a∧a<(b.length:Int)) then
 if (0≤(ix b a)∧(ix b a)<(t1.Data.length:Int)) then
 if e.length+([(ix t1.Data (ix b a))]:List Int).length≤17592186044416 then
 some (.inl ((e++([(ix t1.Data (ix b a))]:List Int)),(aK (a+1))))
 else none
 else none
 else none)
 else (
 some (.inr e))
def Z02 (t1:Tensor)(v4:View):Option (Tensor) :=
 (Zs t1).bind fun a =>
 (bT (!(!a)) (Zb v4)).bind fun b =>
 if (((!a)||(!b))||(v4.Base != (t1.Data.length:Int)))=true then (
 some (⟨([]:List Int),([]:List Int)⟩:Tensor))
 else (
 (Ze v4.Dims).bind fun g =>
 (Z0e v4).bind fun h =>
 (aU (fun s:(List Int)×Int=>Z02_L1 t1 h s.1 s.2) (([]:List Int),(0:Int))).bind fun e=>Z02_J1 g e)
def Z0d_J3 (v1:View)(a:(List Int))(b:(List Int))(g:(List Int)):Option (View) :=
 (Zb (⟨b,g,(ix a 0),v1.Base⟩:View)).bind fun e =>
 (bT (!(!e)) (Z0e (⟨b,g,(ix a 0),v1.Base⟩:View))).bind fun h =>
 (bT (!(!e)) (Zw h a)).bind fun i =>
 if ((!e)||(!i))=true then (
 some (⟨([]:List Int),([]:List Int),(0:Int),(0:Int)⟩:View))
 else (
 some (⟨b,g,(ix a 0),v1.Base⟩:View))
def Z0d_J2 (a:(List Int))(e:Int)(b:Int):Option (((List Int)×Int)⊕((List Int))) :=
 if a.length+([b]:List Int).length≤17592186044416 then
 some (.inl ((a++([b]:List Int)),(aK (e+1))))
 else none
def Z0d_L1 (a:(List Int))(e:(List Int))(h:(List Int))(b:Int):Option (((List Int)×Int)⊕((List Int))) :=
 if (decide (b<(a.length:Int)))=true then (
 if (0≤b∧b<(a.length:Int)) then
 if (decide ((ix a b)>1))=true then (
 if (0≤(aK (b+1))∧(aK (b+1))≤(a.length:Int)∧(a.length:Int)≤(a.length:Int)) then
 (Zu (sub a (aK (b+1)) (a.length:Int))).bind fun g =>
 if (0≤g∧g<(e.length:Int)) then
 Z0d_J2 h b (aK ((ix e g) - (ix e 0)))
 else none
 else none)
 else (
 Z0d_J2 h b (0:Int))
 else none)
 else (
 some (.inr h))
def Z0d (v1:View)(a:(List Int)):Option (View) :=
 (Zb v1).bind fun h =>
 (bT (!(!h)) (Zp a)).bind fun b =>
 (bT (!((!h)||(!b))) (Zu a)).bind fun i =>
 (bT (!((!h)||(!b))) (Zu v1.Dims)).bind fun j =>
 if (((!h)||(!b))||(i != j))=true then (
 some (⟨([]:List Int),([]:List Int),(0:Int),(0:Int)⟩:View))
 else (
 (Z0e v1).bind fun g =>
 (Ze a).bind fun l =>
 if (0≤(0:Int)∧(0:Int)<(g.length:Int)) then
 (aU (fun s:(List Int)×Int=>Z0d_L1 a g s.1 s.2) (([]:List Int),(0:Int))).bind fun e=>Z0d_J3 v1 g l e
 else none)
def Z2g (v1:View)(a:Int):Option (Bool) :=
 (Zb v1).bind fun b =>
 some ((b&&(decide (a≥0)))&&(decide (a<(v1.Dims.length:Int))))
def Z2i (v1:View):Option (View) :=
 (Ze v1.Dims).bind fun a =>
 (Ze v1.Strides).bind fun b =>
 some (⟨a,b,v1.Offset,v1.Base⟩:View)
def Z2j (v1:View):Option (View) :=
 (Zb v1).bind fun a =>
 if (!a)=true then (
 some (⟨([]:List Int),([]:List Int),(0:Int),(0:Int)⟩:View))
 else (
 some v1)
def Z1f_J1 (a:Int)(i:Int)(b:Int)(e:View)(h:(List Int)):Option (View) :=
 (Z2j (⟨(e.Dims.set a.toNat b),h,(aK (e.Offset+(aK (i*(ix e.Strides a))))),e.Base⟩:View)).bind fun g =>
 some g
def Z1f (v1:View)(a:Int)(h:Int)(b:Int)(e:Int):Option (View) :=
 (Z2g v1 a).bind fun j =>
 if ((((((!j)||(decide (b<1)))||(decide (b>4096)))||(decide (e<(-4096:Int))))||(decide (e>4096)))||(decide (h<0)))=false→(0≤a∧a<(v1.Dims.length:Int)) then
 if (((((((!j)||(decide (b<1)))||(decide (b>4096)))||(decide (e<(-4096:Int))))||(decide (e>4096)))||(decide (h<0)))||(decide (h≥(ix v1.Dims a))))=true then (
 some (⟨([]:List Int),([]:List Int),(0:Int),(0:Int)⟩:View))
 else (
 if (decide ((aK (h+(aK ((aK (b - 1))*e))))<0))=false→(0≤a∧a<(v1.Dims.length:Int)) then
 if ((decide ((aK (h+(aK ((aK (b - 1))*e))))<0))||(decide ((aK (h+(aK ((aK (b - 1))*e))))≥(ix v1.Dims a))))=true then (
 some (⟨([]:List Int),([]:List Int),(0:Int),(0:Int)⟩:View))
 else (
 (Z2i v1).bind fun g =>
 if (0≤a∧a<(g.Strides.length:Int)) then
 if (0≤a∧a<(g.Dims.length:Int)) then
 (nm (g.Strides.set a.toNat (aK ((ix g.Strides a)*e)))).bind fun i =>
 if (b==1)=true then (
 Z1f_J1 a h b g (i.set a.toNat (0:Int)))
 else (
 Z1f_J1 a h b g i)
 else none
 else none)
 else none)
 else none
def Z21 (t1:Tensor)(a:(List Int))(e:Int):Option ((List Int)) :=
 (Z0w t1.Dims a).bind fun b =>
 if (0≤b∧b<(t1.Data.length:Int)) then
 some (t1.Data.set b.toNat e)
 else none
def Z11_J1 (a:Tensor)(b:(List Int)):Option (Tensor) :=
 some (⟨a.Dims,b⟩:Tensor)
def Z11_L1 (t1:Tensor)(a:Int)(e:Int)(h:Int)(j:Tensor)(i:(List Int))(b:Int):Option (((List Int)×Int)⊕((List Int))) :=
 if (decide (b<(t1.Data.length:Int)))=true then (
 (Zl t1.Dims b).bind fun g =>
 if (0≤a∧a<(g.length:Int)) then
 (Z0l g a (aK (e+(aK ((ix g a)*(aK (h+1))))))).bind fun l =>
 if (0≤b∧b<(t1.Data.length:Int)) then
 (Z21 (⟨j.Dims,i⟩:Tensor) l (ix t1.Data b)).bind fun m =>
 some (.inl (m,(aK (b+1))))
 else none
 else none)
 else (
 some (.inr i))
def Z11 (t1:Tensor)(a:Int)(b:Int)(g:Int)(h:Int):Option (Tensor) :=
 (Z1m t1 a).bind fun l =>
 if (((((((!l)||(decide (b<0)))||(decide (b>4096)))||(decide (g<0)))||(decide (g>4096)))||(decide (h<0)))||(decide (h>4096)))=true then (
 some (⟨([]:List Int),([]:List Int)⟩:Tensor))
 else (
 if (0≤a∧a<(t1.Dims.length:Int)) then
 (Z0l t1.Dims a (aK ((aK ((aK (b+(ix t1.Dims a)))+(aK ((aK ((ix t1.Dims a) - 1))*h))))+g))).bind fun j =>
 (Zp j).bind fun m =>
 if (!m)=true then (
 some (⟨([]:List Int),([]:List Int)⟩:Tensor))
 else (
 (Z0k j).bind fun i =>
 (aU (fun s:(List Int)×Int=>Z11_L1 t1 a b h i s.1 s.2) (i.Data,(0:Int))).bind fun e=>Z11_J1 i e)
 else none)
def Z10_J1 (a:Tensor)(b:(List Int)):Option (Tensor) :=
 some (⟨a.Dims,b⟩:Tensor)
def Z10_L1 (t1:Tensor)(a:Int)(b:(List Int))(j:(List Int))(h:Tensor)(i:(List Int))(e:Int):Option (((List Int)×Int)⊕((List Int))) :=
 if (decide (e<(h.Data.length:Int)))=true then (
 (Zl j e).bind fun g =>
 if (0≤a∧a<(g.length:Int)) then
 if (0≤(ix g a)∧(ix g a)<(b.length:Int)) then
 (Z0l g a (ix b (ix g a))).bind fun l =>
 (Z1c t1 l).bind fun m =>
 if (0≤e∧e<(h.Data.length:Int)) then
 some (.inl ((i.set e.toNat m),(aK (e+1))))
 else none
 else none
 else none)
 else (
 some (.inr i))
def Z10 (t1:Tensor)(b:Int)(a:(List Int)):Option (Tensor) :=
 (Z1m t1 b).bind fun l =>
 if ((!l)||((a.length:Int)==0))=false→(0≤b∧b<(t1.Dims.length:Int)) then
 (bT (!((!l)||((a.length:Int)==0))) (Z0m a (ix t1.Dims b))).bind fun i =>
 if (((!l)||((a.length:Int)==0))||(!i))=true then (
 some (⟨([]:List Int),([]:List Int)⟩:Tensor))
 else (
 (Z0l t1.Dims b (a.length:Int)).bind fun g =>
 (Zp g).bind fun j =>
 if (!j)=true then (
 some (⟨([]:List Int),([]:List Int)⟩:Tensor))
 else (
 (Z0k g).bind fun h =>
 (aU (fun s:(List Int)×Int=>Z10_L1 t1 b a g h s.1 s.2) (h.Data,(0:Int))).bind fun e=>Z10_J1 h e))
 else none
def Z12_J1 (a:Tensor)(b:(List Int)):Option (Tensor) :=
 some (⟨a.Dims,b⟩:Tensor)
def Z12_L1 (t1:Tensor)(a:Int)(b:(List Int))(i:Tensor)(h:(List Int))(e:Int):Option (((List Int)×Int)⊕((List Int))) :=
 if (decide (e<(t1.Data.length:Int)))=true then (
 (Zl t1.Dims e).bind fun g =>
 if (0≤a∧a<(g.length:Int)) then
 if (0≤(ix g a)∧(ix g a)<(b.length:Int)) then
 (Z0l g a (ix b (ix g a))).bind fun j =>
 (Z1c (⟨i.Dims,h⟩:Tensor) j).bind fun l =>
 if (0≤e∧e<(t1.Data.length:Int)) then
 (Z1s l (ix t1.Data e)).bind fun m =>
 (Z21 (⟨i.Dims,h⟩:Tensor) j m).bind fun q =>
 some (.inl (q,(aK (e+1))))
 else none
 else none
 else none)
 else (
 some (.inr h))
def Z12 (t1:Tensor)(a:Int)(b:(List Int))(m:Int):Option (Tensor) :=
 (Z1m t1 a).bind fun g =>
 if (!g)=false→(0≤a∧a<(t1.Dims.length:Int)) then
 (bT (!((!g)||((b.length:Int) != (ix t1.Dims a)))) (Z0m b m)).bind fun j =>
 if (((!g)||((b.length:Int) != (ix t1.Dims a)))||(!j))=true then (
 some (⟨([]:List Int),([]:List Int)⟩:Tensor))
 else (
 (Z0l t1.Dims a m).bind fun i =>
 (Zp i).bind fun l =>
 if (!l)=true then (
 some (⟨([]:List Int),([]:List Int)⟩:Tensor))
 else (
 (Z0k i).bind fun h =>
 (aU (fun s:(List Int)×Int=>Z12_L1 t1 a b h s.1 s.2) (h.Data,(0:Int))).bind fun e=>Z12_J1 h e))
 else none
def Z0f_J2 (a:Int)(b:View)(h:(List Int))(e:(List Int))(g:Int):Option (View) :=
 if e.length+([g]:List Int).length≤17592186044416 then
 (Z2j (⟨(h++([a]:List Int)),(e++([g]:List Int)),b.Offset,b.Base⟩:View)).bind fun i =>
 some i
 else none
def Z0f_J1 (v1:View)(b:Int)(a:Int)(g:View)(e:(List Int))(h:(List Int)):Option (View) :=
 if e.length+([a]:List Int).length≤17592186044416 then
 if (a==1)=true then (
 Z0f_J2 a g e h (0:Int))
 else (
 Z0f_J2 a g e h (ix v1.Strides b))
 else none
def Z0f (v1:View)(a:Int)(b:Int)(e:Int):Option (View) :=
 (Z2g v1 a).bind fun j =>
 if (((!j)||(decide (b<1)))||(decide (e<1)))=false→(0≤a∧a<(v1.Dims.length:Int)) then
 if ((((!j)||(decide (b<1)))||(decide (e<1)))||(decide (b>(ix v1.Dims a))))=true then (
 some (⟨([]:List Int),([]:List Int),(0:Int),(0:Int)⟩:View))
 else (
 (Z2i v1).bind fun g =>
 if (0≤a∧a<(v1.Dims.length:Int)) then
 if e≠0 then
 if (0≤a∧a<(v1.Strides.length:Int)) then
 if (0≤a∧a<(g.Dims.length:Int)) then
 (nm (g.Dims.set a.toNat (aK ((aK ((aK ((ix v1.Dims a) - b)).tdiv e))+1)))).bind fun h =>
 if (0≤a∧a<(g.Strides.length:Int)) then
 if (decide ((aK ((aK ((aK ((ix v1.Dims a) - b)).tdiv e))+1))>1))=true then (
 (nm ((g.Strides.set a.toNat (0:Int)).set a.toNat (aK ((ix v1.Strides a)*e)))).bind fun i =>
 Z0f_J1 v1 a b g h i)
 else (
 Z0f_J1 v1 a b g h (g.Strides.set a.toNat (0:Int)))
 else none
 else none
 else none
 else none
 else none)
 else none
def Z0z_J1 (a:Tensor)(b:(List Int)):Option (Tensor) :=
 some (⟨a.Dims,b⟩:Tensor)
def Z0z_L1 (t1:Tensor)(a:Int)(h:Int)(j:Tensor)(i:(List Int))(b:Int):Option (((List Int)×Int)⊕((List Int))) :=
 if (decide (b<(t1.Data.length:Int)))=true then (
 (Zl t1.Dims b).bind fun e =>
 if (0≤a∧a<(e.length:Int)) then
 if (0≤(aK ((t1.Dims.length:Int) - 1))∧(aK ((t1.Dims.length:Int) - 1))<(e.length:Int)) then
 (Z0l e a (aK ((aK ((ix e a)*h))+(ix e (aK ((t1.Dims.length:Int) - 1)))))).bind fun g =>
 if (0≤(0:Int)∧(0:Int)≤(aK ((t1.Dims.length:Int) - 1))∧(aK ((t1.Dims.length:Int) - 1))≤(g.length:Int)) then
 (Z1c (⟨j.Dims,i⟩:Tensor) (sub g (0:Int) (aK ((t1.Dims.length:Int) - 1)))).bind fun l =>
 if (0≤b∧b<(t1.Data.length:Int)) then
 (Z1s l (ix t1.Data b)).bind fun m =>
 (Z21 (⟨j.Dims,i⟩:Tensor) (sub g (0:Int) (aK ((t1.Dims.length:Int) - 1))) m).bind fun q =>
 some (.inl (q,(aK (b+1))))
 else none
 else none
 else none
 else none)
 else (
 some (.inr i))
def Z0z (t1:Tensor)(a:Int)(b:Int)(g:Int):Option (Tensor) :=
 (Z1m t1 a).bind fun l =>
 if (((((!l)||(a==(aK ((t1.Dims.length:Int) - 1))))||(decide (b<1)))||(decide (g<1)))||(decide (g>4096)))=true then (
 some (⟨([]:List Int),([]:List Int)⟩:Tensor))
 else (
 if (0≤(aK ((t1.Dims.length:Int) - 1))∧(aK ((t1.Dims.length:Int) - 1))<(t1.Dims.length:Int)) then
 if (decide ((ix t1.Dims (aK ((t1.Dims.length:Int) - 1)))>g))=false→b≠0 then
 if (decide ((ix t1.Dims (aK ((t1.Dims.length:Int) - 1)))>g))=false→(0≤a∧a<(t1.Dims.length:Int)) then
 if ((decide ((ix t1.Dims (aK ((t1.Dims.length:Int) - 1)))>g))||((aK ((aK ((aK (g - (ix t1.Dims (aK ((t1.Dims.length:Int) - 1))))).tdiv b))+1)) != (ix t1.Dims a)))=true then (
 some (⟨([]:List Int),([]:List Int)⟩:Tensor))
 else (
 (Z0l t1.Dims a g).bind fun h =>
 if (0≤(0:Int)∧(0:Int)≤(aK ((t1.Dims.length:Int) - 1))∧(aK ((t1.Dims.length:Int) - 1))≤(h.length:Int)) then
 (Zp (sub h (0:Int) (aK ((t1.Dims.length:Int) - 1)))).bind fun j =>
 if (!j)=true then (
 some (⟨([]:List Int),([]:List Int)⟩:Tensor))
 else (
 (Z0k (sub h (0:Int) (aK ((t1.Dims.length:Int) - 1)))).bind fun i =>
 (aU (fun s:(List Int)×Int=>Z0z_L1 t1 a b i s.1 s.2) (i.Data,(0:Int))).bind fun e=>Z0z_J1 i e)
 else none)
 else none
 else none
 else none)
def Z2_J2 (a:Node)(b:(List Tensor))(M:Bool):Option (Tensor) :=
 if M=true then (
 if (0≤(0:Int)∧(0:Int)<(b.length:Int)) then
 (Z18 (aK ((aK (a.Op - 6))+1)) (ix b 0)).bind fun D =>
 some D
 else none)
 else (
 if (a.Op==10)=true then (
 if (0≤(0:Int)∧(0:Int)<(b.length:Int)) then
 if (0≤(0:Int)∧(0:Int)<(a.Ints.length:Int)) then
 (Zd (ix b 0) (ix a.Ints 0)).bind fun E =>
 some E
 else none
 else none)
 else (
 if (a.Op==11)=true then (
 (Z6 a.Form b).bind fun F =>
 some F)
 else (
 if (a.Op==12)=true then (
 if (0≤(0:Int)∧(0:Int)<(b.length:Int)) then
 (Zv ((ix b 0).Dims)).bind fun G =>
 (Z05 G a.Dims).bind fun I =>
 (Z02 (ix b 0) I).bind fun J =>
 some J
 else none)
 else (
 if (a.Op==13)=true then (
 if (0≤(0:Int)∧(0:Int)<(b.length:Int)) then
 (Zv ((ix b 0).Dims)).bind fun L =>
 (Z0d L a.Dims).bind fun e =>
 (Z02 (ix b 0) e).bind fun g =>
 some g
 else none)
 else (
 if (a.Op==14)=true then (
 if (0≤(3:Int)∧(3:Int)<(a.Ints.length:Int)) then
 if (decide ((ix a.Ints 3)<1))=true then (
 some (⟨([]:List Int),([]:List Int)⟩:Tensor))
 else (
 if (0≤(0:Int)∧(0:Int)<(b.length:Int)) then
 (Zv ((ix b 0).Dims)).bind fun h =>
 if (0≤(0:Int)∧(0:Int)<(a.Ints.length:Int)) then
 if (0≤(1:Int)∧(1:Int)<(a.Ints.length:Int)) then
 if (0≤(2:Int)∧(2:Int)<(a.Ints.length:Int)) then
 (Z1f h (ix a.Ints 0) (ix a.Ints 1) (ix a.Ints 2) (ix a.Ints 3)).bind fun i =>
 (Z02 (ix b 0) i).bind fun j =>
 some j
 else none
 else none
 else none
 else none)
 else none)
 else (
 if (a.Op==15)=true then (
 if (0≤(0:Int)∧(0:Int)<(b.length:Int)) then
 if (0≤(0:Int)∧(0:Int)<(a.Ints.length:Int)) then
 if (0≤(1:Int)∧(1:Int)<(a.Ints.length:Int)) then
 if (0≤(2:Int)∧(2:Int)<(a.Ints.length:Int)) then
 if (0≤(3:Int)∧(3:Int)<(a.Ints.length:Int)) then
 (Z11 (ix b 0) (ix a.Ints 0) (ix a.Ints 1) (ix a.Ints 2) (ix a.Ints 3)).bind fun l =>
 some l
 else none
 else none
 else none
 else none
 else none)
 else (
 if (a.Op==16)=true then (
 if (0≤(0:Int)∧(0:Int)<(b.length:Int)) then
 if (0≤(0:Int)∧(0:Int)<(a.Ints.length:Int)) then
 if (0≤(1:Int)∧(1:Int)≤(a.Ints.length:Int)∧(a.Ints.length:Int)≤(a.Ints.length:Int)) then
 (Z10 (ix b 0) (ix a.Ints 0) (sub a.Ints (1:Int) (a.Ints.length:Int))).bind fun m =>
 some m
 else none
 else none
 else none)
 else (
 if (a.Op==17)=true then (
 if (0≤(0:Int)∧(0:Int)<(b.length:Int)) then
 if (0≤(0:Int)∧(0:Int)<(a.Ints.length:Int)) then
 if (0≤(2:Int)∧(2:Int)≤(a.Ints.length:Int)∧(a.Ints.length:Int)≤(a.Ints.length:Int)) then
 if (0≤(1:Int)∧(1:Int)<(a.Ints.length:Int)) then
 (Z12 (ix b 0) (ix a.Ints 0) (sub a.Ints (2:Int) (a.Ints.length:Int)) (ix a.Ints 1)).bind fun q =>
 some q
 else none
 else none
 else none
 else none)
 else (
 if (a.Op==18)=true then (
 if (0≤(0:Int)∧(0:Int)<(b.length:Int)) then
 (Zv ((ix b 0).Dims)).bind fun r =>
 if (0≤(0:Int)∧(0:Int)<(a.Ints.length:Int)) then
 if (0≤(1:Int)∧(1:Int)<(a.Ints.length:Int)) then
 if (0≤(2:Int)∧(2:Int)<(a.Ints.length:Int)) then
 (Z0f r (ix a.Ints 0) (ix a.Ints 1) (ix a.Ints 2)).bind fun s =>
 (Z02 (ix b 0) s).bind fun u =>
 some u
 else none
 else none
 else none
 else none)
 else (
 if (0≤(0:Int)∧(0:Int)<(b.length:Int)) then
 if (0≤(0:Int)∧(0:Int)<(a.Ints.length:Int)) then
 if (0≤(1:Int)∧(1:Int)<(a.Ints.length:Int)) then
 if (0≤(2:Int)∧(2:Int)<(a.Ints.length:Int)) then
 (Z0z (ix b 0) (ix a.Ints 0) (ix a.Ints 1) (ix a.Ints 2)).bind fun B =>
 some B
 else none
 else none
 else none
 else none))))))))))
def Z2_J1 (a:Node)(b:(List Tensor))(h:Bool):Option (Tensor) :=
 if h=true then (
 if (0≤(0:Int)∧(0:Int)<(b.length:Int)) then
 if (0≤(1:Int)∧(1:Int)<(b.length:Int)) then
 (Zw ((ix b 0).Dims) ((ix b 1).Dims)).bind fun e =>
 if (!e)=true then (
 some (⟨([]:List Int),([]:List Int)⟩:Tensor))
 else (
 (Z19 (aK ((aK (a.Op - 3))+1)) (ix b 0) (ix b 1)).bind fun g =>
 some g)
 else none
 else none)
 else (
 if (a.Op==6)=true then (
 Z2_J2 a b (a.Op==6))
 else (
 if (a.Op==7)=true then (
 Z2_J2 a b (a.Op==7))
 else (
 if (a.Op==8)=true then (
 Z2_J2 a b (a.Op==8))
 else (
 Z2_J2 a b (a.Op==9)))))
def Z2 (a:Node)(b:(List Tensor)):Option (Tensor) :=
 if (a.Op==2)=true then (
 (Zs (⟨a.Dims,a.Data⟩:Tensor)).bind fun e =>
 if (!e)=true then (
 some (⟨([]:List Int),([]:List Int)⟩:Tensor))
 else (
 (Ze a.Dims).bind fun g =>
 (Ze a.Data).bind fun h =>
 some (⟨g,h⟩:Tensor)))
 else (
 if (a.Op==3)=true then (
 Z2_J1 a b (a.Op==3))
 else (
 if (a.Op==4)=true then (
 Z2_J1 a b (a.Op==4))
 else (
 Z2_J1 a b (a.Op==5))))
def Z0y_J1 (b:Tensor)(a:(List Int)):Option (Tensor) :=
 some (⟨b.Dims,a⟩:Tensor)
def Z0y_L1 (h:Int)(g:Tensor)(b:(List Int))(a:Int):Option (((List Int)×Int)⊕((List Int))) :=
 if (decide (a<(g.Data.length:Int)))=true then (
 (Zq h).bind fun e =>
 if (0≤a∧a<(g.Data.length:Int)) then
 some (.inl ((b.set a.toNat e),(aK (a+1))))
 else none)
 else (
 some (.inr b))
def Z0y (a:(List Int))(g:Int):Option (Tensor) :=
 (Zp a).bind fun h =>
 if (!h)=true then (
 some (⟨([]:List Int),([]:List Int)⟩:Tensor))
 else (
 (Z0k a).bind fun b =>
 (aU (fun s:(List Int)×Int=>Z0y_L1 g b s.1 s.2) (b.Data,(0:Int))).bind fun e=>Z0y_J1 b e)
def Za_J5 (g1:Graph)(a:(List Tensor))(b:Bool)(g:(List Tensor))(h:Int):Option ((List Tensor)×Bool) :=
 (Z0m g1.Outs (g1.Nodes.length:Int)).bind fun e =>
 some (g,(e&&(b||(h==(a.length:Int)))))
def Za_J4 (b:(List Tensor))(g:Int)(h:Int)(e:(List Int))(a:(List Int)):Option (((List Tensor)×Int×Int)⊕(((List Tensor)×Bool)⊕((List Tensor)×Int))) :=
 if ((a.length:Int)==0)=true then (
 some (.inr (.inl (b,false))))
 else (
 if b.length+([(⟨e,a⟩:Tensor)]:List Tensor).length≤2932031007402 then
 some (.inl ((b++([(⟨e,a⟩:Tensor)]:List Tensor)),h,(aK (g+1))))
 else none)
def Za_J3 (g1:Graph)(a:(List Tensor))(i:Bool)(g:(List Tensor))(b:Int)(e:Int)(m:(List Tensor)):Option (((List Tensor)×Int×Int)⊕(((List Tensor)×Bool)⊕((List Tensor)×Int))) :=
 if ((ix g1.Nodes e).Op != 1)=true then (
 (Z2 (ix g1.Nodes e) m).bind fun j =>
 Za_J4 g e b j.Dims j.Data)
 else (
 if i=true then (
 (Z0y ((ix g1.Nodes e).Dims) (0:Int)).bind fun l =>
 Za_J4 g e b l.Dims l.Data)
 else (
 if (decide (b≥(a.length:Int)))=false→(0≤b∧b<(a.length:Int)) then
 (bT (!(decide (b≥(a.length:Int)))) (Zs (ix a b))).bind fun h =>
 if ((decide (b≥(a.length:Int)))||(!h))=false→(0≤b∧b<(a.length:Int)) then
 (bT (!((decide (b≥(a.length:Int)))||(!h))) (Zw ((ix a b).Dims) ((ix g1.Nodes e).Dims))).bind fun q =>
 if (((decide (b≥(a.length:Int)))||(!h))||(!q))=true then (
 some (.inr (.inl (g,false))))
 else (
 (Ze ((ix g1.Nodes e).Dims)).bind fun r =>
 if (0≤b∧b<(a.length:Int)) then
 (Ze ((ix a b).Data)).bind fun s =>
 Za_J4 g e (aK (b+1)) r s
 else none)
 else none
 else none))
def Za_L2 (g1:Graph)(g:(List Tensor))(b:Int)(e:(List Tensor))(a:Int):Option (((List Tensor)×Int)⊕((List Tensor))) :=
 if (decide (a<(((ix g1.Nodes b).Args).length:Int)))=true then (
 if (0≤a∧a<(((ix g1.Nodes b).Args).length:Int)) then
 if (0≤(ix ((ix g1.Nodes b).Args) a)∧(ix ((ix g1.Nodes b).Args) a)<(g.length:Int)) then
 if e.length+([(ix g (ix ((ix g1.Nodes b).Args) a))]:List Tensor).length≤2932031007402 then
 some (.inl ((e++([(ix g (ix ((ix g1.Nodes b).Args) a))]:List Tensor)),(aK (a+1))))
 else none
 else none
 else none)
 else (
 some (.inr e))
def Za_L1 (g1:Graph)(g:(List Tensor))(h:Bool)(b:(List Tensor))(j:Int)(a:Int):Option (((List Tensor)×Int×Int)⊕(((List Tensor)×Bool)⊕((List Tensor)×Int))) :=
 if (decide (a<(g1.Nodes.length:Int)))=true then (
 if (0≤a∧a<(g1.Nodes.length:Int)) then
 (Z1d (ix g1.Nodes a)).bind fun i =>
 (bT (!(!i)) (Z0m ((ix g1.Nodes a).Args) a)).bind fun l =>
 if ((!i)||(!l))=true then (
 some (.inr (.inl (b,false))))
 else (
 (aU (fun s:(List Tensor)×Int=>Za_L2 g1 b a s.1 s.2) (([]:List Tensor),(0:Int))).bind fun e=>Za_J3 g1 g h b j a e)
 else none)
 else (
 some (.inr (.inr (b,j))))
def Za (g1:Graph)(a:(List Tensor))(b:Bool):Option ((List Tensor)×Bool) :=
 if ((decide ((g1.Nodes.length:Int)>200))||(decide ((g1.Outs.length:Int)>40)))=true then (
 some (([]:List Tensor),false))
 else (
 (aU (fun s:(List Tensor)×Int×Int=>Za_L1 g1 a b s.1 s.2.1 s.2.2) (([]:List Tensor),(0:Int),(0:Int))).bind fun e=>match e with
 | .inl e=>some e
 | .inr e=>Za_J5 g1 a b e.1 e.2)
def Z0v_J1 (a:(List (List Int))):Option ((List (List Int))) :=
 some a
def Z0v_L1 (e:(List Tensor)×Bool)(b:(List (List Int)))(a:Int):Option (((List (List Int))×Int)⊕((List (List Int)))) :=
 if ((decide (a<(e.1.length:Int)))&&e.2)=true then (
 if (0≤a∧a<(e.1.length:Int)) then
 if b.length+([(ix e.1 a).Dims]:List (List Int)).length≤5864062014805 then
 some (.inl ((b++([(ix e.1 a).Dims]:List (List Int))),(aK (a+1))))
 else none
 else none)
 else (
 some (.inr b))
def Z0v (g1:Graph):Option ((List (List Int))) :=
 (Za g1 ([]:List Tensor) true).bind fun a =>
 (aU (fun s:(List (List Int))×Int=>Z0v_L1 a s.1 s.2) (([]:List (List Int)),(0:Int))).bind fun e=>Z0v_J1 e
def Z0p (g1:Graph):Option (Bool) :=
 (Za g1 ([]:List Tensor) true).bind fun a =>
 some a.2
def Z00_J3 (a:(List Int)):Option ((List Int)) :=
 some a
def Z00_J2 (a:Int)(b:(List Int)):Option (((List Int)×Int)⊕((List Int))) :=
 some (.inl (b,(aK (a+1))))
def Z00_L1 (g1:Graph)(e:Bool)(b:(List Int))(a:Int):Option (((List Int)×Int)⊕((List Int))) :=
 if ((decide (a<(g1.Nodes.length:Int)))&&e)=true then (
 if (0≤a∧a<(g1.Nodes.length:Int)) then
 if ((ix g1.Nodes a).Op==1)=true then (
 if b.length+([a]:List Int).length≤17592186044416 then
 Z00_J2 a (b++([a]:List Int))
 else none)
 else (
 Z00_J2 a b)
 else none)
 else (
 some (.inr b))
def Z00 (g1:Graph):Option ((List Int)) :=
 (Z0p g1).bind fun a =>
 (aU (fun s:(List Int)×Int=>Z00_L1 g1 a s.1 s.2) (([]:List Int),(0:Int))).bind fun e=>Z00_J3 e
def Z2k (a:Node):Option (Node) :=
 (Ze a.Args).bind fun h =>
 (Ze a.Dims).bind fun b =>
 (Ze a.Ints).bind fun e =>
 (Ze a.Data).bind fun g =>
 some (⟨a.Op,h,b,e,a.Form,g⟩:Node)
def Z0_J7 (a:(List Node))(b:(List Int)):Option (Graph×Bool) :=
 (Z0p (⟨a,b⟩:Graph)).bind fun e =>
 if (!e)=true then (
 some ((⟨([]:List Node),([]:List Int)⟩:Graph),false))
 else (
 some ((⟨a,b⟩:Graph),true))
def Z0_L4 (g:Graph)(b:(List Int))(e:(List Int))(a:Int):Option (((List Int)×Int)⊕((List Int))) :=
 if (decide (a<(g.Outs.length:Int)))=true then (
 if (0≤a∧a<(g.Outs.length:Int)) then
 if (0≤(ix g.Outs a)∧(ix g.Outs a)<(b.length:Int)) then
 if e.length+([(ix b (ix g.Outs a))]:List Int).length≤17592186044416 then
 some (.inl ((e++([(ix b (ix g.Outs a))]:List Int)),(aK (a+1))))
 else none
 else none
 else none)
 else (
 some (.inr e))
def Z0_J6 (g:Graph)(b:(List Node))(a:(List Int)):Option (Graph×Bool) :=
 (aU (fun s:(List Int)×Int=>Z0_L4 g a s.1 s.2) (([]:List Int),(0:Int))).bind fun e=>Z0_J7 b e
def Z0_J5 (b:Int)(e:(List Node))(a:(List Int))(g:Int):Option (((List Node)×(List Int)×Int×Int)⊕((Graph×Bool)⊕((List Node)×(List Int)))) :=
 some (.inl (e,a,g,(aK (b+1))))
def Z0_J4 (b:(List Node))(e:(List Int))(i:Int)(h:Int)(a:Node)(g:(List Int)):Option (((List Node)×(List Int)×Int×Int)⊕((Graph×Bool)⊕((List Node)×(List Int)))) :=
 if e.length+([(b.length:Int)]:List Int).length≤17592186044416 then
 if b.length+([(⟨a.Op,g,a.Dims,a.Ints,a.Form,a.Data⟩:Node)]:List Node).length≤1172812402961 then
 Z0_J5 h (b++([(⟨a.Op,g,a.Dims,a.Ints,a.Form,a.Data⟩:Node)]:List Node)) (e++([(b.length:Int)]:List Int)) i
 else none
 else none
def Z0_L3 (e:(List Int))(g:Node)(b:(List Int))(a:Int):Option (((List Int)×Int)⊕((List Int))) :=
 if (decide (a<(g.Args.length:Int)))=true then (
 if (0≤a∧a<(g.Args.length:Int)) then
 if (0≤(ix b a)∧(ix b a)<(e.length:Int)) then
 some (.inl ((b.set a.toNat (ix e (ix b a))),(aK (a+1))))
 else none
 else none)
 else (
 some (.inr b))
def Z0_L2 (g1:Graph)(m:Graph)(j:(List (List Int)))(i:(List Node))(b:(List Int))(a:Int)(g:Int):Option (((List Node)×(List Int)×Int×Int)⊕((Graph×Bool)⊕((List Node)×(List Int)))) :=
 if (decide (g<(m.Nodes.length:Int)))=true then (
 if (0≤g∧g<(m.Nodes.length:Int)) then
 (Z2k (ix m.Nodes g)).bind fun h =>
 if (h.Op==1)=true then (
 if (0≤a∧a<(g1.Outs.length:Int)) then
 if (0≤(ix g1.Outs a)∧(ix g1.Outs a)<(j.length:Int)) then
 (Zw h.Dims (ix j (ix g1.Outs a))).bind fun l =>
 if (!l)=true then (
 some (.inr (.inl ((⟨([]:List Node),([]:List Int)⟩:Graph),false))))
 else (
 if b.length+([(ix g1.Outs a)]:List Int).length≤17592186044416 then
 Z0_J5 g i (b++([(ix g1.Outs a)]:List Int)) (aK (a+1))
 else none)
 else none
 else none)
 else (
 (aU (fun s:(List Int)×Int=>Z0_L3 b h s.1 s.2) (h.Args,(0:Int))).bind fun e=>Z0_J4 i b a g h e)
 else none)
 else (
 some (.inr (.inr (i,b))))
def Z0_J1 (g1:Graph)(g:Graph)(a:(List (List Int)))(b:(List Node)):Option (Graph×Bool) :=
 (aU (fun s:(List Node)×(List Int)×Int×Int=>Z0_L2 g1 g a s.1 s.2.1 s.2.2.1 s.2.2.2) (b,([]:List Int),(0:Int),(0:Int))).bind fun e=>match e with
 | .inl e=>some e
 | .inr e=>Z0_J6 g e.1 e.2
def Z0_L1 (g1:Graph)(b:(List Node))(a:Int):Option (((List Node)×Int)⊕((List Node))) :=
 if (decide (a<(g1.Nodes.length:Int)))=true then (
 if (0≤a∧a<(g1.Nodes.length:Int)) then
 (Z2k (ix g1.Nodes a)).bind fun e =>
 if b.length+([e]:List Node).length≤1172812402961 then
 some (.inl ((b++([e]:List Node)),(aK (a+1))))
 else none
 else none)
 else (
 some (.inr b))
def Z0 (g1:Graph)(g:Graph):Option (Graph×Bool) :=
 (Z0v g1).bind fun h =>
 (Z0p g1).bind fun a =>
 (bT (!(!a)) (Z0p g)).bind fun b =>
 (bT (!((!a)||(!b))) (Z00 g)).bind fun i =>
 if (((!a)||(!b))||((g1.Outs.length:Int) != (i.length:Int)))=true then (
 some ((⟨([]:List Node),([]:List Int)⟩:Graph),false))
 else (
 (aU (fun s:(List Node)×Int=>Z0_L1 g1 s.1 s.2) (([]:List Node),(0:Int))).bind fun e=>Z0_J1 g1 g h e)
def Z3j (a:Int)(b:Int):Option (Int×Int) :=
 some (a,b)
def Z3k (a:Int)(b:Int):Option (Int×Int) :=
 some (a,b)
def Z3l (a:Int)(b:Int):Option (Int×Int) :=
 some (a,b)
def Z3m (a:Int)(b:Int):Option (Int×Int) :=
 some (a,b)
def Zx_J3 (a:Int)(i:Bool):Option (kindOfR) :=
 if i=true then (
 some (⟨6,false,(0:Int),(0:Int),fF⟩:kindOfR))
 else (
 if (a==15)=true then (
 (Z3j (4:Int) (4:Int)).bind fun b =>
 some (⟨8,false,b.1,b.2,fF⟩:kindOfR))
 else (
 if (a==16)=true then (
 (Z3k (1:Int) (4097:Int)).bind fun e =>
 some (⟨9,false,e.1,e.2,fF⟩:kindOfR))
 else (
 if (a==17)=true then (
 (Z3l (2:Int) (4098:Int)).bind fun g =>
 some (⟨10,false,g.1,g.2,fF⟩:kindOfR))
 else (
 if (a==19)=true then (
 (Z3m (3:Int) (3:Int)).bind fun h =>
 some (⟨11,false,h.1,h.2,fF⟩:kindOfR))
 else (
 some (⟨0,false,(0:Int),(0:Int),([]:aP)⟩:kindOfR))))))
def Zx_J2 (a:Int)(b:Bool):Option (kindOfR) :=
 if b=true then (
 some (⟨3,false,(aK ((aK (a - 6))+1)),(0:Int),([]:aP)⟩:kindOfR))
 else (
 if (a==10)=true then (
 some (⟨4,false,(0:Int),(0:Int),([]:aP)⟩:kindOfR))
 else (
 if (a==11)=true then (
 some (⟨5,false,(0:Int),(0:Int),([]:aP)⟩:kindOfR))
 else (
 if (a==12)=true then (
 some (⟨6,false,(0:Int),(0:Int),hW⟩:kindOfR))
 else (
 if (a==13)=true then (
 some (⟨7,false,(0:Int),(0:Int),hW⟩:kindOfR))
 else (
 if (a==14)=true then (
 Zx_J3 a (a==14))
 else (
 Zx_J3 a (a==18)))))))
def Zx_J1 (a:Int)(b:Bool):Option (kindOfR) :=
 if b=true then (
 some (⟨2,false,(aK ((aK (a - 3))+1)),(0:Int),([]:aP)⟩:kindOfR))
 else (
 if (a==6)=true then (
 Zx_J2 a (a==6))
 else (
 if (a==7)=true then (
 Zx_J2 a (a==7))
 else (
 if (a==8)=true then (
 Zx_J2 a (a==8))
 else (
 Zx_J2 a (a==9)))))
def Zx (a:Int):Option (kindOfR) :=
 if (a==1)=true then (
 some (⟨1,false,(0:Int),(0:Int),([]:aP)⟩:kindOfR))
 else (
 if (a==2)=true then (
 some (⟨1,true,(0:Int),(0:Int),([]:aP)⟩:kindOfR))
 else (
 if (a==3)=true then (
 Zx_J1 a (a==3))
 else (
 if (a==4)=true then (
 Zx_J1 a (a==4))
 else (
 Zx_J1 a (a==5)))))
def Z3o (k1:leafKind):Option (aP) :=
 if k1.data=true then (
 some pg)
 else (
 some hW)
def Z3p (k1:pairKind):Option (aP) :=
 some ([]:aP)
def Z3w (k1:soloKind):Option (aP) :=
 some ([]:aP)
def Z3x (k1:topKind):Option (aP) :=
 some fF
def Z3n (k1:formKind):Option (aP) :=
 some kB
def Z3u (k1:shiftKind):Option (aP) :=
 some k1.use
def Z3v (k1:shiftKind):Option (aP) :=
 some k1.use
def Z3q (k1:shiftKind)(a:Int)(b:Int):Option (aP) :=
 some k1.use
def Z3r (k1:shiftKind)(a:Int)(b:Int):Option (aP) :=
 some k1.use
def Z3s (k1:shiftKind)(a:Int)(b:Int):Option (aP) :=
 some k1.use
def Z3t (k1:shiftKind)(a:Int)(b:Int):Option (aP) :=
 some k1.use
def gK (r:kindOfR):Option (aP) :=
 if Nat.beq r.t 0=true then none else (if Nat.beq r.t 1=true then Z3o (⟨r.b0⟩:leafKind) else (if Nat.beq r.t 2=true then Z3p (⟨r.i0⟩:pairKind) else (if Nat.beq r.t 3=true then Z3w (⟨r.i0⟩:soloKind) else (if Nat.beq r.t 4=true then Z3x (⟨⟩:topKind) else (if Nat.beq r.t 5=true then Z3n (⟨⟩:formKind) else (if Nat.beq r.t 6=true then Z3u (⟨r.s0⟩:shiftKind) else (if Nat.beq r.t 7=true then Z3v (⟨r.s0⟩:shiftKind) else (if Nat.beq r.t 8=true then Z3q (⟨r.s0⟩:shiftKind) r.i0 r.i1 else (if Nat.beq r.t 9=true then Z3r (⟨r.s0⟩:shiftKind) r.i0 r.i1 else (if Nat.beq r.t 10=true then Z3s (⟨r.s0⟩:shiftKind) r.i0 r.i1 else (Z3t (⟨r.s0⟩:shiftKind) r.i0 r.i1)))))))))))
def cZ (a b:aP):Option (Int) :=
 if a.length<4294967281 then some (Lib.index a b) else none
def Z2l (p1:aP)(a:aP):Option (Int) :=
 (cZ p1 a).bind fun b =>
 some b
def Z3z (p1:aP)(a:aP):Option (Bool) :=
 (Z2l p1 a).bind fun b =>
 some (decide (b≥0))
def Z7 (a:aP)(b:aP):Option (Bool) :=
 (Z3z b a).bind fun e =>
 some e
def Z22 (b:Node)(a:aP):Option (Bool) :=
 (Z7 hW a).bind fun h =>
 (bT (h||((b.Dims.length:Int)==0)) (Z7 fF a)).bind fun e =>
 (bT ((h||((b.Dims.length:Int)==0))&&(e||((b.Ints.length:Int)==0))) (Z7 kB a)).bind fun g =>
 (bT (((h||((b.Dims.length:Int)==0))&&(e||((b.Ints.length:Int)==0)))&&(g||(b.Form==([]:aP)))) (Z7 ph a)).bind fun i =>
 some ((((h||((b.Dims.length:Int)==0))&&(e||((b.Ints.length:Int)==0)))&&(g||(b.Form==([]:aP))))&&(i||((b.Data.length:Int)==0)))
def Zf_J1 (a:(List Int)):Option (Bool) :=
 some (decide ((a.length:Int)≤6))
def Zf_L1 (a:(List Int))(e:Int)(b:Int):Option ((Int×Int)⊕((Bool)⊕(Unit))) :=
 if (decide (b<(a.length:Int)))=true then (
 if (0≤b∧b<(a.length:Int)) then
 if ((decide ((ix a b)<1))||(decide ((ix a b)>4096)))=true then (
 some (.inr (.inl false)))
 else (
 if (decide ((aK (e*(ix a b)))>4096))=true then (
 some (.inr (.inl false)))
 else (
 some (.inl ((aK (e*(ix a b))),(aK (b+1))))))
 else none)
 else (
 some (.inr (.inr ())))
def Zf (a:(List Int)):Option (Bool) :=
 (aU (fun s:Int×Int=>Zf_L1 a s.1 s.2) ((1:Int),(0:Int))).bind fun e=>match e with
 | .inl e=>some e
 | .inr e=>Zf_J1 a
def Zo_J1 (a:Int):Option (Int) :=
 some a
def Zo_L1 (a:(List Int))(e:Int)(b:Int):Option ((Int×Int)⊕(Int)) :=
 if (decide (b<(a.length:Int)))=true then (
 if (0≤b∧b<(a.length:Int)) then
 some (.inl ((aK (e*(ix a b))),(aK (b+1))))
 else none)
 else (
 some (.inr e))
def Zo (a:(List Int)):Option (Int) :=
 (aU (fun s:Int×Int=>Zo_L1 a s.1 s.2) ((1:Int),(0:Int))).bind fun e=>Zo_J1 e
def Z3b (p1:Int):Option (Bool) :=
 some ((decide (p1≥0))&&(decide (p1<2147483647)))
def Z1a_J1:Option (Bool) :=
 some true
def Z1a_L1 (b:(List Int))(a:Int):Option ((Int)⊕((Bool)⊕(Unit))) :=
 if (decide (a<(b.length:Int)))=true then (
 if (0≤a∧a<(b.length:Int)) then
 (Z3b (ix b a)).bind fun e =>
 if (!e)=true then (
 some (.inr (.inl false)))
 else (
 some (.inl (aK (a+1))))
 else none)
 else (
 some (.inr (.inr ())))
def Z1a (a:(List Int)):Option (Bool) :=
 (aU (fun s:Int=>Z1a_L1 a s) (0:Int)).bind fun e=>match e with
 | .inl e=>some e
 | .inr e=>Z1a_J1
def Z2t (t1:Tensor):Option (Bool) :=
 (Zf t1.Dims).bind fun a =>
 (bT a (Zo t1.Dims)).bind fun b =>
 (bT (a&&((t1.Data.length:Int)==b)) (Z1a t1.Data)).bind fun e =>
 some ((a&&((t1.Data.length:Int)==b))&&e)
def Z1q (k1:leafKind)(e:Node)(a:(List (List Int))):Option ((List Int)×Bool) :=
 (bT (!((a.length:Int) != 0)) (Zf e.Dims)).bind fun b =>
 (bT ((!(((a.length:Int) != 0)||(!b)))&&k1.data) (Z2t (⟨e.Dims,e.Data⟩:Tensor))).bind fun g =>
 if ((((a.length:Int) != 0)||(!b))||(k1.data&&(!g)))=true then (
 some (([]:List Int),false))
 else (
 some (e.Dims,true))
def Z0u_J1:Option (Bool) :=
 some true
def Z0u_L1 (b:(List Int))(e:(List Int))(a:Int):Option ((Int)⊕((Bool)⊕(Unit))) :=
 if (decide (a<(b.length:Int)))=true then (
 if (0≤a∧a<(b.length:Int)) then
 if (0≤a∧a<(e.length:Int)) then
 if ((ix b a) != (ix e a))=true then (
 some (.inr (.inl false)))
 else (
 some (.inl (aK (a+1))))
 else none
 else none)
 else (
 some (.inr (.inr ())))
def Z0u (a:(List Int))(b:(List Int)):Option (Bool) :=
 if ((a.length:Int) != (b.length:Int))=true then (
 some false)
 else (
 (aU (fun s:Int=>Z0u_L1 a b s) (0:Int)).bind fun e=>match e with
 | .inl e=>some e
 | .inr e=>Z0u_J1)
def Z2a (k1:pairKind)(e:Node)(a:(List (List Int))):Option ((List Int)×Bool) :=
 if ((a.length:Int) != 2)=false→(0≤(0:Int)∧(0:Int)<(a.length:Int)) then
 if ((a.length:Int) != 2)=false→(0≤(1:Int)∧(1:Int)<(a.length:Int)) then
 (bT (!((a.length:Int) != 2)) (Z0u (ix a 0) (ix a 1))).bind fun b =>
 if (((a.length:Int) != 2)||(!b))=true then (
 some (([]:List Int),false))
 else (
 if (0≤(0:Int)∧(0:Int)<(a.length:Int)) then
 some ((ix a 0),true)
 else none)
 else none
 else none
def Z33 (k1:soloKind)(b:Node)(a:(List (List Int))):Option ((List Int)×Bool) :=
 if ((a.length:Int) != 1)=true then (
 some (([]:List Int),false))
 else (
 if (0≤(0:Int)∧(0:Int)<(a.length:Int)) then
 some ((ix a 0),true)
 else none)
def Zn (b:(List Int))(a:Int):Option (Bool) :=
 some ((decide (a≥0))&&(decide (a<(b.length:Int))))
def Z23 (k1:topKind)(b:Node)(a:(List (List Int))):Option ((List Int)×Bool) :=
 if (((a.length:Int) != 1)||((b.Ints.length:Int) != 1))=false→(0≤(0:Int)∧(0:Int)<(a.length:Int)) then
 if (((a.length:Int) != 1)||((b.Ints.length:Int) != 1))=false→(0≤(0:Int)∧(0:Int)<(b.Ints.length:Int)) then
 (bT (!(((a.length:Int) != 1)||((b.Ints.length:Int) != 1))) (Zn (ix a 0) (ix b.Ints 0))).bind fun e =>
 if ((((a.length:Int) != 1)||((b.Ints.length:Int) != 1))||(!e))=true then (
 some (([]:List Int),false))
 else (
 if (0≤(0:Int)∧(0:Int)<(a.length:Int)) then
 some ((ix a 0),true)
 else none)
 else none
 else none
def eI (p1:aP)(a:aP):Option (aP×aP×Bool) :=
 (cZ p1 a).bind fun b =>
 if (decide (b≥0))=true then (
 if (0≤(0:Int)∧(0:Int)≤b∧b≤(p1.length:Int)) then
 if (0≤(aK (b+(a.length:Int)))∧(aK (b+(a.length:Int)))≤(p1.length:Int)∧(p1.length:Int)≤(p1.length:Int)) then
 some ((sub p1 (0:Int) b),(sub p1 (aK (b+(a.length:Int))) (p1.length:Int)),true)
 else none
 else none)
 else (
 some (p1,([]:aP),false))
def Z37 (p1:aP)(a:aP):Option (aP×aP×Bool) :=
 (eI p1 a).bind fun b =>
 some (b.1,b.2.1,b.2.2)
def Z3i (a b:aP):Option (Int) :=
 match b with
 | [c]=>some (Lib.countByte a c)
 | _=>none
def Z0n_J3 (p1:aP)(b:Int)(g:aP)(e:(List aP))(a:Int):Option ((List aP)) :=
 if (0≤a∧a<((List.replicate (if (aK ((p1.length:Int)+1))<b then (aK ((p1.length:Int)+1)) else b).toNat ([]:aP)).length:Int)) then
 if (0≤(0:Int)∧(0:Int)≤(aK (a+1))∧(aK (a+1))≤((List.replicate (if (aK ((p1.length:Int)+1))<b then (aK ((p1.length:Int)+1)) else b).toNat ([]:aP)).length:Int)) then
 some (sub (e.set a.toNat g) (0:Int) (aK (a+1)))
 else none
 else none
def Z0n_L1 (p1:aP)(h:aP)(a:Int)(i:Int)(b:aP)(j:(List aP))(e:Int):Option ((aP×(List aP)×Int)⊕(aP×(List aP)×Int)) :=
 if (decide (e<(aK ((if (aK ((p1.length:Int)+1))<i then (aK ((p1.length:Int)+1)) else i) - 1))))=true then (
 (Z2l b h).bind fun g =>
 if (decide (g<0))=true then (
 some (.inr (b,j,e)))
 else (
 if (0≤(0:Int)∧(0:Int)≤(aK (g+a))∧(aK (g+a))≤(b.length:Int)) then
 if (0≤e∧e<((List.replicate (if (aK ((p1.length:Int)+1))<i then (aK ((p1.length:Int)+1)) else i).toNat ([]:aP)).length:Int)) then
 (nm (j.set e.toNat (sub b (0:Int) (aK (g+a))))).bind fun l =>
 if (0≤(aK (g+(h.length:Int)))∧(aK (g+(h.length:Int)))≤(b.length:Int)∧(b.length:Int)≤(b.length:Int)) then
 some (.inl ((sub b (aK (g+(h.length:Int))) (b.length:Int)),l,(aK (e+1))))
 else none
 else none
 else none))
 else (
 some (.inr (b,j,e)))
def Z0n_J2 (p1:aP)(g:aP)(b:Int)(a:Int):Option ((List aP)) :=
 if (0≤(if (aK ((p1.length:Int)+1))<a then (aK ((p1.length:Int)+1)) else a)∧(if (aK ((p1.length:Int)+1))<a then (aK ((p1.length:Int)+1)) else a)≤140737488355328∧16*(if (aK ((p1.length:Int)+1))<a then (aK ((p1.length:Int)+1)) else a)≤281474976710656) then
 (aU (fun s:aP×(List aP)×Int=>Z0n_L1 p1 g b a s.1 s.2.1 s.2.2) (p1,(List.replicate (if (aK ((p1.length:Int)+1))<a then (aK ((p1.length:Int)+1)) else a).toNat ([]:aP)),(0:Int))).bind fun e=>Z0n_J3 p1 a e.1 e.2.1 e.2.2
 else none
def Z0n (p1:aP)(b:aP)(a:Int)(e:Int):Option ((List aP)) :=
 if (e==0)=true then (
 some ([]:List aP))
 else (
 if (b==([]:aP))=true then (
 none)
 else (
 if (decide (e<0))=true then (
 (Z3i p1 b).bind fun g =>
 Z0n_J2 p1 b a (aK (g+1)))
 else (
 Z0n_J2 p1 b a e)))
def Z38 (p1:aP)(a:aP):Option ((List aP)) :=
 (Z0n p1 a (0:Int) (-1:Int)).bind fun b =>
 some b
def dL (b:aP)(a:Int):Option (Int) :=
 some (Lib.indexByte b a.toNat.toUInt8)
def Z1z (p1:aP)(a:Int):Option (Int) :=
 (dL p1 a).bind fun b =>
 some b
def Zg_J4 (a:aP×aP×Bool)(b:(List aP)):Option ((List aP)×aP×Bool) :=
 some (b,a.2.1,true)
def Zg_L3 (b:aP×aP×Bool)(a:Int):Option ((Int)⊕(((List aP)×aP×Bool)⊕(Unit))) :=
 if (decide (a<(b.2.1.length:Int)))=true then (
 if (0≤a∧a<(b.2.1.length:Int)) then
 if ((decide ((bt b.2.1 a)<97))||(decide ((bt b.2.1 a)>122)))=false→(0≤(0:Int)∧(0:Int)≤a∧a≤(b.2.1.length:Int)) then
 (bT (!((decide ((bt b.2.1 a)<97))||(decide ((bt b.2.1 a)>122)))) (Z1z (sub b.2.1 (0:Int) a) (bt b.2.1 a))).bind fun e =>
 (bT (!(((decide ((bt b.2.1 a)<97))||(decide ((bt b.2.1 a)>122)))||(decide (e≥0)))) (Z1z b.1 (bt b.2.1 a))).bind fun g =>
 if ((((decide ((bt b.2.1 a)<97))||(decide ((bt b.2.1 a)>122)))||(decide (e≥0)))||(decide (g<0)))=true then (
 some (.inr (.inl (([]:List aP),([]:aP),false))))
 else (
 some (.inl (aK (a+1))))
 else none
 else none)
 else (
 some (.inr (.inr ())))
def Zg_J3 (a:aP×aP×Bool)(b:(List aP)):Option ((List aP)×aP×Bool) :=
 (aU (fun s:Int=>Zg_L3 a s) (0:Int)).bind fun e=>match e with
 | .inl e=>some e
 | .inr e=>Zg_J4 a b
def Zg_J2 (a:Int):Option ((Int)⊕(((List aP)×aP×Bool)⊕(Unit))) :=
 some (.inl (aK (a+1)))
def Zg_L2 (e:(List aP))(b:Int)(a:Int):Option ((Int)⊕(((List aP)×aP×Bool)⊕(Unit))) :=
 if (decide (a<((ix e b).length:Int)))=true then (
 if (0≤a∧a<((ix e b).length:Int)) then
 if ((decide ((bt (ix e b) a)<97))||(decide ((bt (ix e b) a)>122)))=true then (
 some (.inr (.inl (([]:List aP),([]:aP),false))))
 else (
 some (.inl (aK (a+1))))
 else none)
 else (
 some (.inr (.inr ())))
def Zg_L1 (b:(List aP))(a:Int):Option ((Int)⊕(((List aP)×aP×Bool)⊕(Unit))) :=
 if (decide (a<(b.length:Int)))=true then (
 if (0≤a∧a<(b.length:Int)) then
 if (decide (((ix b a).length:Int)>6))=true then (
 some (.inr (.inl (([]:List aP),([]:aP),false))))
 else (
 (aU (fun s:Int=>Zg_L2 b a s) (0:Int)).bind fun e=>match e with
 | .inl e=>some (.inr (.inl e))
 | .inr e=>Zg_J2 a)
 else none)
 else (
 some (.inr (.inr ())))
def Zg (a:aP):Option ((List aP)×aP×Bool) :=
 (Z37 a str0).bind fun b =>
 if ((!b.2.2)||(decide ((b.2.1.length:Int)>6)))=true then (
 some (([]:List aP),([]:aP),false))
 else (
 (Z38 b.1 str6).bind fun g =>
 if (decide ((g.length:Int)>6))=true then (
 some (([]:List aP),([]:aP),false))
 else (
 (aU (fun s:Int=>Zg_L1 g s) (0:Int)).bind fun e=>match e with
 | .inl e=>some e
 | .inr e=>Zg_J3 b g))
def Zc (a:List Int):Option (List Int) :=
 if a.length≤17592186044416 then some a else none
def Z08_J3 (a:(List Int)):Option ((List Int)) :=
 some a
def Z08_J2 (a:(List Int))(e:Int)(b:Int)(g:(List Int)):Option (((List Int)×Int×Int)⊕((List Int))) :=
 if (0≤b∧b<(a.length:Int)) then
 some (.inl (g,(aK (e*(ix a b))),(aK (b - 1))))
 else none
def Z08_L1 (a:(List Int))(g:(List Int))(e:Int)(b:Int):Option (((List Int)×Int×Int)⊕((List Int))) :=
 if (decide (b≥0))=true then (
 if (0≤b∧b<(a.length:Int)) then
 if (decide ((ix a b)>1))=true then (
 if (0≤b∧b<((List.replicate (a.length:Int).toNat (0:Int)).length:Int)) then
 Z08_J2 a e b (g.set b.toNat e)
 else none)
 else (
 Z08_J2 a e b g)
 else none)
 else (
 some (.inr g))
def Z08 (a:(List Int)):Option ((List Int)) :=
 if (0≤(a.length:Int)∧(a.length:Int)≤140737488355328∧8*(a.length:Int)≤281474976710656) then
 (aU (fun s:(List Int)×Int×Int=>Z08_L1 a s.1 s.2.1 s.2.2) ((List.replicate (a.length:Int).toNat (0:Int)),(1:Int),(aK ((a.length:Int) - 1)))).bind fun e=>Z08_J3 e
 else none
def Zm_J7 (a:(List Int)):Option ((List Int)) :=
 some a
def Zm_J6 (a:Int)(b:(List Int)):Option (((List Int)×Int)⊕((List Int))) :=
 some (.inl (b,(aK (a+1))))
def Zm_J5 (a:Int)(b:(List Int)):Option (((List Int)×Int)⊕((List Int))) :=
 some (.inl (b,(aK (a+1))))
def Zm_L2 (f1:form)(a:aP)(g:(List Int))(e:Int)(h:(List Int))(b:Int):Option (((List Int)×Int)⊕((List Int))) :=
 if (decide (b<(a.length:Int)))=true then (
 if (0≤b∧b<(a.length:Int)) then
 if (0≤e∧e<(f1.order.length:Int)) then
 if ((bt a b)==(bt f1.order e))=true then (
 if (0≤e∧e<((List.replicate (f1.order.length:Int).toNat (0:Int)).length:Int)) then
 if (0≤b∧b<(g.length:Int)) then
 Zm_J5 b (h.set e.toNat (aK ((ix h e)+(ix g b))))
 else none
 else none)
 else (
 Zm_J5 b h)
 else none
 else none)
 else (
 some (.inr h))
def Zm_L1 (f1:form)(a:aP)(b:(List Int))(h:(List Int))(g:Int):Option (((List Int)×Int)⊕((List Int))) :=
 if (decide (g<((List.replicate (f1.order.length:Int).toNat (0:Int)).length:Int)))=true then (
 (aU (fun s:(List Int)×Int=>Zm_L2 f1 a b g s.1 s.2) (h,(0:Int))).bind fun e=>Zm_J6 g e)
 else (
 some (.inr h))
def Zm (f1:form)(a:aP)(b:(List Int)):Option ((List Int)) :=
 if (0≤(f1.order.length:Int)∧(f1.order.length:Int)≤140737488355328∧8*(f1.order.length:Int)≤281474976710656) then
 (aU (fun s:(List Int)×Int=>Zm_L1 f1 a b s.1 s.2) ((List.replicate (f1.order.length:Int).toNat (0:Int)),(0:Int))).bind fun e=>Zm_J7 e
 else none
def Z4_J9 (i:(List aP)×aP×Bool)(b:aP)(e:(List Int))(a:(List Int))(f224:(List (List Int))):Option (form×Bool) :=
 (Z08 a).bind fun g =>
 (Zm (⟨i.1,i.2.1,b,e,a,f224,([]:List Int)⟩:form) i.2.1 g).bind fun h =>
 some ((⟨i.1,i.2.1,b,e,a,f224,h⟩:form),true)
def Z4_L4 (b:(List (List Int)))(m:(List aP)×aP×Bool)(h:aP)(i:(List Int))(j:(List Int))(e:(List (List Int)))(a:Int):Option (((List (List Int))×Int)⊕((List (List Int)))) :=
 if (decide (a<(m.1.length:Int)))=true then (
 if (0≤a∧a<(m.1.length:Int)) then
 if (0≤a∧a<(b.length:Int)) then
 (Z08 (ix b a)).bind fun l =>
 (Zm (⟨m.1,m.2.1,h,i,j,e,([]:List Int)⟩:form) (ix m.1 a) l).bind fun g =>
 if e.length+([g]:List (List Int)).length≤5864062014805 then
 some (.inl ((e++([g]:List (List Int))),(aK (a+1))))
 else none
 else none
 else none)
 else (
 some (.inr e))
def Z4_J8 (g:(List (List Int)))(j:(List aP)×aP×Bool)(h:aP)(a:(List Int)):Option (form×Bool) :=
 if (0≤(0:Int)∧(0:Int)≤(j.2.1.length:Int)∧(j.2.1.length:Int)≤(a.length:Int)) then
 (Zc (sub a (0:Int) (j.2.1.length:Int))).bind fun b =>
 (Zf b).bind fun i =>
 if (!i)=true then (
 some ((⟨([]:List aP),([]:aP),([]:aP),([]:List Int),([]:List Int),([]:List (List Int)),([]:List Int)⟩:form),false))
 else (
 (aU (fun s:(List (List Int))×Int=>Z4_L4 g j h a b s.1 s.2) (([]:List (List Int)),(0:Int))).bind fun e=>Z4_J9 j h a b e)
 else none
def Z4_L3 (e:aP)(b:(List Int))(h:(List Int))(g:Int)(a:Int):Option (((List Int)×Int×Int)⊕((form×Bool)⊕((List Int)))) :=
 if (decide (a<(e.length:Int)))=true then (
 if (0≤a∧a<(e.length:Int)) then
 if (0≤(IntKind.wrap .u8 ((bt e a) - 97))∧(IntKind.wrap .u8 ((bt e a) - 97))<26) then
 if h.length+([(ix b (IntKind.wrap .u8 ((bt e a) - 97)))]:List Int).length≤17592186044416 then
 if (decide ((aK (g*(ix b (IntKind.wrap .u8 ((bt e a) - 97)))))>65536))=true then (
 some (.inr (.inl ((⟨([]:List aP),([]:aP),([]:aP),([]:List Int),([]:List Int),([]:List (List Int)),([]:List Int)⟩:form),false))))
 else (
 some (.inl ((h++([(ix b (IntKind.wrap .u8 ((bt e a) - 97)))]:List Int)),(aK (g*(ix b (IntKind.wrap .u8 ((bt e a) - 97))))),(aK (a+1)))))
 else none
 else none
 else none)
 else (
 some (.inr (.inr h)))
def Z4_J7 (b:(List (List Int)))(h:(List aP)×aP×Bool)(g:aP)(a:(List Int)):Option (form×Bool) :=
 (aU (fun s:(List Int)×Int×Int=>Z4_L3 g a s.1 s.2.1 s.2.2) (([]:List Int),(1:Int),(0:Int))).bind fun e=>match e with
 | .inl e=>some e
 | .inr e=>Z4_J8 b h g e
def Z4_J6 (e:Int)(b:aP)(a:(List Int)):Option ((aP×(List Int)×Int)⊕((form×Bool)⊕(aP×(List Int)))) :=
 some (.inl (b,a,(aK (e+1))))
def Z4_J5 (e:Int)(b:aP)(a:(List Int)):Option ((aP×(List Int)×Int)⊕((form×Bool)⊕(aP×(List Int)))) :=
 some (.inl (b,a,(aK (e+1))))
def Z4_L2 (g:(List (List Int)))(i:(List aP)×aP×Bool)(e:Int)(h:aP)(b:(List Int))(a:Int):Option ((aP×(List Int)×Int)⊕((form×Bool)⊕(aP×(List Int)))) :=
 if (decide (a<((ix i.1 e).length:Int)))=true then (
 if (0≤a∧a<((ix i.1 e).length:Int)) then
 if (0≤(IntKind.wrap .u8 ((bt (ix i.1 e) a) - 97))∧(IntKind.wrap .u8 ((bt (ix i.1 e) a) - 97))<26) then
 if ((ix b (IntKind.wrap .u8 ((bt (ix i.1 e) a) - 97))) != 0)=true→(0≤a∧a<((ix g e).length:Int)) then
 if (((ix b (IntKind.wrap .u8 ((bt (ix i.1 e) a) - 97))) != 0)&&((ix b (IntKind.wrap .u8 ((bt (ix i.1 e) a) - 97))) != (ix (ix g e) a)))=true then (
 some (.inr (.inl ((⟨([]:List aP),([]:aP),([]:aP),([]:List Int),([]:List Int),([]:List (List Int)),([]:List Int)⟩:form),false))))
 else (
 if (0≤a∧a<((ix g e).length:Int)) then
 (nm (b.set (IntKind.wrap .u8 ((bt (ix i.1 e) a) - 97)).toNat (ix (ix g e) a))).bind fun j =>
 (Z1z h (bt (ix i.1 e) a)).bind fun l =>
 if (decide (l<0))=true then (
 if (0≤a∧a≤(aK (a+1))∧(aK (a+1))≤((ix i.1 e).length:Int)) then
 if h.length+(sub (ix i.1 e) a (aK (a+1))).length≤9223372036854775807 then
 Z4_J5 a (h++(sub (ix i.1 e) a (aK (a+1)))) j
 else none
 else none)
 else (
 Z4_J5 a h j)
 else none)
 else none
 else none
 else none)
 else (
 some (.inr (.inr (h,b))))
def Z4_L1 (a:(List (List Int)))(i:(List aP)×aP×Bool)(h:aP)(g:(List Int))(b:Int):Option ((aP×(List Int)×Int)⊕((form×Bool)⊕(aP×(List Int)))) :=
 if (decide (b<(i.1.length:Int)))=true then (
 if (0≤b∧b<(i.1.length:Int)) then
 if (0≤b∧b<(a.length:Int)) then
 if (((ix i.1 b).length:Int) != ((ix a b).length:Int))=true then (
 some (.inr (.inl ((⟨([]:List aP),([]:aP),([]:aP),([]:List Int),([]:List Int),([]:List (List Int)),([]:List Int)⟩:form),false))))
 else (
 (aU (fun s:aP×(List Int)×Int=>Z4_L2 a i b s.1 s.2.1 s.2.2) (h,g,(0:Int))).bind fun e=>match e with
 | .inl e=>some (.inr (.inl e))
 | .inr e=>Z4_J6 b e.1 e.2)
 else none
 else none)
 else (
 some (.inr (.inr (h,g))))
def Z4 (b:aP)(a:(List (List Int))):Option (form×Bool) :=
 (Zg b).bind fun g =>
 if ((!g.2.2)||((g.1.length:Int) != (a.length:Int)))=true then (
 some ((⟨([]:List aP),([]:aP),([]:aP),([]:List Int),([]:List Int),([]:List (List Int)),([]:List Int)⟩:form),false))
 else (
 (aU (fun s:aP×(List Int)×Int=>Z4_L1 a g s.1 s.2.1 s.2.2) (g.2.1,(List.replicate 26 (0:Int)),(0:Int))).bind fun e=>match e with
 | .inl e=>some e
 | .inr e=>Z4_J7 a g e.1 e.2)
def Z32 (k1:formKind)(e:Node)(a:(List (List Int))):Option ((List Int)×Bool) :=
 (Z4 e.Form a).bind fun b =>
 some (b.1.dims,b.2)
def Z2v (a:(List Int)):Option (View) :=
 (Zf a).bind fun g =>
 if (!g)=true then (
 some (⟨([]:List Int),([]:List Int),(0:Int),(0:Int)⟩:View))
 else (
 (Zc a).bind fun h =>
 (Z08 a).bind fun b =>
 (Zo a).bind fun e =>
 some (⟨h,b,(0:Int),e⟩:View))
def Zk_J1 (v1:View)(b:Int)(a:Int):Option (Bool) :=
 some ((decide (b≥0))&&(decide (a<v1.Base)))
def Zk_L1 (v1:View)(e:Int)(b:Int)(a:Int):Option ((Int×Int×Int)⊕((Bool)⊕(Int×Int))) :=
 if (decide (a<(v1.Strides.length:Int)))=true then (
 if (0≤a∧a<(v1.Strides.length:Int)) then
 if ((decide ((ix v1.Strides a)<(-4096:Int)))||(decide ((ix v1.Strides a)>4096)))=true then (
 some (.inr (.inl false)))
 else (
 if (0≤a∧a<(v1.Dims.length:Int)) then
 some (.inl ((aK (e+(if (aK ((ix v1.Strides a)*(aK ((ix v1.Dims a) - 1))))<0 then (aK ((ix v1.Strides a)*(aK ((ix v1.Dims a) - 1)))) else (0:Int)))),(aK (b+(if (aK ((ix v1.Strides a)*(aK ((ix v1.Dims a) - 1))))>0 then (aK ((ix v1.Strides a)*(aK ((ix v1.Dims a) - 1)))) else (0:Int)))),(aK (a+1))))
 else none)
 else none)
 else (
 some (.inr (.inr (e,b))))
def Zk (v1:View):Option (Bool) :=
 (Zf v1.Dims).bind fun a =>
 if ((((((!a)||((v1.Strides.length:Int) != (v1.Dims.length:Int)))||(decide (v1.Base<1)))||(decide (v1.Base>4096)))||(decide (v1.Offset<0)))||(decide (v1.Offset≥v1.Base)))=true then (
 some false)
 else (
 (aU (fun s:Int×Int×Int=>Zk_L1 v1 s.1 s.2.1 s.2.2) (v1.Offset,v1.Offset,(0:Int))).bind fun e=>match e with
 | .inl e=>some e
 | .inr e=>Zk_J1 v1 e.1 e.2)
def Z0b_J3 (p1:View)(b:(List Int))(a:(List Int)):Option (Bool×View) :=
 some (true,(⟨b,a,p1.Offset,p1.Base⟩:View))
def Z0b_J2 (a:Int)(b:(List Int)):Option (((List Int)×Int)⊕((Bool×View)⊕((List Int)))) :=
 some (.inl (b,(aK (a+1))))
def Z0b_L1 (p1:View)(e:(List Int))(b:View)(i:(List Int))(g:(List Int))(a:Int):Option (((List Int)×Int)⊕((Bool×View)⊕((List Int)))) :=
 if (decide (a<(b.Dims.length:Int)))=true then (
 if (0≤a∧a<(b.Dims.length:Int)) then
 if (0≤(aK ((aK ((e.length:Int) - (b.Dims.length:Int)))+a))∧(aK ((aK ((e.length:Int) - (b.Dims.length:Int)))+a))<(e.length:Int)) then
 if ((ix b.Dims a)==(ix e (aK ((aK ((e.length:Int) - (b.Dims.length:Int)))+a))))=true then (
 if (0≤a∧a<(b.Strides.length:Int)) then
 if (0≤(aK ((aK ((e.length:Int) - (b.Dims.length:Int)))+a))∧(aK ((aK ((e.length:Int) - (b.Dims.length:Int)))+a))<((List.replicate (e.length:Int).toNat (0:Int)).length:Int)) then
 (nm (g.set (aK ((aK ((e.length:Int) - (b.Dims.length:Int)))+a)).toNat (ix b.Strides a))).bind fun h =>
 Z0b_J2 a h
 else none
 else none)
 else (
 if ((ix b.Dims a) != 1)=true then (
 some (.inr (.inl (false,(⟨i,g,p1.Offset,p1.Base⟩:View)))))
 else (
 Z0b_J2 a g))
 else none
 else none)
 else (
 some (.inr (.inr g)))
def Z0b (p1:View)(a:(List Int))(h:View):Option (Bool×View) :=
 (Zf a).bind fun g =>
 if ((!g)||(decide ((a.length:Int)<(h.Dims.length:Int))))=true then (
 some (false,p1))
 else (
 (Zc a).bind fun b =>
 if (0≤(a.length:Int)∧(a.length:Int)≤140737488355328∧8*(a.length:Int)≤281474976710656) then
 (aU (fun s:(List Int)×Int=>Z0b_L1 p1 a h b s.1 s.2) ((List.replicate (a.length:Int).toNat (0:Int)),(0:Int))).bind fun e=>match e with
 | .inl e=>some e
 | .inr e=>Z0b_J3 p1 b e
 else none)
def Z3e (v1:View)(i:(List Int))(j:View):Option (View) :=
 (Zk v1).bind fun b =>
 if (!b)=true then (
 some (⟨([]:List Int),([]:List Int),(0:Int),(0:Int)⟩:View))
 else (
 (Zc v1.Dims).bind fun e =>
 (Zc v1.Strides).bind fun g =>
 (Z0b (⟨e,g,v1.Offset,v1.Base⟩:View) i j).bind fun a =>
 (bT (!(!a.1)) (Zk a.2)).bind fun h =>
 if ((!a.1)||(!h))=true then (
 some (⟨([]:List Int),([]:List Int),(0:Int),(0:Int)⟩:View))
 else (
 some a.2))
def Z2n (v1:View)(a:(List Int)):Option (View) :=
 (Z3e v1 a v1).bind fun b =>
 some b
def Z16_J3 (v1:View)(a:Int)(b:Int)(e:Int):Option (View) :=
 if (0≤a∧a<(v1.Dims.length:Int)) then
 if (0≤a∧a<(v1.Strides.length:Int)) then
 some (⟨(v1.Dims.set a.toNat b),(v1.Strides.set a.toNat e),v1.Offset,v1.Base⟩:View)
 else none
 else none
def Z16 (v1:View)(b:Int)(a:Int)(e:Int):Option (View) :=
 if (a==1)=true then (
 Z16_J3 v1 b a (0:Int))
 else (
 Z16_J3 v1 b a e)
def Z1o_J3 (p1:View)(a:Int)(g:Int)(h:Int)(b:Int):Option (Bool×View×Int) :=
 if (0≤a∧a<(p1.Strides.length:Int)) then
 (Z16 (⟨p1.Dims,p1.Strides,(aK (p1.Offset+(aK (h*(ix p1.Strides a))))),p1.Base⟩:View) a g (aK ((ix p1.Strides a)*b))).bind fun e =>
 some (true,e,b)
 else none
def Z1o (p1:View)(b:Int)(e:Int)(g:Int)(a:Int):Option (Bool×View×Int) :=
 (Zn p1.Dims b).bind fun h =>
 if (((!h)||(decide (e<1)))||(decide (e>4096)))=true then (
 some (false,p1,a))
 else (
 if (0≤b∧b<(p1.Dims.length:Int)) then
 if ((((decide (g<0))||(decide (g≥(ix p1.Dims b))))||(decide (a<(-4096:Int))))||(decide (a>4096)))=true then (
 some (false,p1,a))
 else (
 if (decide (e>1))=true then (
 if ((decide ((aK (g+(aK (a*(aK (e - 1))))))<0))||(decide ((aK (g+(aK (a*(aK (e - 1))))))≥(ix p1.Dims b))))=true then (
 some (false,p1,a))
 else (
 Z1o_J3 p1 b e g a))
 else (
 Z1o_J3 p1 b e g (0:Int)))
 else none)
def Z3d (v1:View)(j:Int)(l:Int)(m:Int)(b:Int):Option (View×Int) :=
 (Zk v1).bind fun e =>
 if (!e)=true then (
 some ((⟨([]:List Int),([]:List Int),(0:Int),(0:Int)⟩:View),b))
 else (
 (Zc v1.Dims).bind fun g =>
 (Zc v1.Strides).bind fun h =>
 (Z1o (⟨g,h,v1.Offset,v1.Base⟩:View) j l m b).bind fun a =>
 (bT (!(!a.1)) (Zk a.2.1)).bind fun i =>
 if ((!a.1)||(!i))=true then (
 some ((⟨([]:List Int),([]:List Int),(0:Int),(0:Int)⟩:View),a.2.2))
 else (
 some (a.2.1,a.2.2)))
def Z2m (v1:View)(b:Int)(h:Int)(a:Int)(e:Int):Option (View) :=
 (Z3d v1 b a h e).bind fun g =>
 some g.1
def Z2u (v1:View)(a:Int)(b:Int):Option (View) :=
 if v1.Dims.length+([(0:Int)]:List Int).length≤17592186044416 then
 if v1.Strides.length+([(0:Int)]:List Int).length≤17592186044416 then
 (Z16 (⟨(v1.Dims++([(0:Int)]:List Int)),(v1.Strides++([(0:Int)]:List Int)),v1.Offset,v1.Base⟩:View) (aK (((v1.Dims++([(0:Int)]:List Int)).length:Int) - 1)) a b).bind fun e =>
 some e
 else none
 else none
def Z1p_J3 (p1:View)(b:Int)(h:Int)(i:Int)(a:Int):Option (Bool×View×Int) :=
 (Z16 p1 b (aK ((aK ((aK ((ix p1.Dims b) - h)).tdiv i))+1)) (aK ((ix p1.Strides b)*a))).bind fun e =>
 (Z2u e h (ix p1.Strides b)).bind fun g =>
 some (true,g,a)
def Z1p (p1:View)(a:Int)(e:Int)(b:Int):Option (Bool×View×Int) :=
 (Zn p1.Dims a).bind fun g =>
 if (((!g)||(decide (e<1)))||(decide (b<1)))=false→(0≤a∧a<(p1.Dims.length:Int)) then
 if ((((!g)||(decide (e<1)))||(decide (b<1)))||(decide (e>(ix p1.Dims a))))=true then (
 some (false,p1,b))
 else (
 if (0≤a∧a<(p1.Strides.length:Int)) then
 if (0≤a∧a<(p1.Dims.length:Int)) then
 if b≠0 then
 if ((aK ((aK ((aK ((ix p1.Dims a) - e)).tdiv b))+1))==1)=true then (
 Z1p_J3 p1 a e b (0:Int))
 else (
 Z1p_J3 p1 a e b b)
 else none
 else none
 else none)
 else none
def Z3f (v1:View)(j:Int)(l:Int)(i:Int):Option (View×Int) :=
 (Zk v1).bind fun b =>
 if (!b)=true then (
 some ((⟨([]:List Int),([]:List Int),(0:Int),(0:Int)⟩:View),i))
 else (
 (Zc v1.Dims).bind fun e =>
 (Zc v1.Strides).bind fun g =>
 (Z1p (⟨e,g,v1.Offset,v1.Base⟩:View) j l i).bind fun a =>
 (bT (!(!a.1)) (Zk a.2.1)).bind fun h =>
 if ((!a.1)||(!h))=true then (
 some ((⟨([]:List Int),([]:List Int),(0:Int),(0:Int)⟩:View),a.2.2))
 else (
 some (a.2.1,a.2.2)))
def Z2o (v1:View)(a:Int)(b:Int)(e:Int):Option (View) :=
 (Z3f v1 a b e).bind fun g =>
 some g.1
def Z1h (a:Node)(b:(List Int)):Option (View) :=
 (Z2v b).bind fun e =>
 if (a.Op==12)=true then (
 (Z2n e a.Dims).bind fun g =>
 some g)
 else (
 if ((a.Op==14)&&((a.Ints.length:Int)==4))=true→(0≤(3:Int)∧(3:Int)<(a.Ints.length:Int)) then
 if (((a.Op==14)&&((a.Ints.length:Int)==4))&&(decide ((ix a.Ints 3)≥1)))=true then (
 if (0≤(0:Int)∧(0:Int)<(a.Ints.length:Int)) then
 if (0≤(1:Int)∧(1:Int)<(a.Ints.length:Int)) then
 if (0≤(2:Int)∧(2:Int)<(a.Ints.length:Int)) then
 if (0≤(3:Int)∧(3:Int)<(a.Ints.length:Int)) then
 (Z2m e (ix a.Ints 0) (ix a.Ints 1) (ix a.Ints 2) (ix a.Ints 3)).bind fun h =>
 some h
 else none
 else none
 else none
 else none)
 else (
 if ((a.Op==18)&&((a.Ints.length:Int)==3))=true then (
 if (0≤(0:Int)∧(0:Int)<(a.Ints.length:Int)) then
 if (0≤(1:Int)∧(1:Int)<(a.Ints.length:Int)) then
 if (0≤(2:Int)∧(2:Int)<(a.Ints.length:Int)) then
 (Z2o e (ix a.Ints 0) (ix a.Ints 1) (ix a.Ints 2)).bind fun i =>
 some i
 else none
 else none
 else none)
 else (
 some (⟨([]:List Int),([]:List Int),(0:Int),(0:Int)⟩:View)))
 else none)
def Z3c (e:(List Int))(a:(List Int))(b:Int):Option ((List Int)×Int×(List Int)) :=
 some (e,b,a)
def Z07_J2 (b:Type)(YF:b→Int→Option (b×Bool))(e:b×Bool)(a:(List Int))(h:Int)(g:Int):Option (((List Int)×Int×b)⊕(b)) :=
 if (decide (g<0))=true then (
 some (.inr e.1))
 else (
 some (.inl (a,h,e.1)))
def Z07_L2 (j:Type)(YF:j→Int→Option (j×Bool))(g:(List Int))(h:(List Int))(b:(List Int))(e:Int)(a:Int):Option (((List Int)×Int×Int)⊕((List Int)×Int×Int)) :=
 if (decide (a≥0))=true then (
 if (0≤a∧a<((List.replicate (g.length:Int).toNat (0:Int)).length:Int)) then
 if (0≤a∧a<(h.length:Int)) then
 if (0≤a∧a<(g.length:Int)) then
 if (decide ((ix (b.set a.toNat (aK ((ix b a)+1))) a)<(ix g a)))=true then (
 some (.inr ((b.set a.toNat (aK ((ix b a)+1))),(aK (e+(ix h a))),a)))
 else (
 (nm ((b.set a.toNat (aK ((ix b a)+1))).set a.toNat (0:Int))).bind fun i =>
 some (.inl (i,(aK ((aK (e+(ix h a))) - (aK ((ix h a)*(ix g a))))),(aK (a - 1)))))
 else none
 else none
 else none)
 else (
 some (.inr (b,e,a)))
def Z07_L1 (b:Type)(YF:b→Int→Option (b×Bool))(j:(List Int))(l:(List Int))(a:(List Int))(h:Int)(i:b):Option (((List Int)×Int×b)⊕(b)) :=
 (YF i h).bind fun g =>
 if (!g.2)=true then (
 some (.inr g.1))
 else (
 (aU (fun s:(List Int)×Int×Int=>Z07_L2 b YF j l s.1 s.2.1 s.2.2) (a,h,(aK ((j.length:Int) - 1)))).bind fun e=>Z07_J2 b YF g e.1 e.2.1 e.2.2)
def Z07 (b:Type)(YF:b→Int→Option (b×Bool))(a:b)(g:(List Int))(h:Int)(i:(List Int)):Option (b) :=
 if (0≤(g.length:Int)∧(g.length:Int)≤140737488355328∧8*(g.length:Int)≤281474976710656) then
 (aU (fun s:(List Int)×Int×b=>Z07_L1 b YF g i s.1 s.2.1 s.2.2) ((List.replicate (g.length:Int).toNat (0:Int)),h,a)).bind fun e=>some e
 else none
def Z40 (a:(List pair))(b:Int):Option (((List pair))×Bool) :=
 if a.length+([(⟨b,(a.length:Int)⟩:pair)]:List pair).length≤8796093022208 then
 some ((a++([(⟨b,(a.length:Int)⟩:pair)]:List pair)),true)
 else none
def Z2p (v1:View):Option ((List Int)×(List pair)×Bool) :=
 (Zk v1).bind fun e =>
 if (!e)=true then (
 some (([]:List Int),([]:List pair),false))
 else (
 (Z3c v1.Dims v1.Strides v1.Offset).bind fun a =>
 (Z07 ((List pair)) (fun (s:(List pair)) (x:Int)=>Z40 s x) ([]:List pair) a.1 a.2.1 a.2.2).bind fun b =>
 some (v1.Dims,b,true))
def Z30 (e:Node)(a:(List Int)):Option ((List Int)×(List pair)×Bool) :=
 (Z1h e a).bind fun g =>
 (Z2p g).bind fun b =>
 some (b.1,b.2.1,b.2.2)
def Z1y (k1:shiftKind)(e:Node)(a:(List (List Int))):Option ((List Int)×Bool) :=
 if ((a.length:Int) != 1)=true then (
 some (([]:List Int),false))
 else (
 if (0≤(0:Int)∧(0:Int)<(a.length:Int)) then
 (Z30 e (ix a 0)).bind fun b =>
 some (b.1,b.2.2)
 else none)
def Z17_J1 (b:Node)(a:(List pair)):Option ((List Int)×(List pair)×Bool) :=
 some (b.Dims,a,true)
def Z17_L1 (e:Int)(a:(List pair))(b:Int):Option (((List pair)×Int)⊕((List pair))) :=
 if (decide (b<e))=true then (
 if a.length+([(⟨b,b⟩:pair)]:List pair).length≤8796093022208 then
 some (.inl ((a++([(⟨b,b⟩:pair)]:List pair)),(aK (b+1))))
 else none)
 else (
 some (.inr a))
def Z17 (b:Node)(a:(List Int)):Option ((List Int)×(List pair)×Bool) :=
 (Zf b.Dims).bind fun j =>
 (bT (!(!j)) (Zo b.Dims)).bind fun g =>
 (bT (!(!j)) (Zo a)).bind fun h =>
 if ((!j)||(g != h))=true then (
 some (([]:List Int),([]:List pair),false))
 else (
 (Zo a).bind fun i =>
 (aU (fun s:(List pair)×Int=>Z17_L1 i s.1 s.2) (([]:List pair),(0:Int))).bind fun e=>Z17_J1 b e)
def Z2b (k1:shiftKind)(e:Node)(a:(List (List Int))):Option ((List Int)×Bool) :=
 if ((a.length:Int) != 1)=true then (
 some (([]:List Int),false))
 else (
 if (0≤(0:Int)∧(0:Int)<(a.length:Int)) then
 (Z17 e (ix a 0)).bind fun b =>
 some (b.1,b.2.2)
 else none)
def Z1r (b:(List Int))(a:Int)(g:Int):Option ((List Int)) :=
 (Zc b).bind fun e =>
 if (0≤a∧a<(e.length:Int)) then
 some (e.set a.toNat g)
 else none
def Z29 (b:(List Int))(a:Int):Option (Int×Int×Int) :=
 if (0≤(0:Int)∧(0:Int)≤a∧a≤(b.length:Int)) then
 (Zo (sub b (0:Int) a)).bind fun g =>
 if (0≤a∧a<(b.length:Int)) then
 if (0≤(aK (a+1))∧(aK (a+1))≤(b.length:Int)∧(b.length:Int)≤(b.length:Int)) then
 (Zo (sub b (aK (a+1)) (b.length:Int))).bind fun e =>
 some (g,(ix b a),e)
 else none
 else none
 else none
def Z9_J7 (a:(List pair)):Option ((List pair)) :=
 some a
def Z9_J6 (b:Int)(a:(List pair)):Option (((List pair)×Int)⊕((List pair))) :=
 some (.inl (a,(aK (b+1))))
def Z9_J5 (b:Int)(a:(List pair)):Option (((List pair)×Int)⊕((List pair))) :=
 some (.inl (a,(aK (b+1))))
def Z9_L3 (j:Int)(b:(List pair))(i:Int×Int×Int)(g:Int)(h:Int)(e:(List pair))(a:Int):Option (((List pair)×Int)⊕((List pair))) :=
 if (decide (a<i.2.2))=true then (
 if e.length+([(⟨(aK ((aK ((aK ((aK (g*i.2.1))+(ix b h).from_))*i.2.2))+a)),(aK ((aK ((aK ((aK (g*j))+(ix b h).to))*i.2.2))+a))⟩:pair)]:List pair).length≤8796093022208 then
 some (.inl ((e++([(⟨(aK ((aK ((aK ((aK (g*i.2.1))+(ix b h).from_))*i.2.2))+a)),(aK ((aK ((aK ((aK (g*j))+(ix b h).to))*i.2.2))+a))⟩:pair)]:List pair)),(aK (a+1))))
 else none)
 else (
 some (.inr e))
def Z9_L2 (i:Int)(a:(List pair))(j:Int×Int×Int)(h:Int)(g:(List pair))(b:Int):Option (((List pair)×Int)⊕((List pair))) :=
 if (decide (b<(a.length:Int)))=true then (
 if (0≤b∧b<(a.length:Int)) then
 (aU (fun s:(List pair)×Int=>Z9_L3 i a j h b s.1 s.2) (g,(0:Int))).bind fun e=>Z9_J5 b e
 else none)
 else (
 some (.inr g))
def Z9_L1 (i:Int)(b:(List pair))(h:Int×Int×Int)(g:(List pair))(a:Int):Option (((List pair)×Int)⊕((List pair))) :=
 if (decide (a<h.1))=true then (
 (aU (fun s:(List pair)×Int=>Z9_L2 i b h a s.1 s.2) (g,(0:Int))).bind fun e=>Z9_J6 a e)
 else (
 some (.inr g))
def Z9 (g:(List Int))(b:Int)(i:Int)(a:(List pair)):Option ((List pair)) :=
 (Z29 g b).bind fun h =>
 if (0≤(aK ((aK (h.1*h.2.2))*(a.length:Int)))∧(aK ((aK (h.1*h.2.2))*(a.length:Int)))≤140737488355328∧16*(aK ((aK (h.1*h.2.2))*(a.length:Int)))≤281474976710656) then
 (aU (fun s:(List pair)×Int=>Z9_L1 i a h s.1 s.2) (([]:List pair),(0:Int))).bind fun e=>Z9_J7 e
 else none
def Zy_J2 (b:(List Int))(a:Int)(e:Int)(g:Int)(i:Int)(j:(List Int))(h:(List pair)):Option ((List Int)×(List pair)×Bool) :=
 (Z9 b a (aK ((aK ((aK (e+(ix b a)))+(aK ((aK ((ix b a) - 1))*i))))+g)) h).bind fun l =>
 some (j,l,true)
def Zy_L2 (i:(List Int))(h:Int)(b:Int)(g:Int)(a:(List pair))(e:Int):Option (((List pair)×Int)⊕((List pair))) :=
 if (decide (e<(ix i h)))=true then (
 if a.length+([(⟨e,(aK (b+(aK (e*(aK (g+1))))))⟩:pair)]:List pair).length≤8796093022208 then
 some (.inl ((a++([(⟨e,(aK (b+(aK (e*(aK (g+1))))))⟩:pair)]:List pair)),(aK (e+1))))
 else none)
 else (
 some (.inr a))
def Zy_J1 (b:(List Int))(a:Int)(g:Int)(h:Int)(i:Int):Option ((List Int)×(List pair)×Bool) :=
 if (0≤a∧a<(b.length:Int)) then
 (Z1r b a (aK ((aK ((aK (g+(ix b a)))+(aK ((aK ((ix b a) - 1))*i))))+h))).bind fun j =>
 (Zf j).bind fun l =>
 if (!l)=true then (
 some (([]:List Int),([]:List pair),false))
 else (
 (aU (fun s:(List pair)×Int=>Zy_L2 b a g i s.1 s.2) (([]:List pair),(0:Int))).bind fun e=>Zy_J2 b a g h i j e)
 else none
def Zy_L1 (a:Int)(b:Int)(e:Int)(g:Int):Option ((Int)⊕(((List Int)×(List pair)×Bool)⊕(Unit))) :=
 if (decide (g<(([a,b,e]:List Int).length:Int)))=true then (
 if (0≤g∧g<(([a,b,e]:List Int).length:Int)) then
 if ((decide ((ix ([a,b,e]:List Int) g)<0))||(decide ((ix ([a,b,e]:List Int) g)>4096)))=true then (
 some (.inr (.inl (([]:List Int),([]:List pair),false))))
 else (
 some (.inl (aK (g+1))))
 else none)
 else (
 some (.inr (.inr ())))
def Zy (h:(List Int))(g:Int)(a:Int)(b:Int)(i:Int):Option ((List Int)×(List pair)×Bool) :=
 (Zn h g).bind fun j =>
 if (!j)=true then (
 some (([]:List Int),([]:List pair),false))
 else (
 (aU (fun s:Int=>Zy_L1 a b i s) (0:Int)).bind fun e=>match e with
 | .inl e=>some e
 | .inr e=>Zy_J1 h g a b i)
def Z25 (p1:(List Int))(a:(List Int)):Option ((List Int)×(List pair)×Bool) :=
 if (0≤(0:Int)∧(0:Int)<(p1.length:Int)) then
 if (0≤(1:Int)∧(1:Int)<(p1.length:Int)) then
 if (0≤(2:Int)∧(2:Int)<(p1.length:Int)) then
 if (0≤(3:Int)∧(3:Int)<(p1.length:Int)) then
 (Zy a (ix p1 0) (ix p1 1) (ix p1 2) (ix p1 3)).bind fun b =>
 some (b.1,b.2.1,b.2.2)
 else none
 else none
 else none
 else none
def Z2w (e:Node)(a:(List Int))(h:Int)(g:Int):Option ((List Int)×(List pair)×Bool) :=
 if ((decide ((e.Ints.length:Int)<h))||(decide ((e.Ints.length:Int)>g)))=true then (
 some (([]:List Int),([]:List pair),false))
 else (
 (Z25 e.Ints a).bind fun b =>
 some (b.1,b.2.1,b.2.2))
def Z1u (k1:shiftKind)(g:Int)(h:Int)(e:Node)(a:(List (List Int))):Option ((List Int)×Bool) :=
 if ((a.length:Int) != 1)=true then (
 some (([]:List Int),false))
 else (
 if (0≤(0:Int)∧(0:Int)<(a.length:Int)) then
 (Z2w e (ix a 0) g h).bind fun b =>
 some (b.1,b.2.2)
 else none)
def Z0g_J1 (e:(List Int))(b:Int)(a:(List Int))(g:(List pair)):Option ((List Int)×(List pair)×Bool) :=
 (Z1r e b (a.length:Int)).bind fun h =>
 (Zf h).bind fun i =>
 if (!i)=true then (
 some (([]:List Int),([]:List pair),false))
 else (
 (Z9 e b (a.length:Int) g).bind fun j =>
 some (h,j,true))
def Z0g_L1 (h:(List Int))(g:Int)(a:(List Int))(e:(List pair))(b:Int):Option (((List pair)×Int)⊕(((List Int)×(List pair)×Bool)⊕((List pair)))) :=
 if (decide (b<(a.length:Int)))=true then (
 if (0≤b∧b<(a.length:Int)) then
 if (decide ((ix a b)<0))=false→(0≤g∧g<(h.length:Int)) then
 if ((decide ((ix a b)<0))||(decide ((ix a b)≥(ix h g))))=true then (
 some (.inr (.inl (([]:List Int),([]:List pair),false))))
 else (
 if e.length+([(⟨(ix a b),b⟩:pair)]:List pair).length≤8796093022208 then
 some (.inl ((e++([(⟨(ix a b),b⟩:pair)]:List pair)),(aK (b+1))))
 else none)
 else none
 else none)
 else (
 some (.inr (.inr e)))
def Z0g (g:(List Int))(b:Int)(a:(List Int)):Option ((List Int)×(List pair)×Bool) :=
 (Zn g b).bind fun h =>
 if (((!h)||((a.length:Int)==0))||(decide ((a.length:Int)>4096)))=true then (
 some (([]:List Int),([]:List pair),false))
 else (
 (aU (fun s:(List pair)×Int=>Z0g_L1 g b a s.1 s.2) (([]:List pair),(0:Int))).bind fun e=>match e with
 | .inl e=>some e
 | .inr e=>Z0g_J1 g b a e)
def Z26 (p1:(List Int))(a:(List Int)):Option ((List Int)×(List pair)×Bool) :=
 if (0≤(0:Int)∧(0:Int)<(p1.length:Int)) then
 if (0≤(1:Int)∧(1:Int)≤(p1.length:Int)∧(p1.length:Int)≤(p1.length:Int)) then
 (Z0g a (ix p1 0) (sub p1 (1:Int) (p1.length:Int))).bind fun b =>
 some (b.1,b.2.1,b.2.2)
 else none
 else none
def Z2x (e:Node)(a:(List Int))(h:Int)(g:Int):Option ((List Int)×(List pair)×Bool) :=
 if ((decide ((e.Ints.length:Int)<h))||(decide ((e.Ints.length:Int)>g)))=true then (
 some (([]:List Int),([]:List pair),false))
 else (
 (Z26 e.Ints a).bind fun b =>
 some (b.1,b.2.1,b.2.2))
def Z1v (k1:shiftKind)(g:Int)(h:Int)(e:Node)(a:(List (List Int))):Option ((List Int)×Bool) :=
 if ((a.length:Int) != 1)=true then (
 some (([]:List Int),false))
 else (
 if (0≤(0:Int)∧(0:Int)<(a.length:Int)) then
 (Z2x e (ix a 0) g h).bind fun b =>
 some (b.1,b.2.2)
 else none)
def Z0h_J1 (b:(List Int))(a:Int)(j:Int)(e:(List pair)):Option ((List Int)×(List pair)×Bool) :=
 (Z1r b a j).bind fun g =>
 (Zf g).bind fun h =>
 if (!h)=true then (
 some (([]:List Int),([]:List pair),false))
 else (
 (Z9 b a j e).bind fun i =>
 some (g,i,true))
def Z0h_L1 (a:(List Int))(g:Int)(e:(List pair))(b:Int):Option (((List pair)×Int)⊕(((List Int)×(List pair)×Bool)⊕((List pair)))) :=
 if (decide (b<(a.length:Int)))=true then (
 if (0≤b∧b<(a.length:Int)) then
 if ((decide ((ix a b)<0))||(decide ((ix a b)≥g)))=true then (
 some (.inr (.inl (([]:List Int),([]:List pair),false))))
 else (
 if e.length+([(⟨b,(ix a b)⟩:pair)]:List pair).length≤8796093022208 then
 some (.inl ((e++([(⟨b,(ix a b)⟩:pair)]:List pair)),(aK (b+1))))
 else none)
 else none)
 else (
 some (.inr (.inr e)))
def Z0h (b:(List Int))(a:Int)(g:(List Int))(h:Int):Option ((List Int)×(List pair)×Bool) :=
 (Zn b a).bind fun i =>
 if (!i)=false→(0≤a∧a<(b.length:Int)) then
 if (((!i)||((g.length:Int) != (ix b a)))||(decide (h<1)))=true then (
 some (([]:List Int),([]:List pair),false))
 else (
 (aU (fun s:(List pair)×Int=>Z0h_L1 g h s.1 s.2) (([]:List pair),(0:Int))).bind fun e=>match e with
 | .inl e=>some e
 | .inr e=>Z0h_J1 b a h e)
 else none
def Z27 (p1:(List Int))(a:(List Int)):Option ((List Int)×(List pair)×Bool) :=
 if (0≤(0:Int)∧(0:Int)<(p1.length:Int)) then
 if (0≤(2:Int)∧(2:Int)≤(p1.length:Int)∧(p1.length:Int)≤(p1.length:Int)) then
 if (0≤(1:Int)∧(1:Int)<(p1.length:Int)) then
 (Z0h a (ix p1 0) (sub p1 (2:Int) (p1.length:Int)) (ix p1 1)).bind fun b =>
 some (b.1,b.2.1,b.2.2)
 else none
 else none
 else none
def Z2y (e:Node)(a:(List Int))(h:Int)(g:Int):Option ((List Int)×(List pair)×Bool) :=
 if ((decide ((e.Ints.length:Int)<h))||(decide ((e.Ints.length:Int)>g)))=true then (
 some (([]:List Int),([]:List pair),false))
 else (
 (Z27 e.Ints a).bind fun b =>
 some (b.1,b.2.1,b.2.2))
def Z1w (k1:shiftKind)(g:Int)(h:Int)(e:Node)(a:(List (List Int))):Option ((List Int)×Bool) :=
 if ((a.length:Int) != 1)=true then (
 some (([]:List Int),false))
 else (
 if (0≤(0:Int)∧(0:Int)<(a.length:Int)) then
 (Z2y e (ix a 0) g h).bind fun b =>
 some (b.1,b.2.2)
 else none)
def Z5_J16 (b:(List Int))(e:(List Int))(a:(List pair)):Option ((List Int)×(List pair)×Bool) :=
 some ((sub e (0:Int) (aK ((b.length:Int) - 1))),a,true)
def Z5_J15 (b:Int)(a:(List pair)):Option (((List pair)×Int)⊕((List pair))) :=
 some (.inl (a,(aK (b+1))))
def Z5_J14 (b:Int)(a:(List pair)):Option (((List pair)×Int)⊕((List pair))) :=
 some (.inl (a,(aK (b+1))))
def Z5_J13 (b:Int)(a:(List pair)):Option (((List pair)×Int)⊕((List pair))) :=
 some (.inl (a,(aK (b+1))))
def Z5_L4 (a:(List Int))(m:Int)(j:Int)(l:Int×Int×Int)(g:Int)(i:Int)(h:Int)(b:(List pair))(e:Int):Option (((List pair)×Int)⊕((List pair))) :=
 if (0≤(aK ((a.length:Int) - 1))∧(aK ((a.length:Int) - 1))<(a.length:Int)) then
 if (decide (e<(ix a (aK ((a.length:Int) - 1)))))=true then (
 if b.length+([(⟨(aK ((aK ((aK ((aK ((aK ((aK (g*l.2.1))+i))*l.2.2))+h))*(ix a (aK ((a.length:Int) - 1)))))+e)),(aK ((aK ((aK ((aK ((aK (g*m))+(aK (i*j))))+e))*l.2.2))+h))⟩:pair)]:List pair).length≤8796093022208 then
 some (.inl ((b++([(⟨(aK ((aK ((aK ((aK ((aK ((aK (g*l.2.1))+i))*l.2.2))+h))*(ix a (aK ((a.length:Int) - 1)))))+e)),(aK ((aK ((aK ((aK ((aK (g*m))+(aK (i*j))))+e))*l.2.2))+h))⟩:pair)]:List pair)),(aK (e+1))))
 else none)
 else (
 some (.inr b))
 else none
def Z5_L3 (h:(List Int))(m:Int)(g:Int)(l:Int×Int×Int)(i:Int)(j:Int)(a:(List pair))(b:Int):Option (((List pair)×Int)⊕((List pair))) :=
 if (decide (b<l.2.2))=true then (
 (aU (fun s:(List pair)×Int=>Z5_L4 h m g l i j b s.1 s.2) (a,(0:Int))).bind fun e=>Z5_J13 b e)
 else (
 some (.inr a))
def Z5_L2 (h:(List Int))(l:Int)(g:Int)(j:Int×Int×Int)(i:Int)(a:(List pair))(b:Int):Option (((List pair)×Int)⊕((List pair))) :=
 if (decide (b<j.2.1))=true then (
 (aU (fun s:(List pair)×Int=>Z5_L3 h l g j i b s.1 s.2) (a,(0:Int))).bind fun e=>Z5_J14 b e)
 else (
 some (.inr a))
def Z5_L1 (h:(List Int))(j:Int)(g:Int)(i:Int×Int×Int)(a:(List pair))(b:Int):Option (((List pair)×Int)⊕((List pair))) :=
 if (decide (b<i.1))=true then (
 (aU (fun s:(List pair)×Int=>Z5_L2 h j g i b s.1 s.2) (a,(0:Int))).bind fun e=>Z5_J15 b e)
 else (
 some (.inr a))
def Z5_J1 (a:(List Int))(g:Int)(j:Int)(h:(List Int))(b:Int):Option ((List Int)×(List pair)×Bool) :=
 if (0≤(0:Int)∧(0:Int)≤(aK ((a.length:Int) - 1))∧(aK ((a.length:Int) - 1))≤(a.length:Int)) then
 (Z29 (sub a (0:Int) (aK ((a.length:Int) - 1))) g).bind fun i =>
 (aU (fun s:(List pair)×Int=>Z5_L1 a j b i s.1 s.2) (([]:List pair),(0:Int))).bind fun e=>Z5_J16 a h e
 else none
def Z5 (a:(List Int))(b:Int)(e:Int)(g:Int):Option ((List Int)×(List pair)×Bool) :=
 (Zn a b).bind fun i =>
 if (((((!i)||(b==(aK ((a.length:Int) - 1))))||(decide (e<1)))||(decide (g<1)))||(decide (g>4096)))=false→(0≤(aK ((a.length:Int) - 1))∧(aK ((a.length:Int) - 1))<(a.length:Int)) then
 if ((((((!i)||(b==(aK ((a.length:Int) - 1))))||(decide (e<1)))||(decide (g<1)))||(decide (g>4096)))||(decide ((ix a (aK ((a.length:Int) - 1)))>g)))=false→(0≤b∧b<(a.length:Int)) then
 if ((((((!i)||(b==(aK ((a.length:Int) - 1))))||(decide (e<1)))||(decide (g<1)))||(decide (g>4096)))||(decide ((ix a (aK ((a.length:Int) - 1)))>g)))=false→(0≤(aK ((a.length:Int) - 1))∧(aK ((a.length:Int) - 1))<(a.length:Int)) then
 if ((((((!i)||(b==(aK ((a.length:Int) - 1))))||(decide (e<1)))||(decide (g<1)))||(decide (g>4096)))||(decide ((ix a (aK ((a.length:Int) - 1)))>g)))=false→e≠0 then
 if (((((((!i)||(b==(aK ((a.length:Int) - 1))))||(decide (e<1)))||(decide (g<1)))||(decide (g>4096)))||(decide ((ix a (aK ((a.length:Int) - 1)))>g)))||((ix a b) != (aK ((aK ((aK (g - (ix a (aK ((a.length:Int) - 1))))).tdiv e))+1))))=true then (
 some (([]:List Int),([]:List pair),false))
 else (
 (Z1r a b g).bind fun h =>
 if (0≤(0:Int)∧(0:Int)≤(aK ((a.length:Int) - 1))∧(aK ((a.length:Int) - 1))≤(h.length:Int)) then
 (Zf (sub h (0:Int) (aK ((a.length:Int) - 1)))).bind fun j =>
 if (!j)=true then (
 some (([]:List Int),([]:List pair),false))
 else (
 if (0≤b∧b<(a.length:Int)) then
 if ((ix a b)==1)=true then (
 Z5_J1 a b g h (0:Int))
 else (
 Z5_J1 a b g h e)
 else none)
 else none)
 else none
 else none
 else none
 else none
def Z28 (p1:(List Int))(a:(List Int)):Option ((List Int)×(List pair)×Bool) :=
 if (0≤(0:Int)∧(0:Int)<(p1.length:Int)) then
 if (0≤(1:Int)∧(1:Int)<(p1.length:Int)) then
 if (0≤(2:Int)∧(2:Int)<(p1.length:Int)) then
 (Z5 a (ix p1 0) (ix p1 1) (ix p1 2)).bind fun b =>
 some (b.1,b.2.1,b.2.2)
 else none
 else none
 else none
def Z2z (e:Node)(a:(List Int))(h:Int)(g:Int):Option ((List Int)×(List pair)×Bool) :=
 if ((decide ((e.Ints.length:Int)<h))||(decide ((e.Ints.length:Int)>g)))=true then (
 some (([]:List Int),([]:List pair),false))
 else (
 (Z28 e.Ints a).bind fun b =>
 some (b.1,b.2.1,b.2.2))
def Z1x (k1:shiftKind)(g:Int)(h:Int)(e:Node)(a:(List (List Int))):Option ((List Int)×Bool) :=
 if ((a.length:Int) != 1)=true then (
 some (([]:List Int),false))
 else (
 if (0≤(0:Int)∧(0:Int)<(a.length:Int)) then
 (Z2z e (ix a 0) g h).bind fun b =>
 some (b.1,b.2.2)
 else none)
def bU (r:kindOfR)(a:Node)(b:(List (List Int))):Option ((List Int)×Bool) :=
 if Nat.beq r.t 0=true then none else (if Nat.beq r.t 1=true then Z1q (⟨r.b0⟩:leafKind) a b else (if Nat.beq r.t 2=true then Z2a (⟨r.i0⟩:pairKind) a b else (if Nat.beq r.t 3=true then Z33 (⟨r.i0⟩:soloKind) a b else (if Nat.beq r.t 4=true then Z23 (⟨⟩:topKind) a b else (if Nat.beq r.t 5=true then Z32 (⟨⟩:formKind) a b else (if Nat.beq r.t 6=true then Z1y (⟨r.s0⟩:shiftKind) a b else (if Nat.beq r.t 7=true then Z2b (⟨r.s0⟩:shiftKind) a b else (if Nat.beq r.t 8=true then Z1u (⟨r.s0⟩:shiftKind) r.i0 r.i1 a b else (if Nat.beq r.t 9=true then Z1v (⟨r.s0⟩:shiftKind) r.i0 r.i1 a b else (if Nat.beq r.t 10=true then Z1w (⟨r.s0⟩:shiftKind) r.i0 r.i1 a b else (Z1x (⟨r.s0⟩:shiftKind) r.i0 r.i1 a b)))))))))))
def Zi_J1 (e:Node)(g:kindOfR)(a:(List (List Int))):Option ((List Int)×Bool) :=
 (bU g e a).bind fun b =>
 some (b.1,b.2)
def Zi_L1 (g:Node)(a:(List (List Int)))(e:(List (List Int)))(b:Int):Option (((List (List Int))×Int)⊕(((List Int)×Bool)⊕((List (List Int))))) :=
 if (decide (b<(g.Args.length:Int)))=true then (
 if (0≤b∧b<(g.Args.length:Int)) then
 if ((decide ((ix g.Args b)<0))||(decide ((ix g.Args b)≥(a.length:Int))))=true then (
 some (.inr (.inl (([]:List Int),false))))
 else (
 if (0≤(ix g.Args b)∧(ix g.Args b)<(a.length:Int)) then
 if e.length+([(ix a (ix g.Args b))]:List (List Int)).length≤5864062014805 then
 some (.inl ((e++([(ix a (ix g.Args b))]:List (List Int))),(aK (b+1))))
 else none
 else none)
 else none)
 else (
 some (.inr (.inr e)))
def Zi (b:Node)(a:(List (List Int))):Option ((List Int)×Bool) :=
 (Zx b.Op).bind fun g =>
 (bT (!(Nat.beq g.t 0)) (gK g)).bind fun h =>
 (bT (!(Nat.beq g.t 0)) (Z22 b h)).bind fun i =>
 if (((Nat.beq g.t 0)||(!i))||(decide ((b.Args.length:Int)>6)))=true then (
 some (([]:List Int),false))
 else (
 (aU (fun s:(List (List Int))×Int=>Zi_L1 b a s.1 s.2) (([]:List (List Int)),(0:Int))).bind fun e=>match e with
 | .inl e=>some e
 | .inr e=>Zi_J1 b g e)
def Zh_J2 (a:(List (List Int))):Option ((List (List Int))×Bool) :=
 some (a,true)
def Zh_L2 (g1:Graph)(a:Int):Option ((Int)⊕(((List (List Int))×Bool)⊕(Unit))) :=
 if (decide (a<(g1.Outs.length:Int)))=true then (
 if (0≤a∧a<(g1.Outs.length:Int)) then
 if ((decide ((ix g1.Outs a)<0))||(decide ((ix g1.Outs a)≥(g1.Nodes.length:Int))))=true then (
 some (.inr (.inl (([]:List (List Int)),false))))
 else (
 some (.inl (aK (a+1))))
 else none)
 else (
 some (.inr (.inr ())))
def Zh_J1 (g1:Graph)(a:(List (List Int))):Option ((List (List Int))×Bool) :=
 (aU (fun s:Int=>Zh_L2 g1 s) (0:Int)).bind fun e=>match e with
 | .inl e=>some e
 | .inr e=>Zh_J2 a
def Zh_L1 (g1:Graph)(b:(List (List Int)))(a:Int):Option (((List (List Int))×Int)⊕(((List (List Int))×Bool)⊕((List (List Int))))) :=
 if (decide (a<(g1.Nodes.length:Int)))=true then (
 if (0≤a∧a<(g1.Nodes.length:Int)) then
 (Zi (ix g1.Nodes a) b).bind fun e =>
 if (!e.2)=true then (
 some (.inr (.inl (([]:List (List Int)),false))))
 else (
 if b.length+([e.1]:List (List Int)).length≤5864062014805 then
 some (.inl ((b++([e.1]:List (List Int))),(aK (a+1))))
 else none)
 else none)
 else (
 some (.inr (.inr b)))
def Zh (g1:Graph):Option ((List (List Int))×Bool) :=
 if ((decide ((g1.Nodes.length:Int)>200))||(decide ((g1.Outs.length:Int)>40)))=true then (
 some (([]:List (List Int)),false))
 else (
 (aU (fun s:(List (List Int))×Int=>Zh_L1 g1 s.1 s.2) (([]:List (List Int)),(0:Int))).bind fun e=>match e with
 | .inl e=>some e
 | .inr e=>Zh_J1 g1 e)
def Z06_J3 (a:(List Int)):Option ((List Int)) :=
 some a
def Z06_J2 (a:Int)(b:(List Int)):Option (((List Int)×Int)⊕((List Int))) :=
 some (.inl (b,(aK (a+1))))
def Z06_L1 (g1:Graph)(b:(List Int))(a:Int):Option (((List Int)×Int)⊕((List Int))) :=
 if (decide (a<(g1.Nodes.length:Int)))=true then (
 if (0≤a∧a<(g1.Nodes.length:Int)) then
 if ((ix g1.Nodes a).Op==1)=true then (
 if b.length+([a]:List Int).length≤17592186044416 then
 Z06_J2 a (b++([a]:List Int))
 else none)
 else (
 Z06_J2 a b)
 else none)
 else (
 some (.inr b))
def Z06 (g1:Graph):Option ((List Int)) :=
 (aU (fun s:(List Int)×Int=>Z06_L1 g1 s.1 s.2) (([]:List Int),(0:Int))).bind fun e=>Z06_J3 e
def Z24 (a:Node):Option (Node) :=
 (Zc a.Args).bind fun h =>
 (Zc a.Dims).bind fun b =>
 (Zc a.Ints).bind fun e =>
 (Zc a.Data).bind fun g =>
 some (⟨a.Op,h,b,e,a.Form,g⟩:Node)
def Z0q_J1 (a:(List Node)):Option ((List Node)) :=
 some a
def Z0q_L1 (a:(List Node))(e:(List Node))(b:Int):Option (((List Node)×Int)⊕((List Node))) :=
 if (decide (b<(a.length:Int)))=true then (
 if (0≤b∧b<(a.length:Int)) then
 (Z24 (ix a b)).bind fun g =>
 if (0≤b∧b<((List.replicate (a.length:Int).toNat zT65.z).length:Int)) then
 some (.inl ((e.set b.toNat g),(aK (b+1))))
 else none
 else none)
 else (
 some (.inr e))
def Z0q (a:(List Node)):Option ((List Node)) :=
 if (0≤(a.length:Int)∧(a.length:Int)≤140737488355328∧120*(a.length:Int)≤281474976710656) then
 (aU (fun s:(List Node)×Int=>Z0q_L1 a s.1 s.2) ((List.replicate (a.length:Int).toNat zT65.z),(0:Int))).bind fun e=>Z0q_J1 e
 else none
def Z31 (g1:Graph):Option (Graph) :=
 (Z0q g1.Nodes).bind fun a =>
 (Zc g1.Outs).bind fun b =>
 some (⟨a,b⟩:Graph)
def Z39 (a1:Int)(a:(List Int)):Option (Int) :=
 if (0≤a1∧a1<(a.length:Int)) then
 some (ix a a1)
 else none
def Z0r_J1 (a:(List Int)):Option ((List Int)) :=
 some a
def Z0r_L1 (a:(List Int))(h:(List Int))(e:(List Int))(b:Int):Option (((List Int)×Int)⊕((List Int))) :=
 if (decide (b<(a.length:Int)))=true then (
 if (0≤b∧b<(a.length:Int)) then
 (Z39 (ix a b) h).bind fun g =>
 if (0≤b∧b<((List.replicate (a.length:Int).toNat (0:Int)).length:Int)) then
 some (.inl ((e.set b.toNat g),(aK (b+1))))
 else none
 else none)
 else (
 some (.inr e))
def Z0r (a:(List Int))(b:(List Int)):Option ((List Int)) :=
 if (0≤(a.length:Int)∧(a.length:Int)≤140737488355328∧8*(a.length:Int)≤281474976710656) then
 (aU (fun s:(List Int)×Int=>Z0r_L1 a b s.1 s.2) ((List.replicate (a.length:Int).toNat (0:Int)),(0:Int))).bind fun e=>Z0r_J1 e
 else none
def Z3a (o1:Int)(a:(List Int)):Option (Int) :=
 if (0≤o1∧o1<(a.length:Int)) then
 some (ix a o1)
 else none
def Z0s_J1 (a:(List Int)):Option ((List Int)) :=
 some a
def Z0s_L1 (a:(List Int))(h:(List Int))(e:(List Int))(b:Int):Option (((List Int)×Int)⊕((List Int))) :=
 if (decide (b<(a.length:Int)))=true then (
 if (0≤b∧b<(a.length:Int)) then
 (Z3a (ix a b) h).bind fun g =>
 if (0≤b∧b<((List.replicate (a.length:Int).toNat (0:Int)).length:Int)) then
 some (.inl ((e.set b.toNat g),(aK (b+1))))
 else none
 else none)
 else (
 some (.inr e))
def Z0s (a:(List Int))(b:(List Int)):Option ((List Int)) :=
 if (0≤(a.length:Int)∧(a.length:Int)≤140737488355328∧8*(a.length:Int)≤281474976710656) then
 (aU (fun s:(List Int)×Int=>Z0s_L1 a b s.1 s.2) ((List.replicate (a.length:Int).toNat (0:Int)),(0:Int))).bind fun e=>Z0s_J1 e
 else none
def Z2s (g1:Graph):Option (Bool) :=
 (Zh g1).bind fun a =>
 some a.2
def Z8_J4 (h:Graph)(b:(List Node))(e:(List Int)):Option (Graph×Bool) :=
 (Z0s h.Outs e).bind fun a =>
 (Z2s (⟨b,a⟩:Graph)).bind fun g =>
 if (!g)=true then (
 some ((⟨([]:List Node),([]:List Int)⟩:Graph),false))
 else (
 some ((⟨b,a⟩:Graph),true))
def Z8_J3 (b:Int)(e:(List Node))(a:(List Int)):Option (((List Node)×(List Int)×Int)⊕((List Node)×(List Int))) :=
 some (.inl (e,a,(aK (b+1))))
def Z8_L2 (i:Graph)(g:(List Node))(e:(List Int))(b:Int):Option (((List Node)×(List Int)×Int)⊕((List Node)×(List Int))) :=
 if (decide (b<(i.Nodes.length:Int)))=true then (
 if (0≤b∧b<(i.Nodes.length:Int)) then
 if ((ix i.Nodes b).Op==1)=true then (
 Z8_J3 b g e)
 else (
 (Z24 (ix i.Nodes b)).bind fun a =>
 (Z0r a.Args e).bind fun h =>
 if (0≤b∧b<((List.replicate (i.Nodes.length:Int).toNat (0:Int)).length:Int)) then
 if g.length+([(⟨a.Op,h,a.Dims,a.Ints,a.Form,a.Data⟩:Node)]:List Node).length≤1172812402961 then
 Z8_J3 b (g++([(⟨a.Op,h,a.Dims,a.Ints,a.Form,a.Data⟩:Node)]:List Node)) (e.set b.toNat (g.length:Int))
 else none
 else none)
 else none)
 else (
 some (.inr (g,e)))
def Z8_J1 (g:Graph)(b:Graph)(a:(List Int)):Option (Graph×Bool) :=
 (aU (fun s:(List Node)×(List Int)×Int=>Z8_L2 g s.1 s.2.1 s.2.2) (b.Nodes,a,(0:Int))).bind fun e=>Z8_J4 g e.1 e.2
def Z8_L1 (g1:Graph)(j:Graph)(g:(List (List Int))×Bool)(h:(List (List Int))×Bool)(b:(List Int))(e:(List Int))(a:Int):Option (((List Int)×Int)⊕((Graph×Bool)⊕((List Int)))) :=
 if (decide (a<(b.length:Int)))=true then (
 if (0≤a∧a<(b.length:Int)) then
 if (0≤a∧a<(g1.Outs.length:Int)) then
 if (0≤(ix g1.Outs a)∧(ix g1.Outs a)<(g.1.length:Int)) then
 if (0≤(ix b a)∧(ix b a)<(h.1.length:Int)) then
 (Z0u (ix g.1 (ix g1.Outs a)) (ix h.1 (ix b a))).bind fun i =>
 if (!i)=true then (
 some (.inr (.inl ((⟨([]:List Node),([]:List Int)⟩:Graph),false))))
 else (
 if (0≤(ix b a)∧(ix b a)<((List.replicate (j.Nodes.length:Int).toNat (0:Int)).length:Int)) then
 some (.inl ((e.set (ix b a).toNat (ix g1.Outs a)),(aK (a+1))))
 else none)
 else none
 else none
 else none
 else none)
 else (
 some (.inr (.inr e)))
def Z8 (g1:Graph)(a:Graph):Option (Graph×Bool) :=
 (Zh g1).bind fun b =>
 (Zh a).bind fun g =>
 if ((!b.2)||(!g.2))=true then (
 some ((⟨([]:List Node),([]:List Int)⟩:Graph),false))
 else (
 (Z06 a).bind fun h =>
 if ((g1.Outs.length:Int) != (h.length:Int))=true then (
 some ((⟨([]:List Node),([]:List Int)⟩:Graph),false))
 else (
 (Z31 g1).bind fun i =>
 if (0≤(a.Nodes.length:Int)∧(a.Nodes.length:Int)≤140737488355328∧8*(a.Nodes.length:Int)≤281474976710656) then
 (aU (fun s:(List Int)×Int=>Z8_L1 g1 a b g h s.1 s.2) ((List.replicate (a.Nodes.length:Int).toNat (0:Int)),(0:Int))).bind fun e=>match e with
 | .inl e=>some e
 | .inr e=>Z8_J1 a i e
 else none))
def Z0i_J1:Option (Bool) :=
 some true
def Z0i_L1 (a1:(List Int))(b:(List Int))(a:Int):Option ((Int)⊕((Bool)⊕(Unit))) :=
 if (decide (a<(a1.length:Int)))=true then (
 if (0≤a∧a<(a1.length:Int)) then
 if (0≤a∧a<(b.length:Int)) then
 if ((ix a1 a) != (ix b a))=true then (
 some (.inr (.inl false)))
 else (
 some (.inl (aK (a+1))))
 else none
 else none)
 else (
 some (.inr (.inr ())))
def Z0i (a1:(List Int))(a:(List Int)):Option (Bool) :=
 if ((a1.length:Int) != (a.length:Int))=true then (
 some false)
 else (
 (aU (fun s:Int=>Z0i_L1 a1 a s) (0:Int)).bind fun e=>match e with
 | .inl e=>some e
 | .inr e=>Z0i_J1)
def Z2q (a1:Node)(a:Node):Option (Bool) :=
 if (a1.Op != a.Op)=true then (
 some false)
 else (
 (Z0i a1.Args a.Args).bind fun b =>
 if (!b)=true then (
 some false)
 else (
 (Z0i a1.Dims a.Dims).bind fun e =>
 if (!e)=true then (
 some false)
 else (
 (Z0i a1.Ints a.Ints).bind fun g =>
 if (!g)=true then (
 some false)
 else (
 if (!(a1.Form==a.Form))=true then (
 some false)
 else (
 (Z0i a1.Data a.Data).bind fun h =>
 if (!h)=true then (
 some false)
 else (
 some true))))))
def Z1j_J1:Option (Bool) :=
 some true
def Z1j_L1 (a1:(List Node))(e:(List Node))(a:Int):Option ((Int)⊕((Bool)⊕(Unit))) :=
 if (decide (a<(a1.length:Int)))=true then (
 if (0≤a∧a<(a1.length:Int)) then
 if (0≤a∧a<(e.length:Int)) then
 (Z2q (ix a1 a) (ix e a)).bind fun b =>
 if (!b)=true then (
 some (.inr (.inl false)))
 else (
 some (.inl (aK (a+1))))
 else none
 else none)
 else (
 some (.inr (.inr ())))
def Z1j (a1:(List Node))(a:(List Node)):Option (Bool) :=
 if ((a1.length:Int) != (a.length:Int))=true then (
 some false)
 else (
 (aU (fun s:Int=>Z1j_L1 a1 a s) (0:Int)).bind fun e=>match e with
 | .inl e=>some e
 | .inr e=>Z1j_J1)
def Z1i (a1:Graph)(b:Graph):Option (Bool) :=
 (Z1j a1.Nodes b.Nodes).bind fun e =>
 if (!e)=true then (
 some false)
 else (
 (Z0i a1.Outs b.Outs).bind fun a =>
 if (!a)=true then (
 some false)
 else (
 some true))
def Zz_J1 (a:Int)(b:(List Int)):Option (Int×(List Int)) :=
 some (a,b)
def Zz_L1 (a1:(List Int))(e:(List Int))(b:Int)(a:Int):Option (((List Int)×Int×Int)⊕(Int×(List Int))) :=
 if (decide (a<(a1.length:Int)))=true then (
 if (0≤a∧a<(a1.length:Int)) then
 some (.inl ((e.set a.toNat b),(aK (b+1)),(aK (a+1))))
 else none)
 else (
 some (.inr (b,e)))
def Zz (a1:(List Int))(a:Int):Option (Int×(List Int)) :=
 (aU (fun s:(List Int)×Int×Int=>Zz_L1 a1 s.1 s.2.1 s.2.2) (a1,a,(0:Int))).bind fun e=>Zz_J1 e.1 e.2
def Z0o_J1 (a:aP):Option (aP) :=
 if str8.length+a.length≤9223372036854775807 then
 some (str8++a)
 else none
def Z0o_L1 (a:Int)(b:aP):Option ((Int×aP)⊕(aP)) :=
 if (decide (a>0))=true then (
 if (oc ([(IntKind.wrap .u8 ((aK ((48:Int)+(a.tmod (10:Int))))))]:List Int)).length+b.length≤9223372036854775807 then
 some (.inl ((aK (a.tdiv (10:Int))),((oc ([(IntKind.wrap .u8 ((aK ((48:Int)+(a.tmod (10:Int))))))]:List Int))++b)))
 else none)
 else (
 some (.inr b))
def Z0o (k1:Int):Option (aP) :=
 if (decide (k1≤0))=true then (
 some zm)
 else (
 (aU (fun s:Int×aP=>Z0o_L1 s.1 s.2) (k1,([]:aP))).bind fun e=>Z0o_J1 e)
def Z04_J1 (a:Int)(b:(List Node)):Option (Int×(List Node)) :=
 some (a,b)
def Z04_L1 (a1:(List Node))(a46:(List Node))(j:Int)(a:Int):Option (((List Node)×Int×Int)⊕(Int×(List Node))) :=
 if (decide (a<(a1.length:Int)))=true then (
 if (0≤a∧a<(a1.length:Int)) then
 (nm (a46.set a.toNat (⟨j,(ix a46 a).Args,(ix a46 a).Dims,(ix a46 a).Ints,(ix a46 a).Form,(ix a46 a).Data⟩:Node))).bind fun b =>
 (Zz ((ix b a).Args) (aK (j+1))).bind fun m =>
 (nm (b.set a.toNat (⟨(ix b a).Op,m.2,(ix b a).Dims,(ix b a).Ints,(ix b a).Form,(ix b a).Data⟩:Node))).bind fun e =>
 (Zz ((ix e a).Dims) m.1).bind fun q =>
 (nm (e.set a.toNat (⟨(ix e a).Op,(ix e a).Args,q.2,(ix e a).Ints,(ix e a).Form,(ix e a).Data⟩:Node))).bind fun g =>
 (Zz ((ix g a).Ints) q.1).bind fun l =>
 (nm (g.set a.toNat (⟨(ix g a).Op,(ix g a).Args,(ix g a).Dims,l.2,(ix g a).Form,(ix g a).Data⟩:Node))).bind fun i =>
 (Z0o l.1).bind fun u =>
 (nm (i.set a.toNat (⟨(ix i a).Op,(ix i a).Args,(ix i a).Dims,(ix i a).Ints,u,(ix i a).Data⟩:Node))).bind fun h =>
 (Zz ((ix h a).Data) (aK (l.1+1))).bind fun r =>
 (nm (h.set a.toNat (⟨(ix h a).Op,(ix h a).Args,(ix h a).Dims,(ix h a).Ints,(ix h a).Form,r.2⟩:Node))).bind fun s =>
 some (.inl (s,r.1,(aK (a+1))))
 else none)
 else (
 some (.inr (j,a46)))
def Z04 (a1:(List Node))(a:Int):Option (Int×(List Node)) :=
 (aU (fun s:(List Node)×Int×Int=>Z04_L1 a1 s.1 s.2.1 s.2.2) (a1,a,(0:Int))).bind fun e=>Z04_J1 e.1 e.2
def Z20 (a1:Graph)(e:Int):Option (Int×(List Node)×(List Int)) :=
 (Z04 a1.Nodes e).bind fun a =>
 (Zz a1.Outs a.1).bind fun b =>
 some (b.1,a.2,b.2)
def Z03_J1 (a:Int):Option (Int) :=
 some a
def Z03_L1 (a1:(List Int))(b:Int)(a:Int):Option ((Int×Int)⊕((Int)⊕(Int))) :=
 if (decide (a<(a1.length:Int)))=true then (
 if (0≤a∧a<(a1.length:Int)) then
 if ((ix a1 a) != b)=true then (
 some (.inr (.inl (-1:Int))))
 else (
 some (.inl ((aK (b+1)),(aK (a+1)))))
 else none)
 else (
 some (.inr (.inr b)))
def Z03 (a1:(List Int))(a:Int):Option (Int) :=
 (aU (fun s:Int×Int=>Z03_L1 a1 s.1 s.2) (a,(0:Int))).bind fun e=>match e with
 | .inl e=>some e
 | .inr e=>Z03_J1 e
def Z0t_J1 (a:Int):Option (Int) :=
 some a
def Z0t_L1 (a1:(List Node))(b:Int)(a:Int):Option ((Int×Int)⊕((Int)⊕(Int))) :=
 if (decide (a<(a1.length:Int)))=true then (
 if (0≤a∧a<(a1.length:Int)) then
 if ((ix a1 a).Op != b)=true then (
 some (.inr (.inl (-1:Int))))
 else (
 (Z03 ((ix a1 a).Args) (aK (b+1))).bind fun g =>
 if (decide (g<0))=true then (
 some (.inr (.inl (-1:Int))))
 else (
 (Z03 ((ix a1 a).Dims) g).bind fun h =>
 if (decide (h<0))=true then (
 some (.inr (.inl (-1:Int))))
 else (
 (Z03 ((ix a1 a).Ints) h).bind fun e =>
 if (decide (e<0))=true then (
 some (.inr (.inl (-1:Int))))
 else (
 (Z0o e).bind fun j =>
 if (!((ix a1 a).Form==j))=true then (
 some (.inr (.inl (-1:Int))))
 else (
 (Z03 ((ix a1 a).Data) (aK (e+1))).bind fun i =>
 if (decide (i<0))=true then (
 some (.inr (.inl (-1:Int))))
 else (
 some (.inl (i,(aK (a+1))))))))))
 else none)
 else (
 some (.inr (.inr b)))
def Z0t (a1:(List Node))(a:Int):Option (Int) :=
 (aU (fun s:Int×Int=>Z0t_L1 a1 s.1 s.2) (a,(0:Int))).bind fun e=>match e with
 | .inl e=>some e
 | .inr e=>Z0t_J1 e
def Z2c (a1:Graph)(e:Int):Option (Int) :=
 (Z0t a1.Nodes e).bind fun a =>
 if (decide (a<0))=true then (
 some (-1:Int))
 else (
 (Z03 a1.Outs a).bind fun b =>
 if (decide (b<0))=true then (
 some (-1:Int))
 else (
 some b))
def Z3g (e:Graph)(g:Graph):Option (Bool) :=
 (Z2d e (1048576:Int)).bind fun U =>
 if (decide (U<0))=true then (
 some true)
 else (
 (Z2d g U).bind fun s =>
 if (decide (s<0))=true then (
 some true)
 else (
 (Z09 e).bind fun u =>
 (Z09 g).bind fun B =>
 (Z0 u B).bind fun a =>
 (Z09 e).bind fun i =>
 (Z09 g).bind fun j =>
 (Z8 i j).bind fun h =>
 (Z1i h.1 a.1).bind fun D =>
 if ((!D)||(!(h.2==a.2)))=true then (
 some false)
 else (
 (Z09 e).bind fun E =>
 (Z1i i E).bind fun F =>
 if (!F)=true then (
 some false)
 else (
 (Z09 g).bind fun G =>
 (Z1i j G).bind fun I =>
 if (!I)=true then (
 some false)
 else (
 (Z20 i (1:Int)).bind fun J =>
 (Z20 j J.1).bind fun l =>
 (bT (!(decide (l.1<0))) (Z1i h.1 a.1)).bind fun L =>
 if (((decide (l.1<0))||(!L))||(!(h.2==a.2)))=true then (
 some false)
 else (
 (Z20 h.1 (1:Int)).bind fun b =>
 (Z2c (⟨b.2.1,b.2.2⟩:Graph) (1:Int)).bind fun m =>
 if (decide (m<0))=true then (
 some false)
 else (
 if (m != b.1)=true then (
 some false)
 else (
 (Z09 e).bind fun M =>
 (Z09 g).bind fun O =>
 (Z8 M O).bind fun q =>
 (Z1i q.1 a.1).bind fun T =>
 if ((!T)||(!(q.2==a.2)))=true then (
 some false)
 else (
 (Z2c (⟨b.2.1,b.2.2⟩:Graph) (1:Int)).bind fun r =>
 if (decide (r<0))=true then (
 some false)
 else (
 if (r != b.1)=true then (
 some false)
 else (
 some true)))))))))))
end
end Go.Proofs.YthelanpdjajnbaaGreat
