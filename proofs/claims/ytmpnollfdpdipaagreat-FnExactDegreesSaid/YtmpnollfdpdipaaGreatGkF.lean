import Derived.Test.YtmpnollfdpdipaaGreatGkH
set_option linter.unusedVariables false
namespace Go.Proofs.YtmpnollfdpdipaaGreat
open Go Go.Pg
noncomputable section
def Z1j (b:(List Int))(a:Int):Option (Int) :=
 if (decide ((aH (a - (b.length:Int)))<0))=true then (
 some (-1:Int))
 else (
 some (aH (a - (b.length:Int))))
def Z2k (e:Node)(b:Int):Option (Int) :=
 (Z1j e.Args b).bind fun i =>
 if (decide (i<0))=true then (
 some (-1:Int))
 else (
 (Z1j e.Dims i).bind fun h =>
 if (decide (h<0))=true then (
 some (-1:Int))
 else (
 (Z1j e.Ints h).bind fun a =>
 if (decide (a<0))=true then (
 some (-1:Int))
 else (
 if (decide ((aH (a - (e.Form.length:Int)))<0))=true then (
 some (-1:Int))
 else (
 (Z1j e.Data (aH (a - (e.Form.length:Int)))).bind fun g =>
 if (decide (g<0))=true then (
 some (-1:Int))
 else (
 some g)))))
def Z1a_J1 (a:Int):Option (Int) :=
 some a
def Z1a_L1 (g:(List Node))(a:Int)(b:Int):Option ((Int×Int)⊕((Int)⊕(Int))) :=
 if (decide (b<(g.length:Int)))=true then (
 if (0≤b∧b<(g.length:Int)) then
 (Z2k (ix g b) a).bind fun e =>
 if (decide (e<0))=true then (
 some (.inr (.inl (-1:Int))))
 else (
 some (.inl (e,(aH (b+1)))))
 else none)
 else (
 some (.inr (.inr a)))
def Z1a (b:(List Node))(a:Int):Option (Int) :=
 if (decide ((aH (a - (b.length:Int)))<0))=true then (
 some (-1:Int))
 else (
 (aR (fun s:Int×Int=>Z1a_L1 b s.1 s.2) ((aH (a - (b.length:Int))),(0:Int))).bind fun e=>match e with
 | .inl e=>some e
 | .inr e=>Z1a_J1 e)
def Z2x (g:Graph)(a:Int):Option (Int) :=
 (Z1a g.Nodes a).bind fun b =>
 if (decide (b<0))=true then (
 some (-1:Int))
 else (
 (Z1j g.Outs b).bind fun e =>
 if (decide (e<0))=true then (
 some (-1:Int))
 else (
 some e))
def Z07_J1 (a:(List Int)):Option ((List Int)) :=
 some a
def Z07_L1 (e:(List Int))(b:(List Int))(a:Int):Option (((List Int)×Int)⊕((List Int))) :=
 if (decide (a<(e.length:Int)))=true then (
 if (0≤a∧a<(e.length:Int)) then
 if (0≤a∧a<((List.replicate (e.length:Int).toNat (0:Int)).length:Int)) then
 some (.inl ((b.set a.toNat (ix e a)),(aH (a+1))))
 else none
 else none)
 else (
 some (.inr b))
def Z07 (a:(List Int)):Option ((List Int)) :=
 if (0≤(a.length:Int)∧(a.length:Int)≤140737488355328∧8*(a.length:Int)≤281474976710656) then
 (aR (fun s:(List Int)×Int=>Z07_L1 a s.1 s.2) ((List.replicate (a.length:Int).toNat (0:Int)),(0:Int))).bind fun e=>Z07_J1 e
 else none
def Z2y (a:Node):Option (Node) :=
 (Z07 a.Args).bind fun h =>
 (Z07 a.Dims).bind fun b =>
 (Z07 a.Ints).bind fun e =>
 (Z07 a.Data).bind fun g =>
 some (⟨a.Op,h,b,e,a.Form,g⟩:Node)
def Z0r_J1 (a:(List Node)):Option ((List Node)) :=
 some a
def Z0r_L1 (e:(List Node))(b:(List Node))(a:Int):Option (((List Node)×Int)⊕((List Node))) :=
 if (decide (a<(e.length:Int)))=true then (
 if (0≤a∧a<(e.length:Int)) then
 (Z2y (ix e a)).bind fun g =>
 if (0≤a∧a<((List.replicate (e.length:Int).toNat zT54.z).length:Int)) then
 some (.inl ((b.set a.toNat g),(aH (a+1))))
 else none
 else none)
 else (
 some (.inr b))
def Z0r (a:(List Node)):Option ((List Node)) :=
 if (0≤(a.length:Int)∧(a.length:Int)≤140737488355328∧120*(a.length:Int)≤281474976710656) then
 (aR (fun s:(List Node)×Int=>Z0r_L1 a s.1 s.2) ((List.replicate (a.length:Int).toNat zT54.z),(0:Int))).bind fun e=>Z0r_J1 e
 else none
def Z1b (b:Graph):Option (Graph) :=
 (Z0r b.Nodes).bind fun e =>
 (Z07 b.Outs).bind fun a =>
 some (⟨e,a⟩:Graph)
def Z2l (a:Int):Option (Int×Int) :=
 if (decide (a≤2))=true then (
 some ((0:Int),(0:Int)))
 else (
 if (decide (a≤5))=true then (
 some ((2:Int),(2:Int)))
 else (
 if (a==11)=true then (
 some ((1:Int),(6:Int)))
 else (
 some ((1:Int),(1:Int)))))
def Z3b (a:Int):Option (Bool) :=
 some ((((a==1)||(a==2))||(a==12))||(a==13))
def Z1d_J2 (a:Bool):Option (Int) :=
 if a=true then (
 some (3:Int))
 else (
 some (0:Int))
def Z1d_J1 (a:Int)(b:Bool):Option (Int) :=
 if b=true then (
 some (4:Int))
 else (
 if (a==16)=true then (
 some (1:Int))
 else (
 if (a==17)=true then (
 some (2:Int))
 else (
 if (a==18)=true then (
 Z1d_J2 (a==18))
 else (
 Z1d_J2 (a==19)))))
def Z1d (a:Int):Option (Int) :=
 if (a==10)=true then (
 some (1:Int))
 else (
 if (a==14)=true then (
 Z1d_J1 a (a==14))
 else (
 Z1d_J1 a (a==15)))
def Z10 (a:Node):Option (Bool) :=
 if ((decide (a.Op<1))||(decide (a.Op>19)))=true then (
 some false)
 else (
 (Z2l a.Op).bind fun g =>
 if ((decide ((a.Args.length:Int)<g.1))||(decide ((a.Args.length:Int)>g.2)))=true then (
 some false)
 else (
 (Z3b a.Op).bind fun e =>
 if ((((!e)&&(decide ((a.Dims.length:Int)>0)))||((a.Op != 11)&&(!(a.Form==([]:aM)))))||((a.Op != 2)&&(decide ((a.Data.length:Int)>0))))=true then (
 some false)
 else (
 (Z1d a.Op).bind fun b =>
 if ((a.Op==16)||(a.Op==17))=true then (
 some ((decide ((a.Ints.length:Int)≥b))&&(decide ((a.Ints.length:Int)≤(aH (b+4096))))))
 else (
 some ((a.Ints.length:Int)==b)))))
def Z0k_J1:Option (Bool) :=
 some true
def Z0k_L1 (a:(List Int))(e:Int)(b:Int):Option ((Int)⊕((Bool)⊕(Unit))) :=
 if (decide (b<(a.length:Int)))=true then (
 if (0≤b∧b<(a.length:Int)) then
 if ((decide ((ix a b)<0))||(decide ((ix a b)≥e)))=true then (
 some (.inr (.inl false)))
 else (
 some (.inl (aH (b+1))))
 else none)
 else (
 some (.inr (.inr ())))
def Z0k (a:(List Int))(b:Int):Option (Bool) :=
 (aR (fun s:Int=>Z0k_L1 a b s) (0:Int)).bind fun e=>match e with
 | .inl e=>some e
 | .inr e=>Z0k_J1
def Zw_J1 (a:Int):Option (Int) :=
 some a
def Zw_L1 (a:(List Int))(e:Int)(b:Int):Option ((Int×Int)⊕((Int)⊕(Int))) :=
 if (decide (b<(a.length:Int)))=true then (
 if (0≤b∧b<(a.length:Int)) then
 if ((decide ((ix a b)<1))||(decide ((ix a b)>4096)))=true then (
 some (.inr (.inl (0:Int))))
 else (
 if (decide ((aH (e*(ix a b)))>4096))=true then (
 some (.inr (.inl (0:Int))))
 else (
 some (.inl ((aH (e*(ix a b))),(aH (b+1))))))
 else none)
 else (
 some (.inr (.inr e)))
def Zw (a:(List Int)):Option (Int) :=
 (aR (fun s:Int×Int=>Zw_L1 a s.1 s.2) ((1:Int),(0:Int))).bind fun e=>match e with
 | .inl e=>some e
 | .inr e=>Zw_J1 e
def Zo (a:(List Int)):Option (Bool) :=
 (bQ (decide ((a.length:Int)≤6)) (Zw a)).bind fun b =>
 some ((decide ((a.length:Int)≤6))&&(decide (b>0)))
def Zs_J1:Option (Bool) :=
 some true
def Zs_L1 (t1:Tensor)(a:Int):Option ((Int)⊕((Bool)⊕(Unit))) :=
 if (decide (a<(t1.Data.length:Int)))=true then (
 if (0≤a∧a<(t1.Data.length:Int)) then
 if ((decide ((ix t1.Data a)<0))||(decide ((ix t1.Data a)≥2147483647)))=true then (
 some (.inr (.inl false)))
 else (
 some (.inl (aH (a+1))))
 else none)
 else (
 some (.inr (.inr ())))
def Zs (t1:Tensor):Option (Bool) :=
 (Zo t1.Dims).bind fun a =>
 (bQ (!(!a)) (Zw t1.Dims)).bind fun b =>
 if ((!a)||((t1.Data.length:Int) != b))=true then (
 some false)
 else (
 (aR (fun s:Int=>Zs_L1 t1 s) (0:Int)).bind fun e=>match e with
 | .inl e=>some e
 | .inr e=>Zs_J1)
def Zu (a:(List Int)):Option ((List Int)) :=
 if ([]:List Int).length+a.length≤17592186044416 then
 some (([]:List Int)++a)
 else none
def Z02_J1:Option (Bool) :=
 some true
def Z02_L1 (b:(List Int))(e:(List Int))(a:Int):Option ((Int)⊕((Bool)⊕(Unit))) :=
 if (decide (a<(b.length:Int)))=true then (
 if (0≤a∧a<(b.length:Int)) then
 if (0≤a∧a<(e.length:Int)) then
 if ((ix b a) != (ix e a))=true then (
 some (.inr (.inl false)))
 else (
 some (.inl (aH (a+1))))
 else none
 else none)
 else (
 some (.inr (.inr ())))
def Z02 (b:(List Int))(a:(List Int)):Option (Bool) :=
 if ((b.length:Int) != (a.length:Int))=true then (
 some false)
 else (
 (aR (fun s:Int=>Z02_L1 b a s) (0:Int)).bind fun e=>match e with
 | .inl e=>some e
 | .inr e=>Z02_J1)
def Z2a (a:(List Int))(b:Int):Option (Int) :=
 if (decide (b≥(a.length:Int)))=true then (
 some (1:Int))
 else (
 if (0≤(aH ((aH ((a.length:Int) - 1)) - b))∧(aH ((aH ((a.length:Int) - 1)) - b))<(a.length:Int)) then
 some (ix a (aH ((aH ((a.length:Int) - 1)) - b)))
 else none)
def Z01_J4 (a:(List Int)):Option ((List Int)) :=
 (Zo a).bind fun b =>
 if (!b)=true then (
 some ([]:List Int))
 else (
 some a)
def Z01_J3 (b:Int)(e:(List Int))(a:Int)(g:Int):Option (((List Int)×Int)⊕(((List Int))⊕((List Int)))) :=
 if (0≤(aH ((aH (b - 1)) - a))∧(aH ((aH (b - 1)) - a))<((List.replicate b.toNat (0:Int)).length:Int)) then
 some (.inl ((e.set (aH ((aH (b - 1)) - a)).toNat g),(aH (a+1))))
 else none
def Z01_L1 (j:(List Int))(i:(List Int))(h:Int)(g:(List Int))(a:Int):Option (((List Int)×Int)⊕(((List Int))⊕((List Int)))) :=
 if (decide (a<h))=true then (
 (Z2a j a).bind fun e =>
 (Z2a i a).bind fun b =>
 if (((e != b)&&(e != 1))&&(b != 1))=true then (
 some (.inr (.inl ([]:List Int))))
 else (
 if (decide (b>e))=true then (
 Z01_J3 h g a b)
 else (
 Z01_J3 h g a e)))
 else (
 some (.inr (.inr g)))
def Z01_J1 (g:(List Int))(b:(List Int))(a:Int):Option ((List Int)) :=
 if (0≤a∧a≤140737488355328∧8*a≤281474976710656) then
 (aR (fun s:(List Int)×Int=>Z01_L1 g b a s.1 s.2) ((List.replicate a.toNat (0:Int)),(0:Int))).bind fun e=>match e with
 | .inl e=>some e
 | .inr e=>Z01_J4 e
 else none
def Z01 (b:(List Int))(a:(List Int)):Option ((List Int)) :=
 (Zo b).bind fun e =>
 (bQ (!(!e)) (Zo a)).bind fun g =>
 if ((!e)||(!g))=true then (
 some ([]:List Int))
 else (
 if (decide ((a.length:Int)>(b.length:Int)))=true then (
 Z01_J1 b a (a.length:Int))
 else (
 Z01_J1 b a (b.length:Int)))
def Z0i (a:(List Int)):Option (Tensor) :=
 (Zu a).bind fun e =>
 (Zw a).bind fun b =>
 if (0≤b∧b≤140737488355328∧8*b≤281474976710656) then
 some (⟨e,(List.replicate b.toNat (0:Int))⟩:Tensor)
 else none
def Zj_J1 (a:(List Int)):Option ((List Int)) :=
 some a
def Zj_L1 (a:(List Int))(g:Int)(e:(List Int))(b:Int):Option ((Int×(List Int)×Int)⊕((List Int))) :=
 if (decide (b≥0))=true then (
 if (0≤b∧b<(a.length:Int)) then
 if (ix a b)≠0 then
 if (0≤b∧b<((List.replicate (a.length:Int).toNat (0:Int)).length:Int)) then
 some (.inl ((aH (g.tdiv (ix a b))),(e.set b.toNat (g.tmod (ix a b))),(aH (b - 1))))
 else none
 else none
 else none)
 else (
 some (.inr e))
def Zj (a:(List Int))(b:Int):Option ((List Int)) :=
 if (0≤(a.length:Int)∧(a.length:Int)≤140737488355328∧8*(a.length:Int)≤281474976710656) then
 (aR (fun s:Int×(List Int)×Int=>Zj_L1 a s.1 s.2.1 s.2.2) (b,(List.replicate (a.length:Int).toNat (0:Int)),(aH ((a.length:Int) - 1)))).bind fun e=>Zj_J1 e
 else none
def Z0n_J1 (a:Int):Option (Int) :=
 some a
def Z0n_L1 (b:(List Int))(e:(List Int))(g:Int)(a:Int):Option ((Int×Int)⊕(Int)) :=
 if (decide (a<(b.length:Int)))=true then (
 if (0≤a∧a<(b.length:Int)) then
 if (0≤a∧a<(e.length:Int)) then
 some (.inl ((aH ((aH (g*(ix b a)))+(ix e a))),(aH (a+1))))
 else none
 else none)
 else (
 some (.inr g))
def Z0n (b:(List Int))(a:(List Int)):Option (Int) :=
 (aR (fun s:Int×Int=>Z0n_L1 b a s.1 s.2) ((0:Int),(0:Int))).bind fun e=>Z0n_J1 e
def Z19 (t1:Tensor)(a:(List Int)):Option (Int) :=
 (Z0n t1.Dims a).bind fun b =>
 if (0≤b∧b<(t1.Data.length:Int)) then
 some (ix t1.Data b)
 else none
def Z09_J3 (t1:Tensor)(a:(List Int)):Option (Int) :=
 (Z19 t1 a).bind fun b =>
 some b
def Z09_J2 (b:(List Int))(e:Int)(a:Int):Option (((List Int)×Int)⊕((List Int))) :=
 if b.length+([a]:List Int).length≤17592186044416 then
 some (.inl ((b++([a]:List Int)),(aH (e+1))))
 else none
def Z09_L1 (t1:Tensor)(a:(List Int))(e:(List Int))(b:Int):Option (((List Int)×Int)⊕((List Int))) :=
 if (decide (b<(t1.Dims.length:Int)))=true then (
 if (0≤(aH ((aH ((a.length:Int) - (t1.Dims.length:Int)))+b))∧(aH ((aH ((a.length:Int) - (t1.Dims.length:Int)))+b))<(a.length:Int)) then
 if (0≤b∧b<(t1.Dims.length:Int)) then
 if ((ix t1.Dims b)==1)=true then (
 Z09_J2 e b (0:Int))
 else (
 Z09_J2 e b (ix a (aH ((aH ((a.length:Int) - (t1.Dims.length:Int)))+b))))
 else none
 else none)
 else (
 some (.inr e))
def Z09 (t1:Tensor)(a:(List Int)):Option (Int) :=
 (aR (fun s:(List Int)×Int=>Z09_L1 t1 a s.1 s.2) (([]:List Int),(0:Int))).bind fun e=>Z09_J3 t1 e
def Zq_J1 (a:Int):Option (Int) :=
 some a
def Zq (p1:Int):Option (Int) :=
 if (decide ((p1.tmod (2147483647:Int))<0))=true then (
 Zq_J1 (aH ((p1.tmod (2147483647:Int))+2147483647)))
 else (
 Zq_J1 (p1.tmod (2147483647:Int)))
def Z1g (b:Int):Option (Int) :=
 (Zq b).bind fun a =>
 if (decide (a>1073741823))=true then (
 some (aH (a - 2147483647)))
 else (
 some a)
def Z1o (e:Int)(h:Int):Option (Int) :=
 (Zq e).bind fun b =>
 (Zq h).bind fun g =>
 (Zq (aH (b+g))).bind fun a =>
 some a
def Z28 (e:Int)(h:Int):Option (Int) :=
 (Zq e).bind fun b =>
 (Zq h).bind fun g =>
 (Zq (aH (b - g))).bind fun a =>
 some a
def Z1h (e:Int)(h:Int):Option (Int) :=
 (Zq e).bind fun b =>
 (Zq h).bind fun g =>
 (Zq (aH (b*g))).bind fun a =>
 some a
def Zt_J1 (a:Int):Option (Int) :=
 some a
def Zt_S (h:Int→Int→Option (Int))(e:Int)(a:Int):Option (Int) :=
 if (a==0)=true then (
 some (1:Int))
 else (
 (h e (aH (a.tdiv (2:Int)))).bind fun g =>
 (Z1h g g).bind fun b =>
 if ((a.tmod (2:Int))==1)=true then (
 (Z1h b e).bind fun i =>
 Zt_J1 i)
 else (
 Zt_J1 b))
def Zt_R:Nat→Int→Int→Option (Int)
 | 0=>fun _ _=>none
 | n+1=>Zt_S (Zt_R n)
def Zt (b:Int)(a:Int):Option (Int):=Zt_R nu b a
def Z27 (e:Int):Option (Int) :=
 (Zq e).bind fun b =>
 (Zt b (2147483645:Int)).bind fun a =>
 some a
def Z3s (b:Int)(a:Int):Option (Int) :=
 (Z27 a).bind fun e =>
 (Z1h b e).bind fun g =>
 some g
def Z1p_J1 (a:Bool):Option (Int) :=
 if a=true then (
 some (1:Int))
 else (
 some (0:Int))
def Z1p (a:Int)(b:Int)(e:Int):Option (Int) :=
 (Z1g b).bind fun i =>
 (Z1g e).bind fun g =>
 if (a==1)=true then (
 (Z1o b e).bind fun m =>
 some m)
 else (
 if (a==2)=true then (
 (Z28 b e).bind fun h =>
 some h)
 else (
 if (a==3)=true then (
 (Z1h b e).bind fun j =>
 some j)
 else (
 if (a==4)=true then (
 (Z3s b e).bind fun l =>
 some l)
 else (
 if (a==5)=true then (
 if (decide (i<g))=true then (
 some e)
 else (
 some b))
 else (
 if (a==6)=true then (
 if (decide (i<g))=true then (
 some b)
 else (
 some e))
 else (
 if (a==7)=true then (
 Z1p_J1 (decide (i<g)))
 else (
 if (a==8)=true then (
 Z1p_J1 (b==e))
 else (
 Z1p_J1 false))))))))
def Z15_J1 (b:Tensor)(a:(List Int)):Option (Tensor) :=
 some (⟨b.Dims,a⟩:Tensor)
def Z15_L1 (m:Int)(r:Tensor)(q:Tensor)(h:(List Int))(e:Tensor)(g:(List Int))(a:Int):Option (((List Int)×Int)⊕((List Int))) :=
 if (decide (a<(e.Data.length:Int)))=true then (
 (Zj h a).bind fun b =>
 (Z09 r b).bind fun l =>
 (Z09 q b).bind fun i =>
 (Z1p m l i).bind fun j =>
 if (0≤a∧a<(e.Data.length:Int)) then
 some (.inl ((g.set a.toNat j),(aH (a+1))))
 else none)
 else (
 some (.inr g))
def Z15 (g:Int)(j:Tensor)(i:Tensor):Option (Tensor) :=
 (Zs j).bind fun h =>
 (bQ (!(!h)) (Zs i)).bind fun l =>
 if ((((!h)||(!l))||(decide (g<1)))||(decide (g>8)))=true then (
 some (⟨([]:List Int),([]:List Int)⟩:Tensor))
 else (
 (Z01 j.Dims i.Dims).bind fun a =>
 if ((decide ((a.length:Int)<(j.Dims.length:Int)))||(decide ((a.length:Int)<(i.Dims.length:Int))))=true then (
 some (⟨([]:List Int),([]:List Int)⟩:Tensor))
 else (
 (Z0i a).bind fun b =>
 (aR (fun s:(List Int)×Int=>Z15_L1 g j i a b s.1 s.2) (b.Data,(0:Int))).bind fun e=>Z15_J1 b e))
def Z31 (a:Int)(b:Int):Option (Int) :=
 if (a==1)=true then (
 (Z28 (0:Int) b).bind fun h =>
 some h)
 else (
 if (a==2)=true then (
 (Z27 b).bind fun e =>
 some e)
 else (
 (Z1g b).bind fun g =>
 if (decide (g≤0))=true then (
 some (0:Int))
 else (
 if (a==3)=true then (
 some (1:Int))
 else (
 some b))))
def Z14_J1 (b:Tensor)(a:(List Int)):Option (Tensor) :=
 some (⟨b.Dims,a⟩:Tensor)
def Z14_L1 (h:Int)(e:Tensor)(g:Tensor)(b:(List Int))(a:Int):Option (((List Int)×Int)⊕((List Int))) :=
 if (decide (a<(e.Data.length:Int)))=true then (
 if (0≤a∧a<(e.Data.length:Int)) then
 (Z31 h (ix e.Data a)).bind fun i =>
 if (0≤a∧a<(g.Data.length:Int)) then
 some (.inl ((b.set a.toNat i),(aH (a+1))))
 else none
 else none)
 else (
 some (.inr b))
def Z14 (b:Int)(g:Tensor):Option (Tensor) :=
 (Zs g).bind fun h =>
 if (((!h)||(decide (b<1)))||(decide (b>4)))=true then (
 some (⟨([]:List Int),([]:List Int)⟩:Tensor))
 else (
 (Z0i g.Dims).bind fun a =>
 (aR (fun s:(List Int)×Int=>Z14_L1 b g a s.1 s.2) (a.Data,(0:Int))).bind fun e=>Z14_J1 a e)
def Z1i (t1:Tensor)(a:Int):Option (Bool) :=
 (Zs t1).bind fun b =>
 some ((b&&(decide (a≥0)))&&(decide (a<(t1.Dims.length:Int))))
def Z0j (g:(List Int))(a:Int)(e:Int):Option ((List Int)) :=
 (Zu g).bind fun b =>
 if (0≤a∧a<(b.length:Int)) then
 some (b.set a.toNat e)
 else none
def Z0z_J1 (a:(List Int)):Option ((List Int)) :=
 some a
def Z0z_L1 (t1:Tensor)(a:Int)(i:(List Int))(e:(List Int))(b:Int):Option (((List Int)×Int)⊕((List Int))) :=
 if (0≤a∧a<(t1.Dims.length:Int)) then
 if (decide (b<(ix t1.Dims a)))=true then (
 (Z0j i a b).bind fun h =>
 (Z19 t1 h).bind fun g =>
 if e.length+([g]:List Int).length≤17592186044416 then
 some (.inl ((e++([g]:List Int)),(aH (b+1))))
 else none)
 else (
 some (.inr e))
 else none
def Z0z (t1:Tensor)(a:Int)(b:(List Int)):Option ((List Int)) :=
 (aR (fun s:(List Int)×Int=>Z0z_L1 t1 a b s.1 s.2) (([]:List Int),(0:Int))).bind fun e=>Z0z_J1 e
def Zc_J9 (b:Tensor)(a:(List Int)):Option (Tensor) :=
 some (⟨b.Dims,a⟩:Tensor)
def Zc_J8 (b:Int)(a:(List Int)):Option (((List Int)×Int)⊕((List Int))) :=
 some (.inl (a,(aH (b+1))))
def Zc_J7 (g:Tensor)(e:(List Int))(b:Int)(a:Bool):Option (((List Int)×Int)⊕((List Int))) :=
 if a=true then (
 if (0≤b∧b<(g.Data.length:Int)) then
 Zc_J8 b (e.set b.toNat (1:Int))
 else none)
 else (
 Zc_J8 b e)
def Zc_J6 (b:Int)(a:Bool):Option ((Bool×Int)⊕(Bool)) :=
 some (.inl (a,(aH (b+1))))
def Zc_L2 (t1:Tensor)(e:Int)(j:Int)(l:(List Int))(i:(List Int))(b:Bool)(a:Int):Option ((Bool×Int)⊕(Bool)) :=
 if (decide (a<(i.length:Int)))=true then (
 if (0≤a∧a<(i.length:Int)) then
 (Z1g (ix i a)).bind fun h =>
 if (0≤j∧j<(t1.Data.length:Int)) then
 (Z1g (ix t1.Data j)).bind fun g =>
 if (decide (h>g))=false→(h==g)=true→(0≤e∧e<(l.length:Int)) then
 if ((decide (h>g))||((h==g)&&(decide (a<(ix l e)))))=true then (
 Zc_J6 a false)
 else (
 Zc_J6 a b)
 else none
 else none
 else none)
 else (
 some (.inr b))
def Zc_L1 (t1:Tensor)(a:Int)(j:Tensor)(h:(List Int))(b:Int):Option (((List Int)×Int)⊕((List Int))) :=
 if (decide (b<(t1.Data.length:Int)))=true then (
 (Zj t1.Dims b).bind fun g =>
 (Z0z t1 a g).bind fun i =>
 (aR (fun s:Bool×Int=>Zc_L2 t1 a b g i s.1 s.2) (true,(0:Int))).bind fun e=>Zc_J7 j h b e)
 else (
 some (.inr h))
def Zc (t1:Tensor)(a:Int):Option (Tensor) :=
 (Z1i t1 a).bind fun g =>
 if (!g)=true then (
 some (⟨([]:List Int),([]:List Int)⟩:Tensor))
 else (
 (Z0i t1.Dims).bind fun b =>
 (aR (fun s:(List Int)×Int=>Zc_L1 t1 a b s.1 s.2) (b.Data,(0:Int))).bind fun e=>Zc_J9 b e)
def Z0y_J1 (p1:aM):Option (Bool) :=
 some (decide ((p1.length:Int)≤6))
def Z0y_L1 (p1:aM)(a:Int):Option ((Int)⊕((Bool)⊕(Unit))) :=
 if (decide (a<(p1.length:Int)))=true then (
 if (0≤a∧a<(p1.length:Int)) then
 if ((decide ((bt p1 a)<97))||(decide ((bt p1 a)>122)))=true then (
 some (.inr (.inl false)))
 else (
 some (.inl (aH (a+1))))
 else none)
 else (
 some (.inr (.inr ())))
def Z0y (p1:aM):Option (Bool) :=
 (aR (fun s:Int=>Z0y_L1 p1 s) (0:Int)).bind fun e=>match e with
 | .inl e=>some e
 | .inr e=>Z0y_J1 p1
def Z0x_J1:Option (Bool) :=
 some false
def Z0x_L1 (p1:aM)(b:Int)(a:Int):Option ((Int)⊕((Bool)⊕(Unit))) :=
 if (decide (a<(p1.length:Int)))=true then (
 if (0≤a∧a<(p1.length:Int)) then
 if ((bt p1 a)==b)=true then (
 some (.inr (.inl true)))
 else (
 some (.inl (aH (a+1))))
 else none)
 else (
 some (.inr (.inr ())))
def Z0x (p1:aM)(a:Int):Option (Bool) :=
 (aR (fun s:Int=>Z0x_L1 p1 a s) (0:Int)).bind fun e=>match e with
 | .inl e=>some e
 | .inr e=>Z0x_J1
def Z0_J8 (b:aM)(e:Int)(a:(List aM)):Option ((List aM)×aM×Bool) :=
 some (a,(sub b (aH (e+2)) (b.length:Int)),true)
def Z0_J7 (a:aM)(g:Int)(b:Int)(e:Bool):Option ((Int)⊕(((List aM)×aM×Bool)⊕(Unit))) :=
 if (!e)=false→(0≤(0:Int)∧(0:Int)≤b∧b≤((sub a (aH (g+2)) (a.length:Int)).length:Int)) then
 if (!e)=false→(0≤b∧b<((sub a (aH (g+2)) (a.length:Int)).length:Int)) then
 (bQ (!(!e)) (Z0x (sub (sub a (aH (g+2)) (a.length:Int)) (0:Int) b) (bt (sub a (aH (g+2)) (a.length:Int)) b))).bind fun h =>
 if ((!e)||h)=true then (
 some (.inr (.inl (([]:List aM),([]:aM),false))))
 else (
 some (.inl (aH (b+1))))
 else none
 else none
def Z0_L5 (b:aM)(i:Int)(a:(List aM))(h:Int)(g:Bool)(e:Int):Option ((Bool×Int)⊕(Bool)) :=
 if (decide (e<(a.length:Int)))=true then (
 if g=false→(0≤e∧e<(a.length:Int)) then
 if g=false→(0≤h∧h<((sub b (aH (i+2)) (b.length:Int)).length:Int)) then
 (bQ (!g) (Z0x (ix a e) (bt (sub b (aH (i+2)) (b.length:Int)) h))).bind fun j =>
 some (.inl ((g||j),(aH (e+1))))
 else none
 else none)
 else (
 some (.inr g))
def Z0_L4 (a:aM)(g:Int)(b:(List aM))(h:Int):Option ((Int)⊕(((List aM)×aM×Bool)⊕(Unit))) :=
 if (decide (h<((sub a (aH (g+2)) (a.length:Int)).length:Int)))=true then (
 (aR (fun s:Bool×Int=>Z0_L5 a g b h s.1 s.2) (false,(0:Int))).bind fun e=>Z0_J7 a g h e)
 else (
 some (.inr (.inr ())))
def Z0_J5 (b:aM)(g:Int)(a:(List aM)):Option ((List aM)×aM×Bool) :=
 (aR (fun s:Int=>Z0_L4 b g a s) (0:Int)).bind fun e=>match e with
 | .inl e=>some e
 | .inr e=>Z0_J8 b g a
def Z0_L3 (a:(List aM))(b:Int):Option ((Int)⊕(((List aM)×aM×Bool)⊕(Unit))) :=
 if (decide (b<(a.length:Int)))=true then (
 if (0≤b∧b<(a.length:Int)) then
 (Z0y (ix a b)).bind fun e =>
 if (!e)=true then (
 some (.inr (.inl (([]:List aM),([]:aM),false))))
 else (
 some (.inl (aH (b+1))))
 else none)
 else (
 some (.inr (.inr ())))
def Z0_J4 (b:aM)(g:Int)(a:(List aM)):Option ((List aM)×aM×Bool) :=
 if (0≤(aH (g+2))∧(aH (g+2))≤(b.length:Int)∧(b.length:Int)≤(b.length:Int)) then
 (bQ (!(decide ((a.length:Int)>6))) (Z0y (sub b (aH (g+2)) (b.length:Int)))).bind fun h =>
 if ((decide ((a.length:Int)>6))||(!h))=true then (
 some (([]:List aM),([]:aM),false))
 else (
 (aR (fun s:Int=>Z0_L3 a s) (0:Int)).bind fun e=>match e with
 | .inl e=>some e
 | .inr e=>Z0_J5 b g a)
 else none
def Z0_J3 (e:Int)(a:(List aM))(b:Int):Option (((List aM)×Int×Int)⊕((List aM))) :=
 some (.inl (a,b,(aH (e+1))))
def Z0_L2 (e:aM)(h:Int)(a:(List aM))(g:Int)(b:Int):Option (((List aM)×Int×Int)⊕((List aM))) :=
 if (decide (b≤h))=true then (
 if (b==h)=false→(0≤b∧b<(e.length:Int)) then
 if ((b==h)||((bt e b)==44))=true then (
 if (0≤g∧g≤b∧b≤(e.length:Int)) then
 if a.length+([(sub e g b)]:List aM).length≤8796093022208 then
 Z0_J3 b (a++([(sub e g b)]:List aM)) (aH (b+1))
 else none
 else none)
 else (
 Z0_J3 b a g)
 else none)
 else (
 some (.inr a))
def Z0_J1 (a:aM)(b:Int):Option ((List aM)×aM×Bool) :=
 if (decide ((aH (b+1))≥(a.length:Int)))=true then (
 some (([]:List aM),([]:aM),false))
 else (
 (aR (fun s:(List aM)×Int×Int=>Z0_L2 a b s.1 s.2.1 s.2.2) (([]:List aM),(0:Int),(0:Int))).bind fun e=>Z0_J4 a b e)
def Z0_L1 (a:aM)(b:Int):Option ((Int)⊕(Int)) :=
 if (decide ((aH (b+1))<(a.length:Int)))=true→(0≤b∧b≤(aH (b+2))∧(aH (b+2))≤(a.length:Int)) then
 if ((decide ((aH (b+1))<(a.length:Int)))&&(!((sub a b (aH (b+2)))==str0)))=true then (
 some (.inl (aH (b+1))))
 else (
 some (.inr b))
 else none
def Z0 (a:aM):Option ((List aM)×aM×Bool) :=
 (aR (fun s:Int=>Z0_L1 a s) (0:Int)).bind fun e=>Z0_J1 a e
def Z2_J12 (b:aM)(a:(List Int)):Option (aM×(List Int)×Bool) :=
 some (b,a,true)
def Z2_L4 (a:(List Int))(e:Int)(b:Int):Option ((Int×Int)⊕((aM×(List Int)×Bool)⊕(Unit))) :=
 if (decide (b<(a.length:Int)))=true then (
 if (0≤b∧b<(a.length:Int)) then
 if (decide ((aH (e*(ix a b)))>65536))=true then (
 some (.inr (.inl (([]:aM),a,false))))
 else (
 some (.inl ((aH (e*(ix a b))),(aH (b+1)))))
 else none)
 else (
 some (.inr (.inr ())))
def Z2_J11 (b:aM)(a:(List Int)):Option (aM×(List Int)×Bool) :=
 (aR (fun s:Int×Int=>Z2_L4 a s.1 s.2) ((1:Int),(0:Int))).bind fun e=>match e with
 | .inl e=>some e
 | .inr e=>Z2_J12 b a
def Z2_J10 (e:Int)(a:aM)(b:(List Int)):Option ((aM×(List Int)×Int)⊕((aM×(List Int)×Bool)⊕(aM×(List Int)))) :=
 some (.inl (a,b,(aH (e+1))))
def Z2_J9 (g:(List (List Int)))(i:Int)(b:Int)(e:Int)(h:aM)(a:(List Int)):Option ((aM×(List Int)×Int)⊕((aM×(List Int)×Bool)⊕(aM×(List Int)))) :=
 if (0≤e∧e<(a.length:Int)) then
 if ((ix a e) != 0)=true→(0≤b∧b<((ix g i).length:Int)) then
 if (((ix a e) != 0)&&((ix a e) != (ix (ix g i) b)))=true then (
 some (.inr (.inl (([]:aM),a,false))))
 else (
 if (0≤b∧b<((ix g i).length:Int)) then
 some (.inl (h,(a.set e.toNat (ix (ix g i) b)),(aH (b+1))))
 else none)
 else none
 else none
def Z2_J8 (g:(List aM))(i:(List (List Int)))(h:Int)(a:aM)(b:(List Int))(e:Int)(j:Int):Option ((aM×(List Int)×Int)⊕((aM×(List Int)×Bool)⊕(aM×(List Int)))) :=
 if (j==(a.length:Int))=true then (
 if (0≤e∧e≤(aH (e+1))∧(aH (e+1))≤((ix g h).length:Int)) then
 if a.length+(sub (ix g h) e (aH (e+1))).length≤9223372036854775807 then
 if b.length+([(0:Int)]:List Int).length≤17592186044416 then
 Z2_J9 i h e j (a++(sub (ix g h) e (aH (e+1)))) (b++([(0:Int)]:List Int))
 else none
 else none
 else none)
 else (
 Z2_J9 i h e j a b)
def Z2_L3 (e:(List aM))(h:Int)(a:aM)(g:Int)(b:Int):Option ((Int)⊕(Int)) :=
 if (decide (b<(a.length:Int)))=true→(0≤b∧b<(a.length:Int)) then
 if (decide (b<(a.length:Int)))=true→(0≤g∧g<((ix e h).length:Int)) then
 if ((decide (b<(a.length:Int)))&&((bt a b) != (bt (ix e h) g)))=true then (
 some (.inl (aH (b+1))))
 else (
 some (.inr b))
 else none
 else none
def Z2_L2 (g:(List aM))(j:(List (List Int)))(i:Int)(a:aM)(b:(List Int))(h:Int):Option ((aM×(List Int)×Int)⊕((aM×(List Int)×Bool)⊕(aM×(List Int)))) :=
 if (decide (h<((ix g i).length:Int)))=true then (
 (aR (fun s:Int=>Z2_L3 g i a h s) (0:Int)).bind fun e=>Z2_J8 g j i a b h e)
 else (
 some (.inr (.inr (a,b))))
def Z2_L1 (g:(List aM))(i:(List (List Int)))(h:aM)(a:(List Int))(b:Int):Option ((aM×(List Int)×Int)⊕((aM×(List Int)×Bool)⊕(aM×(List Int)))) :=
 if (decide (b<(g.length:Int)))=true then (
 if (0≤b∧b<(i.length:Int)) then
 if (0≤b∧b<(g.length:Int)) then
 if (((ix i b).length:Int) != ((ix g b).length:Int))=true then (
 some (.inr (.inl (([]:aM),a,false))))
 else (
 (aR (fun s:aM×(List Int)×Int=>Z2_L2 g i b s.1 s.2.1 s.2.2) (h,a,(0:Int))).bind fun e=>match e with
 | .inl e=>some (.inr (.inl e))
 | .inr e=>Z2_J10 b e.1 e.2)
 else none
 else none)
 else (
 some (.inr (.inr (h,a))))
def Z2 (a:(List aM))(g:aM)(b:(List (List Int))):Option (aM×(List Int)×Bool) :=
 if (0≤(g.length:Int)∧(g.length:Int)≤140737488355328∧8*(g.length:Int)≤281474976710656) then
 (aR (fun s:aM×(List Int)×Int=>Z2_L1 a b s.1 s.2.1 s.2.2) (g,(List.replicate (g.length:Int).toNat (0:Int)),(0:Int))).bind fun e=>match e with
 | .inl e=>some e
 | .inr e=>Z2_J11 e.1 e.2
 else none
def Zg_J7 (a:(List Int)):Option ((List Int)) :=
 some a
def Zg_J6 (b:Int)(a:(List Int)):Option (((List Int)×Int)⊕((List Int))) :=
 some (.inl (a,(aH (b+1))))
def Zg_J5 (b:Int)(a:(List Int)):Option (((List Int)×Int)⊕((List Int))) :=
 some (.inl (a,(aH (b+1))))
def Zg_L2 (g:aM)(a:aM)(b:(List Int))(i:Int)(h:(List Int))(e:Int):Option (((List Int)×Int)⊕((List Int))) :=
 if (decide (e<(a.length:Int)))=true then (
 if (0≤e∧e<(a.length:Int)) then
 if (0≤i∧i<(g.length:Int)) then
 if ((bt a e)==(bt g i))=true then (
 if (0≤e∧e<(b.length:Int)) then
 if h.length+([(ix b e)]:List Int).length≤17592186044416 then
 Zg_J5 e (h++([(ix b e)]:List Int))
 else none
 else none)
 else (
 Zg_J5 e h)
 else none
 else none)
 else (
 some (.inr h))
def Zg_L1 (a:aM)(b:aM)(g:(List Int))(i:(List Int))(h:Int):Option (((List Int)×Int)⊕((List Int))) :=
 if (decide (h<(a.length:Int)))=true then (
 (aR (fun s:(List Int)×Int=>Zg_L2 a b g h s.1 s.2) (i,(0:Int))).bind fun e=>Zg_J6 h e)
 else (
 some (.inr i))
def Zg (g:aM)(a:aM)(b:(List Int)):Option ((List Int)) :=
 (aR (fun s:(List Int)×Int=>Zg_L1 g a b s.1 s.2) (([]:List Int),(0:Int))).bind fun e=>Zg_J7 e
def Z6_J5 (b:Tensor)(a:(List Int)):Option (Tensor) :=
 some (⟨b.Dims,a⟩:Tensor)
def Z6_J4 (l:(List aM)×aM×Bool)(j:Tensor)(a:(List Int))(i:Int)(e:(List Int))(g:Int):Option (((List Int)×Int)⊕((List Int))) :=
 if (0≤(0:Int)∧(0:Int)≤(l.2.1.length:Int)∧(l.2.1.length:Int)≤(e.length:Int)) then
 (Z0n j.Dims (sub e (0:Int) (l.2.1.length:Int))).bind fun b =>
 if (0≤b∧b<(j.Data.length:Int)) then
 (Z1o (ix a b) g).bind fun h =>
 some (.inl ((a.set b.toNat h),(aH (i+1))))
 else none
 else none
def Z6_L4 (j:(List Tensor))(m:(List aM)×aM×Bool)(l:aM×(List Int)×Bool)(i:(List Int))(b:Int)(a:Int):Option ((Int×Int)⊕(Int)) :=
 if (decide (a<(m.1.length:Int)))=true then (
 if (0≤a∧a<(j.length:Int)) then
 if (0≤a∧a<(m.1.length:Int)) then
 (Zg (ix m.1 a) l.1 i).bind fun h =>
 (Z19 (ix j a) h).bind fun g =>
 (Z1h b g).bind fun e =>
 some (.inl (e,(aH (a+1))))
 else none
 else none)
 else (
 some (.inr b))
def Z6_L3 (l:(List Tensor))(m:(List aM)×aM×Bool)(i:aM×(List Int)×Bool)(j:Tensor)(g:Int)(a:(List Int))(b:Int):Option (((List Int)×Int)⊕((List Int))) :=
 if (decide (b<g))=true then (
 (Zj i.2.1 b).bind fun h =>
 (aR (fun s:Int×Int=>Z6_L4 l m i h s.1 s.2) ((1:Int),(0:Int))).bind fun e=>Z6_J4 m j a b h e)
 else (
 some (.inr a))
def Z6_J2 (g:(List Tensor))(i:(List aM)×aM×Bool)(h:aM×(List Int)×Bool)(b:Tensor)(a:Int):Option (Tensor) :=
 (aR (fun s:(List Int)×Int=>Z6_L3 g i h b a s.1 s.2) (b.Data,(0:Int))).bind fun e=>Z6_J5 b e
def Z6_L2 (e:aM×(List Int)×Bool)(a:Int)(b:Int):Option ((Int×Int)⊕(Int)) :=
 if (decide (b<(e.2.1.length:Int)))=true then (
 if (0≤b∧b<(e.2.1.length:Int)) then
 some (.inl ((aH (a*(ix e.2.1 b))),(aH (b+1))))
 else none)
 else (
 some (.inr a))
def Z6_J1 (j:(List Tensor))(b:(List aM)×aM×Bool)(g:(List (List Int))):Option (Tensor) :=
 (Z2 b.1 b.2.1 g).bind fun a =>
 if (!a.2.2)=false→(0≤(0:Int)∧(0:Int)≤(b.2.1.length:Int)∧(b.2.1.length:Int)≤(a.2.1.length:Int)) then
 (bQ (!(!a.2.2)) (Zo (sub a.2.1 (0:Int) (b.2.1.length:Int)))).bind fun i =>
 if ((!a.2.2)||(!i))=true then (
 some (⟨([]:List Int),([]:List Int)⟩:Tensor))
 else (
 if (0≤(0:Int)∧(0:Int)≤(b.2.1.length:Int)∧(b.2.1.length:Int)≤(a.2.1.length:Int)) then
 (Z0i (sub a.2.1 (0:Int) (b.2.1.length:Int))).bind fun h =>
 (aR (fun s:Int×Int=>Z6_L2 a s.1 s.2) ((1:Int),(0:Int))).bind fun e=>Z6_J2 j b a h e
 else none)
 else none
def Z6_L1 (e:(List Tensor))(a:(List (List Int)))(b:Int):Option (((List (List Int))×Int)⊕((Tensor)⊕((List (List Int))))) :=
 if (decide (b<(e.length:Int)))=true then (
 if (0≤b∧b<(e.length:Int)) then
 (Zs (ix e b)).bind fun g =>
 if (!g)=true then (
 some (.inr (.inl (⟨([]:List Int),([]:List Int)⟩:Tensor))))
 else (
 if a.length+([(ix e b).Dims]:List (List Int)).length≤5864062014805 then
 some (.inl ((a++([(ix e b).Dims]:List (List Int))),(aH (b+1))))
 else none)
 else none)
 else (
 some (.inr (.inr a)))
def Z6 (b:aM)(a:(List Tensor)):Option (Tensor) :=
 (Z0 b).bind fun g =>
 if ((!g.2.2)||((g.1.length:Int) != (a.length:Int)))=true then (
 some (⟨([]:List Int),([]:List Int)⟩:Tensor))
 else (
 (aR (fun s:(List (List Int))×Int=>Z6_L1 a s.1 s.2) (([]:List (List Int)),(0:Int))).bind fun e=>match e with
 | .inl e=>some e
 | .inr e=>Z6_J1 a g e)
def Z0h_J3 (v1:View)(a:(List Int)):Option (View) :=
 some (⟨v1.Dims,a,v1.Offset,v1.Base⟩:View)
def Z0h_J2 (a:Int)(b:(List Int)):Option ((Int×(List Int))⊕((List Int))) :=
 some (.inl ((aH (a+1)),b))
def Z0h_L1 (v1:View)(a:Int)(b:(List Int)):Option ((Int×(List Int))⊕((List Int))) :=
 if (decide (a<(v1.Dims.length:Int)))=true then (
 if (0≤a∧a<(v1.Dims.length:Int)) then
 if ((ix v1.Dims a)==1)=true then (
 if (0≤a∧a<(v1.Strides.length:Int)) then
 Z0h_J2 a (b.set a.toNat (0:Int))
 else none)
 else (
 Z0h_J2 a b)
 else none)
 else (
 some (.inr b))
def Z0h (v1:View):Option (View) :=
 (aR (fun s:Int×(List Int)=>Z0h_L1 v1 s.1 s.2) ((0:Int),v1.Strides)).bind fun e=>Z0h_J3 v1 e
def Zy_J1 (g:(List Int))(a:Int)(b:(List Int)):Option (View) :=
 (Z0h (⟨g,b,(0:Int),a⟩:View)).bind fun e =>
 some e
def Zy_L1 (a:(List Int))(e:(List Int))(b:Int):Option (((List Int)×Int)⊕((List Int))) :=
 if (decide (b<(a.length:Int)))=true then (
 if (0≤(aH (b+1))∧(aH (b+1))≤(a.length:Int)∧(a.length:Int)≤(a.length:Int)) then
 (Zw (sub a (aH (b+1)) (a.length:Int))).bind fun g =>
 if e.length+([g]:List Int).length≤17592186044416 then
 some (.inl ((e++([g]:List Int)),(aH (b+1))))
 else none
 else none)
 else (
 some (.inr e))
def Zy (a:(List Int)):Option (View) :=
 (Zo a).bind fun h =>
 if (!h)=true then (
 some (⟨([]:List Int),([]:List Int),(0:Int),(0:Int)⟩:View))
 else (
 (Zu a).bind fun g =>
 (Zw a).bind fun b =>
 (aR (fun s:(List Int)×Int=>Zy_L1 a s.1 s.2) (([]:List Int),(0:Int))).bind fun e=>Zy_J1 g b e)
def Z18_J1 (a:Int):Option (Int) :=
 some a
def Z18_L1 (v1:View)(a:(List Int))(e:Int)(b:Int):Option ((Int×Int)⊕(Int)) :=
 if (decide (b<(a.length:Int)))=true then (
 if (0≤b∧b<(a.length:Int)) then
 if (0≤b∧b<(v1.Strides.length:Int)) then
 some (.inl ((aH (e+(aH ((ix a b)*(ix v1.Strides b))))),(aH (b+1))))
 else none
 else none)
 else (
 some (.inr e))
def Z18 (v1:View)(a:(List Int)):Option (Int) :=
 (aR (fun s:Int×Int=>Z18_L1 v1 a s.1 s.2) (v1.Offset,(0:Int))).bind fun e=>Z18_J1 e
def Z0b_J1 (a:(List Int)):Option ((List Int)) :=
 some a
def Z0b_L1 (v1:View)(h:Int)(a:(List Int))(b:Int):Option (((List Int)×Int)⊕((List Int))) :=
 if (decide (b<h))=true then (
 (Zj v1.Dims b).bind fun g =>
 (Z18 v1 g).bind fun e =>
 if a.length+([e]:List Int).length≤17592186044416 then
 some (.inl ((a++([e]:List Int)),(aH (b+1))))
 else none)
 else (
 some (.inr a))
def Z0b (v1:View):Option ((List Int)) :=
 (Zw v1.Dims).bind fun a =>
 (aR (fun s:(List Int)×Int=>Z0b_L1 v1 a s.1 s.2) (([]:List Int),(0:Int))).bind fun e=>Z0b_J1 e
def Z9_J2:Option (Bool) :=
 some true
def Z9_L2 (v1:View)(b:(List Int))(a:Int):Option ((Int)⊕((Bool)⊕(Unit))) :=
 if (decide (a<(b.length:Int)))=true then (
 if (0≤a∧a<(b.length:Int)) then
 if ((decide ((ix b a)<0))||(decide ((ix b a)≥v1.Base)))=true then (
 some (.inr (.inl false)))
 else (
 some (.inl (aH (a+1))))
 else none)
 else (
 some (.inr (.inr ())))
def Z9_J1 (v1:View):Option (Bool) :=
 (Z0b v1).bind fun a =>
 (aR (fun s:Int=>Z9_L2 v1 a s) (0:Int)).bind fun e=>match e with
 | .inl e=>some e
 | .inr e=>Z9_J2
def Z9_L1 (v1:View)(a:Int):Option ((Int)⊕((Bool)⊕(Unit))) :=
 if (decide (a<(v1.Strides.length:Int)))=true then (
 if (0≤a∧a<(v1.Strides.length:Int)) then
 if ((decide ((ix v1.Strides a)<(-4096:Int)))||(decide ((ix v1.Strides a)>4096)))=true then (
 some (.inr (.inl false)))
 else (
 some (.inl (aH (a+1))))
 else none)
 else (
 some (.inr (.inr ())))
def Z9 (v1:View):Option (Bool) :=
 (Zo v1.Dims).bind fun a =>
 if ((((((!a)||((v1.Strides.length:Int) != (v1.Dims.length:Int)))||(decide (v1.Base<1)))||(decide (v1.Base>4096)))||(decide (v1.Offset<0)))||(decide (v1.Offset≥v1.Base)))=true then (
 some false)
 else (
 (aR (fun s:Int=>Z9_L1 v1 s) (0:Int)).bind fun e=>match e with
 | .inl e=>some e
 | .inr e=>Z9_J1 v1)
def Z04_J3 (v1:View)(a:(List Int))(b:(List Int)):Option (View) :=
 some (⟨a,b,v1.Offset,v1.Base⟩:View)
def Z04_J2 (b:Int)(a:(List Int)):Option (((List Int)×Int)⊕((View)⊕((List Int)))) :=
 some (.inl (a,(aH (b+1))))
def Z04_L1 (v1:View)(a:(List Int))(e:(List Int))(b:Int):Option (((List Int)×Int)⊕((View)⊕((List Int)))) :=
 if (decide (b<(v1.Dims.length:Int)))=true then (
 if (0≤b∧b<(v1.Dims.length:Int)) then
 if (0≤(aH ((aH ((a.length:Int) - (v1.Dims.length:Int)))+b))∧(aH ((aH ((a.length:Int) - (v1.Dims.length:Int)))+b))<(a.length:Int)) then
 if ((ix v1.Dims b)==(ix a (aH ((aH ((a.length:Int) - (v1.Dims.length:Int)))+b))))=true then (
 if (0≤b∧b<(v1.Strides.length:Int)) then
 if (0≤(aH ((aH ((a.length:Int) - (v1.Dims.length:Int)))+b))∧(aH ((aH ((a.length:Int) - (v1.Dims.length:Int)))+b))<((List.replicate (a.length:Int).toNat (0:Int)).length:Int)) then
 (nm (e.set (aH ((aH ((a.length:Int) - (v1.Dims.length:Int)))+b)).toNat (ix v1.Strides b))).bind fun g =>
 Z04_J2 b g
 else none
 else none)
 else (
 if ((ix v1.Dims b) != 1)=true then (
 some (.inr (.inl (⟨([]:List Int),([]:List Int),(0:Int),(0:Int)⟩:View))))
 else (
 Z04_J2 b e))
 else none
 else none)
 else (
 some (.inr (.inr e)))
def Z04 (v1:View)(a:(List Int)):Option (View) :=
 (Z9 v1).bind fun h =>
 (bQ (!(!h)) (Zo a)).bind fun b =>
 if (((!h)||(!b))||(decide ((aH ((a.length:Int) - (v1.Dims.length:Int)))<0)))=true then (
 some (⟨([]:List Int),([]:List Int),(0:Int),(0:Int)⟩:View))
 else (
 (Zu a).bind fun g =>
 if (0≤(a.length:Int)∧(a.length:Int)≤140737488355328∧8*(a.length:Int)≤281474976710656) then
 (aR (fun s:(List Int)×Int=>Z04_L1 v1 a s.1 s.2) ((List.replicate (a.length:Int).toNat (0:Int)),(0:Int))).bind fun e=>match e with
 | .inl e=>some e
 | .inr e=>Z04_J3 v1 g e
 else none)
def Z03_J1 (a:(List Int))(b:(List Int)):Option (Tensor) :=
 some (⟨a,b⟩:Tensor)
def Z03_L1 (t1:Tensor)(b:(List Int))(e:(List Int))(a:Int):Option (((List Int)×Int)⊕((List Int))) :=
 if (decide (a<(b.length:Int)))=true then (
 if (0≤a∧a<(b.length:Int)) then
 if (0≤(ix b a)∧(ix b a)<(t1.Data.length:Int)) then
 if e.length+([(ix t1.Data (ix b a))]:List Int).length≤17592186044416 then
 some (.inl ((e++([(ix t1.Data (ix b a))]:List Int)),(aH (a+1))))
 else none
 else none
 else none)
 else (
 some (.inr e))
def Z03 (t1:Tensor)(v4:View):Option (Tensor) :=
 (Zs t1).bind fun a =>
 (bQ (!(!a)) (Z9 v4)).bind fun b =>
 if (((!a)||(!b))||(v4.Base != (t1.Data.length:Int)))=true then (
 some (⟨([]:List Int),([]:List Int)⟩:Tensor))
 else (
 (Zu v4.Dims).bind fun g =>
 (Z0b v4).bind fun h =>
 (aR (fun s:(List Int)×Int=>Z03_L1 t1 h s.1 s.2) (([]:List Int),(0:Int))).bind fun e=>Z03_J1 g e)
def Z0a_J3 (v1:View)(a:(List Int))(e:(List Int))(g:(List Int)):Option (View) :=
 (Z9 (⟨e,g,(ix a 0),v1.Base⟩:View)).bind fun b =>
 (bQ (!(!b)) (Z0b (⟨e,g,(ix a 0),v1.Base⟩:View))).bind fun h =>
 (bQ (!(!b)) (Z02 h a)).bind fun i =>
 if ((!b)||(!i))=true then (
 some (⟨([]:List Int),([]:List Int),(0:Int),(0:Int)⟩:View))
 else (
 some (⟨e,g,(ix a 0),v1.Base⟩:View))
def Z0a_J2 (b:(List Int))(e:Int)(a:Int):Option (((List Int)×Int)⊕((List Int))) :=
 if b.length+([a]:List Int).length≤17592186044416 then
 some (.inl ((b++([a]:List Int)),(aH (e+1))))
 else none
def Z0a_L1 (a:(List Int))(e:(List Int))(g:(List Int))(b:Int):Option (((List Int)×Int)⊕((List Int))) :=
 if (decide (b<(a.length:Int)))=true then (
 if (0≤b∧b<(a.length:Int)) then
 if (decide ((ix a b)>1))=true then (
 if (0≤(aH (b+1))∧(aH (b+1))≤(a.length:Int)∧(a.length:Int)≤(a.length:Int)) then
 (Zw (sub a (aH (b+1)) (a.length:Int))).bind fun h =>
 if (0≤h∧h<(e.length:Int)) then
 Z0a_J2 g b (aH ((ix e h) - (ix e 0)))
 else none
 else none)
 else (
 Z0a_J2 g b (0:Int))
 else none)
 else (
 some (.inr g))
def Z0a (v1:View)(a:(List Int)):Option (View) :=
 (Z9 v1).bind fun h =>
 (bQ (!(!h)) (Zo a)).bind fun g =>
 (bQ (!((!h)||(!g))) (Zw a)).bind fun i =>
 (bQ (!((!h)||(!g))) (Zw v1.Dims)).bind fun l =>
 if (((!h)||(!g))||(i != l))=true then (
 some (⟨([]:List Int),([]:List Int),(0:Int),(0:Int)⟩:View))
 else (
 (Z0b v1).bind fun b =>
 (Zu a).bind fun j =>
 if (0≤(0:Int)∧(0:Int)<(b.length:Int)) then
 (aR (fun s:(List Int)×Int=>Z0a_L1 a b s.1 s.2) (([]:List Int),(0:Int))).bind fun e=>Z0a_J3 v1 b j e
 else none)
def Z29 (v1:View)(a:Int):Option (Bool) :=
 (Z9 v1).bind fun b =>
 some ((b&&(decide (a≥0)))&&(decide (a<(v1.Dims.length:Int))))
def Z2b (v1:View):Option (View) :=
 (Zu v1.Dims).bind fun b =>
 (Zu v1.Strides).bind fun a =>
 some (⟨b,a,v1.Offset,v1.Base⟩:View)
def Z2c (v1:View):Option (View) :=
 (Z9 v1).bind fun a =>
 if (!a)=true then (
 some (⟨([]:List Int),([]:List Int),(0:Int),(0:Int)⟩:View))
 else (
 some v1)
def Z1c_J1 (a:Int)(i:Int)(e:Int)(b:View)(h:(List Int)):Option (View) :=
 (Z2c (⟨(b.Dims.set a.toNat e),h,(aH (b.Offset+(aH (i*(ix b.Strides a))))),b.Base⟩:View)).bind fun g =>
 some g
def Z1c (v1:View)(a:Int)(h:Int)(b:Int)(e:Int):Option (View) :=
 (Z29 v1 a).bind fun j =>
 if ((((((!j)||(decide (b<1)))||(decide (b>4096)))||(decide (e<(-4096:Int))))||(decide (e>4096)))||(decide (h<0)))=false→(0≤a∧a<(v1.Dims.length:Int)) then
 if (((((((!j)||(decide (b<1)))||(decide (b>4096)))||(decide (e<(-4096:Int))))||(decide (e>4096)))||(decide (h<0)))||(decide (h≥(ix v1.Dims a))))=true then (
 some (⟨([]:List Int),([]:List Int),(0:Int),(0:Int)⟩:View))
 else (
 if (decide ((aH (h+(aH ((aH (b - 1))*e))))<0))=false→(0≤a∧a<(v1.Dims.length:Int)) then
 if ((decide ((aH (h+(aH ((aH (b - 1))*e))))<0))||(decide ((aH (h+(aH ((aH (b - 1))*e))))≥(ix v1.Dims a))))=true then (
 some (⟨([]:List Int),([]:List Int),(0:Int),(0:Int)⟩:View))
 else (
 (Z2b v1).bind fun g =>
 if (0≤a∧a<(g.Strides.length:Int)) then
 if (0≤a∧a<(g.Dims.length:Int)) then
 (nm (g.Strides.set a.toNat (aH ((ix g.Strides a)*e)))).bind fun i =>
 if (b==1)=true then (
 Z1c_J1 a h b g (i.set a.toNat (0:Int)))
 else (
 Z1c_J1 a h b g i)
 else none
 else none)
 else none)
 else none
def Z1w (t1:Tensor)(a:(List Int))(e:Int):Option ((List Int)) :=
 (Z0n t1.Dims a).bind fun b =>
 if (0≤b∧b<(t1.Data.length:Int)) then
 some (t1.Data.set b.toNat e)
 else none
def Z0v_J1 (a:Tensor)(b:(List Int)):Option (Tensor) :=
 some (⟨a.Dims,b⟩:Tensor)
def Z0v_L1 (t1:Tensor)(a:Int)(e:Int)(i:Int)(m:Tensor)(h:(List Int))(b:Int):Option (((List Int)×Int)⊕((List Int))) :=
 if (decide (b<(t1.Data.length:Int)))=true then (
 (Zj t1.Dims b).bind fun g =>
 if (0≤a∧a<(g.length:Int)) then
 (Z0j g a (aH (e+(aH ((ix g a)*(aH (i+1))))))).bind fun l =>
 if (0≤b∧b<(t1.Data.length:Int)) then
 (Z1w (⟨m.Dims,h⟩:Tensor) l (ix t1.Data b)).bind fun j =>
 some (.inl (j,(aH (b+1))))
 else none
 else none)
 else (
 some (.inr h))
def Z0v (t1:Tensor)(a:Int)(b:Int)(g:Int)(h:Int):Option (Tensor) :=
 (Z1i t1 a).bind fun m =>
 if (((((((!m)||(decide (b<0)))||(decide (b>4096)))||(decide (g<0)))||(decide (g>4096)))||(decide (h<0)))||(decide (h>4096)))=true then (
 some (⟨([]:List Int),([]:List Int)⟩:Tensor))
 else (
 if (0≤a∧a<(t1.Dims.length:Int)) then
 (Z0j t1.Dims a (aH ((aH ((aH (b+(ix t1.Dims a)))+(aH ((aH ((ix t1.Dims a) - 1))*h))))+g))).bind fun j =>
 (Zo j).bind fun l =>
 if (!l)=true then (
 some (⟨([]:List Int),([]:List Int)⟩:Tensor))
 else (
 (Z0i j).bind fun i =>
 (aR (fun s:(List Int)×Int=>Z0v_L1 t1 a b h i s.1 s.2) (i.Data,(0:Int))).bind fun e=>Z0v_J1 i e)
 else none)
def Z0u_J1 (b:Tensor)(a:(List Int)):Option (Tensor) :=
 some (⟨b.Dims,a⟩:Tensor)
def Z0u_L1 (t1:Tensor)(a:Int)(b:(List Int))(j:(List Int))(i:Tensor)(h:(List Int))(e:Int):Option (((List Int)×Int)⊕((List Int))) :=
 if (decide (e<(i.Data.length:Int)))=true then (
 (Zj j e).bind fun g =>
 if (0≤a∧a<(g.length:Int)) then
 if (0≤(ix g a)∧(ix g a)<(b.length:Int)) then
 (Z0j g a (ix b (ix g a))).bind fun m =>
 (Z19 t1 m).bind fun l =>
 if (0≤e∧e<(i.Data.length:Int)) then
 some (.inl ((h.set e.toNat l),(aH (e+1))))
 else none
 else none
 else none)
 else (
 some (.inr h))
def Z0u (t1:Tensor)(b:Int)(a:(List Int)):Option (Tensor) :=
 (Z1i t1 b).bind fun l =>
 if ((!l)||((a.length:Int)==0))=false→(0≤b∧b<(t1.Dims.length:Int)) then
 (bQ (!((!l)||((a.length:Int)==0))) (Z0k a (ix t1.Dims b))).bind fun j =>
 if (((!l)||((a.length:Int)==0))||(!j))=true then (
 some (⟨([]:List Int),([]:List Int)⟩:Tensor))
 else (
 (Z0j t1.Dims b (a.length:Int)).bind fun g =>
 (Zo g).bind fun i =>
 if (!i)=true then (
 some (⟨([]:List Int),([]:List Int)⟩:Tensor))
 else (
 (Z0i g).bind fun h =>
 (aR (fun s:(List Int)×Int=>Z0u_L1 t1 b a g h s.1 s.2) (h.Data,(0:Int))).bind fun e=>Z0u_J1 h e))
 else none
def Z0w_J1 (a:Tensor)(b:(List Int)):Option (Tensor) :=
 some (⟨a.Dims,b⟩:Tensor)
def Z0w_L1 (t1:Tensor)(a:Int)(b:(List Int))(i:Tensor)(h:(List Int))(e:Int):Option (((List Int)×Int)⊕((List Int))) :=
 if (decide (e<(t1.Data.length:Int)))=true then (
 (Zj t1.Dims e).bind fun g =>
 if (0≤a∧a<(g.length:Int)) then
 if (0≤(ix g a)∧(ix g a)<(b.length:Int)) then
 (Z0j g a (ix b (ix g a))).bind fun j =>
 (Z19 (⟨i.Dims,h⟩:Tensor) j).bind fun q =>
 if (0≤e∧e<(t1.Data.length:Int)) then
 (Z1o q (ix t1.Data e)).bind fun l =>
 (Z1w (⟨i.Dims,h⟩:Tensor) j l).bind fun m =>
 some (.inl (m,(aH (e+1))))
 else none
 else none
 else none)
 else (
 some (.inr h))
def Z0w (t1:Tensor)(a:Int)(b:(List Int))(m:Int):Option (Tensor) :=
 (Z1i t1 a).bind fun h =>
 if (!h)=false→(0≤a∧a<(t1.Dims.length:Int)) then
 (bQ (!((!h)||((b.length:Int) != (ix t1.Dims a)))) (Z0k b m)).bind fun l =>
 if (((!h)||((b.length:Int) != (ix t1.Dims a)))||(!l))=true then (
 some (⟨([]:List Int),([]:List Int)⟩:Tensor))
 else (
 (Z0j t1.Dims a m).bind fun i =>
 (Zo i).bind fun j =>
 if (!j)=true then (
 some (⟨([]:List Int),([]:List Int)⟩:Tensor))
 else (
 (Z0i i).bind fun g =>
 (aR (fun s:(List Int)×Int=>Z0w_L1 t1 a b g s.1 s.2) (g.Data,(0:Int))).bind fun e=>Z0w_J1 g e))
 else none
def Z0e_J2 (a:Int)(g:View)(h:(List Int))(b:(List Int))(e:Int):Option (View) :=
 if b.length+([e]:List Int).length≤17592186044416 then
 (Z2c (⟨(h++([a]:List Int)),(b++([e]:List Int)),g.Offset,g.Base⟩:View)).bind fun i =>
 some i
 else none
def Z0e_J1 (v1:View)(e:Int)(a:Int)(h:View)(b:(List Int))(g:(List Int)):Option (View) :=
 if b.length+([a]:List Int).length≤17592186044416 then
 if (a==1)=true then (
 Z0e_J2 a h b g (0:Int))
 else (
 Z0e_J2 a h b g (ix v1.Strides e))
 else none
def Z0e (v1:View)(a:Int)(b:Int)(e:Int):Option (View) :=
 (Z29 v1 a).bind fun j =>
 if (((!j)||(decide (b<1)))||(decide (e<1)))=false→(0≤a∧a<(v1.Dims.length:Int)) then
 if ((((!j)||(decide (b<1)))||(decide (e<1)))||(decide (b>(ix v1.Dims a))))=true then (
 some (⟨([]:List Int),([]:List Int),(0:Int),(0:Int)⟩:View))
 else (
 (Z2b v1).bind fun g =>
 if (0≤a∧a<(v1.Dims.length:Int)) then
 if e≠0 then
 if (0≤a∧a<(v1.Strides.length:Int)) then
 if (0≤a∧a<(g.Dims.length:Int)) then
 (nm (g.Dims.set a.toNat (aH ((aH ((aH ((ix v1.Dims a) - b)).tdiv e))+1)))).bind fun h =>
 if (0≤a∧a<(g.Strides.length:Int)) then
 if (decide ((aH ((aH ((aH ((ix v1.Dims a) - b)).tdiv e))+1))>1))=true then (
 (nm ((g.Strides.set a.toNat (0:Int)).set a.toNat (aH ((ix v1.Strides a)*e)))).bind fun i =>
 Z0e_J1 v1 a b g h i)
 else (
 Z0e_J1 v1 a b g h (g.Strides.set a.toNat (0:Int)))
 else none
 else none
 else none
 else none
 else none)
 else none
def Z0t_J1 (b:Tensor)(a:(List Int)):Option (Tensor) :=
 some (⟨b.Dims,a⟩:Tensor)
def Z0t_L1 (t1:Tensor)(a:Int)(g:Int)(j:Tensor)(h:(List Int))(b:Int):Option (((List Int)×Int)⊕((List Int))) :=
 if (decide (b<(t1.Data.length:Int)))=true then (
 (Zj t1.Dims b).bind fun e =>
 if (0≤a∧a<(e.length:Int)) then
 if (0≤(aH ((t1.Dims.length:Int) - 1))∧(aH ((t1.Dims.length:Int) - 1))<(e.length:Int)) then
 (Z0j e a (aH ((aH ((ix e a)*g))+(ix e (aH ((t1.Dims.length:Int) - 1)))))).bind fun i =>
 if (0≤(0:Int)∧(0:Int)≤(aH ((t1.Dims.length:Int) - 1))∧(aH ((t1.Dims.length:Int) - 1))≤(i.length:Int)) then
 (Z19 (⟨j.Dims,h⟩:Tensor) (sub i (0:Int) (aH ((t1.Dims.length:Int) - 1)))).bind fun l =>
 if (0≤b∧b<(t1.Data.length:Int)) then
 (Z1o l (ix t1.Data b)).bind fun m =>
 (Z1w (⟨j.Dims,h⟩:Tensor) (sub i (0:Int) (aH ((t1.Dims.length:Int) - 1))) m).bind fun q =>
 some (.inl (q,(aH (b+1))))
 else none
 else none
 else none
 else none)
 else (
 some (.inr h))
def Z0t (t1:Tensor)(a:Int)(b:Int)(i:Int):Option (Tensor) :=
 (Z1i t1 a).bind fun l =>
 if (((((!l)||(a==(aH ((t1.Dims.length:Int) - 1))))||(decide (b<1)))||(decide (i<1)))||(decide (i>4096)))=true then (
 some (⟨([]:List Int),([]:List Int)⟩:Tensor))
 else (
 if (0≤(aH ((t1.Dims.length:Int) - 1))∧(aH ((t1.Dims.length:Int) - 1))<(t1.Dims.length:Int)) then
 if (decide ((ix t1.Dims (aH ((t1.Dims.length:Int) - 1)))>i))=false→b≠0 then
 if (decide ((ix t1.Dims (aH ((t1.Dims.length:Int) - 1)))>i))=false→(0≤a∧a<(t1.Dims.length:Int)) then
 if ((decide ((ix t1.Dims (aH ((t1.Dims.length:Int) - 1)))>i))||((aH ((aH ((aH (i - (ix t1.Dims (aH ((t1.Dims.length:Int) - 1))))).tdiv b))+1)) != (ix t1.Dims a)))=true then (
 some (⟨([]:List Int),([]:List Int)⟩:Tensor))
 else (
 (Z0j t1.Dims a i).bind fun g =>
 if (0≤(0:Int)∧(0:Int)≤(aH ((t1.Dims.length:Int) - 1))∧(aH ((t1.Dims.length:Int) - 1))≤(g.length:Int)) then
 (Zo (sub g (0:Int) (aH ((t1.Dims.length:Int) - 1)))).bind fun j =>
 if (!j)=true then (
 some (⟨([]:List Int),([]:List Int)⟩:Tensor))
 else (
 (Z0i (sub g (0:Int) (aH ((t1.Dims.length:Int) - 1)))).bind fun h =>
 (aR (fun s:(List Int)×Int=>Z0t_L1 t1 a b h s.1 s.2) (h.Data,(0:Int))).bind fun e=>Z0t_J1 h e)
 else none)
 else none
 else none
 else none)
def Z1_J2 (a:Node)(b:(List Tensor))(G:Bool):Option (Tensor) :=
 if G=true then (
 if (0≤(0:Int)∧(0:Int)<(b.length:Int)) then
 (Z14 (aH ((aH (a.Op - 6))+1)) (ix b 0)).bind fun M =>
 some M
 else none)
 else (
 if (a.Op==10)=true then (
 if (0≤(0:Int)∧(0:Int)<(b.length:Int)) then
 if (0≤(0:Int)∧(0:Int)<(a.Ints.length:Int)) then
 (Zc (ix b 0) (ix a.Ints 0)).bind fun D =>
 some D
 else none
 else none)
 else (
 if (a.Op==11)=true then (
 (Z6 a.Form b).bind fun F =>
 some F)
 else (
 if (a.Op==12)=true then (
 if (0≤(0:Int)∧(0:Int)<(b.length:Int)) then
 (Zy ((ix b 0).Dims)).bind fun J =>
 (Z04 J a.Dims).bind fun E =>
 (Z03 (ix b 0) E).bind fun I =>
 some I
 else none)
 else (
 if (a.Op==13)=true then (
 if (0≤(0:Int)∧(0:Int)<(b.length:Int)) then
 (Zy ((ix b 0).Dims)).bind fun L =>
 (Z0a L a.Dims).bind fun B =>
 (Z03 (ix b 0) B).bind fun u =>
 some u
 else none)
 else (
 if (a.Op==14)=true then (
 if (0≤(3:Int)∧(3:Int)<(a.Ints.length:Int)) then
 if (decide ((ix a.Ints 3)<1))=true then (
 some (⟨([]:List Int),([]:List Int)⟩:Tensor))
 else (
 if (0≤(0:Int)∧(0:Int)<(b.length:Int)) then
 (Zy ((ix b 0).Dims)).bind fun l =>
 if (0≤(0:Int)∧(0:Int)<(a.Ints.length:Int)) then
 if (0≤(1:Int)∧(1:Int)<(a.Ints.length:Int)) then
 if (0≤(2:Int)∧(2:Int)<(a.Ints.length:Int)) then
 (Z1c l (ix a.Ints 0) (ix a.Ints 1) (ix a.Ints 2) (ix a.Ints 3)).bind fun i =>
 (Z03 (ix b 0) i).bind fun m =>
 some m
 else none
 else none
 else none
 else none)
 else none)
 else (
 if (a.Op==15)=true then (
 if (0≤(0:Int)∧(0:Int)<(b.length:Int)) then
 if (0≤(0:Int)∧(0:Int)<(a.Ints.length:Int)) then
 if (0≤(1:Int)∧(1:Int)<(a.Ints.length:Int)) then
 if (0≤(2:Int)∧(2:Int)<(a.Ints.length:Int)) then
 if (0≤(3:Int)∧(3:Int)<(a.Ints.length:Int)) then
 (Z0v (ix b 0) (ix a.Ints 0) (ix a.Ints 1) (ix a.Ints 2) (ix a.Ints 3)).bind fun h =>
 some h
 else none
 else none
 else none
 else none
 else none)
 else (
 if (a.Op==16)=true then (
 if (0≤(0:Int)∧(0:Int)<(b.length:Int)) then
 if (0≤(0:Int)∧(0:Int)<(a.Ints.length:Int)) then
 if (0≤(1:Int)∧(1:Int)≤(a.Ints.length:Int)∧(a.Ints.length:Int)≤(a.Ints.length:Int)) then
 (Z0u (ix b 0) (ix a.Ints 0) (sub a.Ints (1:Int) (a.Ints.length:Int))).bind fun e =>
 some e
 else none
 else none
 else none)
 else (
 if (a.Op==17)=true then (
 if (0≤(0:Int)∧(0:Int)<(b.length:Int)) then
 if (0≤(0:Int)∧(0:Int)<(a.Ints.length:Int)) then
 if (0≤(2:Int)∧(2:Int)≤(a.Ints.length:Int)∧(a.Ints.length:Int)≤(a.Ints.length:Int)) then
 if (0≤(1:Int)∧(1:Int)<(a.Ints.length:Int)) then
 (Z0w (ix b 0) (ix a.Ints 0) (sub a.Ints (2:Int) (a.Ints.length:Int)) (ix a.Ints 1)).bind fun j =>
 some j
 else none
 else none
 else none
 else none)
 else (
 if (a.Op==18)=true then (
 if (0≤(0:Int)∧(0:Int)<(b.length:Int)) then
 (Zy ((ix b 0).Dims)).bind fun s =>
 if (0≤(0:Int)∧(0:Int)<(a.Ints.length:Int)) then
 if (0≤(1:Int)∧(1:Int)<(a.Ints.length:Int)) then
 if (0≤(2:Int)∧(2:Int)<(a.Ints.length:Int)) then
 (Z0e s (ix a.Ints 0) (ix a.Ints 1) (ix a.Ints 2)).bind fun g =>
 (Z03 (ix b 0) g).bind fun r =>
 some r
 else none
 else none
 else none
 else none)
 else (
 if (0≤(0:Int)∧(0:Int)<(b.length:Int)) then
 if (0≤(0:Int)∧(0:Int)<(a.Ints.length:Int)) then
 if (0≤(1:Int)∧(1:Int)<(a.Ints.length:Int)) then
 if (0≤(2:Int)∧(2:Int)<(a.Ints.length:Int)) then
 (Z0t (ix b 0) (ix a.Ints 0) (ix a.Ints 1) (ix a.Ints 2)).bind fun q =>
 some q
 else none
 else none
 else none
 else none))))))))))
def Z1_J1 (a:Node)(b:(List Tensor))(h:Bool):Option (Tensor) :=
 if h=true then (
 if (0≤(0:Int)∧(0:Int)<(b.length:Int)) then
 if (0≤(1:Int)∧(1:Int)<(b.length:Int)) then
 (Z02 ((ix b 0).Dims) ((ix b 1).Dims)).bind fun e =>
 if (!e)=true then (
 some (⟨([]:List Int),([]:List Int)⟩:Tensor))
 else (
 (Z15 (aH ((aH (a.Op - 3))+1)) (ix b 0) (ix b 1)).bind fun g =>
 some g)
 else none
 else none)
 else (
 if (a.Op==6)=true then (
 Z1_J2 a b (a.Op==6))
 else (
 if (a.Op==7)=true then (
 Z1_J2 a b (a.Op==7))
 else (
 if (a.Op==8)=true then (
 Z1_J2 a b (a.Op==8))
 else (
 Z1_J2 a b (a.Op==9)))))
def Z1 (a:Node)(e:(List Tensor)):Option (Tensor) :=
 if (a.Op==2)=true then (
 (Zs (⟨a.Dims,a.Data⟩:Tensor)).bind fun b =>
 if (!b)=true then (
 some (⟨([]:List Int),([]:List Int)⟩:Tensor))
 else (
 (Zu a.Dims).bind fun g =>
 (Zu a.Data).bind fun h =>
 some (⟨g,h⟩:Tensor)))
 else (
 if (a.Op==3)=true then (
 Z1_J1 a e (a.Op==3))
 else (
 if (a.Op==4)=true then (
 Z1_J1 a e (a.Op==4))
 else (
 Z1_J1 a e (a.Op==5))))
def Z0s_J1 (b:Tensor)(a:(List Int)):Option (Tensor) :=
 some (⟨b.Dims,a⟩:Tensor)
def Z0s_L1 (h:Int)(g:Tensor)(b:(List Int))(a:Int):Option (((List Int)×Int)⊕((List Int))) :=
 if (decide (a<(g.Data.length:Int)))=true then (
 (Zq h).bind fun e =>
 if (0≤a∧a<(g.Data.length:Int)) then
 some (.inl ((b.set a.toNat e),(aH (a+1))))
 else none)
 else (
 some (.inr b))
def Z0s (a:(List Int))(g:Int):Option (Tensor) :=
 (Zo a).bind fun h =>
 if (!h)=true then (
 some (⟨([]:List Int),([]:List Int)⟩:Tensor))
 else (
 (Z0i a).bind fun b =>
 (aR (fun s:(List Int)×Int=>Z0s_L1 g b s.1 s.2) (b.Data,(0:Int))).bind fun e=>Z0s_J1 b e)
def Za_J5 (g1:Graph)(a:(List Tensor))(b:Bool)(e:(List Tensor))(h:Int):Option ((List Tensor)×Bool) :=
 (Z0k g1.Outs (g1.Nodes.length:Int)).bind fun g =>
 some (e,(g&&(b||(h==(a.length:Int)))))
def Za_J4 (b:(List Tensor))(h:Int)(g:Int)(e:(List Int))(a:(List Int)):Option (((List Tensor)×Int×Int)⊕(((List Tensor)×Bool)⊕((List Tensor)×Int))) :=
 if ((a.length:Int)==0)=true then (
 some (.inr (.inl (b,false))))
 else (
 if b.length+([(⟨e,a⟩:Tensor)]:List Tensor).length≤2932031007402 then
 some (.inl ((b++([(⟨e,a⟩:Tensor)]:List Tensor)),g,(aH (h+1))))
 else none)
def Za_J3 (g1:Graph)(a:(List Tensor))(i:Bool)(g:(List Tensor))(b:Int)(e:Int)(s:(List Tensor)):Option (((List Tensor)×Int×Int)⊕(((List Tensor)×Bool)⊕((List Tensor)×Int))) :=
 if ((ix g1.Nodes e).Op != 1)=true then (
 (Z1 (ix g1.Nodes e) s).bind fun l =>
 Za_J4 g e b l.Dims l.Data)
 else (
 if i=true then (
 (Z0s ((ix g1.Nodes e).Dims) (0:Int)).bind fun j =>
 Za_J4 g e b j.Dims j.Data)
 else (
 if (decide (b≥(a.length:Int)))=false→(0≤b∧b<(a.length:Int)) then
 (bQ (!(decide (b≥(a.length:Int)))) (Zs (ix a b))).bind fun h =>
 if ((decide (b≥(a.length:Int)))||(!h))=false→(0≤b∧b<(a.length:Int)) then
 (bQ (!((decide (b≥(a.length:Int)))||(!h))) (Z02 ((ix a b).Dims) ((ix g1.Nodes e).Dims))).bind fun m =>
 if (((decide (b≥(a.length:Int)))||(!h))||(!m))=true then (
 some (.inr (.inl (g,false))))
 else (
 (Zu ((ix g1.Nodes e).Dims)).bind fun q =>
 if (0≤b∧b<(a.length:Int)) then
 (Zu ((ix a b).Data)).bind fun r =>
 Za_J4 g e (aH (b+1)) q r
 else none)
 else none
 else none))
def Za_L2 (g1:Graph)(g:(List Tensor))(b:Int)(e:(List Tensor))(a:Int):Option (((List Tensor)×Int)⊕((List Tensor))) :=
 if (decide (a<(((ix g1.Nodes b).Args).length:Int)))=true then (
 if (0≤a∧a<(((ix g1.Nodes b).Args).length:Int)) then
 if (0≤(ix ((ix g1.Nodes b).Args) a)∧(ix ((ix g1.Nodes b).Args) a)<(g.length:Int)) then
 if e.length+([(ix g (ix ((ix g1.Nodes b).Args) a))]:List Tensor).length≤2932031007402 then
 some (.inl ((e++([(ix g (ix ((ix g1.Nodes b).Args) a))]:List Tensor)),(aH (a+1))))
 else none
 else none
 else none)
 else (
 some (.inr e))
def Za_L1 (g1:Graph)(g:(List Tensor))(h:Bool)(b:(List Tensor))(j:Int)(a:Int):Option (((List Tensor)×Int×Int)⊕(((List Tensor)×Bool)⊕((List Tensor)×Int))) :=
 if (decide (a<(g1.Nodes.length:Int)))=true then (
 if (0≤a∧a<(g1.Nodes.length:Int)) then
 (Z10 (ix g1.Nodes a)).bind fun i =>
 (bQ (!(!i)) (Z0k ((ix g1.Nodes a).Args) a)).bind fun l =>
 if ((!i)||(!l))=true then (
 some (.inr (.inl (b,false))))
 else (
 (aR (fun s:(List Tensor)×Int=>Za_L2 g1 b a s.1 s.2) (([]:List Tensor),(0:Int))).bind fun e=>Za_J3 g1 g h b j a e)
 else none)
 else (
 some (.inr (.inr (b,j))))
def Za (g1:Graph)(a:(List Tensor))(b:Bool):Option ((List Tensor)×Bool) :=
 if ((decide ((g1.Nodes.length:Int)>200))||(decide ((g1.Outs.length:Int)>40)))=true then (
 some (([]:List Tensor),false))
 else (
 (aR (fun s:(List Tensor)×Int×Int=>Za_L1 g1 a b s.1 s.2.1 s.2.2) (([]:List Tensor),(0:Int),(0:Int))).bind fun e=>match e with
 | .inl e=>some e
 | .inr e=>Za_J5 g1 a b e.1 e.2)
def Z30 (g1:Graph):Option (Bool) :=
 (Za g1 ([]:List Tensor) true).bind fun a =>
 some a.2
def Z3d (a:Int)(b:Int):Option (Int×Int) :=
 some (a,b)
def Z3e (a:Int)(b:Int):Option (Int×Int) :=
 some (a,b)
def Z3f (a:Int)(b:Int):Option (Int×Int) :=
 some (a,b)
def Z3g (a:Int)(b:Int):Option (Int×Int) :=
 some (a,b)
def Zz_J3 (a:Int)(i:Bool):Option (kindOfR) :=
 if i=true then (
 some (⟨6,false,(0:Int),(0:Int),eR⟩:kindOfR))
 else (
 if (a==15)=true then (
 (Z3d (4:Int) (4:Int)).bind fun h =>
 some (⟨8,false,h.1,h.2,eR⟩:kindOfR))
 else (
 if (a==16)=true then (
 (Z3e (1:Int) (4097:Int)).bind fun e =>
 some (⟨9,false,e.1,e.2,eR⟩:kindOfR))
 else (
 if (a==17)=true then (
 (Z3f (2:Int) (4098:Int)).bind fun b =>
 some (⟨10,false,b.1,b.2,eR⟩:kindOfR))
 else (
 if (a==19)=true then (
 (Z3g (3:Int) (3:Int)).bind fun g =>
 some (⟨11,false,g.1,g.2,eR⟩:kindOfR))
 else (
 some (⟨0,false,(0:Int),(0:Int),([]:aM)⟩:kindOfR))))))
def Zz_J2 (a:Int)(b:Bool):Option (kindOfR) :=
 if b=true then (
 some (⟨3,false,(aH ((aH (a - 6))+1)),(0:Int),([]:aM)⟩:kindOfR))
 else (
 if (a==10)=true then (
 some (⟨4,false,(0:Int),(0:Int),([]:aM)⟩:kindOfR))
 else (
 if (a==11)=true then (
 some (⟨5,false,(0:Int),(0:Int),([]:aM)⟩:kindOfR))
 else (
 if (a==12)=true then (
 some (⟨6,false,(0:Int),(0:Int),gS⟩:kindOfR))
 else (
 if (a==13)=true then (
 some (⟨7,false,(0:Int),(0:Int),gS⟩:kindOfR))
 else (
 if (a==14)=true then (
 Zz_J3 a (a==14))
 else (
 Zz_J3 a (a==18)))))))
def Zz_J1 (a:Int)(b:Bool):Option (kindOfR) :=
 if b=true then (
 some (⟨2,false,(aH ((aH (a - 3))+1)),(0:Int),([]:aM)⟩:kindOfR))
 else (
 if (a==6)=true then (
 Zz_J2 a (a==6))
 else (
 if (a==7)=true then (
 Zz_J2 a (a==7))
 else (
 if (a==8)=true then (
 Zz_J2 a (a==8))
 else (
 Zz_J2 a (a==9)))))
def Zz (a:Int):Option (kindOfR) :=
 if (a==1)=true then (
 some (⟨1,false,(0:Int),(0:Int),([]:aM)⟩:kindOfR))
 else (
 if (a==2)=true then (
 some (⟨1,true,(0:Int),(0:Int),([]:aM)⟩:kindOfR))
 else (
 if (a==3)=true then (
 Zz_J1 a (a==3))
 else (
 if (a==4)=true then (
 Zz_J1 a (a==4))
 else (
 Zz_J1 a (a==5)))))
def Z3i (k1:leafKind):Option (aM) :=
 if k1.data=true then (
 some ou)
 else (
 some gS)
def Z3j (k1:pairKind):Option (aM) :=
 some ([]:aM)
def Z3q (k1:soloKind):Option (aM) :=
 some ([]:aM)
def Z3r (k1:topKind):Option (aM) :=
 some eR
def Z3h (k1:formKind):Option (aM) :=
 some ka
def Z3o (k1:shiftKind):Option (aM) :=
 some k1.use
def Z3p (k1:shiftKind):Option (aM) :=
 some k1.use
def Z3k (k1:shiftKind)(b:Int)(a:Int):Option (aM) :=
 some k1.use
def Z3l (k1:shiftKind)(b:Int)(a:Int):Option (aM) :=
 some k1.use
def Z3m (k1:shiftKind)(b:Int)(a:Int):Option (aM) :=
 some k1.use
def Z3n (k1:shiftKind)(b:Int)(a:Int):Option (aM) :=
 some k1.use
def fN (r:kindOfR):Option (aM) :=
 if Nat.beq r.t 0=true then none else (if Nat.beq r.t 1=true then Z3i (⟨r.b0⟩:leafKind) else (if Nat.beq r.t 2=true then Z3j (⟨r.i0⟩:pairKind) else (if Nat.beq r.t 3=true then Z3q (⟨r.i0⟩:soloKind) else (if Nat.beq r.t 4=true then Z3r (⟨⟩:topKind) else (if Nat.beq r.t 5=true then Z3h (⟨⟩:formKind) else (if Nat.beq r.t 6=true then Z3o (⟨r.s0⟩:shiftKind) else (if Nat.beq r.t 7=true then Z3p (⟨r.s0⟩:shiftKind) else (if Nat.beq r.t 8=true then Z3k (⟨r.s0⟩:shiftKind) r.i0 r.i1 else (if Nat.beq r.t 9=true then Z3l (⟨r.s0⟩:shiftKind) r.i0 r.i1 else (if Nat.beq r.t 10=true then Z3m (⟨r.s0⟩:shiftKind) r.i0 r.i1 else (Z3n (⟨r.s0⟩:shiftKind) r.i0 r.i1)))))))))))
def cI (a b:aM):Option (Int) :=
 if a.length<4294967281 then some (Lib.index a b) else none
def Z2d (p1:aM)(a:aM):Option (Int) :=
 (cI p1 a).bind fun b =>
 some b
def Z3t (p1:aM)(a:aM):Option (Bool) :=
 (Z2d p1 a).bind fun b =>
 some (decide (b≥0))
def Z7 (e:aM)(b:aM):Option (Bool) :=
 (Z3t b e).bind fun a =>
 some a
def Z1x (b:Node)(a:aM):Option (Bool) :=
 (Z7 gS a).bind fun h =>
 (bQ (h||((b.Dims.length:Int)==0)) (Z7 eR a)).bind fun e =>
 (bQ ((h||((b.Dims.length:Int)==0))&&(e||((b.Ints.length:Int)==0))) (Z7 ka a)).bind fun g =>
 (bQ (((h||((b.Dims.length:Int)==0))&&(e||((b.Ints.length:Int)==0)))&&(g||(b.Form==([]:aM)))) (Z7 ov a)).bind fun i =>
 some ((((h||((b.Dims.length:Int)==0))&&(e||((b.Ints.length:Int)==0)))&&(g||(b.Form==([]:aM))))&&(i||((b.Data.length:Int)==0)))
def Zd_J1 (a:(List Int)):Option (Bool) :=
 some (decide ((a.length:Int)≤6))
def Zd_L1 (a:(List Int))(e:Int)(b:Int):Option ((Int×Int)⊕((Bool)⊕(Unit))) :=
 if (decide (b<(a.length:Int)))=true then (
 if (0≤b∧b<(a.length:Int)) then
 if ((decide ((ix a b)<1))||(decide ((ix a b)>4096)))=true then (
 some (.inr (.inl false)))
 else (
 if (decide ((aH (e*(ix a b)))>4096))=true then (
 some (.inr (.inl false)))
 else (
 some (.inl ((aH (e*(ix a b))),(aH (b+1))))))
 else none)
 else (
 some (.inr (.inr ())))
def Zd (a:(List Int)):Option (Bool) :=
 (aR (fun s:Int×Int=>Zd_L1 a s.1 s.2) ((1:Int),(0:Int))).bind fun e=>match e with
 | .inl e=>some e
 | .inr e=>Zd_J1 a
def Zn_J1 (a:Int):Option (Int) :=
 some a
def Zn_L1 (a:(List Int))(e:Int)(b:Int):Option ((Int×Int)⊕(Int)) :=
 if (decide (b<(a.length:Int)))=true then (
 if (0≤b∧b<(a.length:Int)) then
 some (.inl ((aH (e*(ix a b))),(aH (b+1))))
 else none)
 else (
 some (.inr e))
def Zn (a:(List Int)):Option (Int) :=
 (aR (fun s:Int×Int=>Zn_L1 a s.1 s.2) ((1:Int),(0:Int))).bind fun e=>Zn_J1 e
def Z35 (p1:Int):Option (Bool) :=
 some ((decide (p1≥0))&&(decide (p1<2147483647)))
def Z16_J1:Option (Bool) :=
 some true
def Z16_L1 (b:(List Int))(a:Int):Option ((Int)⊕((Bool)⊕(Unit))) :=
 if (decide (a<(b.length:Int)))=true then (
 if (0≤a∧a<(b.length:Int)) then
 (Z35 (ix b a)).bind fun e =>
 if (!e)=true then (
 some (.inr (.inl false)))
 else (
 some (.inl (aH (a+1))))
 else none)
 else (
 some (.inr (.inr ())))
def Z16 (a:(List Int)):Option (Bool) :=
 (aR (fun s:Int=>Z16_L1 a s) (0:Int)).bind fun e=>match e with
 | .inl e=>some e
 | .inr e=>Z16_J1
def Z2n (t1:Tensor):Option (Bool) :=
 (Zd t1.Dims).bind fun a =>
 (bQ a (Zn t1.Dims)).bind fun b =>
 (bQ (a&&((t1.Data.length:Int)==b)) (Z16 t1.Data)).bind fun e =>
 some ((a&&((t1.Data.length:Int)==b))&&e)
def Z1m (k1:leafKind)(e:Node)(a:(List (List Int))):Option ((List Int)×Bool) :=
 (bQ (!((a.length:Int) != 0)) (Zd e.Dims)).bind fun b =>
 (bQ ((!(((a.length:Int) != 0)||(!b)))&&k1.data) (Z2n (⟨e.Dims,e.Data⟩:Tensor))).bind fun g =>
 if ((((a.length:Int) != 0)||(!b))||(k1.data&&(!g)))=true then (
 some (([]:List Int),false))
 else (
 some (e.Dims,true))
def Z13_J1:Option (Bool) :=
 some true
def Z13_L1 (b:(List Int))(e:(List Int))(a:Int):Option ((Int)⊕((Bool)⊕(Unit))) :=
 if (decide (a<(b.length:Int)))=true then (
 if (0≤a∧a<(b.length:Int)) then
 if (0≤a∧a<(e.length:Int)) then
 if ((ix b a) != (ix e a))=true then (
 some (.inr (.inl false)))
 else (
 some (.inl (aH (a+1))))
 else none
 else none)
 else (
 some (.inr (.inr ())))
def Z13 (a:(List Int))(b:(List Int)):Option (Bool) :=
 if ((a.length:Int) != (b.length:Int))=true then (
 some false)
 else (
 (aR (fun s:Int=>Z13_L1 a b s) (0:Int)).bind fun e=>match e with
 | .inl e=>some e
 | .inr e=>Z13_J1)
def Z24 (k1:pairKind)(e:Node)(a:(List (List Int))):Option ((List Int)×Bool) :=
 if ((a.length:Int) != 2)=false→(0≤(0:Int)∧(0:Int)<(a.length:Int)) then
 if ((a.length:Int) != 2)=false→(0≤(1:Int)∧(1:Int)<(a.length:Int)) then
 (bQ (!((a.length:Int) != 2)) (Z13 (ix a 0) (ix a 1))).bind fun b =>
 if (((a.length:Int) != 2)||(!b))=true then (
 some (([]:List Int),false))
 else (
 if (0≤(0:Int)∧(0:Int)<(a.length:Int)) then
 some ((ix a 0),true)
 else none)
 else none
 else none
def Z2w (k1:soloKind)(b:Node)(a:(List (List Int))):Option ((List Int)×Bool) :=
 if ((a.length:Int) != 1)=true then (
 some (([]:List Int),false))
 else (
 if (0≤(0:Int)∧(0:Int)<(a.length:Int)) then
 some ((ix a 0),true)
 else none)
def Zm (b:(List Int))(a:Int):Option (Bool) :=
 some ((decide (a≥0))&&(decide (a<(b.length:Int))))
def Z1y (k1:topKind)(b:Node)(a:(List (List Int))):Option ((List Int)×Bool) :=
 if (((a.length:Int) != 1)||((b.Ints.length:Int) != 1))=false→(0≤(0:Int)∧(0:Int)<(a.length:Int)) then
 if (((a.length:Int) != 1)||((b.Ints.length:Int) != 1))=false→(0≤(0:Int)∧(0:Int)<(b.Ints.length:Int)) then
 (bQ (!(((a.length:Int) != 1)||((b.Ints.length:Int) != 1))) (Zm (ix a 0) (ix b.Ints 0))).bind fun e =>
 if ((((a.length:Int) != 1)||((b.Ints.length:Int) != 1))||(!e))=true then (
 some (([]:List Int),false))
 else (
 if (0≤(0:Int)∧(0:Int)<(a.length:Int)) then
 some ((ix a 0),true)
 else none)
 else none
 else none
def dX (p1:aM)(a:aM):Option (aM×aM×Bool) :=
 (cI p1 a).bind fun b =>
 if (decide (b≥0))=true then (
 if (0≤(0:Int)∧(0:Int)≤b∧b≤(p1.length:Int)) then
 if (0≤(aH (b+(a.length:Int)))∧(aH (b+(a.length:Int)))≤(p1.length:Int)∧(p1.length:Int)≤(p1.length:Int)) then
 some ((sub p1 (0:Int) b),(sub p1 (aH (b+(a.length:Int))) (p1.length:Int)),true)
 else none
 else none)
 else (
 some (p1,([]:aM),false))
def Z32 (p1:aM)(a:aM):Option (aM×aM×Bool) :=
 (dX p1 a).bind fun b =>
 some (b.1,b.2.1,b.2.2)
def Z3c (b a:aM):Option (Int) :=
 match a with
 | [c]=>some (Lib.countByte b c)
 | _=>none
def Z0l_J3 (p1:aM)(b:Int)(g:aM)(e:(List aM))(a:Int):Option ((List aM)) :=
 if (0≤a∧a<((List.replicate (if (aH ((p1.length:Int)+1))<b then (aH ((p1.length:Int)+1)) else b).toNat ([]:aM)).length:Int)) then
 if (0≤(0:Int)∧(0:Int)≤(aH (a+1))∧(aH (a+1))≤((List.replicate (if (aH ((p1.length:Int)+1))<b then (aH ((p1.length:Int)+1)) else b).toNat ([]:aM)).length:Int)) then
 some (sub (e.set a.toNat g) (0:Int) (aH (a+1)))
 else none
 else none
def Z0l_L1 (p1:aM)(h:aM)(a:Int)(i:Int)(b:aM)(j:(List aM))(e:Int):Option ((aM×(List aM)×Int)⊕(aM×(List aM)×Int)) :=
 if (decide (e<(aH ((if (aH ((p1.length:Int)+1))<i then (aH ((p1.length:Int)+1)) else i) - 1))))=true then (
 (Z2d b h).bind fun g =>
 if (decide (g<0))=true then (
 some (.inr (b,j,e)))
 else (
 if (0≤(0:Int)∧(0:Int)≤(aH (g+a))∧(aH (g+a))≤(b.length:Int)) then
 if (0≤e∧e<((List.replicate (if (aH ((p1.length:Int)+1))<i then (aH ((p1.length:Int)+1)) else i).toNat ([]:aM)).length:Int)) then
 (nm (j.set e.toNat (sub b (0:Int) (aH (g+a))))).bind fun l =>
 if (0≤(aH (g+(h.length:Int)))∧(aH (g+(h.length:Int)))≤(b.length:Int)∧(b.length:Int)≤(b.length:Int)) then
 some (.inl ((sub b (aH (g+(h.length:Int))) (b.length:Int)),l,(aH (e+1))))
 else none
 else none
 else none))
 else (
 some (.inr (b,j,e)))
def Z0l_J2 (p1:aM)(g:aM)(b:Int)(a:Int):Option ((List aM)) :=
 if (0≤(if (aH ((p1.length:Int)+1))<a then (aH ((p1.length:Int)+1)) else a)∧(if (aH ((p1.length:Int)+1))<a then (aH ((p1.length:Int)+1)) else a)≤140737488355328∧16*(if (aH ((p1.length:Int)+1))<a then (aH ((p1.length:Int)+1)) else a)≤281474976710656) then
 (aR (fun s:aM×(List aM)×Int=>Z0l_L1 p1 g b a s.1 s.2.1 s.2.2) (p1,(List.replicate (if (aH ((p1.length:Int)+1))<a then (aH ((p1.length:Int)+1)) else a).toNat ([]:aM)),(0:Int))).bind fun e=>Z0l_J3 p1 a e.1 e.2.1 e.2.2
 else none
def Z0l (p1:aM)(b:aM)(a:Int)(e:Int):Option ((List aM)) :=
 if (e==0)=true then (
 some ([]:List aM))
 else (
 if (b==([]:aM))=true then (
 none)
 else (
 if (decide (e<0))=true then (
 (Z3c p1 b).bind fun g =>
 Z0l_J2 p1 b a (aH (g+1)))
 else (
 Z0l_J2 p1 b a e)))
def Z33 (p1:aM)(a:aM):Option ((List aM)) :=
 (Z0l p1 a (0:Int) (-1:Int)).bind fun b =>
 some b
def dB (a:aM)(b:Int):Option (Int) :=
 some (Lib.indexByte a b.toNat.toUInt8)
def Z1v (p1:aM)(b:Int):Option (Int) :=
 (dB p1 b).bind fun a =>
 some a
def Ze_J4 (b:aM×aM×Bool)(a:(List aM)):Option ((List aM)×aM×Bool) :=
 some (a,b.2.1,true)
def Ze_L3 (b:aM×aM×Bool)(a:Int):Option ((Int)⊕(((List aM)×aM×Bool)⊕(Unit))) :=
 if (decide (a<(b.2.1.length:Int)))=true then (
 if (0≤a∧a<(b.2.1.length:Int)) then
 if ((decide ((bt b.2.1 a)<97))||(decide ((bt b.2.1 a)>122)))=false→(0≤(0:Int)∧(0:Int)≤a∧a≤(b.2.1.length:Int)) then
 (bQ (!((decide ((bt b.2.1 a)<97))||(decide ((bt b.2.1 a)>122)))) (Z1v (sub b.2.1 (0:Int) a) (bt b.2.1 a))).bind fun e =>
 (bQ (!(((decide ((bt b.2.1 a)<97))||(decide ((bt b.2.1 a)>122)))||(decide (e≥0)))) (Z1v b.1 (bt b.2.1 a))).bind fun g =>
 if ((((decide ((bt b.2.1 a)<97))||(decide ((bt b.2.1 a)>122)))||(decide (e≥0)))||(decide (g<0)))=true then (
 some (.inr (.inl (([]:List aM),([]:aM),false))))
 else (
 some (.inl (aH (a+1))))
 else none
 else none)
 else (
 some (.inr (.inr ())))
def Ze_J3 (a:aM×aM×Bool)(b:(List aM)):Option ((List aM)×aM×Bool) :=
 (aR (fun s:Int=>Ze_L3 a s) (0:Int)).bind fun e=>match e with
 | .inl e=>some e
 | .inr e=>Ze_J4 a b
def Ze_J2 (a:Int):Option ((Int)⊕(((List aM)×aM×Bool)⊕(Unit))) :=
 some (.inl (aH (a+1)))
def Ze_L2 (e:(List aM))(b:Int)(a:Int):Option ((Int)⊕(((List aM)×aM×Bool)⊕(Unit))) :=
 if (decide (a<((ix e b).length:Int)))=true then (
 if (0≤a∧a<((ix e b).length:Int)) then
 if ((decide ((bt (ix e b) a)<97))||(decide ((bt (ix e b) a)>122)))=true then (
 some (.inr (.inl (([]:List aM),([]:aM),false))))
 else (
 some (.inl (aH (a+1))))
 else none)
 else (
 some (.inr (.inr ())))
def Ze_L1 (b:(List aM))(a:Int):Option ((Int)⊕(((List aM)×aM×Bool)⊕(Unit))) :=
 if (decide (a<(b.length:Int)))=true then (
 if (0≤a∧a<(b.length:Int)) then
 if (decide (((ix b a).length:Int)>6))=true then (
 some (.inr (.inl (([]:List aM),([]:aM),false))))
 else (
 (aR (fun s:Int=>Ze_L2 b a s) (0:Int)).bind fun e=>match e with
 | .inl e=>some (.inr (.inl e))
 | .inr e=>Ze_J2 a)
 else none)
 else (
 some (.inr (.inr ())))
def Ze (a:aM):Option ((List aM)×aM×Bool) :=
 (Z32 a str0).bind fun b =>
 if ((!b.2.2)||(decide ((b.2.1.length:Int)>6)))=true then (
 some (([]:List aM),([]:aM),false))
 else (
 (Z33 b.1 str6).bind fun g =>
 if (decide ((g.length:Int)>6))=true then (
 some (([]:List aM),([]:aM),false))
 else (
 (aR (fun s:Int=>Ze_L1 g s) (0:Int)).bind fun e=>match e with
 | .inl e=>some e
 | .inr e=>Ze_J3 b g))
def Zp (a:List Int):Option (List Int) :=
 if a.length≤17592186044416 then some a else none
def Z06_J3 (a:(List Int)):Option ((List Int)) :=
 some a
def Z06_J2 (a:(List Int))(e:Int)(b:Int)(g:(List Int)):Option (((List Int)×Int×Int)⊕((List Int))) :=
 if (0≤b∧b<(a.length:Int)) then
 some (.inl (g,(aH (e*(ix a b))),(aH (b - 1))))
 else none
def Z06_L1 (a:(List Int))(g:(List Int))(e:Int)(b:Int):Option (((List Int)×Int×Int)⊕((List Int))) :=
 if (decide (b≥0))=true then (
 if (0≤b∧b<(a.length:Int)) then
 if (decide ((ix a b)>1))=true then (
 if (0≤b∧b<((List.replicate (a.length:Int).toNat (0:Int)).length:Int)) then
 Z06_J2 a e b (g.set b.toNat e)
 else none)
 else (
 Z06_J2 a e b g)
 else none)
 else (
 some (.inr g))
def Z06 (a:(List Int)):Option ((List Int)) :=
 if (0≤(a.length:Int)∧(a.length:Int)≤140737488355328∧8*(a.length:Int)≤281474976710656) then
 (aR (fun s:(List Int)×Int×Int=>Z06_L1 a s.1 s.2.1 s.2.2) ((List.replicate (a.length:Int).toNat (0:Int)),(1:Int),(aH ((a.length:Int) - 1)))).bind fun e=>Z06_J3 e
 else none
def Zl_J7 (a:(List Int)):Option ((List Int)) :=
 some a
def Zl_J6 (a:Int)(b:(List Int)):Option (((List Int)×Int)⊕((List Int))) :=
 some (.inl (b,(aH (a+1))))
def Zl_J5 (a:Int)(b:(List Int)):Option (((List Int)×Int)⊕((List Int))) :=
 some (.inl (b,(aH (a+1))))
def Zl_L2 (f1:form)(a:aM)(g:(List Int))(e:Int)(h:(List Int))(b:Int):Option (((List Int)×Int)⊕((List Int))) :=
 if (decide (b<(a.length:Int)))=true then (
 if (0≤b∧b<(a.length:Int)) then
 if (0≤e∧e<(f1.order.length:Int)) then
 if ((bt a b)==(bt f1.order e))=true then (
 if (0≤e∧e<((List.replicate (f1.order.length:Int).toNat (0:Int)).length:Int)) then
 if (0≤b∧b<(g.length:Int)) then
 Zl_J5 b (h.set e.toNat (aH ((ix h e)+(ix g b))))
 else none
 else none)
 else (
 Zl_J5 b h)
 else none
 else none)
 else (
 some (.inr h))
def Zl_L1 (f1:form)(a:aM)(b:(List Int))(h:(List Int))(g:Int):Option (((List Int)×Int)⊕((List Int))) :=
 if (decide (g<((List.replicate (f1.order.length:Int).toNat (0:Int)).length:Int)))=true then (
 (aR (fun s:(List Int)×Int=>Zl_L2 f1 a b g s.1 s.2) (h,(0:Int))).bind fun e=>Zl_J6 g e)
 else (
 some (.inr h))
def Zl (f1:form)(a:aM)(b:(List Int)):Option ((List Int)) :=
 if (0≤(f1.order.length:Int)∧(f1.order.length:Int)≤140737488355328∧8*(f1.order.length:Int)≤281474976710656) then
 (aR (fun s:(List Int)×Int=>Zl_L1 f1 a b s.1 s.2) ((List.replicate (f1.order.length:Int).toNat (0:Int)),(0:Int))).bind fun e=>Zl_J7 e
 else none
def Z3_J9 (i:(List aM)×aM×Bool)(b:aM)(e:(List Int))(a:(List Int))(f224:(List (List Int))):Option (form×Bool) :=
 (Z06 a).bind fun g =>
 (Zl (⟨i.1,i.2.1,b,e,a,f224,([]:List Int)⟩:form) i.2.1 g).bind fun h =>
 some ((⟨i.1,i.2.1,b,e,a,f224,h⟩:form),true)
def Z3_L4 (b:(List (List Int)))(j:(List aM)×aM×Bool)(i:aM)(m:(List Int))(l:(List Int))(e:(List (List Int)))(a:Int):Option (((List (List Int))×Int)⊕((List (List Int)))) :=
 if (decide (a<(j.1.length:Int)))=true then (
 if (0≤a∧a<(j.1.length:Int)) then
 if (0≤a∧a<(b.length:Int)) then
 (Z06 (ix b a)).bind fun h =>
 (Zl (⟨j.1,j.2.1,i,m,l,e,([]:List Int)⟩:form) (ix j.1 a) h).bind fun g =>
 if e.length+([g]:List (List Int)).length≤5864062014805 then
 some (.inl ((e++([g]:List (List Int))),(aH (a+1))))
 else none
 else none
 else none)
 else (
 some (.inr e))
def Z3_J8 (b:(List (List Int)))(j:(List aM)×aM×Bool)(h:aM)(a:(List Int)):Option (form×Bool) :=
 if (0≤(0:Int)∧(0:Int)≤(j.2.1.length:Int)∧(j.2.1.length:Int)≤(a.length:Int)) then
 (Zp (sub a (0:Int) (j.2.1.length:Int))).bind fun g =>
 (Zd g).bind fun i =>
 if (!i)=true then (
 some ((⟨([]:List aM),([]:aM),([]:aM),([]:List Int),([]:List Int),([]:List (List Int)),([]:List Int)⟩:form),false))
 else (
 (aR (fun s:(List (List Int))×Int=>Z3_L4 b j h a g s.1 s.2) (([]:List (List Int)),(0:Int))).bind fun e=>Z3_J9 j h a g e)
 else none
def Z3_L3 (e:aM)(b:(List Int))(h:(List Int))(g:Int)(a:Int):Option (((List Int)×Int×Int)⊕((form×Bool)⊕((List Int)))) :=
 if (decide (a<(e.length:Int)))=true then (
 if (0≤a∧a<(e.length:Int)) then
 if (0≤(IntKind.wrap .u8 ((bt e a) - 97))∧(IntKind.wrap .u8 ((bt e a) - 97))<26) then
 if h.length+([(ix b (IntKind.wrap .u8 ((bt e a) - 97)))]:List Int).length≤17592186044416 then
 if (decide ((aH (g*(ix b (IntKind.wrap .u8 ((bt e a) - 97)))))>65536))=true then (
 some (.inr (.inl ((⟨([]:List aM),([]:aM),([]:aM),([]:List Int),([]:List Int),([]:List (List Int)),([]:List Int)⟩:form),false))))
 else (
 some (.inl ((h++([(ix b (IntKind.wrap .u8 ((bt e a) - 97)))]:List Int)),(aH (g*(ix b (IntKind.wrap .u8 ((bt e a) - 97))))),(aH (a+1)))))
 else none
 else none
 else none)
 else (
 some (.inr (.inr h)))
def Z3_J7 (b:(List (List Int)))(h:(List aM)×aM×Bool)(g:aM)(a:(List Int)):Option (form×Bool) :=
 (aR (fun s:(List Int)×Int×Int=>Z3_L3 g a s.1 s.2.1 s.2.2) (([]:List Int),(1:Int),(0:Int))).bind fun e=>match e with
 | .inl e=>some e
 | .inr e=>Z3_J8 b h g e
def Z3_J6 (e:Int)(b:aM)(a:(List Int)):Option ((aM×(List Int)×Int)⊕((form×Bool)⊕(aM×(List Int)))) :=
 some (.inl (b,a,(aH (e+1))))
def Z3_J5 (b:Int)(e:aM)(a:(List Int)):Option ((aM×(List Int)×Int)⊕((form×Bool)⊕(aM×(List Int)))) :=
 some (.inl (e,a,(aH (b+1))))
def Z3_L2 (g:(List (List Int)))(i:(List aM)×aM×Bool)(e:Int)(h:aM)(b:(List Int))(a:Int):Option ((aM×(List Int)×Int)⊕((form×Bool)⊕(aM×(List Int)))) :=
 if (decide (a<((ix i.1 e).length:Int)))=true then (
 if (0≤a∧a<((ix i.1 e).length:Int)) then
 if (0≤(IntKind.wrap .u8 ((bt (ix i.1 e) a) - 97))∧(IntKind.wrap .u8 ((bt (ix i.1 e) a) - 97))<26) then
 if ((ix b (IntKind.wrap .u8 ((bt (ix i.1 e) a) - 97))) != 0)=true→(0≤a∧a<((ix g e).length:Int)) then
 if (((ix b (IntKind.wrap .u8 ((bt (ix i.1 e) a) - 97))) != 0)&&((ix b (IntKind.wrap .u8 ((bt (ix i.1 e) a) - 97))) != (ix (ix g e) a)))=true then (
 some (.inr (.inl ((⟨([]:List aM),([]:aM),([]:aM),([]:List Int),([]:List Int),([]:List (List Int)),([]:List Int)⟩:form),false))))
 else (
 if (0≤a∧a<((ix g e).length:Int)) then
 (nm (b.set (IntKind.wrap .u8 ((bt (ix i.1 e) a) - 97)).toNat (ix (ix g e) a))).bind fun j =>
 (Z1v h (bt (ix i.1 e) a)).bind fun l =>
 if (decide (l<0))=true then (
 if (0≤a∧a≤(aH (a+1))∧(aH (a+1))≤((ix i.1 e).length:Int)) then
 if h.length+(sub (ix i.1 e) a (aH (a+1))).length≤9223372036854775807 then
 Z3_J5 a (h++(sub (ix i.1 e) a (aH (a+1)))) j
 else none
 else none)
 else (
 Z3_J5 a h j)
 else none)
 else none
 else none
 else none)
 else (
 some (.inr (.inr (h,b))))
def Z3_L1 (a:(List (List Int)))(i:(List aM)×aM×Bool)(h:aM)(g:(List Int))(b:Int):Option ((aM×(List Int)×Int)⊕((form×Bool)⊕(aM×(List Int)))) :=
 if (decide (b<(i.1.length:Int)))=true then (
 if (0≤b∧b<(i.1.length:Int)) then
 if (0≤b∧b<(a.length:Int)) then
 if (((ix i.1 b).length:Int) != ((ix a b).length:Int))=true then (
 some (.inr (.inl ((⟨([]:List aM),([]:aM),([]:aM),([]:List Int),([]:List Int),([]:List (List Int)),([]:List Int)⟩:form),false))))
 else (
 (aR (fun s:aM×(List Int)×Int=>Z3_L2 a i b s.1 s.2.1 s.2.2) (h,g,(0:Int))).bind fun e=>match e with
 | .inl e=>some (.inr (.inl e))
 | .inr e=>Z3_J6 b e.1 e.2)
 else none
 else none)
 else (
 some (.inr (.inr (h,g))))
def Z3 (b:aM)(a:(List (List Int))):Option (form×Bool) :=
 (Ze b).bind fun g =>
 if ((!g.2.2)||((g.1.length:Int) != (a.length:Int)))=true then (
 some ((⟨([]:List aM),([]:aM),([]:aM),([]:List Int),([]:List Int),([]:List (List Int)),([]:List Int)⟩:form),false))
 else (
 (aR (fun s:aM×(List Int)×Int=>Z3_L1 a g s.1 s.2.1 s.2.2) (g.2.1,(List.replicate 26 (0:Int)),(0:Int))).bind fun e=>match e with
 | .inl e=>some e
 | .inr e=>Z3_J7 a g e.1 e.2)
def Z2v (k1:formKind)(e:Node)(a:(List (List Int))):Option ((List Int)×Bool) :=
 (Z3 e.Form a).bind fun b =>
 some (b.1.dims,b.2)
def Z2p (a:(List Int)):Option (View) :=
 (Zd a).bind fun h =>
 if (!h)=true then (
 some (⟨([]:List Int),([]:List Int),(0:Int),(0:Int)⟩:View))
 else (
 (Zp a).bind fun g =>
 (Z06 a).bind fun e =>
 (Zn a).bind fun b =>
 some (⟨g,e,(0:Int),b⟩:View))
def Zh_J1 (v1:View)(b:Int)(a:Int):Option (Bool) :=
 some ((decide (b≥0))&&(decide (a<v1.Base)))
def Zh_L1 (v1:View)(b:Int)(e:Int)(a:Int):Option ((Int×Int×Int)⊕((Bool)⊕(Int×Int))) :=
 if (decide (a<(v1.Strides.length:Int)))=true then (
 if (0≤a∧a<(v1.Strides.length:Int)) then
 if ((decide ((ix v1.Strides a)<(-4096:Int)))||(decide ((ix v1.Strides a)>4096)))=true then (
 some (.inr (.inl false)))
 else (
 if (0≤a∧a<(v1.Dims.length:Int)) then
 some (.inl ((aH (b+(if (aH ((ix v1.Strides a)*(aH ((ix v1.Dims a) - 1))))<0 then (aH ((ix v1.Strides a)*(aH ((ix v1.Dims a) - 1)))) else (0:Int)))),(aH (e+(if (aH ((ix v1.Strides a)*(aH ((ix v1.Dims a) - 1))))>0 then (aH ((ix v1.Strides a)*(aH ((ix v1.Dims a) - 1)))) else (0:Int)))),(aH (a+1))))
 else none)
 else none)
 else (
 some (.inr (.inr (b,e))))
def Zh (v1:View):Option (Bool) :=
 (Zd v1.Dims).bind fun a =>
 if ((((((!a)||((v1.Strides.length:Int) != (v1.Dims.length:Int)))||(decide (v1.Base<1)))||(decide (v1.Base>4096)))||(decide (v1.Offset<0)))||(decide (v1.Offset≥v1.Base)))=true then (
 some false)
 else (
 (aR (fun s:Int×Int×Int=>Zh_L1 v1 s.1 s.2.1 s.2.2) (v1.Offset,v1.Offset,(0:Int))).bind fun e=>match e with
 | .inl e=>some e
 | .inr e=>Zh_J1 v1 e.1 e.2)
def Z08_J3 (p1:View)(a:(List Int))(b:(List Int)):Option (Bool×View) :=
 some (true,(⟨a,b,p1.Offset,p1.Base⟩:View))
def Z08_J2 (a:Int)(b:(List Int)):Option (((List Int)×Int)⊕((Bool×View)⊕((List Int)))) :=
 some (.inl (b,(aH (a+1))))
def Z08_L1 (p1:View)(g:(List Int))(b:View)(i:(List Int))(e:(List Int))(a:Int):Option (((List Int)×Int)⊕((Bool×View)⊕((List Int)))) :=
 if (decide (a<(b.Dims.length:Int)))=true then (
 if (0≤a∧a<(b.Dims.length:Int)) then
 if (0≤(aH ((aH ((g.length:Int) - (b.Dims.length:Int)))+a))∧(aH ((aH ((g.length:Int) - (b.Dims.length:Int)))+a))<(g.length:Int)) then
 if ((ix b.Dims a)==(ix g (aH ((aH ((g.length:Int) - (b.Dims.length:Int)))+a))))=true then (
 if (0≤a∧a<(b.Strides.length:Int)) then
 if (0≤(aH ((aH ((g.length:Int) - (b.Dims.length:Int)))+a))∧(aH ((aH ((g.length:Int) - (b.Dims.length:Int)))+a))<((List.replicate (g.length:Int).toNat (0:Int)).length:Int)) then
 (nm (e.set (aH ((aH ((g.length:Int) - (b.Dims.length:Int)))+a)).toNat (ix b.Strides a))).bind fun h =>
 Z08_J2 a h
 else none
 else none)
 else (
 if ((ix b.Dims a) != 1)=true then (
 some (.inr (.inl (false,(⟨i,e,p1.Offset,p1.Base⟩:View)))))
 else (
 Z08_J2 a e))
 else none
 else none)
 else (
 some (.inr (.inr e)))
def Z08 (p1:View)(a:(List Int))(h:View):Option (Bool×View) :=
 (Zd a).bind fun g =>
 if ((!g)||(decide ((a.length:Int)<(h.Dims.length:Int))))=true then (
 some (false,p1))
 else (
 (Zp a).bind fun b =>
 if (0≤(a.length:Int)∧(a.length:Int)≤140737488355328∧8*(a.length:Int)≤281474976710656) then
 (aR (fun s:(List Int)×Int=>Z08_L1 p1 a h b s.1 s.2) ((List.replicate (a.length:Int).toNat (0:Int)),(0:Int))).bind fun e=>match e with
 | .inl e=>some e
 | .inr e=>Z08_J3 p1 b e
 else none)
def Z38 (v1:View)(i:(List Int))(j:View):Option (View) :=
 (Zh v1).bind fun e =>
 if (!e)=true then (
 some (⟨([]:List Int),([]:List Int),(0:Int),(0:Int)⟩:View))
 else (
 (Zp v1.Dims).bind fun h =>
 (Zp v1.Strides).bind fun g =>
 (Z08 (⟨h,g,v1.Offset,v1.Base⟩:View) i j).bind fun a =>
 (bQ (!(!a.1)) (Zh a.2)).bind fun b =>
 if ((!a.1)||(!b))=true then (
 some (⟨([]:List Int),([]:List Int),(0:Int),(0:Int)⟩:View))
 else (
 some a.2))
def Z2f (v1:View)(a:(List Int)):Option (View) :=
 (Z38 v1 a v1).bind fun b =>
 some b
def Z11_J3 (v1:View)(a:Int)(e:Int)(b:Int):Option (View) :=
 if (0≤a∧a<(v1.Dims.length:Int)) then
 if (0≤a∧a<(v1.Strides.length:Int)) then
 some (⟨(v1.Dims.set a.toNat e),(v1.Strides.set a.toNat b),v1.Offset,v1.Base⟩:View)
 else none
 else none
def Z11 (v1:View)(b:Int)(a:Int)(e:Int):Option (View) :=
 if (a==1)=true then (
 Z11_J3 v1 b a (0:Int))
 else (
 Z11_J3 v1 b a e)
def Z1k_J3 (p1:View)(b:Int)(g:Int)(h:Int)(a:Int):Option (Bool×View×Int) :=
 if (0≤b∧b<(p1.Strides.length:Int)) then
 (Z11 (⟨p1.Dims,p1.Strides,(aH (p1.Offset+(aH (h*(ix p1.Strides b))))),p1.Base⟩:View) b g (aH ((ix p1.Strides b)*a))).bind fun e =>
 some (true,e,a)
 else none
def Z1k (p1:View)(e:Int)(b:Int)(g:Int)(a:Int):Option (Bool×View×Int) :=
 (Zm p1.Dims e).bind fun h =>
 if (((!h)||(decide (b<1)))||(decide (b>4096)))=true then (
 some (false,p1,a))
 else (
 if (0≤e∧e<(p1.Dims.length:Int)) then
 if ((((decide (g<0))||(decide (g≥(ix p1.Dims e))))||(decide (a<(-4096:Int))))||(decide (a>4096)))=true then (
 some (false,p1,a))
 else (
 if (decide (b>1))=true then (
 if ((decide ((aH (g+(aH (a*(aH (b - 1))))))<0))||(decide ((aH (g+(aH (a*(aH (b - 1))))))≥(ix p1.Dims e))))=true then (
 some (false,p1,a))
 else (
 Z1k_J3 p1 e b g a))
 else (
 Z1k_J3 p1 e b g (0:Int)))
 else none)
def Z37 (v1:View)(m:Int)(j:Int)(l:Int)(b:Int):Option (View×Int) :=
 (Zh v1).bind fun e =>
 if (!e)=true then (
 some ((⟨([]:List Int),([]:List Int),(0:Int),(0:Int)⟩:View),b))
 else (
 (Zp v1.Dims).bind fun h =>
 (Zp v1.Strides).bind fun i =>
 (Z1k (⟨h,i,v1.Offset,v1.Base⟩:View) m j l b).bind fun a =>
 (bQ (!(!a.1)) (Zh a.2.1)).bind fun g =>
 if ((!a.1)||(!g))=true then (
 some ((⟨([]:List Int),([]:List Int),(0:Int),(0:Int)⟩:View),a.2.2))
 else (
 some (a.2.1,a.2.2)))
def Z2e (v1:View)(e:Int)(h:Int)(a:Int)(b:Int):Option (View) :=
 (Z37 v1 e a h b).bind fun g =>
 some g.1
def Z2o (v1:View)(b:Int)(a:Int):Option (View) :=
 if v1.Dims.length+([(0:Int)]:List Int).length≤17592186044416 then
 if v1.Strides.length+([(0:Int)]:List Int).length≤17592186044416 then
 (Z11 (⟨(v1.Dims++([(0:Int)]:List Int)),(v1.Strides++([(0:Int)]:List Int)),v1.Offset,v1.Base⟩:View) (aH (((v1.Dims++([(0:Int)]:List Int)).length:Int) - 1)) b a).bind fun e =>
 some e
 else none
 else none
def Z1l_J3 (p1:View)(b:Int)(h:Int)(i:Int)(a:Int):Option (Bool×View×Int) :=
 (Z11 p1 b (aH ((aH ((aH ((ix p1.Dims b) - h)).tdiv i))+1)) (aH ((ix p1.Strides b)*a))).bind fun g =>
 (Z2o g h (ix p1.Strides b)).bind fun e =>
 some (true,e,a)
def Z1l (p1:View)(a:Int)(e:Int)(b:Int):Option (Bool×View×Int) :=
 (Zm p1.Dims a).bind fun g =>
 if (((!g)||(decide (e<1)))||(decide (b<1)))=false→(0≤a∧a<(p1.Dims.length:Int)) then
 if ((((!g)||(decide (e<1)))||(decide (b<1)))||(decide (e>(ix p1.Dims a))))=true then (
 some (false,p1,b))
 else (
 if (0≤a∧a<(p1.Strides.length:Int)) then
 if (0≤a∧a<(p1.Dims.length:Int)) then
 if b≠0 then
 if ((aH ((aH ((aH ((ix p1.Dims a) - e)).tdiv b))+1))==1)=true then (
 Z1l_J3 p1 a e b (0:Int))
 else (
 Z1l_J3 p1 a e b b)
 else none
 else none
 else none)
 else none
def Z39 (v1:View)(l:Int)(j:Int)(i:Int):Option (View×Int) :=
 (Zh v1).bind fun g =>
 if (!g)=true then (
 some ((⟨([]:List Int),([]:List Int),(0:Int),(0:Int)⟩:View),i))
 else (
 (Zp v1.Dims).bind fun h =>
 (Zp v1.Strides).bind fun b =>
 (Z1l (⟨h,b,v1.Offset,v1.Base⟩:View) l j i).bind fun a =>
 (bQ (!(!a.1)) (Zh a.2.1)).bind fun e =>
 if ((!a.1)||(!e))=true then (
 some ((⟨([]:List Int),([]:List Int),(0:Int),(0:Int)⟩:View),a.2.2))
 else (
 some (a.2.1,a.2.2)))
def Z2g (v1:View)(e:Int)(a:Int)(b:Int):Option (View) :=
 (Z39 v1 e a b).bind fun g =>
 some g.1
def Z1e (a:Node)(b:(List Int)):Option (View) :=
 (Z2p b).bind fun e =>
 if (a.Op==12)=true then (
 (Z2f e a.Dims).bind fun g =>
 some g)
 else (
 if ((a.Op==14)&&((a.Ints.length:Int)==4))=true→(0≤(3:Int)∧(3:Int)<(a.Ints.length:Int)) then
 if (((a.Op==14)&&((a.Ints.length:Int)==4))&&(decide ((ix a.Ints 3)≥1)))=true then (
 if (0≤(0:Int)∧(0:Int)<(a.Ints.length:Int)) then
 if (0≤(1:Int)∧(1:Int)<(a.Ints.length:Int)) then
 if (0≤(2:Int)∧(2:Int)<(a.Ints.length:Int)) then
 if (0≤(3:Int)∧(3:Int)<(a.Ints.length:Int)) then
 (Z2e e (ix a.Ints 0) (ix a.Ints 1) (ix a.Ints 2) (ix a.Ints 3)).bind fun h =>
 some h
 else none
 else none
 else none
 else none)
 else (
 if ((a.Op==18)&&((a.Ints.length:Int)==3))=true then (
 if (0≤(0:Int)∧(0:Int)<(a.Ints.length:Int)) then
 if (0≤(1:Int)∧(1:Int)<(a.Ints.length:Int)) then
 if (0≤(2:Int)∧(2:Int)<(a.Ints.length:Int)) then
 (Z2g e (ix a.Ints 0) (ix a.Ints 1) (ix a.Ints 2)).bind fun i =>
 some i
 else none
 else none
 else none)
 else (
 some (⟨([]:List Int),([]:List Int),(0:Int),(0:Int)⟩:View)))
 else none)
def Z36 (e:(List Int))(a:(List Int))(b:Int):Option ((List Int)×Int×(List Int)) :=
 some (e,b,a)
def Z05_J2 (b:Type)(YF:b→Int→Option (b×Bool))(e:b×Bool)(a:(List Int))(h:Int)(g:Int):Option (((List Int)×Int×b)⊕(b)) :=
 if (decide (g<0))=true then (
 some (.inr e.1))
 else (
 some (.inl (a,h,e.1)))
def Z05_L2 (j:Type)(YF:j→Int→Option (j×Bool))(h:(List Int))(g:(List Int))(a:(List Int))(e:Int)(b:Int):Option (((List Int)×Int×Int)⊕((List Int)×Int×Int)) :=
 if (decide (b≥0))=true then (
 if (0≤b∧b<((List.replicate (h.length:Int).toNat (0:Int)).length:Int)) then
 if (0≤b∧b<(g.length:Int)) then
 if (0≤b∧b<(h.length:Int)) then
 if (decide ((ix (a.set b.toNat (aH ((ix a b)+1))) b)<(ix h b)))=true then (
 some (.inr ((a.set b.toNat (aH ((ix a b)+1))),(aH (e+(ix g b))),b)))
 else (
 (nm ((a.set b.toNat (aH ((ix a b)+1))).set b.toNat (0:Int))).bind fun i =>
 some (.inl (i,(aH ((aH (e+(ix g b))) - (aH ((ix g b)*(ix h b))))),(aH (b - 1)))))
 else none
 else none
 else none)
 else (
 some (.inr (a,e,b)))
def Z05_L1 (g:Type)(YF:g→Int→Option (g×Bool))(j:(List Int))(l:(List Int))(a:(List Int))(h:Int)(i:g):Option (((List Int)×Int×g)⊕(g)) :=
 (YF i h).bind fun b =>
 if (!b.2)=true then (
 some (.inr b.1))
 else (
 (aR (fun s:(List Int)×Int×Int=>Z05_L2 g YF j l s.1 s.2.1 s.2.2) (a,h,(aH ((j.length:Int) - 1)))).bind fun e=>Z05_J2 g YF b e.1 e.2.1 e.2.2)
def Z05 (b:Type)(YF:b→Int→Option (b×Bool))(a:b)(g:(List Int))(h:Int)(i:(List Int)):Option (b) :=
 if (0≤(g.length:Int)∧(g.length:Int)≤140737488355328∧8*(g.length:Int)≤281474976710656) then
 (aR (fun s:(List Int)×Int×b=>Z05_L1 b YF g i s.1 s.2.1 s.2.2) ((List.replicate (g.length:Int).toNat (0:Int)),h,a)).bind fun e=>some e
 else none
def Z3u (a:(List pair))(b:Int):Option (((List pair))×Bool) :=
 if a.length+([(⟨b,(a.length:Int)⟩:pair)]:List pair).length≤8796093022208 then
 some ((a++([(⟨b,(a.length:Int)⟩:pair)]:List pair)),true)
 else none
def Z2h (v1:View):Option ((List Int)×(List pair)×Bool) :=
 (Zh v1).bind fun e =>
 if (!e)=true then (
 some (([]:List Int),([]:List pair),false))
 else (
 (Z36 v1.Dims v1.Strides v1.Offset).bind fun a =>
 (Z05 ((List pair)) (fun (s:(List pair)) (x:Int)=>Z3u s x) ([]:List pair) a.1 a.2.1 a.2.2).bind fun b =>
 some (v1.Dims,b,true))
def Z2u (g:Node)(b:(List Int)):Option ((List Int)×(List pair)×Bool) :=
 (Z1e g b).bind fun e =>
 (Z2h e).bind fun a =>
 some (a.1,a.2.1,a.2.2)
def Z1u (k1:shiftKind)(e:Node)(a:(List (List Int))):Option ((List Int)×Bool) :=
 if ((a.length:Int) != 1)=true then (
 some (([]:List Int),false))
 else (
 if (0≤(0:Int)∧(0:Int)<(a.length:Int)) then
 (Z2u e (ix a 0)).bind fun b =>
 some (b.1,b.2.2)
 else none)
def Z12_J1 (b:Node)(a:(List pair)):Option ((List Int)×(List pair)×Bool) :=
 some (b.Dims,a,true)
def Z12_L1 (e:Int)(a:(List pair))(b:Int):Option (((List pair)×Int)⊕((List pair))) :=
 if (decide (b<e))=true then (
 if a.length+([(⟨b,b⟩:pair)]:List pair).length≤8796093022208 then
 some (.inl ((a++([(⟨b,b⟩:pair)]:List pair)),(aH (b+1))))
 else none)
 else (
 some (.inr a))
def Z12 (g:Node)(a:(List Int)):Option ((List Int)×(List pair)×Bool) :=
 (Zd g.Dims).bind fun i =>
 (bQ (!(!i)) (Zn g.Dims)).bind fun b =>
 (bQ (!(!i)) (Zn a)).bind fun h =>
 if ((!i)||(b != h))=true then (
 some (([]:List Int),([]:List pair),false))
 else (
 (Zn a).bind fun j =>
 (aR (fun s:(List pair)×Int=>Z12_L1 j s.1 s.2) (([]:List pair),(0:Int))).bind fun e=>Z12_J1 g e)
def Z25 (k1:shiftKind)(e:Node)(a:(List (List Int))):Option ((List Int)×Bool) :=
 if ((a.length:Int) != 1)=true then (
 some (([]:List Int),false))
 else (
 if (0≤(0:Int)∧(0:Int)<(a.length:Int)) then
 (Z12 e (ix a 0)).bind fun b =>
 some (b.1,b.2.2)
 else none)
def Z1n (b:(List Int))(a:Int)(g:Int):Option ((List Int)) :=
 (Zp b).bind fun e =>
 if (0≤a∧a<(e.length:Int)) then
 some (e.set a.toNat g)
 else none
def Z23 (b:(List Int))(a:Int):Option (Int×Int×Int) :=
 if (0≤(0:Int)∧(0:Int)≤a∧a≤(b.length:Int)) then
 (Zn (sub b (0:Int) a)).bind fun g =>
 if (0≤a∧a<(b.length:Int)) then
 if (0≤(aH (a+1))∧(aH (a+1))≤(b.length:Int)∧(b.length:Int)≤(b.length:Int)) then
 (Zn (sub b (aH (a+1)) (b.length:Int))).bind fun e =>
 some (g,(ix b a),e)
 else none
 else none
 else none
def Z8_J7 (a:(List pair)):Option ((List pair)) :=
 some a
def Z8_J6 (b:Int)(a:(List pair)):Option (((List pair)×Int)⊕((List pair))) :=
 some (.inl (a,(aH (b+1))))
def Z8_J5 (b:Int)(a:(List pair)):Option (((List pair)×Int)⊕((List pair))) :=
 some (.inl (a,(aH (b+1))))
def Z8_L3 (j:Int)(b:(List pair))(i:Int×Int×Int)(g:Int)(h:Int)(e:(List pair))(a:Int):Option (((List pair)×Int)⊕((List pair))) :=
 if (decide (a<i.2.2))=true then (
 if e.length+([(⟨(aH ((aH ((aH ((aH (g*i.2.1))+(ix b h).from_))*i.2.2))+a)),(aH ((aH ((aH ((aH (g*j))+(ix b h).to))*i.2.2))+a))⟩:pair)]:List pair).length≤8796093022208 then
 some (.inl ((e++([(⟨(aH ((aH ((aH ((aH (g*i.2.1))+(ix b h).from_))*i.2.2))+a)),(aH ((aH ((aH ((aH (g*j))+(ix b h).to))*i.2.2))+a))⟩:pair)]:List pair)),(aH (a+1))))
 else none)
 else (
 some (.inr e))
def Z8_L2 (i:Int)(a:(List pair))(j:Int×Int×Int)(h:Int)(g:(List pair))(b:Int):Option (((List pair)×Int)⊕((List pair))) :=
 if (decide (b<(a.length:Int)))=true then (
 if (0≤b∧b<(a.length:Int)) then
 (aR (fun s:(List pair)×Int=>Z8_L3 i a j h b s.1 s.2) (g,(0:Int))).bind fun e=>Z8_J5 b e
 else none)
 else (
 some (.inr g))
def Z8_L1 (i:Int)(b:(List pair))(h:Int×Int×Int)(g:(List pair))(a:Int):Option (((List pair)×Int)⊕((List pair))) :=
 if (decide (a<h.1))=true then (
 (aR (fun s:(List pair)×Int=>Z8_L2 i b h a s.1 s.2) (g,(0:Int))).bind fun e=>Z8_J6 a e)
 else (
 some (.inr g))
def Z8 (h:(List Int))(g:Int)(i:Int)(a:(List pair)):Option ((List pair)) :=
 (Z23 h g).bind fun b =>
 if (0≤(aH ((aH (b.1*b.2.2))*(a.length:Int)))∧(aH ((aH (b.1*b.2.2))*(a.length:Int)))≤140737488355328∧16*(aH ((aH (b.1*b.2.2))*(a.length:Int)))≤281474976710656) then
 (aR (fun s:(List pair)×Int=>Z8_L1 i a b s.1 s.2) (([]:List pair),(0:Int))).bind fun e=>Z8_J7 e
 else none
def Z00_J2 (b:(List Int))(a:Int)(e:Int)(h:Int)(i:Int)(j:(List Int))(g:(List pair)):Option ((List Int)×(List pair)×Bool) :=
 (Z8 b a (aH ((aH ((aH (e+(ix b a)))+(aH ((aH ((ix b a) - 1))*i))))+h)) g).bind fun l =>
 some (j,l,true)
def Z00_L2 (i:(List Int))(h:Int)(b:Int)(g:Int)(a:(List pair))(e:Int):Option (((List pair)×Int)⊕((List pair))) :=
 if (decide (e<(ix i h)))=true then (
 if a.length+([(⟨e,(aH (b+(aH (e*(aH (g+1))))))⟩:pair)]:List pair).length≤8796093022208 then
 some (.inl ((a++([(⟨e,(aH (b+(aH (e*(aH (g+1))))))⟩:pair)]:List pair)),(aH (e+1))))
 else none)
 else (
 some (.inr a))
def Z00_J1 (b:(List Int))(a:Int)(g:Int)(h:Int)(i:Int):Option ((List Int)×(List pair)×Bool) :=
 if (0≤a∧a<(b.length:Int)) then
 (Z1n b a (aH ((aH ((aH (g+(ix b a)))+(aH ((aH ((ix b a) - 1))*i))))+h))).bind fun j =>
 (Zd j).bind fun l =>
 if (!l)=true then (
 some (([]:List Int),([]:List pair),false))
 else (
 (aR (fun s:(List pair)×Int=>Z00_L2 b a g i s.1 s.2) (([]:List pair),(0:Int))).bind fun e=>Z00_J2 b a g h i j e)
 else none
def Z00_L1 (a:Int)(b:Int)(e:Int)(g:Int):Option ((Int)⊕(((List Int)×(List pair)×Bool)⊕(Unit))) :=
 if (decide (g<(([a,b,e]:List Int).length:Int)))=true then (
 if (0≤g∧g<(([a,b,e]:List Int).length:Int)) then
 if ((decide ((ix ([a,b,e]:List Int) g)<0))||(decide ((ix ([a,b,e]:List Int) g)>4096)))=true then (
 some (.inr (.inl (([]:List Int),([]:List pair),false))))
 else (
 some (.inl (aH (g+1))))
 else none)
 else (
 some (.inr (.inr ())))
def Z00 (g:(List Int))(h:Int)(a:Int)(b:Int)(i:Int):Option ((List Int)×(List pair)×Bool) :=
 (Zm g h).bind fun j =>
 if (!j)=true then (
 some (([]:List Int),([]:List pair),false))
 else (
 (aR (fun s:Int=>Z00_L1 a b i s) (0:Int)).bind fun e=>match e with
 | .inl e=>some e
 | .inr e=>Z00_J1 g h a b i)
def Z1z (p1:(List Int))(b:(List Int)):Option ((List Int)×(List pair)×Bool) :=
 if (0≤(0:Int)∧(0:Int)<(p1.length:Int)) then
 if (0≤(1:Int)∧(1:Int)<(p1.length:Int)) then
 if (0≤(2:Int)∧(2:Int)<(p1.length:Int)) then
 if (0≤(3:Int)∧(3:Int)<(p1.length:Int)) then
 (Z00 b (ix p1 0) (ix p1 1) (ix p1 2) (ix p1 3)).bind fun a =>
 some (a.1,a.2.1,a.2.2)
 else none
 else none
 else none
 else none
def Z2q (g:Node)(a:(List Int))(h:Int)(e:Int):Option ((List Int)×(List pair)×Bool) :=
 if ((decide ((g.Ints.length:Int)<h))||(decide ((g.Ints.length:Int)>e)))=true then (
 some (([]:List Int),([]:List pair),false))
 else (
 (Z1z g.Ints a).bind fun b =>
 some (b.1,b.2.1,b.2.2))
def Z1q (k1:shiftKind)(h:Int)(e:Int)(g:Node)(a:(List (List Int))):Option ((List Int)×Bool) :=
 if ((a.length:Int) != 1)=true then (
 some (([]:List Int),false))
 else (
 if (0≤(0:Int)∧(0:Int)<(a.length:Int)) then
 (Z2q g (ix a 0) h e).bind fun b =>
 some (b.1,b.2.2)
 else none)
def Z0f_J1 (e:(List Int))(b:Int)(a:(List Int))(g:(List pair)):Option ((List Int)×(List pair)×Bool) :=
 (Z1n e b (a.length:Int)).bind fun h =>
 (Zd h).bind fun j =>
 if (!j)=true then (
 some (([]:List Int),([]:List pair),false))
 else (
 (Z8 e b (a.length:Int) g).bind fun i =>
 some (h,i,true))
def Z0f_L1 (h:(List Int))(g:Int)(a:(List Int))(e:(List pair))(b:Int):Option (((List pair)×Int)⊕(((List Int)×(List pair)×Bool)⊕((List pair)))) :=
 if (decide (b<(a.length:Int)))=true then (
 if (0≤b∧b<(a.length:Int)) then
 if (decide ((ix a b)<0))=false→(0≤g∧g<(h.length:Int)) then
 if ((decide ((ix a b)<0))||(decide ((ix a b)≥(ix h g))))=true then (
 some (.inr (.inl (([]:List Int),([]:List pair),false))))
 else (
 if e.length+([(⟨(ix a b),b⟩:pair)]:List pair).length≤8796093022208 then
 some (.inl ((e++([(⟨(ix a b),b⟩:pair)]:List pair)),(aH (b+1))))
 else none)
 else none
 else none)
 else (
 some (.inr (.inr e)))
def Z0f (g:(List Int))(b:Int)(a:(List Int)):Option ((List Int)×(List pair)×Bool) :=
 (Zm g b).bind fun h =>
 if (((!h)||((a.length:Int)==0))||(decide ((a.length:Int)>4096)))=true then (
 some (([]:List Int),([]:List pair),false))
 else (
 (aR (fun s:(List pair)×Int=>Z0f_L1 g b a s.1 s.2) (([]:List pair),(0:Int))).bind fun e=>match e with
 | .inl e=>some e
 | .inr e=>Z0f_J1 g b a e)
def Z20 (p1:(List Int))(b:(List Int)):Option ((List Int)×(List pair)×Bool) :=
 if (0≤(0:Int)∧(0:Int)<(p1.length:Int)) then
 if (0≤(1:Int)∧(1:Int)≤(p1.length:Int)∧(p1.length:Int)≤(p1.length:Int)) then
 (Z0f b (ix p1 0) (sub p1 (1:Int) (p1.length:Int))).bind fun a =>
 some (a.1,a.2.1,a.2.2)
 else none
 else none
def Z2r (g:Node)(a:(List Int))(h:Int)(e:Int):Option ((List Int)×(List pair)×Bool) :=
 if ((decide ((g.Ints.length:Int)<h))||(decide ((g.Ints.length:Int)>e)))=true then (
 some (([]:List Int),([]:List pair),false))
 else (
 (Z20 g.Ints a).bind fun b =>
 some (b.1,b.2.1,b.2.2))
def Z1r (k1:shiftKind)(h:Int)(e:Int)(g:Node)(a:(List (List Int))):Option ((List Int)×Bool) :=
 if ((a.length:Int) != 1)=true then (
 some (([]:List Int),false))
 else (
 if (0≤(0:Int)∧(0:Int)<(a.length:Int)) then
 (Z2r g (ix a 0) h e).bind fun b =>
 some (b.1,b.2.2)
 else none)
def Z0g_J1 (a:(List Int))(b:Int)(j:Int)(e:(List pair)):Option ((List Int)×(List pair)×Bool) :=
 (Z1n a b j).bind fun g =>
 (Zd g).bind fun i =>
 if (!i)=true then (
 some (([]:List Int),([]:List pair),false))
 else (
 (Z8 a b j e).bind fun h =>
 some (g,h,true))
def Z0g_L1 (a:(List Int))(g:Int)(e:(List pair))(b:Int):Option (((List pair)×Int)⊕(((List Int)×(List pair)×Bool)⊕((List pair)))) :=
 if (decide (b<(a.length:Int)))=true then (
 if (0≤b∧b<(a.length:Int)) then
 if ((decide ((ix a b)<0))||(decide ((ix a b)≥g)))=true then (
 some (.inr (.inl (([]:List Int),([]:List pair),false))))
 else (
 if e.length+([(⟨b,(ix a b)⟩:pair)]:List pair).length≤8796093022208 then
 some (.inl ((e++([(⟨b,(ix a b)⟩:pair)]:List pair)),(aH (b+1))))
 else none)
 else none)
 else (
 some (.inr (.inr e)))
def Z0g (b:(List Int))(a:Int)(g:(List Int))(h:Int):Option ((List Int)×(List pair)×Bool) :=
 (Zm b a).bind fun i =>
 if (!i)=false→(0≤a∧a<(b.length:Int)) then
 if (((!i)||((g.length:Int) != (ix b a)))||(decide (h<1)))=true then (
 some (([]:List Int),([]:List pair),false))
 else (
 (aR (fun s:(List pair)×Int=>Z0g_L1 g h s.1 s.2) (([]:List pair),(0:Int))).bind fun e=>match e with
 | .inl e=>some e
 | .inr e=>Z0g_J1 b a h e)
 else none
def Z21 (p1:(List Int))(b:(List Int)):Option ((List Int)×(List pair)×Bool) :=
 if (0≤(0:Int)∧(0:Int)<(p1.length:Int)) then
 if (0≤(2:Int)∧(2:Int)≤(p1.length:Int)∧(p1.length:Int)≤(p1.length:Int)) then
 if (0≤(1:Int)∧(1:Int)<(p1.length:Int)) then
 (Z0g b (ix p1 0) (sub p1 (2:Int) (p1.length:Int)) (ix p1 1)).bind fun a =>
 some (a.1,a.2.1,a.2.2)
 else none
 else none
 else none
def Z2s (g:Node)(a:(List Int))(h:Int)(e:Int):Option ((List Int)×(List pair)×Bool) :=
 if ((decide ((g.Ints.length:Int)<h))||(decide ((g.Ints.length:Int)>e)))=true then (
 some (([]:List Int),([]:List pair),false))
 else (
 (Z21 g.Ints a).bind fun b =>
 some (b.1,b.2.1,b.2.2))
def Z1s (k1:shiftKind)(h:Int)(e:Int)(g:Node)(a:(List (List Int))):Option ((List Int)×Bool) :=
 if ((a.length:Int) != 1)=true then (
 some (([]:List Int),false))
 else (
 if (0≤(0:Int)∧(0:Int)<(a.length:Int)) then
 (Z2s g (ix a 0) h e).bind fun b =>
 some (b.1,b.2.2)
 else none)
def Z5_J16 (b:(List Int))(e:(List Int))(a:(List pair)):Option ((List Int)×(List pair)×Bool) :=
 some ((sub e (0:Int) (aH ((b.length:Int) - 1))),a,true)
def Z5_J15 (b:Int)(a:(List pair)):Option (((List pair)×Int)⊕((List pair))) :=
 some (.inl (a,(aH (b+1))))
def Z5_J14 (b:Int)(a:(List pair)):Option (((List pair)×Int)⊕((List pair))) :=
 some (.inl (a,(aH (b+1))))
def Z5_J13 (b:Int)(a:(List pair)):Option (((List pair)×Int)⊕((List pair))) :=
 some (.inl (a,(aH (b+1))))
def Z5_L4 (a:(List Int))(m:Int)(h:Int)(l:Int×Int×Int)(i:Int)(g:Int)(j:Int)(b:(List pair))(e:Int):Option (((List pair)×Int)⊕((List pair))) :=
 if (0≤(aH ((a.length:Int) - 1))∧(aH ((a.length:Int) - 1))<(a.length:Int)) then
 if (decide (e<(ix a (aH ((a.length:Int) - 1)))))=true then (
 if b.length+([(⟨(aH ((aH ((aH ((aH ((aH ((aH (i*l.2.1))+g))*l.2.2))+j))*(ix a (aH ((a.length:Int) - 1)))))+e)),(aH ((aH ((aH ((aH ((aH (i*m))+(aH (g*h))))+e))*l.2.2))+j))⟩:pair)]:List pair).length≤8796093022208 then
 some (.inl ((b++([(⟨(aH ((aH ((aH ((aH ((aH ((aH (i*l.2.1))+g))*l.2.2))+j))*(ix a (aH ((a.length:Int) - 1)))))+e)),(aH ((aH ((aH ((aH ((aH (i*m))+(aH (g*h))))+e))*l.2.2))+j))⟩:pair)]:List pair)),(aH (e+1))))
 else none)
 else (
 some (.inr b))
 else none
def Z5_L3 (h:(List Int))(m:Int)(g:Int)(l:Int×Int×Int)(j:Int)(i:Int)(a:(List pair))(b:Int):Option (((List pair)×Int)⊕((List pair))) :=
 if (decide (b<l.2.2))=true then (
 (aR (fun s:(List pair)×Int=>Z5_L4 h m g l j i b s.1 s.2) (a,(0:Int))).bind fun e=>Z5_J13 b e)
 else (
 some (.inr a))
def Z5_L2 (h:(List Int))(l:Int)(g:Int)(j:Int×Int×Int)(i:Int)(a:(List pair))(b:Int):Option (((List pair)×Int)⊕((List pair))) :=
 if (decide (b<j.2.1))=true then (
 (aR (fun s:(List pair)×Int=>Z5_L3 h l g j i b s.1 s.2) (a,(0:Int))).bind fun e=>Z5_J14 b e)
 else (
 some (.inr a))
def Z5_L1 (h:(List Int))(j:Int)(g:Int)(i:Int×Int×Int)(a:(List pair))(b:Int):Option (((List pair)×Int)⊕((List pair))) :=
 if (decide (b<i.1))=true then (
 (aR (fun s:(List pair)×Int=>Z5_L2 h j g i b s.1 s.2) (a,(0:Int))).bind fun e=>Z5_J15 b e)
 else (
 some (.inr a))
def Z5_J1 (a:(List Int))(g:Int)(j:Int)(i:(List Int))(b:Int):Option ((List Int)×(List pair)×Bool) :=
 if (0≤(0:Int)∧(0:Int)≤(aH ((a.length:Int) - 1))∧(aH ((a.length:Int) - 1))≤(a.length:Int)) then
 (Z23 (sub a (0:Int) (aH ((a.length:Int) - 1))) g).bind fun h =>
 (aR (fun s:(List pair)×Int=>Z5_L1 a j b h s.1 s.2) (([]:List pair),(0:Int))).bind fun e=>Z5_J16 a i e
 else none
def Z5 (a:(List Int))(b:Int)(e:Int)(g:Int):Option ((List Int)×(List pair)×Bool) :=
 (Zm a b).bind fun i =>
 if (((((!i)||(b==(aH ((a.length:Int) - 1))))||(decide (e<1)))||(decide (g<1)))||(decide (g>4096)))=false→(0≤(aH ((a.length:Int) - 1))∧(aH ((a.length:Int) - 1))<(a.length:Int)) then
 if ((((((!i)||(b==(aH ((a.length:Int) - 1))))||(decide (e<1)))||(decide (g<1)))||(decide (g>4096)))||(decide ((ix a (aH ((a.length:Int) - 1)))>g)))=false→(0≤b∧b<(a.length:Int)) then
 if ((((((!i)||(b==(aH ((a.length:Int) - 1))))||(decide (e<1)))||(decide (g<1)))||(decide (g>4096)))||(decide ((ix a (aH ((a.length:Int) - 1)))>g)))=false→(0≤(aH ((a.length:Int) - 1))∧(aH ((a.length:Int) - 1))<(a.length:Int)) then
 if ((((((!i)||(b==(aH ((a.length:Int) - 1))))||(decide (e<1)))||(decide (g<1)))||(decide (g>4096)))||(decide ((ix a (aH ((a.length:Int) - 1)))>g)))=false→e≠0 then
 if (((((((!i)||(b==(aH ((a.length:Int) - 1))))||(decide (e<1)))||(decide (g<1)))||(decide (g>4096)))||(decide ((ix a (aH ((a.length:Int) - 1)))>g)))||((ix a b) != (aH ((aH ((aH (g - (ix a (aH ((a.length:Int) - 1))))).tdiv e))+1))))=true then (
 some (([]:List Int),([]:List pair),false))
 else (
 (Z1n a b g).bind fun h =>
 if (0≤(0:Int)∧(0:Int)≤(aH ((a.length:Int) - 1))∧(aH ((a.length:Int) - 1))≤(h.length:Int)) then
 (Zd (sub h (0:Int) (aH ((a.length:Int) - 1)))).bind fun j =>
 if (!j)=true then (
 some (([]:List Int),([]:List pair),false))
 else (
 if (0≤b∧b<(a.length:Int)) then
 if ((ix a b)==1)=true then (
 Z5_J1 a b g h (0:Int))
 else (
 Z5_J1 a b g h e)
 else none)
 else none)
 else none
 else none
 else none
 else none
def Z22 (p1:(List Int))(b:(List Int)):Option ((List Int)×(List pair)×Bool) :=
 if (0≤(0:Int)∧(0:Int)<(p1.length:Int)) then
 if (0≤(1:Int)∧(1:Int)<(p1.length:Int)) then
 if (0≤(2:Int)∧(2:Int)<(p1.length:Int)) then
 (Z5 b (ix p1 0) (ix p1 1) (ix p1 2)).bind fun a =>
 some (a.1,a.2.1,a.2.2)
 else none
 else none
 else none
def Z2t (g:Node)(a:(List Int))(h:Int)(e:Int):Option ((List Int)×(List pair)×Bool) :=
 if ((decide ((g.Ints.length:Int)<h))||(decide ((g.Ints.length:Int)>e)))=true then (
 some (([]:List Int),([]:List pair),false))
 else (
 (Z22 g.Ints a).bind fun b =>
 some (b.1,b.2.1,b.2.2))
def Z1t (k1:shiftKind)(h:Int)(e:Int)(g:Node)(a:(List (List Int))):Option ((List Int)×Bool) :=
 if ((a.length:Int) != 1)=true then (
 some (([]:List Int),false))
 else (
 if (0≤(0:Int)∧(0:Int)<(a.length:Int)) then
 (Z2t g (ix a 0) h e).bind fun b =>
 some (b.1,b.2.2)
 else none)
def bO (r:kindOfR)(b:Node)(a:(List (List Int))):Option ((List Int)×Bool) :=
 if Nat.beq r.t 0=true then none else (if Nat.beq r.t 1=true then Z1m (⟨r.b0⟩:leafKind) b a else (if Nat.beq r.t 2=true then Z24 (⟨r.i0⟩:pairKind) b a else (if Nat.beq r.t 3=true then Z2w (⟨r.i0⟩:soloKind) b a else (if Nat.beq r.t 4=true then Z1y (⟨⟩:topKind) b a else (if Nat.beq r.t 5=true then Z2v (⟨⟩:formKind) b a else (if Nat.beq r.t 6=true then Z1u (⟨r.s0⟩:shiftKind) b a else (if Nat.beq r.t 7=true then Z25 (⟨r.s0⟩:shiftKind) b a else (if Nat.beq r.t 8=true then Z1q (⟨r.s0⟩:shiftKind) r.i0 r.i1 b a else (if Nat.beq r.t 9=true then Z1r (⟨r.s0⟩:shiftKind) r.i0 r.i1 b a else (if Nat.beq r.t 10=true then Z1s (⟨r.s0⟩:shiftKind) r.i0 r.i1 b a else (Z1t (⟨r.s0⟩:shiftKind) r.i0 r.i1 b a)))))))))))
def Zf_J1 (g:Node)(e:kindOfR)(a:(List (List Int))):Option ((List Int)×Bool) :=
 (bO e g a).bind fun b =>
 some (b.1,b.2)
def Zf_L1 (g:Node)(a:(List (List Int)))(e:(List (List Int)))(b:Int):Option (((List (List Int))×Int)⊕(((List Int)×Bool)⊕((List (List Int))))) :=
 if (decide (b<(g.Args.length:Int)))=true then (
 if (0≤b∧b<(g.Args.length:Int)) then
 if ((decide ((ix g.Args b)<0))||(decide ((ix g.Args b)≥(a.length:Int))))=true then (
 some (.inr (.inl (([]:List Int),false))))
 else (
 if (0≤(ix g.Args b)∧(ix g.Args b)<(a.length:Int)) then
 if e.length+([(ix a (ix g.Args b))]:List (List Int)).length≤5864062014805 then
 some (.inl ((e++([(ix a (ix g.Args b))]:List (List Int))),(aH (b+1))))
 else none
 else none)
 else none)
 else (
 some (.inr (.inr e)))
def Zf (g:Node)(a:(List (List Int))):Option ((List Int)×Bool) :=
 (Zz g.Op).bind fun b =>
 (bQ (!(Nat.beq b.t 0)) (fN b)).bind fun h =>
 (bQ (!(Nat.beq b.t 0)) (Z1x g h)).bind fun i =>
 if (((Nat.beq b.t 0)||(!i))||(decide ((g.Args.length:Int)>6)))=true then (
 some (([]:List Int),false))
 else (
 (aR (fun s:(List (List Int))×Int=>Zf_L1 g a s.1 s.2) (([]:List (List Int)),(0:Int))).bind fun e=>match e with
 | .inl e=>some e
 | .inr e=>Zf_J1 g b e)
def Zk_J2 (a:(List (List Int))):Option ((List (List Int))×Bool) :=
 some (a,true)
def Zk_L2 (g1:Graph)(a:Int):Option ((Int)⊕(((List (List Int))×Bool)⊕(Unit))) :=
 if (decide (a<(g1.Outs.length:Int)))=true then (
 if (0≤a∧a<(g1.Outs.length:Int)) then
 if ((decide ((ix g1.Outs a)<0))||(decide ((ix g1.Outs a)≥(g1.Nodes.length:Int))))=true then (
 some (.inr (.inl (([]:List (List Int)),false))))
 else (
 some (.inl (aH (a+1))))
 else none)
 else (
 some (.inr (.inr ())))
def Zk_J1 (g1:Graph)(a:(List (List Int))):Option ((List (List Int))×Bool) :=
 (aR (fun s:Int=>Zk_L2 g1 s) (0:Int)).bind fun e=>match e with
 | .inl e=>some e
 | .inr e=>Zk_J2 a
def Zk_L1 (g1:Graph)(b:(List (List Int)))(a:Int):Option (((List (List Int))×Int)⊕(((List (List Int))×Bool)⊕((List (List Int))))) :=
 if (decide (a<(g1.Nodes.length:Int)))=true then (
 if (0≤a∧a<(g1.Nodes.length:Int)) then
 (Zf (ix g1.Nodes a) b).bind fun e =>
 if (!e.2)=true then (
 some (.inr (.inl (([]:List (List Int)),false))))
 else (
 if b.length+([e.1]:List (List Int)).length≤5864062014805 then
 some (.inl ((b++([e.1]:List (List Int))),(aH (a+1))))
 else none)
 else none)
 else (
 some (.inr (.inr b)))
def Zk (g1:Graph):Option ((List (List Int))×Bool) :=
 if ((decide ((g1.Nodes.length:Int)>200))||(decide ((g1.Outs.length:Int)>40)))=true then (
 some (([]:List (List Int)),false))
 else (
 (aR (fun s:(List (List Int))×Int=>Zk_L1 g1 s.1 s.2) (([]:List (List Int)),(0:Int))).bind fun e=>match e with
 | .inl e=>some e
 | .inr e=>Zk_J1 g1 e)
def Z2m (g1:Graph):Option (Bool) :=
 (Zk g1).bind fun a =>
 some a.2
def Zx_J1:Option (Bool) :=
 some true
def Zx_L1 (b:(List Int))(e:(List Int))(a:Int):Option ((Int)⊕((Bool)⊕(Unit))) :=
 if (decide (a<(b.length:Int)))=true then (
 if (0≤a∧a<(b.length:Int)) then
 if (0≤a∧a<(e.length:Int)) then
 if ((ix b a) != (ix e a))=true then (
 some (.inr (.inl false)))
 else (
 some (.inl (aH (a+1))))
 else none
 else none)
 else (
 some (.inr (.inr ())))
def Zx (b:(List Int))(a:(List Int)):Option (Bool) :=
 if ((b.length:Int) != (a.length:Int))=true then (
 some false)
 else (
 (aR (fun s:Int=>Zx_L1 b a s) (0:Int)).bind fun e=>match e with
 | .inl e=>some e
 | .inr e=>Zx_J1)
def Z2j (a:Node)(b:Node):Option (Bool) :=
 if (a.Op != b.Op)=true then (
 some false)
 else (
 (Zx a.Args b.Args).bind fun g =>
 if (!g)=true then (
 some false)
 else (
 (Zx a.Dims b.Dims).bind fun h =>
 if (!h)=true then (
 some false)
 else (
 (Zx a.Ints b.Ints).bind fun i =>
 if (!i)=true then (
 some false)
 else (
 if (!(a.Form==b.Form))=true then (
 some false)
 else (
 (Zx a.Data b.Data).bind fun e =>
 if (!e)=true then (
 some false)
 else (
 some true))))))
def Z1f_J1:Option (Bool) :=
 some true
def Z1f_L1 (e:(List Node))(g:(List Node))(a:Int):Option ((Int)⊕((Bool)⊕(Unit))) :=
 if (decide (a<(e.length:Int)))=true then (
 if (0≤a∧a<(e.length:Int)) then
 if (0≤a∧a<(g.length:Int)) then
 (Z2j (ix e a) (ix g a)).bind fun b =>
 if (!b)=true then (
 some (.inr (.inl false)))
 else (
 some (.inl (aH (a+1))))
 else none
 else none)
 else (
 some (.inr (.inr ())))
def Z1f (b:(List Node))(a:(List Node)):Option (Bool) :=
 if ((b.length:Int) != (a.length:Int))=true then (
 some false)
 else (
 (aR (fun s:Int=>Z1f_L1 b a s) (0:Int)).bind fun e=>match e with
 | .inl e=>some e
 | .inr e=>Z1f_J1)
def Z2i (b:Graph)(e:Graph):Option (Bool) :=
 (Z1f b.Nodes e.Nodes).bind fun g =>
 if (!g)=true then (
 some false)
 else (
 (Zx b.Outs e.Outs).bind fun a =>
 if (!a)=true then (
 some false)
 else (
 some true))
def Zv_J1 (b:Int)(a:(List Int)):Option (Int×(List Int)) :=
 some (b,a)
def Zv_L1 (e:(List Int))(g:(List Int))(b:Int)(a:Int):Option (((List Int)×Int×Int)⊕(Int×(List Int))) :=
 if (decide (a<(e.length:Int)))=true then (
 if (0≤a∧a<(e.length:Int)) then
 some (.inl ((g.set a.toNat b),(aH (b+1)),(aH (a+1))))
 else none)
 else (
 some (.inr (b,g)))
def Zv (a:(List Int))(b:Int):Option (Int×(List Int)) :=
 (aR (fun s:(List Int)×Int×Int=>Zv_L1 a s.1 s.2.1 s.2.2) (a,b,(0:Int))).bind fun e=>Zv_J1 e.1 e.2
def Z0o_J1 (a:aM):Option (aM) :=
 if str8.length+a.length≤9223372036854775807 then
 some (str8++a)
 else none
def Z0o_L1 (a:Int)(b:aM):Option ((Int×aM)⊕(aM)) :=
 if (decide (a>0))=true then (
 if (nv ([(IntKind.wrap .u8 ((aH ((48:Int)+(a.tmod (10:Int))))))]:List Int)).length+b.length≤9223372036854775807 then
 some (.inl ((aH (a.tdiv (10:Int))),((nv ([(IntKind.wrap .u8 ((aH ((48:Int)+(a.tmod (10:Int))))))]:List Int))++b)))
 else none)
 else (
 some (.inr b))
def Z0o (k1:Int):Option (aM) :=
 if (decide (k1≤0))=true then (
 some yt)
 else (
 (aR (fun s:Int×aM=>Z0o_L1 s.1 s.2) (k1,([]:aM))).bind fun e=>Z0o_J1 e)
def Z0m_J1 (a:Int)(b:(List Node)):Option (Int×(List Node)) :=
 some (a,b)
def Z0m_L1 (B:(List Node))(a46:(List Node))(l:Int)(a:Int):Option (((List Node)×Int×Int)⊕(Int×(List Node))) :=
 if (decide (a<(B.length:Int)))=true then (
 if (0≤a∧a<(B.length:Int)) then
 (nm (a46.set a.toNat (⟨l,(ix a46 a).Args,(ix a46 a).Dims,(ix a46 a).Ints,(ix a46 a).Form,(ix a46 a).Data⟩:Node))).bind fun e =>
 (Zv ((ix e a).Args) (aH (l+1))).bind fun q =>
 (nm (e.set a.toNat (⟨(ix e a).Op,q.2,(ix e a).Dims,(ix e a).Ints,(ix e a).Form,(ix e a).Data⟩:Node))).bind fun h =>
 (Zv ((ix h a).Dims) q.1).bind fun r =>
 (nm (h.set a.toNat (⟨(ix h a).Op,(ix h a).Args,r.2,(ix h a).Ints,(ix h a).Form,(ix h a).Data⟩:Node))).bind fun b =>
 (Zv ((ix b a).Ints) r.1).bind fun j =>
 (nm (b.set a.toNat (⟨(ix b a).Op,(ix b a).Args,(ix b a).Dims,j.2,(ix b a).Form,(ix b a).Data⟩:Node))).bind fun i =>
 (Z0o j.1).bind fun u =>
 (nm (i.set a.toNat (⟨(ix i a).Op,(ix i a).Args,(ix i a).Dims,(ix i a).Ints,u,(ix i a).Data⟩:Node))).bind fun g =>
 (Zv ((ix g a).Data) (aH (j.1+1))).bind fun m =>
 (nm (g.set a.toNat (⟨(ix g a).Op,(ix g a).Args,(ix g a).Dims,(ix g a).Ints,(ix g a).Form,m.2⟩:Node))).bind fun s =>
 some (.inl (s,m.1,(aH (a+1))))
 else none)
 else (
 some (.inr (l,a46)))
def Z0m (a:(List Node))(b:Int):Option (Int×(List Node)) :=
 (aR (fun s:(List Node)×Int×Int=>Z0m_L1 a s.1 s.2.1 s.2.2) (a,b,(0:Int))).bind fun e=>Z0m_J1 e.1 e.2
def Z26 (b:Graph)(g:Int):Option (Int×(List Node)×(List Int)) :=
 (Z0m b.Nodes g).bind fun a =>
 (Zv b.Outs a.1).bind fun e =>
 some (e.1,a.2,e.2)
def Z0d_J1 (a:Int):Option (Int) :=
 some a
def Z0d_L1 (b:(List Int))(e:Int)(a:Int):Option ((Int×Int)⊕((Int)⊕(Int))) :=
 if (decide (a<(b.length:Int)))=true then (
 if (0≤a∧a<(b.length:Int)) then
 if ((ix b a) != e)=true then (
 some (.inr (.inl (-1:Int))))
 else (
 some (.inl ((aH (e+1)),(aH (a+1)))))
 else none)
 else (
 some (.inr (.inr e)))
def Z0d (b:(List Int))(a:Int):Option (Int) :=
 (aR (fun s:Int×Int=>Z0d_L1 b s.1 s.2) (a,(0:Int))).bind fun e=>match e with
 | .inl e=>some e
 | .inr e=>Z0d_J1 e
def Z4_J6 (a:Int):Option (Int) :=
 if (decide (a>1000))=true then (
 some (-1:Int))
 else (
 some a)
def Z4_J5 (b:Int)(a:Int)(e:Bool):Option (Int) :=
 if e=true then (
 Z4_J6 b)
 else (
 Z4_J6 a)
def Z4_J4 (g:Node)(b:Int)(a:Int)(e:Bool):Option (Int) :=
 if e=true then (
 if (decide (b>0))=true then (
 some (-1:Int))
 else (
 Z4_J6 a))
 else (
 if (g.Op==5)=true then (
 Z4_J5 b a (g.Op==5))
 else (
 Z4_J5 b a (g.Op==11)))
def Z4_J3 (e:Node)(b:Int)(a:Int):Option (Int) :=
 if (e.Op==1)=true then (
 some (1:Int))
 else (
 if (e.Op==7)=true then (
 Z4_J4 e b a (e.Op==7))
 else (
 if (e.Op==8)=true then (
 Z4_J4 e b a (e.Op==8))
 else (
 if (e.Op==9)=true then (
 Z4_J4 e b a (e.Op==9))
 else (
 Z4_J4 e b a (e.Op==10)))))
def Z4_J2 (g:(List Int))(b:Int)(e:Int)(a:Int):Option ((Int×Int×Int)⊕((Int)⊕(Int×Int))) :=
 some (.inl ((aH (b+(ix g e))),a,(aH (e+1))))
def Z4_L1 (g:(List Int))(e:Int)(a:Int)(b:Int):Option ((Int×Int×Int)⊕((Int)⊕(Int×Int))) :=
 if (decide (b<(g.length:Int)))=true then (
 if (0≤b∧b<(g.length:Int)) then
 if (decide ((ix g b)<0))=true then (
 some (.inr (.inl (-1:Int))))
 else (
 if (decide ((ix g b)>a))=true then (
 Z4_J2 g e b (ix g b))
 else (
 Z4_J2 g e b a))
 else none)
 else (
 some (.inr (.inr (e,a))))
def Z4 (b:Node)(a:(List Int)):Option (Int) :=
 (aR (fun s:Int×Int×Int=>Z4_L1 a s.1 s.2.1 s.2.2) ((0:Int),(0:Int),(0:Int))).bind fun e=>match e with
 | .inl e=>some e
 | .inr e=>Z4_J3 b e.1 e.2
def Zi_J3 (a:(List Int)):Option ((List Int)) :=
 some a
def Zi_J2 (g1:Graph)(e:(List Int))(a:Int)(g:(List Int)):Option (((List Int)×Int)⊕((List Int))) :=
 if (0≤a∧a<(g1.Nodes.length:Int)) then
 (Z4 (ix g1.Nodes a) g).bind fun b =>
 if e.length+([b]:List Int).length≤17592186044416 then
 some (.inl ((e++([b]:List Int)),(aH (a+1))))
 else none
 else none
def Zi_L2 (g1:Graph)(g:(List Int))(b:Int)(e:(List Int))(a:Int):Option (((List Int)×Int)⊕((List Int))) :=
 if (0≤b∧b<(g1.Nodes.length:Int)) then
 if (decide (a<(((ix g1.Nodes b).Args).length:Int)))=true then (
 if (0≤a∧a<(((ix g1.Nodes b).Args).length:Int)) then
 if (0≤(ix ((ix g1.Nodes b).Args) a)∧(ix ((ix g1.Nodes b).Args) a)<(g.length:Int)) then
 if e.length+([(ix g (ix ((ix g1.Nodes b).Args) a))]:List Int).length≤17592186044416 then
 some (.inl ((e++([(ix g (ix ((ix g1.Nodes b).Args) a))]:List Int)),(aH (a+1))))
 else none
 else none
 else none)
 else (
 some (.inr e))
 else none
def Zi_L1 (g1:Graph)(g:Bool)(a:(List Int))(b:Int):Option (((List Int)×Int)⊕((List Int))) :=
 if ((decide (b<(g1.Nodes.length:Int)))&&g)=true then (
 (aR (fun s:(List Int)×Int=>Zi_L2 g1 a b s.1 s.2) (([]:List Int),(0:Int))).bind fun e=>Zi_J2 g1 a b e)
 else (
 some (.inr a))
def Zi (g1:Graph):Option ((List Int)) :=
 (Z30 g1).bind fun a =>
 (aR (fun s:(List Int)×Int=>Zi_L1 g1 a s.1 s.2) (([]:List Int),(0:Int))).bind fun e=>Zi_J3 e
def Z34 (a:Int)(b:(List Int)):Option (Int) :=
 if (0≤a∧a<(b.length:Int)) then
 some (ix b a)
 else none
def Z0q_J1 (a:(List Int)):Option ((List Int)) :=
 some a
def Z0q_L1 (a:(List Int))(h:(List Int))(e:(List Int))(b:Int):Option (((List Int)×Int)⊕((List Int))) :=
 if (decide (b<(a.length:Int)))=true then (
 if (0≤b∧b<(a.length:Int)) then
 (Z34 (ix a b) h).bind fun g =>
 if (0≤b∧b<((List.replicate (a.length:Int).toNat (0:Int)).length:Int)) then
 some (.inl ((e.set b.toNat g),(aH (b+1))))
 else none
 else none)
 else (
 some (.inr e))
def Z0q (a:(List Int))(b:(List Int)):Option ((List Int)) :=
 if (0≤(a.length:Int)∧(a.length:Int)≤140737488355328∧8*(a.length:Int)≤281474976710656) then
 (aR (fun s:(List Int)×Int=>Z0q_L1 a b s.1 s.2) ((List.replicate (a.length:Int).toNat (0:Int)),(0:Int))).bind fun e=>Z0q_J1 e
 else none
def Z0p_J1:Option (Int) :=
 some (-1:Int)
def Z0p_L1 (p1:(List Int))(v3:Int)(a:Int):Option ((Int)⊕((Int)⊕(Unit))) :=
 if (decide (a<(p1.length:Int)))=true then (
 if (0≤a∧a<(p1.length:Int)) then
 if (v3==(ix p1 a))=true then (
 some (.inr (.inl a)))
 else (
 some (.inl (aH (a+1))))
 else none)
 else (
 some (.inr (.inr ())))
def Z0p (p1:(List Int))(v3:Int):Option (Int) :=
 (aR (fun s:Int=>Z0p_L1 p1 v3 s) (0:Int)).bind fun e=>match e with
 | .inl e=>some e
 | .inr e=>Z0p_J1
def Z2z (p1:(List Int))(v3:Int):Option (Bool) :=
 (Z0p p1 v3).bind fun a =>
 some (decide (a≥0))
def Z17_J1 (a:Int):Option (Int) :=
 some a
def Z17_L1 (p1:(List Int))(b:Int)(a:Int):Option ((Int×Int)⊕(Int)) :=
 if (decide (a<(p1.length:Int)))=true then (
 if (0≤a∧a<(p1.length:Int)) then
 some (.inl ((if (ix p1 a)>b then (ix p1 a) else b),(aH (a+1))))
 else none)
 else (
 some (.inr b))
def Z17 (p1:(List Int)):Option (Int) :=
 if (decide ((p1.length:Int)<1))=true then (
 none)
 else (
 if (0≤(0:Int)∧(0:Int)<(p1.length:Int)) then
 (aR (fun s:Int×Int=>Z17_L1 p1 s.1 s.2) ((ix p1 0),(1:Int))).bind fun e=>Z17_J1 e
 else none)
def Zb_J2 (a:Int):Option (Int) :=
 if (decide (a>1000))=true then (
 some (-1:Int))
 else (
 some a)
def Zb_L1 (a:(List Int))(e:Int)(b:Int):Option ((Int×Int)⊕(Int)) :=
 if (decide (b<(a.length:Int)))=true then (
 if (0≤b∧b<(a.length:Int)) then
 some (.inl ((aH (e+(ix a b))),(aH (b+1))))
 else none)
 else (
 some (.inr e))
def Zb_J3 (a:(List Int))(e:Bool):Option (Int) :=
 if e=true then (
 if (0≤(0:Int)∧(0:Int)<(a.length:Int)) then
 if ((ix a 0) != 0)=true then (
 some (-1:Int))
 else (
 some (0:Int))
 else none)
 else (
 (Z17 a).bind fun b =>
 some b)
def Zb_J1 (b:Node)(a:(List Int))(g:Bool):Option (Int) :=
 if g=true then (
 (aR (fun s:Int×Int=>Zb_L1 a s.1 s.2) ((0:Int),(0:Int))).bind fun e=>Zb_J2 e)
 else (
 if (b.Op==7)=true then (
 Zb_J3 a (b.Op==7))
 else (
 if (b.Op==8)=true then (
 Zb_J3 a (b.Op==8))
 else (
 if (b.Op==9)=true then (
 Zb_J3 a (b.Op==9))
 else (
 Zb_J3 a (b.Op==10)))))
def Zb (b:Node)(a:(List Int)):Option (Int) :=
 (Z2z a (-1:Int)).bind fun e =>
 if e=true then (
 some (-1:Int))
 else (
 if (b.Op==1)=true then (
 some (1:Int))
 else (
 if (b.Op==2)=true then (
 some (0:Int))
 else (
 if (b.Op==5)=true then (
 Zb_J1 b a (b.Op==5))
 else (
 Zb_J1 b a (b.Op==11)))))
def Z0c_J1 (a:(List Int)):Option ((List Int)) :=
 some a
def Z0c_L1 (g1:Graph)(b:(List Int))(a:Int):Option (((List Int)×Int)⊕((List Int))) :=
 if (decide (a<(g1.Nodes.length:Int)))=true then (
 if (0≤a∧a<(g1.Nodes.length:Int)) then
 (Z0q ((ix g1.Nodes a).Args) b).bind fun g =>
 (Zb (ix g1.Nodes a) g).bind fun e =>
 if b.length+([e]:List Int).length≤17592186044416 then
 some (.inl ((b++([e]:List Int)),(aH (a+1))))
 else none
 else none)
 else (
 some (.inr b))
def Z0c (g1:Graph):Option ((List Int)) :=
 (Z2m g1).bind fun a =>
 if (!a)=true then (
 some ([]:List Int))
 else (
 (aR (fun s:(List Int)×Int=>Z0c_L1 g1 s.1 s.2) (([]:List Int),(0:Int))).bind fun e=>Z0c_J1 e)
def Z3a (a:Graph):Option (Bool) :=
 (Z2x a (1048576:Int)).bind fun F =>
 if (decide (F<0))=true then (
 some true)
 else (
 (Z1b a).bind fun E =>
 (Zi E).bind fun e =>
 (Z1b a).bind fun h =>
 (Z0c h).bind fun g =>
 (Zx g e).bind fun q =>
 if (!q)=true then (
 some false)
 else (
 (Z1b a).bind fun m =>
 (Z2i h m).bind fun B =>
 if (!B)=true then (
 some false)
 else (
 (Z26 h (1:Int)).bind fun i =>
 (bQ (!(decide (i.1<0))) (Zx g e)).bind fun D =>
 if ((decide (i.1<0))||(!D))=true then (
 some false)
 else (
 (Zv g (1:Int)).bind fun b =>
 (Z0d b.2 (1:Int)).bind fun l =>
 if (decide (l<0))=true then (
 some false)
 else (
 if (l != b.1)=true then (
 some false)
 else (
 (Z1b a).bind fun u =>
 (Z0c u).bind fun r =>
 (Zx r e).bind fun s =>
 if (!s)=true then (
 some false)
 else (
 (Z0d b.2 (1:Int)).bind fun j =>
 if (decide (j<0))=true then (
 some false)
 else (
 if (j != b.1)=true then (
 some false)
 else (
 some true)))))))))
end
end Go.Proofs.YtmpnollfdpdipaaGreat
