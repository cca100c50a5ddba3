import Derived.Test.YtoffdamdpmeoiaaGreatDoorBkH
set_option linter.unusedVariables false
namespace Go.Proofs.YtoffdamdpmeoiaaGreatDoor
open Go Go.Pg
noncomputable section
def Z1q (b:List Int)(a:Int):Option Int :=
 if decide ((aI (a - (b.length:Int)))<0)=true then
 some (-1:Int)
 else
 some (aI (a - (b.length:Int)))
def Z2u (e:Node)(a:Int):Option Int :=
 (Z1q e.Args a).bind fun j =>
 if decide (j<0)=true then
 some (-1:Int)
 else
 (Z1q e.Dims j).bind fun h =>
 if decide (h<0)=true then
 some (-1:Int)
 else
 (Z1q e.Ints h).bind fun b =>
 if decide (b<0)=true then
 some (-1:Int)
 else
 if decide ((aI (b - (e.Form.length:Int)))<0)=true then
 some (-1:Int)
 else
 (Z1q e.Data (aI (b - (e.Form.length:Int)))).bind fun i =>
 if decide (i<0)=true then
 some (-1:Int)
 else
 some i
def Z1h_J1 (a:Int):Option Int :=
 some a
def Z1h_L1 (h:List Node)(a:Int)(b:Int):Option ((Int×Int)⊕((Int)⊕(Int))) :=
 if decide (b<(h.length:Int))=true then
 if (0≤b∧b<(h.length:Int)) then
 (Z2u (ix h b) a).bind fun e =>
 if decide (e<0)=true then
 some (.inr (.inl (-1:Int)))
 else
 some (.inl (e,(aI (b+1))))
 else none
 else
 some (.inr (.inr a))
def Z1h (b:List Node)(a:Int):Option Int :=
 if decide ((aI (a - (b.length:Int)))<0)=true then
 some (-1:Int)
 else (
 (aQ (fun s:Int×Int=>Z1h_L1 b s.1 s.2) ((aI (a - (b.length:Int))),(0:Int))).bind fun e=>match e with
 | .inl e=>some e
 | .inr e=>Z1h_J1 e)
def Z36 (b:Graph)(a:Int):Option Int :=
 (Z1h b.Nodes a).bind fun e =>
 if decide (e<0)=true then
 some (-1:Int)
 else
 (Z1q b.Outs e).bind fun h =>
 if decide (h<0)=true then
 some (-1:Int)
 else
 some h
def Z0d_J1 (a:List Int):Option (List Int) :=
 some a
def Z0d_L1 (e:List Int)(b:List Int)(a:Int):Option (((List Int)×Int)⊕((List Int))) :=
 if decide (a<(e.length:Int))=true then
 if (0≤a∧a<(e.length:Int)) then
 if (0≤a∧a<((List.replicate (e.length:Int).toNat (0:Int)).length:Int)) then
 some (.inl ((b.set a.toNat (ix e a)),(aI (a+1))))
 else none
 else none
 else
 some (.inr b)
def Z0d (a:List Int):Option (List Int) :=
 if (0≤(a.length:Int)∧(a.length:Int)≤140737488355328∧8*(a.length:Int)≤281474976710656) then
 (aQ (fun s:(List Int)×Int=>Z0d_L1 a s.1 s.2) ((List.replicate (a.length:Int).toNat (0:Int)),(0:Int))).bind fun e=>Z0d_J1 e
 else none
def Z37 (a:Node):Option Node :=
 (Z0d a.Args).bind fun i =>
 (Z0d a.Dims).bind fun b =>
 (Z0d a.Ints).bind fun e =>
 (Z0d a.Data).bind fun h =>
 some (⟨a.Op,i,b,e,a.Form,h⟩:Node)
def Z0w_J1 (a:List Node):Option (List Node) :=
 some a
def Z0w_L1 (b:List Node)(a:List Node)(i25:Int):Option (((List Node)×Int)⊕((List Node))) :=
 if decide (i25<(b.length:Int))=true then
 if (0≤i25∧i25<(b.length:Int)) then
 (Z37 (ix b i25)).bind fun e =>
 if (0≤i25∧i25<((List.replicate (b.length:Int).toNat zT42.z).length:Int)) then
 some (.inl ((a.set i25.toNat e),(aI (i25+1))))
 else none
 else none
 else
 some (.inr a)
def Z0w (a:List Node):Option (List Node) :=
 if (0≤(a.length:Int)∧(a.length:Int)≤140737488355328∧120*(a.length:Int)≤281474976710656) then
 (aQ (fun s:(List Node)×Int=>Z0w_L1 a s.1 s.2) ((List.replicate (a.length:Int).toNat zT42.z),(0:Int))).bind fun e=>Z0w_J1 e
 else none
def Z1i (b:Graph):Option Graph :=
 (Z0w b.Nodes).bind fun e =>
 (Z0d b.Outs).bind fun a =>
 some (⟨e,a⟩:Graph)
def Z3a (a:Int):Option (Int×Int) :=
 if decide (a≤2)=true then
 some ((0:Int),(0:Int))
 else
 if decide (a≤5)=true then
 some ((2:Int),(2:Int))
 else
 if (a==11)=true then
 some ((1:Int),(6:Int))
 else
 some ((1:Int),(1:Int))
def Z3k (a:Int):Option Bool :=
 some ((((a==1)||(a==2))||(a==12))||(a==13))
def Z1k_J2 (a:Bool):Option Int :=
 if a=true then
 some (3:Int)
 else
 some (0:Int)
def Z1k_J1 (a:Int)(b:Bool):Option Int :=
 if b=true then
 some (4:Int)
 else
 if (a==16)=true then
 some (1:Int)
 else
 if (a==17)=true then
 some (2:Int)
 else
 if (a==18)=true then
 Z1k_J2 (a==18)
 else
 Z1k_J2 (a==19)
def Z1k (a:Int):Option Int :=
 if (a==10)=true then
 some (1:Int)
 else
 if (a==14)=true then
 Z1k_J1 a (a==14)
 else
 Z1k_J1 a (a==15)
def Z1f (a:Node):Option Bool :=
 if ((decide (a.Op<1))||(decide (a.Op>19)))=true then
 some false
 else
 (Z3a a.Op).bind fun h =>
 if ((decide ((a.Args.length:Int)<h.1))||(decide ((a.Args.length:Int)>h.2)))=true then
 some false
 else
 (Z3k a.Op).bind fun e =>
 if ((((!e)&&(decide ((a.Dims.length:Int)>0)))||((a.Op != 11)&&(!(a.Form==([]:aN)))))||((a.Op != 2)&&(decide ((a.Data.length:Int)>0))))=true then
 some false
 else
 (Z1k a.Op).bind fun b =>
 if ((a.Op==16)||(a.Op==17))=true then
 some ((decide ((a.Ints.length:Int)≥b))&&(decide ((a.Ints.length:Int)≤(aI (b+4096)))))
 else
 some ((a.Ints.length:Int)==b)
def Z0s_J1:Option Bool :=
 some true
def Z0s_L1 (a:List Int)(e:Int)(b:Int):Option ((Int)⊕((Bool)⊕(Unit))) :=
 if decide (b<(a.length:Int))=true then
 if (0≤b∧b<(a.length:Int)) then
 if ((decide ((ix a b)<0))||(decide ((ix a b)≥e)))=true then
 some (.inr (.inl false))
 else
 some (.inl (aI (b+1)))
 else none
 else
 some (.inr (.inr ()))
def Z0s (a:List Int)(b:Int):Option Bool :=
 (aQ (fun s:Int=>Z0s_L1 a b s) (0:Int)).bind fun e=>match e with
 | .inl e=>some e
 | .inr e=>Z0s_J1
def Zs_J1 (a:Int):Option Int :=
 some a
def Zs_L1 (a:List Int)(e:Int)(b:Int):Option ((Int×Int)⊕((Int)⊕(Int))) :=
 if decide (b<(a.length:Int))=true then
 if (0≤b∧b<(a.length:Int)) then
 if ((decide ((ix a b)<1))||(decide ((ix a b)>4096)))=true then
 some (.inr (.inl (0:Int)))
 else
 if decide ((aI (e*(ix a b)))>4096)=true then
 some (.inr (.inl (0:Int)))
 else
 some (.inl ((aI (e*(ix a b))),(aI (b+1))))
 else none
 else
 some (.inr (.inr e))
def Zs (a:List Int):Option Int :=
 (aQ (fun s:Int×Int=>Zs_L1 a s.1 s.2) ((1:Int),(0:Int))).bind fun e=>match e with
 | .inl e=>some e
 | .inr e=>Zs_J1 e
def Zq (a:List Int):Option Bool :=
 (bP (decide ((a.length:Int)≤6)) (Zs a)).bind fun b =>
 some ((decide ((a.length:Int)≤6))&&(decide (b>0)))
def Zv_J1:Option Bool :=
 some true
def Zv_L1 (t1:Tensor)(a:Int):Option ((Int)⊕((Bool)⊕(Unit))) :=
 if decide (a<(t1.Data.length:Int))=true then
 if (0≤a∧a<(t1.Data.length:Int)) then
 if ((decide ((ix t1.Data a)<0))||(decide ((ix t1.Data a)≥2147483647)))=true then
 some (.inr (.inl false))
 else
 some (.inl (aI (a+1)))
 else none
 else
 some (.inr (.inr ()))
def Zv (t1:Tensor):Option Bool :=
 (Zq t1.Dims).bind fun a =>
 (bP (!(!a)) (Zs t1.Dims)).bind fun b =>
 if ((!a)||((t1.Data.length:Int) != b))=true then
 some false
 else (
 (aQ (fun s:Int=>Zv_L1 t1 s) (0:Int)).bind fun e=>match e with
 | .inl e=>some e
 | .inr e=>Zv_J1)
def Zx (a:List Int):Option (List Int) :=
 if ([]:List Int).length+a.length≤17592186044416 then
 some (([]:List Int)++a)
 else none
def Z06_J1:Option Bool :=
 some true
def Z06_L1 (b:List Int)(e:List Int)(a:Int):Option ((Int)⊕((Bool)⊕(Unit))) :=
 if decide (a<(b.length:Int))=true then
 if (0≤a∧a<(b.length:Int)) then
 if (0≤a∧a<(e.length:Int)) then
 if ((ix b a) != (ix e a))=true then
 some (.inr (.inl false))
 else
 some (.inl (aI (a+1)))
 else none
 else none
 else
 some (.inr (.inr ()))
def Z06 (a:List Int)(b:List Int):Option Bool :=
 if ((a.length:Int) != (b.length:Int))=true then
 some false
 else (
 (aQ (fun s:Int=>Z06_L1 a b s) (0:Int)).bind fun e=>match e with
 | .inl e=>some e
 | .inr e=>Z06_J1)
def Z2j (a:List Int)(k3:Int):Option Int :=
 if decide (k3≥(a.length:Int))=true then
 some (1:Int)
 else
 if (0≤(aI ((aI ((a.length:Int) - 1)) - k3))∧(aI ((aI ((a.length:Int) - 1)) - k3))<(a.length:Int)) then
 some (ix a (aI ((aI ((a.length:Int) - 1)) - k3)))
 else none
def Z05_J4 (a:List Int):Option (List Int) :=
 (Zq a).bind fun b =>
 if (!b)=true then
 some ([]:List Int)
 else
 some a
def Z05_J3 (b:Int)(e:List Int)(a:Int)(h:Int):Option (((List Int)×Int)⊕(((List Int))⊕((List Int)))) :=
 if (0≤(aI ((aI (b - 1)) - a))∧(aI ((aI (b - 1)) - a))<((List.replicate b.toNat (0:Int)).length:Int)) then
 some (.inl ((e.set (aI ((aI (b - 1)) - a)).toNat h),(aI (a+1))))
 else none
def Z05_L1 (j:List Int)(l:List Int)(h:Int)(i:List Int)(a:Int):Option (((List Int)×Int)⊕(((List Int))⊕((List Int)))) :=
 if decide (a<h)=true then
 (Z2j j a).bind fun b =>
 (Z2j l a).bind fun e =>
 if (((b != e)&&(b != 1))&&(e != 1))=true then
 some (.inr (.inl ([]:List Int)))
 else
 if decide (e>b)=true then
 Z05_J3 h i a e
 else
 Z05_J3 h i a b
 else
 some (.inr (.inr i))
def Z05_J1 (b:List Int)(h:List Int)(a:Int):Option (List Int) :=
 if (0≤a∧a≤140737488355328∧8*a≤281474976710656) then
 (aQ (fun s:(List Int)×Int=>Z05_L1 b h a s.1 s.2) ((List.replicate a.toNat (0:Int)),(0:Int))).bind fun e=>match e with
 | .inl e=>some e
 | .inr e=>Z05_J4 e
 else none
def Z05 (a:List Int)(b:List Int):Option (List Int) :=
 (Zq a).bind fun e =>
 (bP (!(!e)) (Zq b)).bind fun h =>
 if ((!e)||(!h))=true then
 some ([]:List Int)
 else
 if decide ((b.length:Int)>(a.length:Int))=true then
 Z05_J1 a b (b.length:Int)
 else
 Z05_J1 a b (a.length:Int)
def Z0q (a:List Int):Option Tensor :=
 (Zx a).bind fun e =>
 (Zs a).bind fun b =>
 if (0≤b∧b≤140737488355328∧8*b≤281474976710656) then
 some (⟨e,(List.replicate b.toNat (0:Int))⟩:Tensor)
 else none
def Zm_J1 (a:List Int):Option (List Int) :=
 some a
def Zm_L1 (a:List Int)(e:Int)(h:List Int)(b:Int):Option ((Int×(List Int)×Int)⊕((List Int))) :=
 if decide (b≥0)=true then
 if (0≤b∧b<(a.length:Int)) then
 if (ix a b)≠0 then
 if (0≤b∧b<((List.replicate (a.length:Int).toNat (0:Int)).length:Int)) then
 some (.inl ((aI (e.tdiv (ix a b))),(h.set b.toNat (e.tmod (ix a b))),(aI (b - 1))))
 else none
 else none
 else none
 else
 some (.inr h)
def Zm (a:List Int)(k3:Int):Option (List Int) :=
 if (0≤(a.length:Int)∧(a.length:Int)≤140737488355328∧8*(a.length:Int)≤281474976710656) then
 (aQ (fun s:Int×(List Int)×Int=>Zm_L1 a s.1 s.2.1 s.2.2) (k3,(List.replicate (a.length:Int).toNat (0:Int)),(aI ((a.length:Int) - 1)))).bind fun e=>Zm_J1 e
 else none
def Z0t_J1 (a:Int):Option Int :=
 some a
def Z0t_L1 (b:List Int)(e:List Int)(h:Int)(a:Int):Option ((Int×Int)⊕(Int)) :=
 if decide (a<(b.length:Int))=true then
 if (0≤a∧a<(b.length:Int)) then
 if (0≤a∧a<(e.length:Int)) then
 some (.inl ((aI ((aI (h*(ix b a)))+(ix e a))),(aI (a+1))))
 else none
 else none
 else
 some (.inr h)
def Z0t (b:List Int)(a:List Int):Option Int :=
 (aQ (fun s:Int×Int=>Z0t_L1 b a s.1 s.2) ((0:Int),(0:Int))).bind fun e=>Z0t_J1 e
def Z1e (t1:Tensor)(a:List Int):Option Int :=
 (Z0t t1.Dims a).bind fun b =>
 if (0≤b∧b<(t1.Data.length:Int)) then
 some (ix t1.Data b)
 else none
def Z0f_J3 (t1:Tensor)(b:List Int):Option Int :=
 (Z1e t1 b).bind fun a =>
 some a
def Z0f_J2 (a:List Int)(e:Int)(b:Int):Option (((List Int)×Int)⊕((List Int))) :=
 if a.length+([b]:List Int).length≤17592186044416 then
 some (.inl ((a++([b]:List Int)),(aI (e+1))))
 else none
def Z0f_L1 (t1:Tensor)(a:List Int)(e:List Int)(b:Int):Option (((List Int)×Int)⊕((List Int))) :=
 if decide (b<(t1.Dims.length:Int))=true then
 if (0≤(aI ((aI ((a.length:Int) - (t1.Dims.length:Int)))+b))∧(aI ((aI ((a.length:Int) - (t1.Dims.length:Int)))+b))<(a.length:Int)) then
 if (0≤b∧b<(t1.Dims.length:Int)) then
 if ((ix t1.Dims b)==1)=true then
 Z0f_J2 e b (0:Int)
 else
 Z0f_J2 e b (ix a (aI ((aI ((a.length:Int) - (t1.Dims.length:Int)))+b)))
 else none
 else none
 else
 some (.inr e)
def Z0f (t1:Tensor)(a:List Int):Option Int :=
 (aQ (fun s:(List Int)×Int=>Z0f_L1 t1 a s.1 s.2) (([]:List Int),(0:Int))).bind fun e=>Z0f_J3 t1 e
def Zu_J1 (a:Int):Option Int :=
 some a
def Zu (p1:Int):Option Int :=
 if decide ((p1.tmod (2147483647:Int))<0)=true then
 Zu_J1 (aI ((p1.tmod (2147483647:Int))+2147483647))
 else
 Zu_J1 (p1.tmod (2147483647:Int))
def Z1n (b:Int):Option Int :=
 (Zu b).bind fun a =>
 if decide (a>1073741823)=true then
 some (aI (a - 2147483647))
 else
 some a
def Z1v (a:Int)(b:Int):Option Int :=
 (Zu a).bind fun e =>
 (Zu b).bind fun h =>
 (Zu (aI (e+h))).bind fun i =>
 some i
def Z2h (a:Int)(b:Int):Option Int :=
 (Zu a).bind fun e =>
 (Zu b).bind fun h =>
 (Zu (aI (e - h))).bind fun i =>
 some i
def Z1o (a:Int)(b:Int):Option Int :=
 (Zu a).bind fun e =>
 (Zu b).bind fun h =>
 (Zu (aI (e*h))).bind fun i =>
 some i
def Zw_J1 (a:Int):Option Int :=
 some a
def Zw_S (j:Int→Int→Option Int)(b:Int)(a:Int):Option Int :=
 if (a==0)=true then
 some (1:Int)
 else
 (j b (aI (a.tdiv (2:Int)))).bind fun e =>
 (Z1o e e).bind fun h =>
 if ((a.tmod (2:Int))==1)=true then
 (Z1o h b).bind fun i =>
 Zw_J1 i
 else
 Zw_J1 h
def Zw_R:Nat→Int→Int→Option Int
 | 0=>fun _ _=>none
 | n+1=>Zw_S (Zw_R n)
def Zw (a:Int)(b:Int):Option Int:=Zw_R oA a b
def Z2g (a:Int):Option Int :=
 (Zu a).bind fun b =>
 (Zw b (2147483645:Int)).bind fun e =>
 some e
def Z41 (a:Int)(b:Int):Option Int :=
 (Z2g b).bind fun e =>
 (Z1o a e).bind fun h =>
 some h
def Z1w_J1 (a:Bool):Option Int :=
 if a=true then
 some (1:Int)
 else
 some (0:Int)
def Z1w (a:Int)(b:Int)(e:Int):Option Int :=
 (Z1n b).bind fun l =>
 (Z1n e).bind fun q =>
 if (a==1)=true then
 (Z1v b e).bind fun r =>
 some r
 else
 if (a==2)=true then
 (Z2h b e).bind fun h =>
 some h
 else
 if (a==3)=true then
 (Z1o b e).bind fun i =>
 some i
 else
 if (a==4)=true then
 (Z41 b e).bind fun j =>
 some j
 else
 if (a==5)=true then
 if decide (l<q)=true then
 some e
 else
 some b
 else
 if (a==6)=true then
 if decide (l<q)=true then
 some b
 else
 some e
 else
 if (a==7)=true then
 Z1w_J1 (decide (l<q))
 else
 if (a==8)=true then
 Z1w_J1 (b==e)
 else
 Z1w_J1 false
def Z1a_J1 (a:Tensor)(b:List Int):Option Tensor :=
 some (⟨a.Dims,b⟩:Tensor)
def Z1a_L1 (i:Int)(s:Tensor)(u:Tensor)(j:List Int)(b:Tensor)(h:List Int)(a:Int):Option (((List Int)×Int)⊕((List Int))) :=
 if decide (a<(b.Data.length:Int))=true then
 (Zm j a).bind fun e =>
 (Z0f s e).bind fun l =>
 (Z0f u e).bind fun q =>
 (Z1w i l q).bind fun r =>
 if (0≤a∧a<(b.Data.length:Int)) then
 some (.inl ((h.set a.toNat r),(aI (a+1))))
 else none
 else
 some (.inr h)
def Z1a (b:Int)(j:Tensor)(l:Tensor):Option Tensor :=
 (Zv j).bind fun i =>
 (bP (!(!i)) (Zv l)).bind fun q =>
 if ((((!i)||(!q))||(decide (b<1)))||(decide (b>8)))=true then
 some (⟨([]:List Int),([]:List Int)⟩:Tensor)
 else
 (Z05 j.Dims l.Dims).bind fun a =>
 if ((decide ((a.length:Int)<(j.Dims.length:Int)))||(decide ((a.length:Int)<(l.Dims.length:Int))))=true then
 some (⟨([]:List Int),([]:List Int)⟩:Tensor)
 else
 (Z0q a).bind fun h =>
 (aQ (fun s:(List Int)×Int=>Z1a_L1 b j l a h s.1 s.2) (h.Data,(0:Int))).bind fun e=>Z1a_J1 h e
def Z39 (a:Int)(b:Int):Option Int :=
 if (a==1)=true then
 (Z2h (0:Int) b).bind fun e =>
 some e
 else
 if (a==2)=true then
 (Z2g b).bind fun h =>
 some h
 else
 (Z1n b).bind fun i =>
 if decide (i≤0)=true then
 some (0:Int)
 else
 if (a==3)=true then
 some (1:Int)
 else
 some b
def Z19_J1 (a:Tensor)(b:List Int):Option Tensor :=
 some (⟨a.Dims,b⟩:Tensor)
def Z19_L1 (b:Int)(i:Tensor)(e:Tensor)(a:List Int)(i27:Int):Option (((List Int)×Int)⊕((List Int))) :=
 if decide (i27<(i.Data.length:Int))=true then
 if (0≤i27∧i27<(i.Data.length:Int)) then
 (Z39 b (ix i.Data i27)).bind fun h =>
 if (0≤i27∧i27<(e.Data.length:Int)) then
 some (.inl ((a.set i27.toNat h),(aI (i27+1))))
 else none
 else none
 else
 some (.inr a)
def Z19 (a:Int)(h:Tensor):Option Tensor :=
 (Zv h).bind fun i =>
 if (((!i)||(decide (a<1)))||(decide (a>4)))=true then
 some (⟨([]:List Int),([]:List Int)⟩:Tensor)
 else
 (Z0q h.Dims).bind fun b =>
 (aQ (fun s:(List Int)×Int=>Z19_L1 a h b s.1 s.2) (b.Data,(0:Int))).bind fun e=>Z19_J1 b e
def Z1p (t1:Tensor)(a:Int):Option Bool :=
 (Zv t1).bind fun b =>
 some ((b&&(decide (a≥0)))&&(decide (a<(t1.Dims.length:Int))))
def Z0r (e:List Int)(a:Int)(h:Int):Option (List Int) :=
 (Zx e).bind fun b =>
 if (0≤a∧a<(b.length:Int)) then
 some (b.set a.toNat h)
 else none
def Z15_J1 (a:List Int):Option (List Int) :=
 some a
def Z15_L1 (t1:Tensor)(a:Int)(j:List Int)(e:List Int)(b:Int):Option (((List Int)×Int)⊕((List Int))) :=
 if (0≤a∧a<(t1.Dims.length:Int)) then
 if decide (b<(ix t1.Dims a))=true then
 (Z0r j a b).bind fun i =>
 (Z1e t1 i).bind fun h =>
 if e.length+([h]:List Int).length≤17592186044416 then
 some (.inl ((e++([h]:List Int)),(aI (b+1))))
 else none
 else
 some (.inr e)
 else none
def Z15 (t1:Tensor)(a:Int)(b:List Int):Option (List Int) :=
 (aQ (fun s:(List Int)×Int=>Z15_L1 t1 a b s.1 s.2) (([]:List Int),(0:Int))).bind fun e=>Z15_J1 e
def Zd_J9 (b:Tensor)(a:List Int):Option Tensor :=
 some (⟨b.Dims,a⟩:Tensor)
def Zd_J8 (b:Int)(a:List Int):Option (((List Int)×Int)⊕((List Int))) :=
 some (.inl (a,(aI (b+1))))
def Zd_J7 (h:Tensor)(e:List Int)(b:Int)(a:Bool):Option (((List Int)×Int)⊕((List Int))) :=
 if a=true then
 if (0≤b∧b<(h.Data.length:Int)) then
 Zd_J8 b (e.set b.toNat (1:Int))
 else none
 else
 Zd_J8 b e
def Zd_J6 (b:Int)(a:Bool):Option ((Bool×Int)⊕(Bool)) :=
 some (.inl (a,(aI (b+1))))
def Zd_L2 (t1:Tensor)(e:Int)(j:Int)(q:List Int)(l:List Int)(b:Bool)(a:Int):Option ((Bool×Int)⊕(Bool)) :=
 if decide (a<(l.length:Int))=true then
 if (0≤a∧a<(l.length:Int)) then
 (Z1n (ix l a)).bind fun h =>
 if (0≤j∧j<(t1.Data.length:Int)) then
 (Z1n (ix t1.Data j)).bind fun i =>
 if (decide (h>i))=false→(h==i)=true→(0≤e∧e<(q.length:Int)) then
 if ((decide (h>i))||((h==i)&&(decide (a<(ix q e)))))=true then
 Zd_J6 a false
 else
 Zd_J6 a b
 else none
 else none
 else none
 else
 some (.inr b)
def Zd_L1 (t1:Tensor)(a:Int)(j:Tensor)(i:List Int)(b:Int):Option (((List Int)×Int)⊕((List Int))) :=
 if decide (b<(t1.Data.length:Int))=true then
 (Zm t1.Dims b).bind fun h =>
 (Z15 t1 a h).bind fun l =>
 (aQ (fun s:Bool×Int=>Zd_L2 t1 a b h l s.1 s.2) (true,(0:Int))).bind fun e=>Zd_J7 j i b e
 else
 some (.inr i)
def Zd (t1:Tensor)(a:Int):Option Tensor :=
 (Z1p t1 a).bind fun h =>
 if (!h)=true then
 some (⟨([]:List Int),([]:List Int)⟩:Tensor)
 else
 (Z0q t1.Dims).bind fun b =>
 (aQ (fun s:(List Int)×Int=>Zd_L1 t1 a b s.1 s.2) (b.Data,(0:Int))).bind fun e=>Zd_J9 b e
def Z14_J1 (p1:aN):Option Bool :=
 some (decide ((p1.length:Int)≤6))
def Z14_L1 (p1:aN)(a:Int):Option ((Int)⊕((Bool)⊕(Unit))) :=
 if decide (a<(p1.length:Int))=true then
 if (0≤a∧a<(p1.length:Int)) then
 if ((decide ((bt p1 a)<97))||(decide ((bt p1 a)>122)))=true then
 some (.inr (.inl false))
 else
 some (.inl (aI (a+1)))
 else none
 else
 some (.inr (.inr ()))
def Z14 (p1:aN):Option Bool :=
 (aQ (fun s:Int=>Z14_L1 p1 s) (0:Int)).bind fun e=>match e with
 | .inl e=>some e
 | .inr e=>Z14_J1 p1
def Z13_J1:Option Bool :=
 some false
def Z13_L1 (p1:aN)(b:Int)(a:Int):Option ((Int)⊕((Bool)⊕(Unit))) :=
 if decide (a<(p1.length:Int))=true then
 if (0≤a∧a<(p1.length:Int)) then
 if ((bt p1 a)==b)=true then
 some (.inr (.inl true))
 else
 some (.inl (aI (a+1)))
 else none
 else
 some (.inr (.inr ()))
def Z13 (p1:aN)(a:Int):Option Bool :=
 (aQ (fun s:Int=>Z13_L1 p1 a s) (0:Int)).bind fun e=>match e with
 | .inl e=>some e
 | .inr e=>Z13_J1
def Z1_J8 (b:aN)(e:Int)(a:List aN):Option ((List aN)×aN×Bool) :=
 some (a,(sub b (aI (e+2)) (b.length:Int)),true)
def Z1_J7 (a:aN)(h:Int)(b:Int)(e:Bool):Option ((Int)⊕(((List aN)×aN×Bool)⊕(Unit))) :=
 if (!e)=false→(0≤(0:Int)∧(0:Int)≤b∧b≤((sub a (aI (h+2)) (a.length:Int)).length:Int)) then
 if (!e)=false→(0≤b∧b<((sub a (aI (h+2)) (a.length:Int)).length:Int)) then
 (bP (!(!e)) (Z13 (sub (sub a (aI (h+2)) (a.length:Int)) (0:Int) b) (bt (sub a (aI (h+2)) (a.length:Int)) b))).bind fun i =>
 if ((!e)||i)=true then
 some (.inr (.inl (([]:List aN),([]:aN),false)))
 else
 some (.inl (aI (b+1)))
 else none
 else none
def Z1_L5 (b:aN)(l:Int)(a:List aN)(i:Int)(h:Bool)(e:Int):Option ((Bool×Int)⊕(Bool)) :=
 if decide (e<(a.length:Int))=true then
 if h=false→(0≤e∧e<(a.length:Int)) then
 if h=false→(0≤i∧i<((sub b (aI (l+2)) (b.length:Int)).length:Int)) then
 (bP (!h) (Z13 (ix a e) (bt (sub b (aI (l+2)) (b.length:Int)) i))).bind fun j =>
 some (.inl ((h||j),(aI (e+1))))
 else none
 else none
 else
 some (.inr h)
def Z1_L4 (a:aN)(i:Int)(b:List aN)(h:Int):Option ((Int)⊕(((List aN)×aN×Bool)⊕(Unit))) :=
 if decide (h<((sub a (aI (i+2)) (a.length:Int)).length:Int))=true then
 (aQ (fun s:Bool×Int=>Z1_L5 a i b h s.1 s.2) (false,(0:Int))).bind fun e=>Z1_J7 a i h e
 else
 some (.inr (.inr ()))
def Z1_J5 (b:aN)(h:Int)(a:List aN):Option ((List aN)×aN×Bool) :=
 (aQ (fun s:Int=>Z1_L4 b h a s) (0:Int)).bind fun e=>match e with
 | .inl e=>some e
 | .inr e=>Z1_J8 b h a
def Z1_L3 (a:List aN)(b:Int):Option ((Int)⊕(((List aN)×aN×Bool)⊕(Unit))) :=
 if decide (b<(a.length:Int))=true then
 if (0≤b∧b<(a.length:Int)) then
 (Z14 (ix a b)).bind fun e =>
 if (!e)=true then
 some (.inr (.inl (([]:List aN),([]:aN),false)))
 else
 some (.inl (aI (b+1)))
 else none
 else
 some (.inr (.inr ()))
def Z1_J4 (b:aN)(h:Int)(a:List aN):Option ((List aN)×aN×Bool) :=
 if (0≤(aI (h+2))∧(aI (h+2))≤(b.length:Int)∧(b.length:Int)≤(b.length:Int)) then
 (bP (!(decide ((a.length:Int)>6))) (Z14 (sub b (aI (h+2)) (b.length:Int)))).bind fun i =>
 if ((decide ((a.length:Int)>6))||(!i))=true then
 some (([]:List aN),([]:aN),false)
 else (
 (aQ (fun s:Int=>Z1_L3 a s) (0:Int)).bind fun e=>match e with
 | .inl e=>some e
 | .inr e=>Z1_J5 b h a)
 else none
def Z1_J3 (b:Int)(a:List aN)(e:Int):Option (((List aN)×Int×Int)⊕((List aN))) :=
 some (.inl (a,e,(aI (b+1))))
def Z1_L2 (e:aN)(i:Int)(a:List aN)(h:Int)(b:Int):Option (((List aN)×Int×Int)⊕((List aN))) :=
 if decide (b≤i)=true then
 if (b==i)=false→(0≤b∧b<(e.length:Int)) then
 if ((b==i)||((bt e b)==44))=true then
 if (0≤h∧h≤b∧b≤(e.length:Int)) then
 if a.length+([(sub e h b)]:List aN).length≤8796093022208 then
 Z1_J3 b (a++([(sub e h b)]:List aN)) (aI (b+1))
 else none
 else none
 else
 Z1_J3 b a h
 else none
 else
 some (.inr a)
def Z1_J1 (a:aN)(b:Int):Option ((List aN)×aN×Bool) :=
 if decide ((aI (b+1))≥(a.length:Int))=true then
 some (([]:List aN),([]:aN),false)
 else
 (aQ (fun s:(List aN)×Int×Int=>Z1_L2 a b s.1 s.2.1 s.2.2) (([]:List aN),(0:Int),(0:Int))).bind fun e=>Z1_J4 a b e
def Z1_L1 (a:aN)(b:Int):Option ((Int)⊕(Int)) :=
 if decide ((aI (b+1))<(a.length:Int))=true→(0≤b∧b≤(aI (b+2))∧(aI (b+2))≤(a.length:Int)) then
 if ((decide ((aI (b+1))<(a.length:Int)))&&(!((sub a b (aI (b+2)))==str0)))=true then
 some (.inl (aI (b+1)))
 else
 some (.inr b)
 else none
def Z1 (a:aN):Option ((List aN)×aN×Bool) :=
 (aQ (fun s:Int=>Z1_L1 a s) (0:Int)).bind fun e=>Z1_J1 a e
def Z3_J12 (b:aN)(a:List Int):Option (aN×(List Int)×Bool) :=
 some (b,a,true)
def Z3_L4 (a:List Int)(e:Int)(b:Int):Option ((Int×Int)⊕((aN×(List Int)×Bool)⊕(Unit))) :=
 if decide (b<(a.length:Int))=true then
 if (0≤b∧b<(a.length:Int)) then
 if decide ((aI (e*(ix a b)))>65536)=true then
 some (.inr (.inl (([]:aN),a,false)))
 else
 some (.inl ((aI (e*(ix a b))),(aI (b+1))))
 else none
 else
 some (.inr (.inr ()))
def Z3_J11 (b:aN)(a:List Int):Option (aN×(List Int)×Bool) :=
 (aQ (fun s:Int×Int=>Z3_L4 a s.1 s.2) ((1:Int),(0:Int))).bind fun e=>match e with
 | .inl e=>some e
 | .inr e=>Z3_J12 b a
def Z3_J10 (e:Int)(b:aN)(a:List Int):Option ((aN×(List Int)×Int)⊕((aN×(List Int)×Bool)⊕(aN×(List Int)))) :=
 some (.inl (b,a,(aI (e+1))))
def Z3_J9 (h:List (List Int))(j:Int)(b:Int)(e:Int)(i:aN)(a:List Int):Option ((aN×(List Int)×Int)⊕((aN×(List Int)×Bool)⊕(aN×(List Int)))) :=
 if (0≤e∧e<(a.length:Int)) then
 if ((ix a e) != 0)=true→(0≤b∧b<((ix h j).length:Int)) then
 if (((ix a e) != 0)&&((ix a e) != (ix (ix h j) b)))=true then
 some (.inr (.inl (([]:aN),a,false)))
 else
 if (0≤b∧b<((ix h j).length:Int)) then
 some (.inl (i,(a.set e.toNat (ix (ix h j) b)),(aI (b+1))))
 else none
 else none
 else none
def Z3_J8 (h:List aN)(j:List (List Int))(i:Int)(a:aN)(b:List Int)(e:Int)(l:Int):Option ((aN×(List Int)×Int)⊕((aN×(List Int)×Bool)⊕(aN×(List Int)))) :=
 if (l==(a.length:Int))=true then
 if (0≤e∧e≤(aI (e+1))∧(aI (e+1))≤((ix h i).length:Int)) then
 if a.length+(sub (ix h i) e (aI (e+1))).length≤9223372036854775807 then
 if b.length+([(0:Int)]:List Int).length≤17592186044416 then
 Z3_J9 j i e l (a++(sub (ix h i) e (aI (e+1)))) (b++([(0:Int)]:List Int))
 else none
 else none
 else none
 else
 Z3_J9 j i e l a b
def Z3_L3 (e:List aN)(i:Int)(a:aN)(h:Int)(b:Int):Option ((Int)⊕(Int)) :=
 if decide (b<(a.length:Int))=true→(0≤b∧b<(a.length:Int)) then
 if decide (b<(a.length:Int))=true→(0≤h∧h<((ix e i).length:Int)) then
 if ((decide (b<(a.length:Int)))&&((bt a b) != (bt (ix e i) h)))=true then
 some (.inl (aI (b+1)))
 else
 some (.inr b)
 else none
 else none
def Z3_L2 (h:List aN)(l:List (List Int))(j:Int)(a:aN)(b:List Int)(i:Int):Option ((aN×(List Int)×Int)⊕((aN×(List Int)×Bool)⊕(aN×(List Int)))) :=
 if decide (i<((ix h j).length:Int))=true then
 (aQ (fun s:Int=>Z3_L3 h j a i s) (0:Int)).bind fun e=>Z3_J8 h l j a b i e
 else
 some (.inr (.inr (a,b)))
def Z3_L1 (b:List aN)(j:List (List Int))(i:aN)(a:List Int)(h:Int):Option ((aN×(List Int)×Int)⊕((aN×(List Int)×Bool)⊕(aN×(List Int)))) :=
 if decide (h<(b.length:Int))=true then (
 if (0≤h∧h<(j.length:Int)) then
 if (0≤h∧h<(b.length:Int)) then
 if (((ix j h).length:Int) != ((ix b h).length:Int))=true then
 some (.inr (.inl (([]:aN),a,false)))
 else (
 (aQ (fun s:aN×(List Int)×Int=>Z3_L2 b j h s.1 s.2.1 s.2.2) (i,a,(0:Int))).bind fun e=>match e with
 | .inl e=>some (.inr (.inl e))
 | .inr e=>Z3_J10 h e.1 e.2)
 else none
 else none)
 else
 some (.inr (.inr (i,a)))
def Z3 (a:List aN)(h:aN)(b:List (List Int)):Option (aN×(List Int)×Bool) :=
 if (0≤(h.length:Int)∧(h.length:Int)≤140737488355328∧8*(h.length:Int)≤281474976710656) then
 (aQ (fun s:aN×(List Int)×Int=>Z3_L1 a b s.1 s.2.1 s.2.2) (h,(List.replicate (h.length:Int).toNat (0:Int)),(0:Int))).bind fun e=>match e with
 | .inl e=>some e
 | .inr e=>Z3_J11 e.1 e.2
 else none
def Zi_J7 (a:List Int):Option (List Int) :=
 some a
def Zi_J6 (a:Int)(b:List Int):Option (((List Int)×Int)⊕((List Int))) :=
 some (.inl (b,(aI (a+1))))
def Zi_J5 (a:Int)(b:List Int):Option (((List Int)×Int)⊕((List Int))) :=
 some (.inl (b,(aI (a+1))))
def Zi_L2 (h:aN)(a:aN)(b:List Int)(j:Int)(i:List Int)(e:Int):Option (((List Int)×Int)⊕((List Int))) :=
 if decide (e<(a.length:Int))=true then
 if (0≤e∧e<(a.length:Int)) then
 if (0≤j∧j<(h.length:Int)) then
 if ((bt a e)==(bt h j))=true then
 if (0≤e∧e<(b.length:Int)) then
 if i.length+([(ix b e)]:List Int).length≤17592186044416 then
 Zi_J5 e (i++([(ix b e)]:List Int))
 else none
 else none
 else
 Zi_J5 e i
 else none
 else none
 else
 some (.inr i)
def Zi_L1 (a:aN)(b:aN)(h:List Int)(j:List Int)(i:Int):Option (((List Int)×Int)⊕((List Int))) :=
 if decide (i<(a.length:Int))=true then
 (aQ (fun s:(List Int)×Int=>Zi_L2 a b h i s.1 s.2) (j,(0:Int))).bind fun e=>Zi_J6 i e
 else
 some (.inr j)
def Zi (h:aN)(a:aN)(b:List Int):Option (List Int) :=
 (aQ (fun s:(List Int)×Int=>Zi_L1 h a b s.1 s.2) (([]:List Int),(0:Int))).bind fun e=>Zi_J7 e
def Z5_J5 (b:Tensor)(a:List Int):Option Tensor :=
 some (⟨b.Dims,a⟩:Tensor)
def Z5_J4 (q:(List aN)×aN×Bool)(j:Tensor)(b:List Int)(h:Int)(e:List Int)(l:Int):Option (((List Int)×Int)⊕((List Int))) :=
 if (0≤(0:Int)∧(0:Int)≤(q.2.1.length:Int)∧(q.2.1.length:Int)≤(e.length:Int)) then
 (Z0t j.Dims (sub e (0:Int) (q.2.1.length:Int))).bind fun a =>
 if (0≤a∧a<(j.Data.length:Int)) then
 (Z1v (ix b a) l).bind fun i =>
 some (.inl ((b.set a.toNat i),(aI (h+1))))
 else none
 else none
def Z5_L4 (l:List Tensor)(r:(List aN)×aN×Bool)(q:aN×(List Int)×Bool)(e:List Int)(b:Int)(a:Int):Option ((Int×Int)⊕(Int)) :=
 if decide (a<(r.1.length:Int))=true then
 if (0≤a∧a<(l.length:Int)) then
 if (0≤a∧a<(r.1.length:Int)) then
 (Zi (ix r.1 a) q.1 e).bind fun h =>
 (Z1e (ix l a) h).bind fun i =>
 (Z1o b i).bind fun j =>
 some (.inl (j,(aI (a+1))))
 else none
 else none
 else
 some (.inr b)
def Z5_L3 (q:List Tensor)(r:(List aN)×aN×Bool)(j:aN×(List Int)×Bool)(l:Tensor)(h:Int)(a:List Int)(b:Int):Option (((List Int)×Int)⊕((List Int))) :=
 if decide (b<h)=true then
 (Zm j.2.1 b).bind fun i =>
 (aQ (fun s:Int×Int=>Z5_L4 q r j i s.1 s.2) ((1:Int),(0:Int))).bind fun e=>Z5_J4 r l a b i e
 else
 some (.inr a)
def Z5_J2 (i:List Tensor)(j:(List aN)×aN×Bool)(h:aN×(List Int)×Bool)(b:Tensor)(a:Int):Option Tensor :=
 (aQ (fun s:(List Int)×Int=>Z5_L3 i j h b a s.1 s.2) (b.Data,(0:Int))).bind fun e=>Z5_J5 b e
def Z5_L2 (e:aN×(List Int)×Bool)(a:Int)(b:Int):Option ((Int×Int)⊕(Int)) :=
 if decide (b<(e.2.1.length:Int))=true then
 if (0≤b∧b<(e.2.1.length:Int)) then
 some (.inl ((aI (a*(ix e.2.1 b))),(aI (b+1))))
 else none
 else
 some (.inr a)
def Z5_J1 (l:List Tensor)(h:(List aN)×aN×Bool)(b:List (List Int)):Option Tensor :=
 (Z3 h.1 h.2.1 b).bind fun a =>
 if (!a.2.2)=false→(0≤(0:Int)∧(0:Int)≤(h.2.1.length:Int)∧(h.2.1.length:Int)≤(a.2.1.length:Int)) then
 (bP (!(!a.2.2)) (Zq (sub a.2.1 (0:Int) (h.2.1.length:Int)))).bind fun i =>
 if ((!a.2.2)||(!i))=true then
 some (⟨([]:List Int),([]:List Int)⟩:Tensor)
 else
 if (0≤(0:Int)∧(0:Int)≤(h.2.1.length:Int)∧(h.2.1.length:Int)≤(a.2.1.length:Int)) then
 (Z0q (sub a.2.1 (0:Int) (h.2.1.length:Int))).bind fun j =>
 (aQ (fun s:Int×Int=>Z5_L2 a s.1 s.2) ((1:Int),(0:Int))).bind fun e=>Z5_J2 l h a j e
 else none
 else none
def Z5_L1 (b:List Tensor)(a:List (List Int))(i25:Int):Option (((List (List Int))×Int)⊕((Tensor)⊕((List (List Int))))) :=
 if decide (i25<(b.length:Int))=true then
 if (0≤i25∧i25<(b.length:Int)) then
 (Zv (ix b i25)).bind fun e =>
 if (!e)=true then
 some (.inr (.inl (⟨([]:List Int),([]:List Int)⟩:Tensor)))
 else
 if a.length+([(ix b i25).Dims]:List (List Int)).length≤5864062014805 then
 some (.inl ((a++([(ix b i25).Dims]:List (List Int))),(aI (i25+1))))
 else none
 else none
 else
 some (.inr (.inr a))
def Z5 (a:aN)(b:List Tensor):Option Tensor :=
 (Z1 a).bind fun h =>
 if ((!h.2.2)||((h.1.length:Int) != (b.length:Int)))=true then
 some (⟨([]:List Int),([]:List Int)⟩:Tensor)
 else (
 (aQ (fun s:(List (List Int))×Int=>Z5_L1 b s.1 s.2) (([]:List (List Int)),(0:Int))).bind fun e=>match e with
 | .inl e=>some e
 | .inr e=>Z5_J1 b h e)
def Z0p_J3 (v1:View)(a:List Int):Option View :=
 some (⟨v1.Dims,a,v1.Offset,v1.Base⟩:View)
def Z0p_J2 (a:Int)(b:List Int):Option ((Int×(List Int))⊕((List Int))) :=
 some (.inl ((aI (a+1)),b))
def Z0p_L1 (v1:View)(a:Int)(b:List Int):Option ((Int×(List Int))⊕((List Int))) :=
 if decide (a<(v1.Dims.length:Int))=true then
 if (0≤a∧a<(v1.Dims.length:Int)) then
 if ((ix v1.Dims a)==1)=true then
 if (0≤a∧a<(v1.Strides.length:Int)) then
 Z0p_J2 a (b.set a.toNat (0:Int))
 else none
 else
 Z0p_J2 a b
 else none
 else
 some (.inr b)
def Z0p (v1:View):Option View :=
 (aQ (fun s:Int×(List Int)=>Z0p_L1 v1 s.1 s.2) ((0:Int),v1.Strides)).bind fun e=>Z0p_J3 v1 e
def Z00_J1 (h:List Int)(a:Int)(e:List Int):Option View :=
 (Z0p (⟨h,e,(0:Int),a⟩:View)).bind fun b =>
 some b
def Z00_L1 (a:List Int)(e:List Int)(b:Int):Option (((List Int)×Int)⊕((List Int))) :=
 if decide (b<(a.length:Int))=true then
 if (0≤(aI (b+1))∧(aI (b+1))≤(a.length:Int)∧(a.length:Int)≤(a.length:Int)) then
 (Zs (sub a (aI (b+1)) (a.length:Int))).bind fun h =>
 if e.length+([h]:List Int).length≤17592186044416 then
 some (.inl ((e++([h]:List Int)),(aI (b+1))))
 else none
 else none
 else
 some (.inr e)
def Z00 (a:List Int):Option View :=
 (Zq a).bind fun h =>
 if (!h)=true then
 some (⟨([]:List Int),([]:List Int),(0:Int),(0:Int)⟩:View)
 else
 (Zx a).bind fun i =>
 (Zs a).bind fun b =>
 (aQ (fun s:(List Int)×Int=>Z00_L1 a s.1 s.2) (([]:List Int),(0:Int))).bind fun e=>Z00_J1 i b e
def Z1d_J1 (a:Int):Option Int :=
 some a
def Z1d_L1 (v1:View)(a:List Int)(e:Int)(b:Int):Option ((Int×Int)⊕(Int)) :=
 if decide (b<(a.length:Int))=true then
 if (0≤b∧b<(a.length:Int)) then
 if (0≤b∧b<(v1.Strides.length:Int)) then
 some (.inl ((aI (e+(aI ((ix a b)*(ix v1.Strides b))))),(aI (b+1))))
 else none
 else none
 else
 some (.inr e)
def Z1d (v1:View)(a:List Int):Option Int :=
 (aQ (fun s:Int×Int=>Z1d_L1 v1 a s.1 s.2) (v1.Offset,(0:Int))).bind fun e=>Z1d_J1 e
def Z0j_J1 (a:List Int):Option (List Int) :=
 some a
def Z0j_L1 (v1:View)(i:Int)(b:List Int)(a:Int):Option (((List Int)×Int)⊕((List Int))) :=
 if decide (a<i)=true then
 (Zm v1.Dims a).bind fun h =>
 (Z1d v1 h).bind fun e =>
 if b.length+([e]:List Int).length≤17592186044416 then
 some (.inl ((b++([e]:List Int)),(aI (a+1))))
 else none
 else
 some (.inr b)
def Z0j (v1:View):Option (List Int) :=
 (Zs v1.Dims).bind fun a =>
 (aQ (fun s:(List Int)×Int=>Z0j_L1 v1 a s.1 s.2) (([]:List Int),(0:Int))).bind fun e=>Z0j_J1 e
def Zb_J2:Option Bool :=
 some true
def Zb_L2 (v1:View)(b:List Int)(a:Int):Option ((Int)⊕((Bool)⊕(Unit))) :=
 if decide (a<(b.length:Int))=true then
 if (0≤a∧a<(b.length:Int)) then
 if ((decide ((ix b a)<0))||(decide ((ix b a)≥v1.Base)))=true then
 some (.inr (.inl false))
 else
 some (.inl (aI (a+1)))
 else none
 else
 some (.inr (.inr ()))
def Zb_J1 (v1:View):Option Bool :=
 (Z0j v1).bind fun a =>
 (aQ (fun s:Int=>Zb_L2 v1 a s) (0:Int)).bind fun e=>match e with
 | .inl e=>some e
 | .inr e=>Zb_J2
def Zb_L1 (v1:View)(a:Int):Option ((Int)⊕((Bool)⊕(Unit))) :=
 if decide (a<(v1.Strides.length:Int))=true then
 if (0≤a∧a<(v1.Strides.length:Int)) then
 if ((decide ((ix v1.Strides a)<(-4096:Int)))||(decide ((ix v1.Strides a)>4096)))=true then
 some (.inr (.inl false))
 else
 some (.inl (aI (a+1)))
 else none
 else
 some (.inr (.inr ()))
def Zb (v1:View):Option Bool :=
 (Zq v1.Dims).bind fun a =>
 if ((((((!a)||((v1.Strides.length:Int) != (v1.Dims.length:Int)))||(decide (v1.Base<1)))||(decide (v1.Base>4096)))||(decide (v1.Offset<0)))||(decide (v1.Offset≥v1.Base)))=true then
 some false
 else (
 (aQ (fun s:Int=>Zb_L1 v1 s) (0:Int)).bind fun e=>match e with
 | .inl e=>some e
 | .inr e=>Zb_J1 v1)
def Z03_J3 (v1:View)(a:List Int)(b:List Int):Option View :=
 some (⟨a,b,v1.Offset,v1.Base⟩:View)
def Z03_J2 (a:Int)(b:List Int):Option (((List Int)×Int)⊕((View)⊕((List Int)))) :=
 some (.inl (b,(aI (a+1))))
def Z03_L1 (v1:View)(a:List Int)(e:List Int)(b:Int):Option (((List Int)×Int)⊕((View)⊕((List Int)))) :=
 if decide (b<(v1.Dims.length:Int))=true then
 if (0≤b∧b<(v1.Dims.length:Int)) then
 if (0≤(aI ((aI ((a.length:Int) - (v1.Dims.length:Int)))+b))∧(aI ((aI ((a.length:Int) - (v1.Dims.length:Int)))+b))<(a.length:Int)) then
 if ((ix v1.Dims b)==(ix a (aI ((aI ((a.length:Int) - (v1.Dims.length:Int)))+b))))=true then
 if (0≤b∧b<(v1.Strides.length:Int)) then
 if (0≤(aI ((aI ((a.length:Int) - (v1.Dims.length:Int)))+b))∧(aI ((aI ((a.length:Int) - (v1.Dims.length:Int)))+b))<((List.replicate (a.length:Int).toNat (0:Int)).length:Int)) then
 (nm (e.set (aI ((aI ((a.length:Int) - (v1.Dims.length:Int)))+b)).toNat (ix v1.Strides b))).bind fun h =>
 Z03_J2 b h
 else none
 else none
 else
 if ((ix v1.Dims b) != 1)=true then
 some (.inr (.inl (⟨([]:List Int),([]:List Int),(0:Int),(0:Int)⟩:View)))
 else
 Z03_J2 b e
 else none
 else none
 else
 some (.inr (.inr e))
def Z03 (v1:View)(a:List Int):Option View :=
 (Zb v1).bind fun i =>
 (bP (!(!i)) (Zq a)).bind fun b =>
 if (((!i)||(!b))||(decide ((aI ((a.length:Int) - (v1.Dims.length:Int)))<0)))=true then
 some (⟨([]:List Int),([]:List Int),(0:Int),(0:Int)⟩:View)
 else (
 (Zx a).bind fun h =>
 if (0≤(a.length:Int)∧(a.length:Int)≤140737488355328∧8*(a.length:Int)≤281474976710656) then
 (aQ (fun s:(List Int)×Int=>Z03_L1 v1 a s.1 s.2) ((List.replicate (a.length:Int).toNat (0:Int)),(0:Int))).bind fun e=>match e with
 | .inl e=>some e
 | .inr e=>Z03_J3 v1 h e
 else none)
def Z09_J1 (a:List Int)(b:List Int):Option Tensor :=
 some (⟨a,b⟩:Tensor)
def Z09_L1 (t1:Tensor)(b:List Int)(e:List Int)(a:Int):Option (((List Int)×Int)⊕((List Int))) :=
 if decide (a<(b.length:Int))=true then
 if (0≤a∧a<(b.length:Int)) then
 if (0≤(ix b a)∧(ix b a)<(t1.Data.length:Int)) then
 if e.length+([(ix t1.Data (ix b a))]:List Int).length≤17592186044416 then
 some (.inl ((e++([(ix t1.Data (ix b a))]:List Int)),(aI (a+1))))
 else none
 else none
 else none
 else
 some (.inr e)
def Z09 (t1:Tensor)(v4:View):Option Tensor :=
 (Zv t1).bind fun a =>
 (bP (!(!a)) (Zb v4)).bind fun b =>
 if (((!a)||(!b))||(v4.Base != (t1.Data.length:Int)))=true then
 some (⟨([]:List Int),([]:List Int)⟩:Tensor)
 else
 (Zx v4.Dims).bind fun h =>
 (Z0j v4).bind fun i =>
 (aQ (fun s:(List Int)×Int=>Z09_L1 t1 i s.1 s.2) (([]:List Int),(0:Int))).bind fun e=>Z09_J1 h e
def Z0i_J3 (v1:View)(a:List Int)(b:List Int)(h:List Int):Option View :=
 (Zb (⟨b,h,(ix a 0),v1.Base⟩:View)).bind fun e =>
 (bP (!(!e)) (Z0j (⟨b,h,(ix a 0),v1.Base⟩:View))).bind fun i =>
 (bP (!(!e)) (Z06 i a)).bind fun j =>
 if ((!e)||(!j))=true then
 some (⟨([]:List Int),([]:List Int),(0:Int),(0:Int)⟩:View)
 else
 some (⟨b,h,(ix a 0),v1.Base⟩:View)
def Z0i_J2 (a:List Int)(e:Int)(b:Int):Option (((List Int)×Int)⊕((List Int))) :=
 if a.length+([b]:List Int).length≤17592186044416 then
 some (.inl ((a++([b]:List Int)),(aI (e+1))))
 else none
def Z0i_L1 (a:List Int)(e:List Int)(i:List Int)(b:Int):Option (((List Int)×Int)⊕((List Int))) :=
 if decide (b<(a.length:Int))=true then
 if (0≤b∧b<(a.length:Int)) then
 if decide ((ix a b)>1)=true then
 if (0≤(aI (b+1))∧(aI (b+1))≤(a.length:Int)∧(a.length:Int)≤(a.length:Int)) then
 (Zs (sub a (aI (b+1)) (a.length:Int))).bind fun h =>
 if (0≤h∧h<(e.length:Int)) then
 Z0i_J2 i b (aI ((ix e h) - (ix e 0)))
 else none
 else none
 else
 Z0i_J2 i b (0:Int)
 else none
 else
 some (.inr i)
def Z0i (v1:View)(a:List Int):Option View :=
 (Zb v1).bind fun i =>
 (bP (!(!i)) (Zq a)).bind fun b =>
 (bP (!((!i)||(!b))) (Zs a)).bind fun j =>
 (bP (!((!i)||(!b))) (Zs v1.Dims)).bind fun l =>
 if (((!i)||(!b))||(j != l))=true then
 some (⟨([]:List Int),([]:List Int),(0:Int),(0:Int)⟩:View)
 else
 (Z0j v1).bind fun h =>
 (Zx a).bind fun q =>
 if (0≤(0:Int)∧(0:Int)<(h.length:Int)) then
 (aQ (fun s:(List Int)×Int=>Z0i_L1 a h s.1 s.2) (([]:List Int),(0:Int))).bind fun e=>Z0i_J3 v1 h q e
 else none
def Z2i (v1:View)(a:Int):Option Bool :=
 (Zb v1).bind fun b =>
 some ((b&&(decide (a≥0)))&&(decide (a<(v1.Dims.length:Int))))
def Z2k (v1:View):Option View :=
 (Zx v1.Dims).bind fun a =>
 (Zx v1.Strides).bind fun b =>
 some (⟨a,b,v1.Offset,v1.Base⟩:View)
def Z2l (v1:View):Option View :=
 (Zb v1).bind fun a =>
 if (!a)=true then
 some (⟨([]:List Int),([]:List Int),(0:Int),(0:Int)⟩:View)
 else
 some v1
def Z1j_J1 (a:Int)(j:Int)(b:Int)(e:View)(i:List Int):Option View :=
 (Z2l (⟨(e.Dims.set a.toNat b),i,(aI (e.Offset+(aI (j*(ix e.Strides a))))),e.Base⟩:View)).bind fun h =>
 some h
def Z1j (v1:View)(a:Int)(i:Int)(b:Int)(e:Int):Option View :=
 (Z2i v1 a).bind fun l =>
 if ((((((!l)||(decide (b<1)))||(decide (b>4096)))||(decide (e<(-4096:Int))))||(decide (e>4096)))||(decide (i<0)))=false→(0≤a∧a<(v1.Dims.length:Int)) then
 if (((((((!l)||(decide (b<1)))||(decide (b>4096)))||(decide (e<(-4096:Int))))||(decide (e>4096)))||(decide (i<0)))||(decide (i≥(ix v1.Dims a))))=true then
 some (⟨([]:List Int),([]:List Int),(0:Int),(0:Int)⟩:View)
 else
 if (decide ((aI (i+(aI ((aI (b - 1))*e))))<0))=false→(0≤a∧a<(v1.Dims.length:Int)) then
 if ((decide ((aI (i+(aI ((aI (b - 1))*e))))<0))||(decide ((aI (i+(aI ((aI (b - 1))*e))))≥(ix v1.Dims a))))=true then
 some (⟨([]:List Int),([]:List Int),(0:Int),(0:Int)⟩:View)
 else
 (Z2k v1).bind fun h =>
 if (0≤a∧a<(h.Strides.length:Int)) then
 if (0≤a∧a<(h.Dims.length:Int)) then
 (nm (h.Strides.set a.toNat (aI ((ix h.Strides a)*e)))).bind fun j =>
 if (b==1)=true then
 Z1j_J1 a i b h (j.set a.toNat (0:Int))
 else
 Z1j_J1 a i b h j
 else none
 else none
 else none
 else none
def Z23 (t1:Tensor)(a:List Int)(e:Int):Option (List Int) :=
 (Z0t t1.Dims a).bind fun b =>
 if (0≤b∧b<(t1.Data.length:Int)) then
 some (t1.Data.set b.toNat e)
 else none
def Z10_J1 (a:Tensor)(b:List Int):Option Tensor :=
 some (⟨a.Dims,b⟩:Tensor)
def Z10_L1 (t1:Tensor)(a:Int)(e:Int)(i:Int)(l:Tensor)(j:List Int)(b:Int):Option (((List Int)×Int)⊕((List Int))) :=
 if decide (b<(t1.Data.length:Int))=true then
 (Zm t1.Dims b).bind fun h =>
 if (0≤a∧a<(h.length:Int)) then
 (Z0r h a (aI (e+(aI ((ix h a)*(aI (i+1))))))).bind fun q =>
 if (0≤b∧b<(t1.Data.length:Int)) then
 (Z23 (⟨l.Dims,j⟩:Tensor) q (ix t1.Data b)).bind fun r =>
 some (.inl (r,(aI (b+1))))
 else none
 else none
 else
 some (.inr j)
def Z10 (t1:Tensor)(a:Int)(b:Int)(h:Int)(i:Int):Option Tensor :=
 (Z1p t1 a).bind fun q =>
 if (((((((!q)||(decide (b<0)))||(decide (b>4096)))||(decide (h<0)))||(decide (h>4096)))||(decide (i<0)))||(decide (i>4096)))=true then
 some (⟨([]:List Int),([]:List Int)⟩:Tensor)
 else
 if (0≤a∧a<(t1.Dims.length:Int)) then
 (Z0r t1.Dims a (aI ((aI ((aI (b+(ix t1.Dims a)))+(aI ((aI ((ix t1.Dims a) - 1))*i))))+h))).bind fun l =>
 (Zq l).bind fun r =>
 if (!r)=true then
 some (⟨([]:List Int),([]:List Int)⟩:Tensor)
 else
 (Z0q l).bind fun j =>
 (aQ (fun s:(List Int)×Int=>Z10_L1 t1 a b i j s.1 s.2) (j.Data,(0:Int))).bind fun e=>Z10_J1 j e
 else none
def Z0z_J1 (a:Tensor)(b:List Int):Option Tensor :=
 some (⟨a.Dims,b⟩:Tensor)
def Z0z_L1 (t1:Tensor)(a:Int)(b:List Int)(l:List Int)(i:Tensor)(j:List Int)(e:Int):Option (((List Int)×Int)⊕((List Int))) :=
 if decide (e<(i.Data.length:Int))=true then
 (Zm l e).bind fun h =>
 if (0≤a∧a<(h.length:Int)) then
 if (0≤(ix h a)∧(ix h a)<(b.length:Int)) then
 (Z0r h a (ix b (ix h a))).bind fun q =>
 (Z1e t1 q).bind fun r =>
 if (0≤e∧e<(i.Data.length:Int)) then
 some (.inl ((j.set e.toNat r),(aI (e+1))))
 else none
 else none
 else none
 else
 some (.inr j)
def Z0z (t1:Tensor)(b:Int)(a:List Int):Option Tensor :=
 (Z1p t1 b).bind fun q =>
 if ((!q)||((a.length:Int)==0))=false→(0≤b∧b<(t1.Dims.length:Int)) then
 (bP (!((!q)||((a.length:Int)==0))) (Z0s a (ix t1.Dims b))).bind fun j =>
 if (((!q)||((a.length:Int)==0))||(!j))=true then
 some (⟨([]:List Int),([]:List Int)⟩:Tensor)
 else
 (Z0r t1.Dims b (a.length:Int)).bind fun h =>
 (Zq h).bind fun l =>
 if (!l)=true then
 some (⟨([]:List Int),([]:List Int)⟩:Tensor)
 else
 (Z0q h).bind fun i =>
 (aQ (fun s:(List Int)×Int=>Z0z_L1 t1 b a h i s.1 s.2) (i.Data,(0:Int))).bind fun e=>Z0z_J1 i e
 else none
def Z11_J1 (a:Tensor)(b:List Int):Option Tensor :=
 some (⟨a.Dims,b⟩:Tensor)
def Z11_L1 (t1:Tensor)(a:Int)(b:List Int)(j:Tensor)(i:List Int)(e:Int):Option (((List Int)×Int)⊕((List Int))) :=
 if decide (e<(t1.Data.length:Int))=true then
 (Zm t1.Dims e).bind fun h =>
 if (0≤a∧a<(h.length:Int)) then
 if (0≤(ix h a)∧(ix h a)<(b.length:Int)) then
 (Z0r h a (ix b (ix h a))).bind fun l =>
 (Z1e (⟨j.Dims,i⟩:Tensor) l).bind fun q =>
 if (0≤e∧e<(t1.Data.length:Int)) then
 (Z1v q (ix t1.Data e)).bind fun r =>
 (Z23 (⟨j.Dims,i⟩:Tensor) l r).bind fun s =>
 some (.inl (s,(aI (e+1))))
 else none
 else none
 else none
 else
 some (.inr i)
def Z11 (t1:Tensor)(a:Int)(b:List Int)(r:Int):Option Tensor :=
 (Z1p t1 a).bind fun h =>
 if (!h)=false→(0≤a∧a<(t1.Dims.length:Int)) then
 (bP (!((!h)||((b.length:Int) != (ix t1.Dims a)))) (Z0s b r)).bind fun l =>
 if (((!h)||((b.length:Int) != (ix t1.Dims a)))||(!l))=true then
 some (⟨([]:List Int),([]:List Int)⟩:Tensor)
 else
 (Z0r t1.Dims a r).bind fun j =>
 (Zq j).bind fun q =>
 if (!q)=true then
 some (⟨([]:List Int),([]:List Int)⟩:Tensor)
 else
 (Z0q j).bind fun i =>
 (aQ (fun s:(List Int)×Int=>Z11_L1 t1 a b i s.1 s.2) (i.Data,(0:Int))).bind fun e=>Z11_J1 i e
 else none
def Z0l_J2 (a:Int)(b:View)(i:List Int)(e:List Int)(h:Int):Option View :=
 if e.length+([h]:List Int).length≤17592186044416 then
 (Z2l (⟨(i++([a]:List Int)),(e++([h]:List Int)),b.Offset,b.Base⟩:View)).bind fun j =>
 some j
 else none
def Z0l_J1 (v1:View)(b:Int)(a:Int)(h:View)(e:List Int)(i:List Int):Option View :=
 if e.length+([a]:List Int).length≤17592186044416 then
 if (a==1)=true then
 Z0l_J2 a h e i (0:Int)
 else
 Z0l_J2 a h e i (ix v1.Strides b)
 else none
def Z0l (v1:View)(a:Int)(b:Int)(e:Int):Option View :=
 (Z2i v1 a).bind fun l =>
 if (((!l)||(decide (b<1)))||(decide (e<1)))=false→(0≤a∧a<(v1.Dims.length:Int)) then
 if ((((!l)||(decide (b<1)))||(decide (e<1)))||(decide (b>(ix v1.Dims a))))=true then
 some (⟨([]:List Int),([]:List Int),(0:Int),(0:Int)⟩:View)
 else
 (Z2k v1).bind fun h =>
 if (0≤a∧a<(v1.Dims.length:Int)) then
 if e≠0 then
 if (0≤a∧a<(v1.Strides.length:Int)) then
 if (0≤a∧a<(h.Dims.length:Int)) then
 (nm (h.Dims.set a.toNat (aI ((aI ((aI ((ix v1.Dims a) - b)).tdiv e))+1)))).bind fun i =>
 if (0≤a∧a<(h.Strides.length:Int)) then
 if decide ((aI ((aI ((aI ((ix v1.Dims a) - b)).tdiv e))+1))>1)=true then
 (nm ((h.Strides.set a.toNat (0:Int)).set a.toNat (aI ((ix v1.Strides a)*e)))).bind fun j =>
 Z0l_J1 v1 a b h i j
 else
 Z0l_J1 v1 a b h i (h.Strides.set a.toNat (0:Int))
 else none
 else none
 else none
 else none
 else none
 else none
def Z0y_J1 (a:Tensor)(b:List Int):Option Tensor :=
 some (⟨a.Dims,b⟩:Tensor)
def Z0y_L1 (t1:Tensor)(a:Int)(i:Int)(l:Tensor)(j:List Int)(b:Int):Option (((List Int)×Int)⊕((List Int))) :=
 if decide (b<(t1.Data.length:Int))=true then
 (Zm t1.Dims b).bind fun e =>
 if (0≤a∧a<(e.length:Int)) then
 if (0≤(aI ((t1.Dims.length:Int) - 1))∧(aI ((t1.Dims.length:Int) - 1))<(e.length:Int)) then
 (Z0r e a (aI ((aI ((ix e a)*i))+(ix e (aI ((t1.Dims.length:Int) - 1)))))).bind fun h =>
 if (0≤(0:Int)∧(0:Int)≤(aI ((t1.Dims.length:Int) - 1))∧(aI ((t1.Dims.length:Int) - 1))≤(h.length:Int)) then
 (Z1e (⟨l.Dims,j⟩:Tensor) (sub h (0:Int) (aI ((t1.Dims.length:Int) - 1)))).bind fun q =>
 if (0≤b∧b<(t1.Data.length:Int)) then
 (Z1v q (ix t1.Data b)).bind fun r =>
 (Z23 (⟨l.Dims,j⟩:Tensor) (sub h (0:Int) (aI ((t1.Dims.length:Int) - 1))) r).bind fun s =>
 some (.inl (s,(aI (b+1))))
 else none
 else none
 else none
 else none
 else
 some (.inr j)
def Z0y (t1:Tensor)(a:Int)(b:Int)(h:Int):Option Tensor :=
 (Z1p t1 a).bind fun q =>
 if (((((!q)||(a==(aI ((t1.Dims.length:Int) - 1))))||(decide (b<1)))||(decide (h<1)))||(decide (h>4096)))=true then
 some (⟨([]:List Int),([]:List Int)⟩:Tensor)
 else
 if (0≤(aI ((t1.Dims.length:Int) - 1))∧(aI ((t1.Dims.length:Int) - 1))<(t1.Dims.length:Int)) then
 if (decide ((ix t1.Dims (aI ((t1.Dims.length:Int) - 1)))>h))=false→b≠0 then
 if (decide ((ix t1.Dims (aI ((t1.Dims.length:Int) - 1)))>h))=false→(0≤a∧a<(t1.Dims.length:Int)) then
 if ((decide ((ix t1.Dims (aI ((t1.Dims.length:Int) - 1)))>h))||((aI ((aI ((aI (h - (ix t1.Dims (aI ((t1.Dims.length:Int) - 1))))).tdiv b))+1)) != (ix t1.Dims a)))=true then
 some (⟨([]:List Int),([]:List Int)⟩:Tensor)
 else
 (Z0r t1.Dims a h).bind fun i =>
 if (0≤(0:Int)∧(0:Int)≤(aI ((t1.Dims.length:Int) - 1))∧(aI ((t1.Dims.length:Int) - 1))≤(i.length:Int)) then
 (Zq (sub i (0:Int) (aI ((t1.Dims.length:Int) - 1)))).bind fun l =>
 if (!l)=true then
 some (⟨([]:List Int),([]:List Int)⟩:Tensor)
 else
 (Z0q (sub i (0:Int) (aI ((t1.Dims.length:Int) - 1)))).bind fun j =>
 (aQ (fun s:(List Int)×Int=>Z0y_L1 t1 a b j s.1 s.2) (j.Data,(0:Int))).bind fun e=>Z0y_J1 j e
 else none
 else none
 else none
 else none
def Z2_J2 (a:Node)(b:List Tensor)(T:Bool):Option Tensor :=
 if T=true then
 if (0≤(0:Int)∧(0:Int)<(b.length:Int)) then
 (Z19 (aI ((aI (a.Op - 6))+1)) (ix b 0)).bind fun F =>
 some F
 else none
 else
 if (a.Op==10)=true then
 if (0≤(0:Int)∧(0:Int)<(b.length:Int)) then
 if (0≤(0:Int)∧(0:Int)<(a.Ints.length:Int)) then
 (Zd (ix b 0) (ix a.Ints 0)).bind fun G =>
 some G
 else none
 else none
 else
 if (a.Op==11)=true then
 (Z5 a.Form b).bind fun I =>
 some I
 else
 if (a.Op==12)=true then
 if (0≤(0:Int)∧(0:Int)<(b.length:Int)) then
 (Z00 ((ix b 0).Dims)).bind fun J =>
 (Z03 J a.Dims).bind fun L =>
 (Z09 (ix b 0) L).bind fun M =>
 some M
 else none
 else
 if (a.Op==13)=true then
 if (0≤(0:Int)∧(0:Int)<(b.length:Int)) then
 (Z00 ((ix b 0).Dims)).bind fun O =>
 (Z0i O a.Dims).bind fun e =>
 (Z09 (ix b 0) e).bind fun h =>
 some h
 else none
 else
 if (a.Op==14)=true then
 if (0≤(3:Int)∧(3:Int)<(a.Ints.length:Int)) then
 if decide ((ix a.Ints 3)<1)=true then
 some (⟨([]:List Int),([]:List Int)⟩:Tensor)
 else
 if (0≤(0:Int)∧(0:Int)<(b.length:Int)) then
 (Z00 ((ix b 0).Dims)).bind fun i =>
 if (0≤(0:Int)∧(0:Int)<(a.Ints.length:Int)) then
 if (0≤(1:Int)∧(1:Int)<(a.Ints.length:Int)) then
 if (0≤(2:Int)∧(2:Int)<(a.Ints.length:Int)) then
 (Z1j i (ix a.Ints 0) (ix a.Ints 1) (ix a.Ints 2) (ix a.Ints 3)).bind fun j =>
 (Z09 (ix b 0) j).bind fun l =>
 some l
 else none
 else none
 else none
 else none
 else none
 else
 if (a.Op==15)=true then
 if (0≤(0:Int)∧(0:Int)<(b.length:Int)) then
 if (0≤(0:Int)∧(0:Int)<(a.Ints.length:Int)) then
 if (0≤(1:Int)∧(1:Int)<(a.Ints.length:Int)) then
 if (0≤(2:Int)∧(2:Int)<(a.Ints.length:Int)) then
 if (0≤(3:Int)∧(3:Int)<(a.Ints.length:Int)) then
 (Z10 (ix b 0) (ix a.Ints 0) (ix a.Ints 1) (ix a.Ints 2) (ix a.Ints 3)).bind fun q =>
 some q
 else none
 else none
 else none
 else none
 else none
 else
 if (a.Op==16)=true then
 if (0≤(0:Int)∧(0:Int)<(b.length:Int)) then
 if (0≤(0:Int)∧(0:Int)<(a.Ints.length:Int)) then
 if (0≤(1:Int)∧(1:Int)≤(a.Ints.length:Int)∧(a.Ints.length:Int)≤(a.Ints.length:Int)) then
 (Z0z (ix b 0) (ix a.Ints 0) (sub a.Ints (1:Int) (a.Ints.length:Int))).bind fun r =>
 some r
 else none
 else none
 else none
 else
 if (a.Op==17)=true then
 if (0≤(0:Int)∧(0:Int)<(b.length:Int)) then
 if (0≤(0:Int)∧(0:Int)<(a.Ints.length:Int)) then
 if (0≤(2:Int)∧(2:Int)≤(a.Ints.length:Int)∧(a.Ints.length:Int)≤(a.Ints.length:Int)) then
 if (0≤(1:Int)∧(1:Int)<(a.Ints.length:Int)) then
 (Z11 (ix b 0) (ix a.Ints 0) (sub a.Ints (2:Int) (a.Ints.length:Int)) (ix a.Ints 1)).bind fun s =>
 some s
 else none
 else none
 else none
 else none
 else
 if (a.Op==18)=true then
 if (0≤(0:Int)∧(0:Int)<(b.length:Int)) then
 (Z00 ((ix b 0).Dims)).bind fun u =>
 if (0≤(0:Int)∧(0:Int)<(a.Ints.length:Int)) then
 if (0≤(1:Int)∧(1:Int)<(a.Ints.length:Int)) then
 if (0≤(2:Int)∧(2:Int)<(a.Ints.length:Int)) then
 (Z0l u (ix a.Ints 0) (ix a.Ints 1) (ix a.Ints 2)).bind fun B =>
 (Z09 (ix b 0) B).bind fun D =>
 some D
 else none
 else none
 else none
 else none
 else
 if (0≤(0:Int)∧(0:Int)<(b.length:Int)) then
 if (0≤(0:Int)∧(0:Int)<(a.Ints.length:Int)) then
 if (0≤(1:Int)∧(1:Int)<(a.Ints.length:Int)) then
 if (0≤(2:Int)∧(2:Int)<(a.Ints.length:Int)) then
 (Z0y (ix b 0) (ix a.Ints 0) (ix a.Ints 1) (ix a.Ints 2)).bind fun E =>
 some E
 else none
 else none
 else none
 else none
def Z2_J1 (a:Node)(b:List Tensor)(i:Bool):Option Tensor :=
 if i=true then
 if (0≤(0:Int)∧(0:Int)<(b.length:Int)) then
 if (0≤(1:Int)∧(1:Int)<(b.length:Int)) then
 (Z06 ((ix b 0).Dims) ((ix b 1).Dims)).bind fun e =>
 if (!e)=true then
 some (⟨([]:List Int),([]:List Int)⟩:Tensor)
 else
 (Z1a (aI ((aI (a.Op - 3))+1)) (ix b 0) (ix b 1)).bind fun h =>
 some h
 else none
 else none
 else
 if (a.Op==6)=true then
 Z2_J2 a b (a.Op==6)
 else
 if (a.Op==7)=true then
 Z2_J2 a b (a.Op==7)
 else
 if (a.Op==8)=true then
 Z2_J2 a b (a.Op==8)
 else
 Z2_J2 a b (a.Op==9)
def Z2 (a:Node)(b:List Tensor):Option Tensor :=
 if (a.Op==2)=true then
 (Zv (⟨a.Dims,a.Data⟩:Tensor)).bind fun e =>
 if (!e)=true then
 some (⟨([]:List Int),([]:List Int)⟩:Tensor)
 else
 (Zx a.Dims).bind fun h =>
 (Zx a.Data).bind fun i =>
 some (⟨h,i⟩:Tensor)
 else
 if (a.Op==3)=true then
 Z2_J1 a b (a.Op==3)
 else
 if (a.Op==4)=true then
 Z2_J1 a b (a.Op==4)
 else
 Z2_J1 a b (a.Op==5)
def Z0x_J1 (b:Tensor)(a:List Int):Option Tensor :=
 some (⟨b.Dims,a⟩:Tensor)
def Z0x_L1 (i:Int)(h:Tensor)(b:List Int)(a:Int):Option (((List Int)×Int)⊕((List Int))) :=
 if decide (a<(h.Data.length:Int))=true then
 (Zu i).bind fun e =>
 if (0≤a∧a<(h.Data.length:Int)) then
 some (.inl ((b.set a.toNat e),(aI (a+1))))
 else none
 else
 some (.inr b)
def Z0x (a:List Int)(h:Int):Option Tensor :=
 (Zq a).bind fun i =>
 if (!i)=true then
 some (⟨([]:List Int),([]:List Int)⟩:Tensor)
 else
 (Z0q a).bind fun b =>
 (aQ (fun s:(List Int)×Int=>Z0x_L1 h b s.1 s.2) (b.Data,(0:Int))).bind fun e=>Z0x_J1 b e
def Za_J5 (g1:Graph)(a:List Tensor)(b:Bool)(h:List Tensor)(i:Int):Option ((List Tensor)×Bool) :=
 (Z0s g1.Outs (g1.Nodes.length:Int)).bind fun e =>
 some (h,(e&&(b||(i==(a.length:Int)))))
def Za_J4 (b:List Tensor)(h:Int)(i:Int)(e:List Int)(a:List Int):Option (((List Tensor)×Int×Int)⊕(((List Tensor)×Bool)⊕((List Tensor)×Int))) :=
 if ((a.length:Int)==0)=true then
 some (.inr (.inl (b,false)))
 else
 if b.length+([(⟨e,a⟩:Tensor)]:List Tensor).length≤2932031007402 then
 some (.inl ((b++([(⟨e,a⟩:Tensor)]:List Tensor)),i,(aI (h+1))))
 else none
def Za_J3 (g1:Graph)(a:List Tensor)(j:Bool)(h:List Tensor)(b:Int)(e:Int)(r:List Tensor):Option (((List Tensor)×Int×Int)⊕(((List Tensor)×Bool)⊕((List Tensor)×Int))) :=
 if ((ix g1.Nodes e).Op != 1)=true then
 (Z2 (ix g1.Nodes e) r).bind fun l =>
 Za_J4 h e b l.Dims l.Data
 else
 if j=true then
 (Z0x ((ix g1.Nodes e).Dims) (0:Int)).bind fun q =>
 Za_J4 h e b q.Dims q.Data
 else
 if (decide (b≥(a.length:Int)))=false→(0≤b∧b<(a.length:Int)) then
 (bP (!(decide (b≥(a.length:Int)))) (Zv (ix a b))).bind fun i =>
 if ((decide (b≥(a.length:Int)))||(!i))=false→(0≤b∧b<(a.length:Int)) then
 (bP (!((decide (b≥(a.length:Int)))||(!i))) (Z06 ((ix a b).Dims) ((ix g1.Nodes e).Dims))).bind fun s =>
 if (((decide (b≥(a.length:Int)))||(!i))||(!s))=true then
 some (.inr (.inl (h,false)))
 else
 (Zx ((ix g1.Nodes e).Dims)).bind fun u =>
 if (0≤b∧b<(a.length:Int)) then
 (Zx ((ix a b).Data)).bind fun B =>
 Za_J4 h e (aI (b+1)) u B
 else none
 else none
 else none
def Za_L2 (g1:Graph)(h:List Tensor)(b:Int)(e:List Tensor)(a:Int):Option (((List Tensor)×Int)⊕((List Tensor))) :=
 if decide (a<(((ix g1.Nodes b).Args).length:Int))=true then
 if (0≤a∧a<(((ix g1.Nodes b).Args).length:Int)) then
 if (0≤(ix ((ix g1.Nodes b).Args) a)∧(ix ((ix g1.Nodes b).Args) a)<(h.length:Int)) then
 if e.length+([(ix h (ix ((ix g1.Nodes b).Args) a))]:List Tensor).length≤2932031007402 then
 some (.inl ((e++([(ix h (ix ((ix g1.Nodes b).Args) a))]:List Tensor)),(aI (a+1))))
 else none
 else none
 else none
 else
 some (.inr e)
def Za_L1 (g1:Graph)(h:List Tensor)(i:Bool)(b:List Tensor)(l:Int)(a:Int):Option (((List Tensor)×Int×Int)⊕(((List Tensor)×Bool)⊕((List Tensor)×Int))) :=
 if decide (a<(g1.Nodes.length:Int))=true then
 if (0≤a∧a<(g1.Nodes.length:Int)) then
 (Z1f (ix g1.Nodes a)).bind fun j =>
 (bP (!(!j)) (Z0s ((ix g1.Nodes a).Args) a)).bind fun q =>
 if ((!j)||(!q))=true then
 some (.inr (.inl (b,false)))
 else
 (aQ (fun s:(List Tensor)×Int=>Za_L2 g1 b a s.1 s.2) (([]:List Tensor),(0:Int))).bind fun e=>Za_J3 g1 h i b l a e
 else none
 else
 some (.inr (.inr (b,l)))
def Za (g1:Graph)(a:List Tensor)(b:Bool):Option ((List Tensor)×Bool) :=
 if ((decide ((g1.Nodes.length:Int)>200))||(decide ((g1.Outs.length:Int)>40)))=true then
 some (([]:List Tensor),false)
 else (
 (aQ (fun s:(List Tensor)×Int×Int=>Za_L1 g1 a b s.1 s.2.1 s.2.2) (([]:List Tensor),(0:Int),(0:Int))).bind fun e=>match e with
 | .inl e=>some e
 | .inr e=>Za_J5 g1 a b e.1 e.2)
def Z38 (g1:Graph):Option Bool :=
 (Za g1 ([]:List Tensor) true).bind fun a =>
 some a.2
def Z12_J1 (a:List (List Int)):Option (List (List Int)) :=
 some a
def Z12_L1 (e:(List Tensor)×Bool)(b:List (List Int))(a:Int):Option (((List (List Int))×Int)⊕((List (List Int)))) :=
 if ((decide (a<(e.1.length:Int)))&&e.2)=true then
 if (0≤a∧a<(e.1.length:Int)) then
 if b.length+([(ix e.1 a).Dims]:List (List Int)).length≤5864062014805 then
 some (.inl ((b++([(ix e.1 a).Dims]:List (List Int))),(aI (a+1))))
 else none
 else none
 else
 some (.inr b)
def Z12 (g1:Graph):Option (List (List Int)) :=
 (Za g1 ([]:List Tensor) true).bind fun a =>
 (aQ (fun s:(List (List Int))×Int=>Z12_L1 a s.1 s.2) (([]:List (List Int)),(0:Int))).bind fun e=>Z12_J1 e
def Z0a_J3 (a:Int):Option Int :=
 some a
def Z0a_J2 (a:Int)(b:Int):Option ((Int×Int)⊕(Int)) :=
 some (.inl (b,(aI (a+1))))
def Z0a_L1 (a:List Int)(k3:Int)(e:Int)(b:Int):Option ((Int×Int)⊕(Int)) :=
 if decide (b<(a.length:Int))=true then
 if (0≤b∧b<(a.length:Int)) then
 if decide ((ix a b)<k3)=true then
 Z0a_J2 b (aI (e+1))
 else
 Z0a_J2 b e
 else none
 else
 some (.inr e)
def Z0a (a:List Int)(k3:Int):Option Int :=
 (aQ (fun s:Int×Int=>Z0a_L1 a k3 s.1 s.2) ((0:Int),(0:Int))).bind fun e=>Z0a_J3 e
def Z0v_J1:Option Bool :=
 some false
def Z0v_L1 (a:List Int)(e:Int)(b:Int):Option ((Int)⊕((Bool)⊕(Unit))) :=
 if decide (b<(a.length:Int))=true then
 if (0≤b∧b<(a.length:Int)) then
 if ((ix a b)==e)=true then
 some (.inr (.inl true))
 else
 some (.inl (aI (b+1)))
 else none
 else
 some (.inr (.inr ()))
def Z0v (a:List Int)(b:Int):Option Bool :=
 (aQ (fun s:Int=>Z0v_L1 a b s) (0:Int)).bind fun e=>match e with
 | .inl e=>some e
 | .inr e=>Z0v_J1
def Z26 (a:Node):Option Bool :=
 some ((a.Op==1)||(a.Op==2))
def Ze_J4:Option Bool :=
 some true
def Ze_J3 (a:Int):Option ((Int)⊕((Bool)⊕(Unit))) :=
 some (.inl (aI (a+1)))
def Ze_L3 (g1:Graph)(e:List Int)(b:Int)(a:Int):Option ((Int)⊕((Bool)⊕(Unit))) :=
 if (0≤b∧b<(g1.Nodes.length:Int)) then
 if decide (a<(((ix g1.Nodes b).Args).length:Int))=true then
 if (0≤a∧a<(((ix g1.Nodes b).Args).length:Int)) then
 (Z0a e (ix ((ix g1.Nodes b).Args) a)).bind fun h =>
 (Z0a e b).bind fun i =>
 (bP (h != i) (Z0v e (ix ((ix g1.Nodes b).Args) a))).bind fun j =>
 if ((h != i)&&(!j))=true→(0≤(ix ((ix g1.Nodes b).Args) a)∧(ix ((ix g1.Nodes b).Args) a)<(g1.Nodes.length:Int)) then
 (bP ((h != i)&&(!j)) (Z26 (ix g1.Nodes (ix ((ix g1.Nodes b).Args) a)))).bind fun l =>
 if (((h != i)&&(!j))&&(!l))=true then
 some (.inr (.inl false))
 else
 some (.inl (aI (a+1)))
 else none
 else none
 else
 some (.inr (.inr ()))
 else none
def Ze_L2 (g1:Graph)(b:List Int)(a:Int):Option ((Int)⊕((Bool)⊕(Unit))) :=
 if decide (a<(g1.Nodes.length:Int))=true then (
 (aQ (fun s:Int=>Ze_L3 g1 b a s) (0:Int)).bind fun e=>match e with
 | .inl e=>some (.inr (.inl e))
 | .inr e=>Ze_J3 a)
 else
 some (.inr (.inr ()))
def Ze_J1 (g1:Graph)(a:List Int):Option Bool :=
 (aQ (fun s:Int=>Ze_L2 g1 a s) (0:Int)).bind fun e=>match e with
 | .inl e=>some e
 | .inr e=>Ze_J4
def Ze_L1 (g1:Graph)(a:List Int)(b:Int):Option ((Int)⊕((Bool)⊕(Unit))) :=
 if decide (b<(a.length:Int))=true then
 if (0≤b∧b<(a.length:Int)) then
 if ((decide ((ix a b)<0))||(decide ((ix a b)≥(g1.Nodes.length:Int))))=false→(decide (b>0))=true→(0≤(aI (b - 1))∧(aI (b - 1))<(a.length:Int)) then
 if (((decide ((ix a b)<0))||(decide ((ix a b)≥(g1.Nodes.length:Int))))||((decide (b>0))&&(decide ((ix a (aI (b - 1)))≥(ix a b)))))=true then
 some (.inr (.inl false))
 else
 some (.inl (aI (b+1)))
 else none
 else none
 else
 some (.inr (.inr ()))
def Ze (g1:Graph)(a:List Int):Option Bool :=
 (aQ (fun s:Int=>Ze_L1 g1 a s) (0:Int)).bind fun e=>match e with
 | .inl e=>some e
 | .inr e=>Ze_J1 g1 a
def Zc_J9 (a:Int)(e:Int)(b:Int):Option (Int×Int) :=
 some ((aI (a+b)),e)
def Zc_J8 (h:Int)(a:Int)(e:Int)(b:Int):Option ((Int×Int×Int×Int)⊕(Int×Int×Int)) :=
 some (.inl (a,e,b,(aI (h+1))))
def Zc_J7 (e:Int)(i:Int)(a:Int)(b:Int)(h:Int):Option ((Int×Int×Int×Int)⊕(Int×Int×Int)) :=
 if decide (h>e)=true then
 Zc_J8 i a b h
 else
 Zc_J8 i a b e
def Zc_J6 (h:Int)(a:Int)(b:Int)(e:Int):Option ((Int×Int×Int×Int)⊕(Int×Int×Int)) :=
 some (.inl (a,b,e,(aI (h+1))))
def Zc_L2 (g1:Graph)(j:List (List Int))(l:List Int)(B:Int)(r:Int)(b:Int)(e:Int)(h:Int)(a:Int):Option ((Int×Int×Int×Int)⊕(Int×Int×Int)) :=
 if decide (a<(g1.Nodes.length:Int))=true then
 (Z0a l a).bind fun q =>
 if (q != r)=false→(0≤a∧a<(g1.Nodes.length:Int)) then
 (bP (!(q != r)) (Z26 (ix g1.Nodes a))).bind fun s =>
 if ((q != r)||s)=true then
 Zc_J6 a b e h
 else
 if (0≤a∧a<(j.length:Int)) then
 (Zs (ix j a)).bind fun i =>
 (Z0v l a).bind fun u =>
 if u=true then
 Zc_J6 a (aI (b+i)) (aI (e+i)) h
 else
 if (r != B)=true then
 Zc_J6 a b (aI ((aI (e+i))+i)) (aI (h+i))
 else
 Zc_J6 a b (aI (e+i)) (aI (h+i))
 else none
 else none
 else
 some (.inr (b,e,h))
def Zc_L1 (g1:Graph)(j:List (List Int))(i:List Int)(q:Int)(a:Int)(h:Int)(b:Int)(l:Int):Option ((Int×Int×Int×Int)⊕(Int×Int×Int)) :=
 if decide (l≤(i.length:Int))=true then
 (aQ (fun s:Int×Int×Int×Int=>Zc_L2 g1 j i q l s.1 s.2.1 s.2.2.1 s.2.2.2) (a,h,(0:Int),(0:Int))).bind fun e=>Zc_J7 b l e.1 e.2.1 e.2.2
 else
 some (.inr (a,h,b))
def Zc (g1:Graph)(b:List (List Int))(a:List Int):Option (Int×Int) :=
 (Z0a a (aI ((g1.Nodes.length:Int) - 1))).bind fun h =>
 (aQ (fun s:Int×Int×Int×Int=>Zc_L1 g1 b a h s.1 s.2.1 s.2.2.1 s.2.2.2) ((0:Int),(0:Int),(0:Int),(0:Int))).bind fun e=>Zc_J9 e.1 e.2.1 e.2.2
def Z0b_J1 (a:List Int)(b:List Int):Option Bool :=
 some (decide ((a.length:Int)<(b.length:Int)))
def Z0b_L1 (b:List Int)(e:List Int)(a:Int):Option ((Int)⊕((Bool)⊕(Unit))) :=
 if ((decide (a<(b.length:Int)))&&(decide (a<(e.length:Int))))=true then
 if (0≤a∧a<(b.length:Int)) then
 if (0≤a∧a<(e.length:Int)) then
 if ((ix b a) != (ix e a))=true then
 some (.inr (.inl (decide ((ix b a)<(ix e a)))))
 else
 some (.inl (aI (a+1)))
 else none
 else none
 else
 some (.inr (.inr ()))
def Z0b (a:List Int)(b:List Int):Option Bool :=
 (aQ (fun s:Int=>Z0b_L1 a b s) (0:Int)).bind fun e=>match e with
 | .inl e=>some e
 | .inr e=>Z0b_J1 a b
def Z6_J9 (a:List Int):Option (List Int) :=
 some a
def Z6_J8 (i:Int)(b:List Int)(h:Bool)(a:Int)(e:Int):Option (((List Int)×Bool×Int×Int×Int)⊕((List Int))) :=
 some (.inl (b,h,a,e,(aI (i+1))))
def Z6_J7 (g1:Graph)(q:Int)(r:List (List Int))(e:List Int)(j:Bool)(a:Int)(b:Int)(l:Int)(h:List Int):Option (((List Int)×Bool×Int×Int×Int)⊕((List Int))) :=
 (Ze g1 h).bind fun s =>
 if (!s)=true then
 Z6_J8 l e j a b
 else
 (Zc g1 r h).bind fun i =>
 if decide (i.1>q)=true then
 Z6_J8 l e j a b
 else
 (bP ((!((!j)||(decide (i.2<b))))&&((i.2==b)&&((!(decide (i.1<a)))&&(i.1==a)))) (Z0b h e)).bind fun u =>
 if (((!j)||(decide (i.2<b)))||((i.2==b)&&((decide (i.1<a))||((i.1==a)&&u))))=true then
 Z6_J8 l h true i.1 i.2
 else
 Z6_J8 l e j a b
def Z6_J6 (b:Int)(a:List Int):Option (((List Int)×Int)⊕((List Int))) :=
 some (.inl (a,(aI (b+1))))
def Z6_L2 (g1:Graph)(e:Int)(a:List Int)(b:Int):Option (((List Int)×Int)⊕((List Int))) :=
 if decide (b<(g1.Nodes.length:Int))=true then
 if (0≤(IntKind.wrap .u64 (b))∧(IntKind.wrap .u64 (b))≤64) then
 if ((bits .and .i64 (e / 2 ^ (IntKind.wrap .u64 (b)).toNat) (1:Int))==1)=true then
 if a.length+([b]:List Int).length≤17592186044416 then
 Z6_J6 b (a++([b]:List Int))
 else none
 else
 Z6_J6 b a
 else none
 else
 some (.inr a)
def Z6_L1 (g1:Graph)(i:Int)(l:List (List Int))(a:List Int)(q:Bool)(b:Int)(h:Int)(j:Int):Option (((List Int)×Bool×Int×Int×Int)⊕((List Int))) :=
 if (0≤(IntKind.wrap .u64 ((g1.Nodes.length:Int)))∧(IntKind.wrap .u64 ((g1.Nodes.length:Int)))≤64) then
 if decide (j<(aI ((1:Int)*2 ^ (IntKind.wrap .u64 ((g1.Nodes.length:Int))).toNat)))=true then
 (aQ (fun s:(List Int)×Int=>Z6_L2 g1 j s.1 s.2) (([]:List Int),(0:Int))).bind fun e=>Z6_J7 g1 i l a q b h j e
 else
 some (.inr a)
 else none
def Z6 (g1:Graph)(a:Int):Option (List Int) :=
 (Z38 g1).bind fun h =>
 if ((!h)||(decide ((g1.Nodes.length:Int)>12)))=true then
 some ([]:List Int)
 else
 (Z12 g1).bind fun b =>
 (aQ (fun s:(List Int)×Bool×Int×Int×Int=>Z6_L1 g1 a b s.1 s.2.1 s.2.2.1 s.2.2.2.1 s.2.2.2.2) (([]:List Int),false,(0:Int),(0:Int),(0:Int))).bind fun e=>Z6_J9 e
def Z3m (a:Int)(b:Int):Option (Int×Int) :=
 some (a,b)
def Z3n (a:Int)(b:Int):Option (Int×Int) :=
 some (a,b)
def Z3o (a:Int)(b:Int):Option (Int×Int) :=
 some (a,b)
def Z3p (a:Int)(b:Int):Option (Int×Int) :=
 some (a,b)
def Z01_J3 (a:Int)(j:Bool):Option kindOfR :=
 if j=true then
 some (⟨6,false,(0:Int),(0:Int),fI⟩:kindOfR)
 else
 if (a==15)=true then
 (Z3m (4:Int) (4:Int)).bind fun b =>
 some (⟨8,false,b.1,b.2,fI⟩:kindOfR)
 else
 if (a==16)=true then
 (Z3n (1:Int) (4097:Int)).bind fun e =>
 some (⟨9,false,e.1,e.2,fI⟩:kindOfR)
 else
 if (a==17)=true then
 (Z3o (2:Int) (4098:Int)).bind fun h =>
 some (⟨10,false,h.1,h.2,fI⟩:kindOfR)
 else
 if (a==19)=true then
 (Z3p (3:Int) (3:Int)).bind fun i =>
 some (⟨11,false,i.1,i.2,fI⟩:kindOfR)
 else
 some (⟨0,false,(0:Int),(0:Int),([]:aN)⟩:kindOfR)
def Z01_J2 (a:Int)(b:Bool):Option kindOfR :=
 if b=true then
 some (⟨3,false,(aI ((aI (a - 6))+1)),(0:Int),([]:aN)⟩:kindOfR)
 else
 if (a==10)=true then
 some (⟨4,false,(0:Int),(0:Int),([]:aN)⟩:kindOfR)
 else
 if (a==11)=true then
 some (⟨5,false,(0:Int),(0:Int),([]:aN)⟩:kindOfR)
 else
 if (a==12)=true then
 some (⟨6,false,(0:Int),(0:Int),hU⟩:kindOfR)
 else
 if (a==13)=true then
 some (⟨7,false,(0:Int),(0:Int),hU⟩:kindOfR)
 else
 if (a==14)=true then
 Z01_J3 a (a==14)
 else
 Z01_J3 a (a==18)
def Z01_J1 (a:Int)(b:Bool):Option kindOfR :=
 if b=true then
 some (⟨2,false,(aI ((aI (a - 3))+1)),(0:Int),([]:aN)⟩:kindOfR)
 else
 if (a==6)=true then
 Z01_J2 a (a==6)
 else
 if (a==7)=true then
 Z01_J2 a (a==7)
 else
 if (a==8)=true then
 Z01_J2 a (a==8)
 else
 Z01_J2 a (a==9)
def Z01 (a:Int):Option kindOfR :=
 if (a==1)=true then
 some (⟨1,false,(0:Int),(0:Int),([]:aN)⟩:kindOfR)
 else
 if (a==2)=true then
 some (⟨1,true,(0:Int),(0:Int),([]:aN)⟩:kindOfR)
 else
 if (a==3)=true then
 Z01_J1 a (a==3)
 else
 if (a==4)=true then
 Z01_J1 a (a==4)
 else
 Z01_J1 a (a==5)
def Z3r (k1:leafKind):Option aN :=
 if k1.data=true then
 some pE
 else
 some hU
def Z3s (k1:pairKind):Option aN :=
 some ([]:aN)
def Z3z (k1:soloKind):Option aN :=
 some ([]:aN)
def Z40 (k1:topKind):Option aN :=
 some fI
def Z3q (k1:formKind):Option aN :=
 some kL
def Z3x (k1:shiftKind):Option aN :=
 some k1.use
def Z3y (k1:shiftKind):Option aN :=
 some k1.use
def Z3t (k1:shiftKind)(a:Int)(b:Int):Option aN :=
 some k1.use
def Z3u (k1:shiftKind)(a:Int)(b:Int):Option aN :=
 some k1.use
def Z3v (k1:shiftKind)(a:Int)(b:Int):Option aN :=
 some k1.use
def Z3w (k1:shiftKind)(a:Int)(b:Int):Option aN :=
 some k1.use
def gC (r:kindOfR):Option aN :=
 if Nat.beq r.t 0=true then none else (if Nat.beq r.t 1=true then Z3r (⟨r.b0⟩:leafKind) else (if Nat.beq r.t 2=true then Z3s (⟨r.i0⟩:pairKind) else (if Nat.beq r.t 3=true then Z3z (⟨r.i0⟩:soloKind) else (if Nat.beq r.t 4=true then Z40 (⟨⟩:topKind) else (if Nat.beq r.t 5=true then Z3q (⟨⟩:formKind) else (if Nat.beq r.t 6=true then Z3x (⟨r.s0⟩:shiftKind) else (if Nat.beq r.t 7=true then Z3y (⟨r.s0⟩:shiftKind) else (if Nat.beq r.t 8=true then Z3t (⟨r.s0⟩:shiftKind) r.i0 r.i1 else (if Nat.beq r.t 9=true then Z3u (⟨r.s0⟩:shiftKind) r.i0 r.i1 else (if Nat.beq r.t 10=true then Z3v (⟨r.s0⟩:shiftKind) r.i0 r.i1 else (Z3w (⟨r.s0⟩:shiftKind) r.i0 r.i1)))))))))))
def dE (a b:aN):Option Int :=
 if a.length<4294967281 then some (Lib.index a b) else none
def Z2m (p1:aN)(a:aN):Option Int :=
 (dE p1 a).bind fun b =>
 some b
def Z42 (p1:aN)(a:aN):Option Bool :=
 (Z2m p1 a).bind fun b =>
 some (decide (b≥0))
def Z7 (a:aN)(b:aN):Option Bool :=
 (Z42 b a).bind fun e =>
 some e
def Z24 (b:Node)(a:aN):Option Bool :=
 (Z7 hU a).bind fun i =>
 (bP (i||((b.Dims.length:Int)==0)) (Z7 fI a)).bind fun e =>
 (bP ((i||((b.Dims.length:Int)==0))&&(e||((b.Ints.length:Int)==0))) (Z7 kL a)).bind fun h =>
 (bP (((i||((b.Dims.length:Int)==0))&&(e||((b.Ints.length:Int)==0)))&&(h||(b.Form==([]:aN)))) (Z7 pF a)).bind fun j =>
 some ((((i||((b.Dims.length:Int)==0))&&(e||((b.Ints.length:Int)==0)))&&(h||(b.Form==([]:aN))))&&(j||((b.Data.length:Int)==0)))
def Zf_J1 (a:List Int):Option Bool :=
 some (decide ((a.length:Int)≤6))
def Zf_L1 (a:List Int)(e:Int)(b:Int):Option ((Int×Int)⊕((Bool)⊕(Unit))) :=
 if decide (b<(a.length:Int))=true then
 if (0≤b∧b<(a.length:Int)) then
 if ((decide ((ix a b)<1))||(decide ((ix a b)>4096)))=true then
 some (.inr (.inl false))
 else
 if decide ((aI (e*(ix a b)))>4096)=true then
 some (.inr (.inl false))
 else
 some (.inl ((aI (e*(ix a b))),(aI (b+1))))
 else none
 else
 some (.inr (.inr ()))
def Zf (a:List Int):Option Bool :=
 (aQ (fun s:Int×Int=>Zf_L1 a s.1 s.2) ((1:Int),(0:Int))).bind fun e=>match e with
 | .inl e=>some e
 | .inr e=>Zf_J1 a
def Zl_J1 (a:Int):Option Int :=
 some a
def Zl_L1 (a:List Int)(e:Int)(b:Int):Option ((Int×Int)⊕(Int)) :=
 if decide (b<(a.length:Int))=true then
 if (0≤b∧b<(a.length:Int)) then
 some (.inl ((aI (e*(ix a b))),(aI (b+1))))
 else none
 else
 some (.inr e)
def Zl (a:List Int):Option Int :=
 (aQ (fun s:Int×Int=>Zl_L1 a s.1 s.2) ((1:Int),(0:Int))).bind fun e=>Zl_J1 e
def Z3d (p1:Int):Option Bool :=
 some ((decide (p1≥0))&&(decide (p1<2147483647)))
def Z1b_J1:Option Bool :=
 some true
def Z1b_L1 (b:List Int)(a:Int):Option ((Int)⊕((Bool)⊕(Unit))) :=
 if decide (a<(b.length:Int))=true then
 if (0≤a∧a<(b.length:Int)) then
 (Z3d (ix b a)).bind fun e =>
 if (!e)=true then
 some (.inr (.inl false))
 else
 some (.inl (aI (a+1)))
 else none
 else
 some (.inr (.inr ()))
def Z1b (a:List Int):Option Bool :=
 (aQ (fun s:Int=>Z1b_L1 a s) (0:Int)).bind fun e=>match e with
 | .inl e=>some e
 | .inr e=>Z1b_J1
def Z2w (t1:Tensor):Option Bool :=
 (Zf t1.Dims).bind fun a =>
 (bP a (Zl t1.Dims)).bind fun b =>
 (bP (a&&((t1.Data.length:Int)==b)) (Z1b t1.Data)).bind fun e =>
 some ((a&&((t1.Data.length:Int)==b))&&e)
def Z1t (k1:leafKind)(e:Node)(a:List (List Int)):Option ((List Int)×Bool) :=
 (bP (!((a.length:Int) != 0)) (Zf e.Dims)).bind fun b =>
 (bP ((!(((a.length:Int) != 0)||(!b)))&&k1.data) (Z2w (⟨e.Dims,e.Data⟩:Tensor))).bind fun h =>
 if ((((a.length:Int) != 0)||(!b))||(k1.data&&(!h)))=true then
 some (([]:List Int),false)
 else
 some (e.Dims,true)
def Z18_J1:Option Bool :=
 some true
def Z18_L1 (b:List Int)(e:List Int)(a:Int):Option ((Int)⊕((Bool)⊕(Unit))) :=
 if decide (a<(b.length:Int))=true then
 if (0≤a∧a<(b.length:Int)) then
 if (0≤a∧a<(e.length:Int)) then
 if ((ix b a) != (ix e a))=true then
 some (.inr (.inl false))
 else
 some (.inl (aI (a+1)))
 else none
 else none
 else
 some (.inr (.inr ()))
def Z18 (a:List Int)(b:List Int):Option Bool :=
 if ((a.length:Int) != (b.length:Int))=true then
 some false
 else (
 (aQ (fun s:Int=>Z18_L1 a b s) (0:Int)).bind fun e=>match e with
 | .inl e=>some e
 | .inr e=>Z18_J1)
def Z2d (k1:pairKind)(e:Node)(a:List (List Int)):Option ((List Int)×Bool) :=
 if ((a.length:Int) != 2)=false→(0≤(0:Int)∧(0:Int)<(a.length:Int)) then
 if ((a.length:Int) != 2)=false→(0≤(1:Int)∧(1:Int)<(a.length:Int)) then
 (bP (!((a.length:Int) != 2)) (Z18 (ix a 0) (ix a 1))).bind fun b =>
 if (((a.length:Int) != 2)||(!b))=true then
 some (([]:List Int),false)
 else
 if (0≤(0:Int)∧(0:Int)<(a.length:Int)) then
 some ((ix a 0),true)
 else none
 else none
 else none
def Z35 (k1:soloKind)(b:Node)(a:List (List Int)):Option ((List Int)×Bool) :=
 if ((a.length:Int) != 1)=true then
 some (([]:List Int),false)
 else
 if (0≤(0:Int)∧(0:Int)<(a.length:Int)) then
 some ((ix a 0),true)
 else none
def Zp (b:List Int)(a:Int):Option Bool :=
 some ((decide (a≥0))&&(decide (a<(b.length:Int))))
def Z25 (k1:topKind)(b:Node)(a:List (List Int)):Option ((List Int)×Bool) :=
 if (((a.length:Int) != 1)||((b.Ints.length:Int) != 1))=false→(0≤(0:Int)∧(0:Int)<(a.length:Int)) then
 if (((a.length:Int) != 1)||((b.Ints.length:Int) != 1))=false→(0≤(0:Int)∧(0:Int)<(b.Ints.length:Int)) then
 (bP (!(((a.length:Int) != 1)||((b.Ints.length:Int) != 1))) (Zp (ix a 0) (ix b.Ints 0))).bind fun e =>
 if ((((a.length:Int) != 1)||((b.Ints.length:Int) != 1))||(!e))=true then
 some (([]:List Int),false)
 else
 if (0≤(0:Int)∧(0:Int)<(a.length:Int)) then
 some ((ix a 0),true)
 else none
 else none
 else none
def eM (p1:aN)(a:aN):Option (aN×aN×Bool) :=
 (dE p1 a).bind fun b =>
 if decide (b≥0)=true then
 if (0≤(0:Int)∧(0:Int)≤b∧b≤(p1.length:Int)) then
 if (0≤(aI (b+(a.length:Int)))∧(aI (b+(a.length:Int)))≤(p1.length:Int)∧(p1.length:Int)≤(p1.length:Int)) then
 some ((sub p1 (0:Int) b),(sub p1 (aI (b+(a.length:Int))) (p1.length:Int)),true)
 else none
 else none
 else
 some (p1,([]:aN),false)
def Z3b (p1:aN)(a:aN):Option (aN×aN×Bool) :=
 (eM p1 a).bind fun b =>
 some (b.1,b.2.1,b.2.2)
def Z3l (a b:aN):Option Int :=
 match b with
 | [c]=>some (Lib.countByte a c)
 | _=>none
def Z0g_J3 (p1:aN)(b:Int)(h:aN)(e:List aN)(a:Int):Option (List aN) :=
 if (0≤a∧a<((List.replicate (if (aI ((p1.length:Int)+1))<b then (aI ((p1.length:Int)+1)) else b).toNat ([]:aN)).length:Int)) then
 if (0≤(0:Int)∧(0:Int)≤(aI (a+1))∧(aI (a+1))≤((List.replicate (if (aI ((p1.length:Int)+1))<b then (aI ((p1.length:Int)+1)) else b).toNat ([]:aN)).length:Int)) then
 some (sub (e.set a.toNat h) (0:Int) (aI (a+1)))
 else none
 else none
def Z0g_L1 (p1:aN)(i:aN)(a:Int)(j:Int)(b:aN)(a25:List aN)(e:Int):Option ((aN×(List aN)×Int)⊕(aN×(List aN)×Int)) :=
 if decide (e<(aI ((if (aI ((p1.length:Int)+1))<j then (aI ((p1.length:Int)+1)) else j) - 1)))=true then
 (Z2m b i).bind fun h =>
 if decide (h<0)=true then
 some (.inr (b,a25,e))
 else
 if (0≤(0:Int)∧(0:Int)≤(aI (h+a))∧(aI (h+a))≤(b.length:Int)) then
 if (0≤e∧e<((List.replicate (if (aI ((p1.length:Int)+1))<j then (aI ((p1.length:Int)+1)) else j).toNat ([]:aN)).length:Int)) then
 (nm (a25.set e.toNat (sub b (0:Int) (aI (h+a))))).bind fun l =>
 if (0≤(aI (h+(i.length:Int)))∧(aI (h+(i.length:Int)))≤(b.length:Int)∧(b.length:Int)≤(b.length:Int)) then
 some (.inl ((sub b (aI (h+(i.length:Int))) (b.length:Int)),l,(aI (e+1))))
 else none
 else none
 else none
 else
 some (.inr (b,a25,e))
def Z0g_J2 (p1:aN)(h:aN)(b:Int)(a:Int):Option (List aN) :=
 if (0≤(if (aI ((p1.length:Int)+1))<a then (aI ((p1.length:Int)+1)) else a)∧(if (aI ((p1.length:Int)+1))<a then (aI ((p1.length:Int)+1)) else a)≤140737488355328∧16*(if (aI ((p1.length:Int)+1))<a then (aI ((p1.length:Int)+1)) else a)≤281474976710656) then
 (aQ (fun s:aN×(List aN)×Int=>Z0g_L1 p1 h b a s.1 s.2.1 s.2.2) (p1,(List.replicate (if (aI ((p1.length:Int)+1))<a then (aI ((p1.length:Int)+1)) else a).toNat ([]:aN)),(0:Int))).bind fun e=>Z0g_J3 p1 a e.1 e.2.1 e.2.2
 else none
def Z0g (p1:aN)(b:aN)(a:Int)(e:Int):Option (List aN) :=
 if (e==0)=true then
 some ([]:List aN)
 else
 if (b==([]:aN))=true then
 none
 else
 if decide (e<0)=true then
 (Z3l p1 b).bind fun h =>
 Z0g_J2 p1 b a (aI (h+1))
 else
 Z0g_J2 p1 b a e
def Z3c (p1:aN)(a:aN):Option (List aN) :=
 (Z0g p1 a (0:Int) (-1:Int)).bind fun b =>
 some b
def dS (b:aN)(a:Int):Option Int :=
 some (Lib.indexByte b a.toNat.toUInt8)
def Z22 (p1:aN)(a:Int):Option Int :=
 (dS p1 a).bind fun b =>
 some b
def Zg_J4 (a:aN×aN×Bool)(b:List aN):Option ((List aN)×aN×Bool) :=
 some (b,a.2.1,true)
def Zg_L3 (b:aN×aN×Bool)(a:Int):Option ((Int)⊕(((List aN)×aN×Bool)⊕(Unit))) :=
 if decide (a<(b.2.1.length:Int))=true then
 if (0≤a∧a<(b.2.1.length:Int)) then
 if ((decide ((bt b.2.1 a)<97))||(decide ((bt b.2.1 a)>122)))=false→(0≤(0:Int)∧(0:Int)≤a∧a≤(b.2.1.length:Int)) then
 (bP (!((decide ((bt b.2.1 a)<97))||(decide ((bt b.2.1 a)>122)))) (Z22 (sub b.2.1 (0:Int) a) (bt b.2.1 a))).bind fun e =>
 (bP (!(((decide ((bt b.2.1 a)<97))||(decide ((bt b.2.1 a)>122)))||(decide (e≥0)))) (Z22 b.1 (bt b.2.1 a))).bind fun h =>
 if ((((decide ((bt b.2.1 a)<97))||(decide ((bt b.2.1 a)>122)))||(decide (e≥0)))||(decide (h<0)))=true then
 some (.inr (.inl (([]:List aN),([]:aN),false)))
 else
 some (.inl (aI (a+1)))
 else none
 else none
 else
 some (.inr (.inr ()))
def Zg_J3 (a:aN×aN×Bool)(b:List aN):Option ((List aN)×aN×Bool) :=
 (aQ (fun s:Int=>Zg_L3 a s) (0:Int)).bind fun e=>match e with
 | .inl e=>some e
 | .inr e=>Zg_J4 a b
def Zg_J2 (a:Int):Option ((Int)⊕(((List aN)×aN×Bool)⊕(Unit))) :=
 some (.inl (aI (a+1)))
def Zg_L2 (e:List aN)(b:Int)(a:Int):Option ((Int)⊕(((List aN)×aN×Bool)⊕(Unit))) :=
 if decide (a<((ix e b).length:Int))=true then
 if (0≤a∧a<((ix e b).length:Int)) then
 if ((decide ((bt (ix e b) a)<97))||(decide ((bt (ix e b) a)>122)))=true then
 some (.inr (.inl (([]:List aN),([]:aN),false)))
 else
 some (.inl (aI (a+1)))
 else none
 else
 some (.inr (.inr ()))
def Zg_L1 (b:List aN)(a:Int):Option ((Int)⊕(((List aN)×aN×Bool)⊕(Unit))) :=
 if decide (a<(b.length:Int))=true then (
 if (0≤a∧a<(b.length:Int)) then
 if decide (((ix b a).length:Int)>6)=true then
 some (.inr (.inl (([]:List aN),([]:aN),false)))
 else (
 (aQ (fun s:Int=>Zg_L2 b a s) (0:Int)).bind fun e=>match e with
 | .inl e=>some (.inr (.inl e))
 | .inr e=>Zg_J2 a)
 else none)
 else
 some (.inr (.inr ()))
def Zg (a:aN):Option ((List aN)×aN×Bool) :=
 (Z3b a str0).bind fun b =>
 if ((!b.2.2)||(decide ((b.2.1.length:Int)>6)))=true then
 some (([]:List aN),([]:aN),false)
 else (
 (Z3c b.1 str6).bind fun h =>
 if decide ((h.length:Int)>6)=true then
 some (([]:List aN),([]:aN),false)
 else (
 (aQ (fun s:Int=>Zg_L1 h s) (0:Int)).bind fun e=>match e with
 | .inl e=>some e
 | .inr e=>Zg_J3 b h))
def Zt (a:List Int):Option (List Int) :=
 if a.length≤17592186044416 then some a else none
def Z0c_J3 (a:List Int):Option (List Int) :=
 some a
def Z0c_J2 (a:List Int)(e:Int)(b:Int)(h:List Int):Option (((List Int)×Int×Int)⊕((List Int))) :=
 if (0≤b∧b<(a.length:Int)) then
 some (.inl (h,(aI (e*(ix a b))),(aI (b - 1))))
 else none
def Z0c_L1 (a:List Int)(h:List Int)(e:Int)(b:Int):Option (((List Int)×Int×Int)⊕((List Int))) :=
 if decide (b≥0)=true then
 if (0≤b∧b<(a.length:Int)) then
 if decide ((ix a b)>1)=true then
 if (0≤b∧b<((List.replicate (a.length:Int).toNat (0:Int)).length:Int)) then
 Z0c_J2 a e b (h.set b.toNat e)
 else none
 else
 Z0c_J2 a e b h
 else none
 else
 some (.inr h)
def Z0c (a:List Int):Option (List Int) :=
 if (0≤(a.length:Int)∧(a.length:Int)≤140737488355328∧8*(a.length:Int)≤281474976710656) then
 (aQ (fun s:(List Int)×Int×Int=>Z0c_L1 a s.1 s.2.1 s.2.2) ((List.replicate (a.length:Int).toNat (0:Int)),(1:Int),(aI ((a.length:Int) - 1)))).bind fun e=>Z0c_J3 e
 else none
def Zo_J7 (a:List Int):Option (List Int) :=
 some a
def Zo_J6 (a:Int)(b:List Int):Option (((List Int)×Int)⊕((List Int))) :=
 some (.inl (b,(aI (a+1))))
def Zo_J5 (a:Int)(b:List Int):Option (((List Int)×Int)⊕((List Int))) :=
 some (.inl (b,(aI (a+1))))
def Zo_L2 (f1:form)(a:aN)(h:List Int)(e:Int)(i:List Int)(b:Int):Option (((List Int)×Int)⊕((List Int))) :=
 if decide (b<(a.length:Int))=true then
 if (0≤b∧b<(a.length:Int)) then
 if (0≤e∧e<(f1.order.length:Int)) then
 if ((bt a b)==(bt f1.order e))=true then
 if (0≤e∧e<((List.replicate (f1.order.length:Int).toNat (0:Int)).length:Int)) then
 if (0≤b∧b<(h.length:Int)) then
 Zo_J5 b (i.set e.toNat (aI ((ix i e)+(ix h b))))
 else none
 else none
 else
 Zo_J5 b i
 else none
 else none
 else
 some (.inr i)
def Zo_L1 (f1:form)(a:aN)(b:List Int)(i:List Int)(h:Int):Option (((List Int)×Int)⊕((List Int))) :=
 if decide (h<((List.replicate (f1.order.length:Int).toNat (0:Int)).length:Int))=true then
 (aQ (fun s:(List Int)×Int=>Zo_L2 f1 a b h s.1 s.2) (i,(0:Int))).bind fun e=>Zo_J6 h e
 else
 some (.inr i)
def Zo (f1:form)(a:aN)(b:List Int):Option (List Int) :=
 if (0≤(f1.order.length:Int)∧(f1.order.length:Int)≤140737488355328∧8*(f1.order.length:Int)≤281474976710656) then
 (aQ (fun s:(List Int)×Int=>Zo_L1 f1 a b s.1 s.2) ((List.replicate (f1.order.length:Int).toNat (0:Int)),(0:Int))).bind fun e=>Zo_J7 e
 else none
def Z0_J9 (j:(List aN)×aN×Bool)(b:aN)(e:List Int)(a:List Int)(f224:List (List Int)):Option (form×Bool) :=
 (Z0c a).bind fun h =>
 (Zo (⟨j.1,j.2.1,b,e,a,f224,([]:List Int)⟩:form) j.2.1 h).bind fun i =>
 some ((⟨j.1,j.2.1,b,e,a,f224,i⟩:form),true)
def Z0_L4 (b:List (List Int))(r:(List aN)×aN×Bool)(i:aN)(j:List Int)(l:List Int)(e:List (List Int))(a:Int):Option (((List (List Int))×Int)⊕((List (List Int)))) :=
 if decide (a<(r.1.length:Int))=true then
 if (0≤a∧a<(r.1.length:Int)) then
 if (0≤a∧a<(b.length:Int)) then
 (Z0c (ix b a)).bind fun q =>
 (Zo (⟨r.1,r.2.1,i,j,l,e,([]:List Int)⟩:form) (ix r.1 a) q).bind fun h =>
 if e.length+([h]:List (List Int)).length≤5864062014805 then
 some (.inl ((e++([h]:List (List Int))),(aI (a+1))))
 else none
 else none
 else none
 else
 some (.inr e)
def Z0_J8 (h:List (List Int))(l:(List aN)×aN×Bool)(i:aN)(a:List Int):Option (form×Bool) :=
 if (0≤(0:Int)∧(0:Int)≤(l.2.1.length:Int)∧(l.2.1.length:Int)≤(a.length:Int)) then
 (Zt (sub a (0:Int) (l.2.1.length:Int))).bind fun b =>
 (Zf b).bind fun j =>
 if (!j)=true then
 some ((⟨([]:List aN),([]:aN),([]:aN),([]:List Int),([]:List Int),([]:List (List Int)),([]:List Int)⟩:form),false)
 else
 (aQ (fun s:(List (List Int))×Int=>Z0_L4 h l i a b s.1 s.2) (([]:List (List Int)),(0:Int))).bind fun e=>Z0_J9 l i a b e
 else none
def Z0_L3 (e:aN)(b:List Int)(i:List Int)(h:Int)(a:Int):Option (((List Int)×Int×Int)⊕((form×Bool)⊕((List Int)))) :=
 if decide (a<(e.length:Int))=true then
 if (0≤a∧a<(e.length:Int)) then
 if (0≤(IntKind.wrap .u8 ((bt e a) - 97))∧(IntKind.wrap .u8 ((bt e a) - 97))<26) then
 if i.length+([(ix b (IntKind.wrap .u8 ((bt e a) - 97)))]:List Int).length≤17592186044416 then
 if decide ((aI (h*(ix b (IntKind.wrap .u8 ((bt e a) - 97)))))>65536)=true then
 some (.inr (.inl ((⟨([]:List aN),([]:aN),([]:aN),([]:List Int),([]:List Int),([]:List (List Int)),([]:List Int)⟩:form),false)))
 else
 some (.inl ((i++([(ix b (IntKind.wrap .u8 ((bt e a) - 97)))]:List Int)),(aI (h*(ix b (IntKind.wrap .u8 ((bt e a) - 97))))),(aI (a+1))))
 else none
 else none
 else none
 else
 some (.inr (.inr i))
def Z0_J7 (b:List (List Int))(i:(List aN)×aN×Bool)(h:aN)(a:List Int):Option (form×Bool) :=
 (aQ (fun s:(List Int)×Int×Int=>Z0_L3 h a s.1 s.2.1 s.2.2) (([]:List Int),(1:Int),(0:Int))).bind fun e=>match e with
 | .inl e=>some e
 | .inr e=>Z0_J8 b i h e
def Z0_J6 (e:Int)(b:aN)(a:List Int):Option ((aN×(List Int)×Int)⊕((form×Bool)⊕(aN×(List Int)))) :=
 some (.inl (b,a,(aI (e+1))))
def Z0_J5 (e:Int)(b:aN)(a:List Int):Option ((aN×(List Int)×Int)⊕((form×Bool)⊕(aN×(List Int)))) :=
 some (.inl (b,a,(aI (e+1))))
def Z0_L2 (h:List (List Int))(j:(List aN)×aN×Bool)(e:Int)(i:aN)(b:List Int)(a:Int):Option ((aN×(List Int)×Int)⊕((form×Bool)⊕(aN×(List Int)))) :=
 if decide (a<((ix j.1 e).length:Int))=true then
 if (0≤a∧a<((ix j.1 e).length:Int)) then
 if (0≤(IntKind.wrap .u8 ((bt (ix j.1 e) a) - 97))∧(IntKind.wrap .u8 ((bt (ix j.1 e) a) - 97))<26) then
 if ((ix b (IntKind.wrap .u8 ((bt (ix j.1 e) a) - 97))) != 0)=true→(0≤a∧a<((ix h e).length:Int)) then
 if (((ix b (IntKind.wrap .u8 ((bt (ix j.1 e) a) - 97))) != 0)&&((ix b (IntKind.wrap .u8 ((bt (ix j.1 e) a) - 97))) != (ix (ix h e) a)))=true then
 some (.inr (.inl ((⟨([]:List aN),([]:aN),([]:aN),([]:List Int),([]:List Int),([]:List (List Int)),([]:List Int)⟩:form),false)))
 else
 if (0≤a∧a<((ix h e).length:Int)) then
 (nm (b.set (IntKind.wrap .u8 ((bt (ix j.1 e) a) - 97)).toNat (ix (ix h e) a))).bind fun l =>
 (Z22 i (bt (ix j.1 e) a)).bind fun q =>
 if decide (q<0)=true then
 if (0≤a∧a≤(aI (a+1))∧(aI (a+1))≤((ix j.1 e).length:Int)) then
 if i.length+(sub (ix j.1 e) a (aI (a+1))).length≤9223372036854775807 then
 Z0_J5 a (i++(sub (ix j.1 e) a (aI (a+1)))) l
 else none
 else none
 else
 Z0_J5 a i l
 else none
 else none
 else none
 else none
 else
 some (.inr (.inr (i,b)))
def Z0_L1 (a:List (List Int))(j:(List aN)×aN×Bool)(i:aN)(h:List Int)(b:Int):Option ((aN×(List Int)×Int)⊕((form×Bool)⊕(aN×(List Int)))) :=
 if decide (b<(j.1.length:Int))=true then (
 if (0≤b∧b<(j.1.length:Int)) then
 if (0≤b∧b<(a.length:Int)) then
 if (((ix j.1 b).length:Int) != ((ix a b).length:Int))=true then
 some (.inr (.inl ((⟨([]:List aN),([]:aN),([]:aN),([]:List Int),([]:List Int),([]:List (List Int)),([]:List Int)⟩:form),false)))
 else (
 (aQ (fun s:aN×(List Int)×Int=>Z0_L2 a j b s.1 s.2.1 s.2.2) (i,h,(0:Int))).bind fun e=>match e with
 | .inl e=>some (.inr (.inl e))
 | .inr e=>Z0_J6 b e.1 e.2)
 else none
 else none)
 else
 some (.inr (.inr (i,h)))
def Z0 (b:aN)(a:List (List Int)):Option (form×Bool) :=
 (Zg b).bind fun h =>
 if ((!h.2.2)||((h.1.length:Int) != (a.length:Int)))=true then
 some ((⟨([]:List aN),([]:aN),([]:aN),([]:List Int),([]:List Int),([]:List (List Int)),([]:List Int)⟩:form),false)
 else (
 (aQ (fun s:aN×(List Int)×Int=>Z0_L1 a h s.1 s.2.1 s.2.2) (h.2.1,(List.replicate 26 (0:Int)),(0:Int))).bind fun e=>match e with
 | .inl e=>some e
 | .inr e=>Z0_J7 a h e.1 e.2)
def Z34 (k1:formKind)(e:Node)(a:List (List Int)):Option ((List Int)×Bool) :=
 (Z0 e.Form a).bind fun b =>
 some (b.1.dims,b.2)
def Z2y (a:List Int):Option View :=
 (Zf a).bind fun h =>
 if (!h)=true then
 some (⟨([]:List Int),([]:List Int),(0:Int),(0:Int)⟩:View)
 else
 (Zt a).bind fun i =>
 (Z0c a).bind fun b =>
 (Zl a).bind fun e =>
 some (⟨i,b,(0:Int),e⟩:View)
def Zk_J1 (v1:View)(b:Int)(a:Int):Option Bool :=
 some ((decide (b≥0))&&(decide (a<v1.Base)))
def Zk_L1 (v1:View)(e:Int)(b:Int)(a:Int):Option ((Int×Int×Int)⊕((Bool)⊕(Int×Int))) :=
 if decide (a<(v1.Strides.length:Int))=true then
 if (0≤a∧a<(v1.Strides.length:Int)) then
 if ((decide ((ix v1.Strides a)<(-4096:Int)))||(decide ((ix v1.Strides a)>4096)))=true then
 some (.inr (.inl false))
 else
 if (0≤a∧a<(v1.Dims.length:Int)) then
 some (.inl ((aI (e+(if (aI ((ix v1.Strides a)*(aI ((ix v1.Dims a) - 1))))<0 then (aI ((ix v1.Strides a)*(aI ((ix v1.Dims a) - 1)))) else (0:Int)))),(aI (b+(if (aI ((ix v1.Strides a)*(aI ((ix v1.Dims a) - 1))))>0 then (aI ((ix v1.Strides a)*(aI ((ix v1.Dims a) - 1)))) else (0:Int)))),(aI (a+1))))
 else none
 else none
 else
 some (.inr (.inr (e,b)))
def Zk (v1:View):Option Bool :=
 (Zf v1.Dims).bind fun a =>
 if ((((((!a)||((v1.Strides.length:Int) != (v1.Dims.length:Int)))||(decide (v1.Base<1)))||(decide (v1.Base>4096)))||(decide (v1.Offset<0)))||(decide (v1.Offset≥v1.Base)))=true then
 some false
 else (
 (aQ (fun s:Int×Int×Int=>Zk_L1 v1 s.1 s.2.1 s.2.2) (v1.Offset,v1.Offset,(0:Int))).bind fun e=>match e with
 | .inl e=>some e
 | .inr e=>Zk_J1 v1 e.1 e.2)
def Z08_J3 (p1:View)(b:List Int)(a:List Int):Option (Bool×View) :=
 some (true,(⟨b,a,p1.Offset,p1.Base⟩:View))
def Z08_J2 (a:Int)(b:List Int):Option (((List Int)×Int)⊕((Bool×View)⊕((List Int)))) :=
 some (.inl (b,(aI (a+1))))
def Z08_L1 (p1:View)(e:List Int)(b:View)(j:List Int)(h:List Int)(a:Int):Option (((List Int)×Int)⊕((Bool×View)⊕((List Int)))) :=
 if decide (a<(b.Dims.length:Int))=true then
 if (0≤a∧a<(b.Dims.length:Int)) then
 if (0≤(aI ((aI ((e.length:Int) - (b.Dims.length:Int)))+a))∧(aI ((aI ((e.length:Int) - (b.Dims.length:Int)))+a))<(e.length:Int)) then
 if ((ix b.Dims a)==(ix e (aI ((aI ((e.length:Int) - (b.Dims.length:Int)))+a))))=true then
 if (0≤a∧a<(b.Strides.length:Int)) then
 if (0≤(aI ((aI ((e.length:Int) - (b.Dims.length:Int)))+a))∧(aI ((aI ((e.length:Int) - (b.Dims.length:Int)))+a))<((List.replicate (e.length:Int).toNat (0:Int)).length:Int)) then
 (nm (h.set (aI ((aI ((e.length:Int) - (b.Dims.length:Int)))+a)).toNat (ix b.Strides a))).bind fun i =>
 Z08_J2 a i
 else none
 else none
 else
 if ((ix b.Dims a) != 1)=true then
 some (.inr (.inl (false,(⟨j,h,p1.Offset,p1.Base⟩:View))))
 else
 Z08_J2 a h
 else none
 else none
 else
 some (.inr (.inr h))
def Z08 (p1:View)(a:List Int)(i:View):Option (Bool×View) :=
 (Zf a).bind fun h =>
 if ((!h)||(decide ((a.length:Int)<(i.Dims.length:Int))))=true then
 some (false,p1)
 else (
 (Zt a).bind fun b =>
 if (0≤(a.length:Int)∧(a.length:Int)≤140737488355328∧8*(a.length:Int)≤281474976710656) then
 (aQ (fun s:(List Int)×Int=>Z08_L1 p1 a i b s.1 s.2) ((List.replicate (a.length:Int).toNat (0:Int)),(0:Int))).bind fun e=>match e with
 | .inl e=>some e
 | .inr e=>Z08_J3 p1 b e
 else none)
def Z3g (v1:View)(j:List Int)(l:View):Option View :=
 (Zk v1).bind fun b =>
 if (!b)=true then
 some (⟨([]:List Int),([]:List Int),(0:Int),(0:Int)⟩:View)
 else
 (Zt v1.Dims).bind fun e =>
 (Zt v1.Strides).bind fun h =>
 (Z08 (⟨e,h,v1.Offset,v1.Base⟩:View) j l).bind fun a =>
 (bP (!(!a.1)) (Zk a.2)).bind fun i =>
 if ((!a.1)||(!i))=true then
 some (⟨([]:List Int),([]:List Int),(0:Int),(0:Int)⟩:View)
 else
 some a.2
def Z2p (v1:View)(a:List Int):Option View :=
 (Z3g v1 a v1).bind fun b =>
 some b
def Z16_J3 (v1:View)(a:Int)(b:Int)(e:Int):Option View :=
 if (0≤a∧a<(v1.Dims.length:Int)) then
 if (0≤a∧a<(v1.Strides.length:Int)) then
 some (⟨(v1.Dims.set a.toNat b),(v1.Strides.set a.toNat e),v1.Offset,v1.Base⟩:View)
 else none
 else none
def Z16 (v1:View)(b:Int)(a:Int)(e:Int):Option View :=
 if (a==1)=true then
 Z16_J3 v1 b a (0:Int)
 else
 Z16_J3 v1 b a e
def Z1r_J3 (p1:View)(a:Int)(h:Int)(i:Int)(b:Int):Option (Bool×View×Int) :=
 if (0≤a∧a<(p1.Strides.length:Int)) then
 (Z16 (⟨p1.Dims,p1.Strides,(aI (p1.Offset+(aI (i*(ix p1.Strides a))))),p1.Base⟩:View) a h (aI ((ix p1.Strides a)*b))).bind fun e =>
 some (true,e,b)
 else none
def Z1r (p1:View)(b:Int)(e:Int)(h:Int)(a:Int):Option (Bool×View×Int) :=
 (Zp p1.Dims b).bind fun i =>
 if (((!i)||(decide (e<1)))||(decide (e>4096)))=true then
 some (false,p1,a)
 else
 if (0≤b∧b<(p1.Dims.length:Int)) then
 if ((((decide (h<0))||(decide (h≥(ix p1.Dims b))))||(decide (a<(-4096:Int))))||(decide (a>4096)))=true then
 some (false,p1,a)
 else
 if decide (e>1)=true then
 if ((decide ((aI (h+(aI (a*(aI (e - 1))))))<0))||(decide ((aI (h+(aI (a*(aI (e - 1))))))≥(ix p1.Dims b))))=true then
 some (false,p1,a)
 else
 Z1r_J3 p1 b e h a
 else
 Z1r_J3 p1 b e h (0:Int)
 else none
def Z3f (v1:View)(l:Int)(q:Int)(r:Int)(b:Int):Option (View×Int) :=
 (Zk v1).bind fun e =>
 if (!e)=true then
 some ((⟨([]:List Int),([]:List Int),(0:Int),(0:Int)⟩:View),b)
 else
 (Zt v1.Dims).bind fun h =>
 (Zt v1.Strides).bind fun i =>
 (Z1r (⟨h,i,v1.Offset,v1.Base⟩:View) l q r b).bind fun a =>
 (bP (!(!a.1)) (Zk a.2.1)).bind fun j =>
 if ((!a.1)||(!j))=true then
 some ((⟨([]:List Int),([]:List Int),(0:Int),(0:Int)⟩:View),a.2.2)
 else
 some (a.2.1,a.2.2)
def Z2o (v1:View)(b:Int)(i:Int)(a:Int)(e:Int):Option View :=
 (Z3f v1 b a i e).bind fun h =>
 some h.1
def Z2x (v1:View)(a:Int)(b:Int):Option View :=
 if v1.Dims.length+([(0:Int)]:List Int).length≤17592186044416 then
 if v1.Strides.length+([(0:Int)]:List Int).length≤17592186044416 then
 (Z16 (⟨(v1.Dims++([(0:Int)]:List Int)),(v1.Strides++([(0:Int)]:List Int)),v1.Offset,v1.Base⟩:View) (aI (((v1.Dims++([(0:Int)]:List Int)).length:Int) - 1)) a b).bind fun e =>
 some e
 else none
 else none
def Z1s_J3 (p1:View)(b:Int)(i:Int)(j:Int)(a:Int):Option (Bool×View×Int) :=
 (Z16 p1 b (aI ((aI ((aI ((ix p1.Dims b) - i)).tdiv j))+1)) (aI ((ix p1.Strides b)*a))).bind fun e =>
 (Z2x e i (ix p1.Strides b)).bind fun h =>
 some (true,h,a)
def Z1s (p1:View)(a:Int)(e:Int)(b:Int):Option (Bool×View×Int) :=
 (Zp p1.Dims a).bind fun h =>
 if (((!h)||(decide (e<1)))||(decide (b<1)))=false→(0≤a∧a<(p1.Dims.length:Int)) then
 if ((((!h)||(decide (e<1)))||(decide (b<1)))||(decide (e>(ix p1.Dims a))))=true then
 some (false,p1,b)
 else
 if (0≤a∧a<(p1.Strides.length:Int)) then
 if (0≤a∧a<(p1.Dims.length:Int)) then
 if b≠0 then
 if ((aI ((aI ((aI ((ix p1.Dims a) - e)).tdiv b))+1))==1)=true then
 Z1s_J3 p1 a e b (0:Int)
 else
 Z1s_J3 p1 a e b b
 else none
 else none
 else none
 else none
def Z3h (v1:View)(l:Int)(q:Int)(j:Int):Option (View×Int) :=
 (Zk v1).bind fun b =>
 if (!b)=true then
 some ((⟨([]:List Int),([]:List Int),(0:Int),(0:Int)⟩:View),j)
 else
 (Zt v1.Dims).bind fun e =>
 (Zt v1.Strides).bind fun h =>
 (Z1s (⟨e,h,v1.Offset,v1.Base⟩:View) l q j).bind fun a =>
 (bP (!(!a.1)) (Zk a.2.1)).bind fun i =>
 if ((!a.1)||(!i))=true then
 some ((⟨([]:List Int),([]:List Int),(0:Int),(0:Int)⟩:View),a.2.2)
 else
 some (a.2.1,a.2.2)
def Z2q (v1:View)(a:Int)(b:Int)(e:Int):Option View :=
 (Z3h v1 a b e).bind fun h =>
 some h.1
def Z1l (a:Node)(b:List Int):Option View :=
 (Z2y b).bind fun e =>
 if (a.Op==12)=true then
 (Z2p e a.Dims).bind fun h =>
 some h
 else
 if ((a.Op==14)&&((a.Ints.length:Int)==4))=true→(0≤(3:Int)∧(3:Int)<(a.Ints.length:Int)) then
 if (((a.Op==14)&&((a.Ints.length:Int)==4))&&(decide ((ix a.Ints 3)≥1)))=true then
 if (0≤(0:Int)∧(0:Int)<(a.Ints.length:Int)) then
 if (0≤(1:Int)∧(1:Int)<(a.Ints.length:Int)) then
 if (0≤(2:Int)∧(2:Int)<(a.Ints.length:Int)) then
 if (0≤(3:Int)∧(3:Int)<(a.Ints.length:Int)) then
 (Z2o e (ix a.Ints 0) (ix a.Ints 1) (ix a.Ints 2) (ix a.Ints 3)).bind fun i =>
 some i
 else none
 else none
 else none
 else none
 else
 if ((a.Op==18)&&((a.Ints.length:Int)==3))=true then
 if (0≤(0:Int)∧(0:Int)<(a.Ints.length:Int)) then
 if (0≤(1:Int)∧(1:Int)<(a.Ints.length:Int)) then
 if (0≤(2:Int)∧(2:Int)<(a.Ints.length:Int)) then
 (Z2q e (ix a.Ints 0) (ix a.Ints 1) (ix a.Ints 2)).bind fun j =>
 some j
 else none
 else none
 else none
 else
 some (⟨([]:List Int),([]:List Int),(0:Int),(0:Int)⟩:View)
 else none
def Z3e (e:List Int)(a:List Int)(b:Int):Option ((List Int)×Int×(List Int)) :=
 some (e,b,a)
def Z04_J2 (b:Type)(YF:b→Int→Option (b×Bool))(e:b×Bool)(a:List Int)(i:Int)(h:Int):Option (((List Int)×Int×b)⊕(b)) :=
 if decide (h<0)=true then
 some (.inr e.1)
 else
 some (.inl (a,i,e.1))
def Z04_L2 (l:Type)(YF:l→Int→Option (l×Bool))(h:List Int)(i:List Int)(b:List Int)(e:Int)(a:Int):Option (((List Int)×Int×Int)⊕((List Int)×Int×Int)) :=
 if decide (a≥0)=true then
 if (0≤a∧a<((List.replicate (h.length:Int).toNat (0:Int)).length:Int)) then
 if (0≤a∧a<(i.length:Int)) then
 if (0≤a∧a<(h.length:Int)) then
 if decide ((ix (b.set a.toNat (aI ((ix b a)+1))) a)<(ix h a))=true then
 some (.inr ((b.set a.toNat (aI ((ix b a)+1))),(aI (e+(ix i a))),a))
 else
 (nm ((b.set a.toNat (aI ((ix b a)+1))).set a.toNat (0:Int))).bind fun j =>
 some (.inl (j,(aI ((aI (e+(ix i a))) - (aI ((ix i a)*(ix h a))))),(aI (a - 1))))
 else none
 else none
 else none
 else
 some (.inr (b,e,a))
def Z04_L1 (b:Type)(YF:b→Int→Option (b×Bool))(l:List Int)(q:List Int)(a:List Int)(i:Int)(j:b):Option (((List Int)×Int×b)⊕(b)) :=
 (YF j i).bind fun h =>
 if (!h.2)=true then
 some (.inr h.1)
 else
 (aQ (fun s:(List Int)×Int×Int=>Z04_L2 b YF l q s.1 s.2.1 s.2.2) (a,i,(aI ((l.length:Int) - 1)))).bind fun e=>Z04_J2 b YF h e.1 e.2.1 e.2.2
def Z04 (b:Type)(YF:b→Int→Option (b×Bool))(a:b)(h:List Int)(i:Int)(j:List Int):Option b :=
 if (0≤(h.length:Int)∧(h.length:Int)≤140737488355328∧8*(h.length:Int)≤281474976710656) then
 (aQ (fun s:(List Int)×Int×b=>Z04_L1 b YF h j s.1 s.2.1 s.2.2) ((List.replicate (h.length:Int).toNat (0:Int)),i,a)).bind fun e=>some e
 else none
def Z43 (a:List pair)(b:Int):Option (((List pair))×Bool) :=
 if a.length+([(⟨b,(a.length:Int)⟩:pair)]:List pair).length≤8796093022208 then
 some ((a++([(⟨b,(a.length:Int)⟩:pair)]:List pair)),true)
 else none
def Z2r (v1:View):Option ((List Int)×(List pair)×Bool) :=
 (Zk v1).bind fun e =>
 if (!e)=true then
 some (([]:List Int),([]:List pair),false)
 else
 (Z3e v1.Dims v1.Strides v1.Offset).bind fun a =>
 (Z04 ((List pair)) (fun (s:List pair) (x:Int)=>Z43 s x) ([]:List pair) a.1 a.2.1 a.2.2).bind fun b =>
 some (v1.Dims,b,true)
def Z33 (e:Node)(a:List Int):Option ((List Int)×(List pair)×Bool) :=
 (Z1l e a).bind fun h =>
 (Z2r h).bind fun b =>
 some (b.1,b.2.1,b.2.2)
def Z21 (k1:shiftKind)(e:Node)(a:List (List Int)):Option ((List Int)×Bool) :=
 if ((a.length:Int) != 1)=true then
 some (([]:List Int),false)
 else
 if (0≤(0:Int)∧(0:Int)<(a.length:Int)) then
 (Z33 e (ix a 0)).bind fun b =>
 some (b.1,b.2.2)
 else none
def Z17_J1 (b:Node)(a:List pair):Option ((List Int)×(List pair)×Bool) :=
 some (b.Dims,a,true)
def Z17_L1 (e:Int)(a:List pair)(b:Int):Option (((List pair)×Int)⊕((List pair))) :=
 if decide (b<e)=true then
 if a.length+([(⟨b,b⟩:pair)]:List pair).length≤8796093022208 then
 some (.inl ((a++([(⟨b,b⟩:pair)]:List pair)),(aI (b+1))))
 else none
 else
 some (.inr a)
def Z17 (b:Node)(a:List Int):Option ((List Int)×(List pair)×Bool) :=
 (Zf b.Dims).bind fun l =>
 (bP (!(!l)) (Zl b.Dims)).bind fun h =>
 (bP (!(!l)) (Zl a)).bind fun i =>
 if ((!l)||(h != i))=true then
 some (([]:List Int),([]:List pair),false)
 else
 (Zl a).bind fun j =>
 (aQ (fun s:(List pair)×Int=>Z17_L1 j s.1 s.2) (([]:List pair),(0:Int))).bind fun e=>Z17_J1 b e
def Z2e (k1:shiftKind)(e:Node)(a:List (List Int)):Option ((List Int)×Bool) :=
 if ((a.length:Int) != 1)=true then
 some (([]:List Int),false)
 else
 if (0≤(0:Int)∧(0:Int)<(a.length:Int)) then
 (Z17 e (ix a 0)).bind fun b =>
 some (b.1,b.2.2)
 else none
def Z1u (b:List Int)(a:Int)(h:Int):Option (List Int) :=
 (Zt b).bind fun e =>
 if (0≤a∧a<(e.length:Int)) then
 some (e.set a.toNat h)
 else none
def Z2c (b:List Int)(a:Int):Option (Int×Int×Int) :=
 if (0≤(0:Int)∧(0:Int)≤a∧a≤(b.length:Int)) then
 (Zl (sub b (0:Int) a)).bind fun h =>
 if (0≤a∧a<(b.length:Int)) then
 if (0≤(aI (a+1))∧(aI (a+1))≤(b.length:Int)∧(b.length:Int)≤(b.length:Int)) then
 (Zl (sub b (aI (a+1)) (b.length:Int))).bind fun e =>
 some (h,(ix b a),e)
 else none
 else none
 else none
def Z8_J7 (a:List pair):Option (List pair) :=
 some a
def Z8_J6 (b:Int)(a:List pair):Option (((List pair)×Int)⊕((List pair))) :=
 some (.inl (a,(aI (b+1))))
def Z8_J5 (b:Int)(a:List pair):Option (((List pair)×Int)⊕((List pair))) :=
 some (.inl (a,(aI (b+1))))
def Z8_L3 (l:Int)(b:List pair)(j:Int×Int×Int)(h:Int)(i:Int)(e:List pair)(a:Int):Option (((List pair)×Int)⊕((List pair))) :=
 if decide (a<j.2.2)=true then
 if e.length+([(⟨(aI ((aI ((aI ((aI (h*j.2.1))+(ix b i).from_))*j.2.2))+a)),(aI ((aI ((aI ((aI (h*l))+(ix b i).to))*j.2.2))+a))⟩:pair)]:List pair).length≤8796093022208 then
 some (.inl ((e++([(⟨(aI ((aI ((aI ((aI (h*j.2.1))+(ix b i).from_))*j.2.2))+a)),(aI ((aI ((aI ((aI (h*l))+(ix b i).to))*j.2.2))+a))⟩:pair)]:List pair)),(aI (a+1))))
 else none
 else
 some (.inr e)
def Z8_L2 (j:Int)(a:List pair)(l:Int×Int×Int)(i:Int)(h:List pair)(b:Int):Option (((List pair)×Int)⊕((List pair))) :=
 if decide (b<(a.length:Int))=true then
 if (0≤b∧b<(a.length:Int)) then
 (aQ (fun s:(List pair)×Int=>Z8_L3 j a l i b s.1 s.2) (h,(0:Int))).bind fun e=>Z8_J5 b e
 else none
 else
 some (.inr h)
def Z8_L1 (j:Int)(b:List pair)(i:Int×Int×Int)(h:List pair)(a:Int):Option (((List pair)×Int)⊕((List pair))) :=
 if decide (a<i.1)=true then
 (aQ (fun s:(List pair)×Int=>Z8_L2 j b i a s.1 s.2) (h,(0:Int))).bind fun e=>Z8_J6 a e
 else
 some (.inr h)
def Z8 (h:List Int)(b:Int)(j:Int)(a:List pair):Option (List pair) :=
 (Z2c h b).bind fun i =>
 if (0≤(aI ((aI (i.1*i.2.2))*(a.length:Int)))∧(aI ((aI (i.1*i.2.2))*(a.length:Int)))≤140737488355328∧16*(aI ((aI (i.1*i.2.2))*(a.length:Int)))≤281474976710656) then
 (aQ (fun s:(List pair)×Int=>Z8_L1 j a i s.1 s.2) (([]:List pair),(0:Int))).bind fun e=>Z8_J7 e
 else none
def Z02_J2 (b:List Int)(a:Int)(e:Int)(h:Int)(j:Int)(l:List Int)(i:List pair):Option ((List Int)×(List pair)×Bool) :=
 (Z8 b a (aI ((aI ((aI (e+(ix b a)))+(aI ((aI ((ix b a) - 1))*j))))+h)) i).bind fun q =>
 some (l,q,true)
def Z02_L2 (j:List Int)(i:Int)(b:Int)(h:Int)(a:List pair)(e:Int):Option (((List pair)×Int)⊕((List pair))) :=
 if decide (e<(ix j i))=true then
 if a.length+([(⟨e,(aI (b+(aI (e*(aI (h+1))))))⟩:pair)]:List pair).length≤8796093022208 then
 some (.inl ((a++([(⟨e,(aI (b+(aI (e*(aI (h+1))))))⟩:pair)]:List pair)),(aI (e+1))))
 else none
 else
 some (.inr a)
def Z02_J1 (b:List Int)(a:Int)(h:Int)(i:Int)(j:Int):Option ((List Int)×(List pair)×Bool) :=
 if (0≤a∧a<(b.length:Int)) then
 (Z1u b a (aI ((aI ((aI (h+(ix b a)))+(aI ((aI ((ix b a) - 1))*j))))+i))).bind fun l =>
 (Zf l).bind fun q =>
 if (!q)=true then
 some (([]:List Int),([]:List pair),false)
 else
 (aQ (fun s:(List pair)×Int=>Z02_L2 b a h j s.1 s.2) (([]:List pair),(0:Int))).bind fun e=>Z02_J2 b a h i j l e
 else none
def Z02_L1 (a:Int)(b:Int)(e:Int)(h:Int):Option ((Int)⊕(((List Int)×(List pair)×Bool)⊕(Unit))) :=
 if decide (h<(([a,b,e]:List Int).length:Int))=true then
 if (0≤h∧h<(([a,b,e]:List Int).length:Int)) then
 if ((decide ((ix ([a,b,e]:List Int) h)<0))||(decide ((ix ([a,b,e]:List Int) h)>4096)))=true then
 some (.inr (.inl (([]:List Int),([]:List pair),false)))
 else
 some (.inl (aI (h+1)))
 else none
 else
 some (.inr (.inr ()))
def Z02 (i:List Int)(h:Int)(a:Int)(b:Int)(j:Int):Option ((List Int)×(List pair)×Bool) :=
 (Zp i h).bind fun l =>
 if (!l)=true then
 some (([]:List Int),([]:List pair),false)
 else (
 (aQ (fun s:Int=>Z02_L1 a b j s) (0:Int)).bind fun e=>match e with
 | .inl e=>some e
 | .inr e=>Z02_J1 i h a b j)
def Z28 (p1:List Int)(a:List Int):Option ((List Int)×(List pair)×Bool) :=
 if (0≤(0:Int)∧(0:Int)<(p1.length:Int)) then
 if (0≤(1:Int)∧(1:Int)<(p1.length:Int)) then
 if (0≤(2:Int)∧(2:Int)<(p1.length:Int)) then
 if (0≤(3:Int)∧(3:Int)<(p1.length:Int)) then
 (Z02 a (ix p1 0) (ix p1 1) (ix p1 2) (ix p1 3)).bind fun b =>
 some (b.1,b.2.1,b.2.2)
 else none
 else none
 else none
 else none
def Z2z (e:Node)(a:List Int)(i:Int)(h:Int):Option ((List Int)×(List pair)×Bool) :=
 if ((decide ((e.Ints.length:Int)<i))||(decide ((e.Ints.length:Int)>h)))=true then
 some (([]:List Int),([]:List pair),false)
 else
 (Z28 e.Ints a).bind fun b =>
 some (b.1,b.2.1,b.2.2)
def Z1x (k1:shiftKind)(h:Int)(i:Int)(e:Node)(a:List (List Int)):Option ((List Int)×Bool) :=
 if ((a.length:Int) != 1)=true then
 some (([]:List Int),false)
 else
 if (0≤(0:Int)∧(0:Int)<(a.length:Int)) then
 (Z2z e (ix a 0) h i).bind fun b =>
 some (b.1,b.2.2)
 else none
def Z0m_J1 (e:List Int)(b:Int)(a:List Int)(h:List pair):Option ((List Int)×(List pair)×Bool) :=
 (Z1u e b (a.length:Int)).bind fun i =>
 (Zf i).bind fun j =>
 if (!j)=true then
 some (([]:List Int),([]:List pair),false)
 else
 (Z8 e b (a.length:Int) h).bind fun l =>
 some (i,l,true)
def Z0m_L1 (i:List Int)(h:Int)(a:List Int)(e:List pair)(b:Int):Option (((List pair)×Int)⊕(((List Int)×(List pair)×Bool)⊕((List pair)))) :=
 if decide (b<(a.length:Int))=true then
 if (0≤b∧b<(a.length:Int)) then
 if (decide ((ix a b)<0))=false→(0≤h∧h<(i.length:Int)) then
 if ((decide ((ix a b)<0))||(decide ((ix a b)≥(ix i h))))=true then
 some (.inr (.inl (([]:List Int),([]:List pair),false)))
 else
 if e.length+([(⟨(ix a b),b⟩:pair)]:List pair).length≤8796093022208 then
 some (.inl ((e++([(⟨(ix a b),b⟩:pair)]:List pair)),(aI (b+1))))
 else none
 else none
 else none
 else
 some (.inr (.inr e))
def Z0m (h:List Int)(b:Int)(a:List Int):Option ((List Int)×(List pair)×Bool) :=
 (Zp h b).bind fun i =>
 if (((!i)||((a.length:Int)==0))||(decide ((a.length:Int)>4096)))=true then
 some (([]:List Int),([]:List pair),false)
 else (
 (aQ (fun s:(List pair)×Int=>Z0m_L1 h b a s.1 s.2) (([]:List pair),(0:Int))).bind fun e=>match e with
 | .inl e=>some e
 | .inr e=>Z0m_J1 h b a e)
def Z29 (p1:List Int)(a:List Int):Option ((List Int)×(List pair)×Bool) :=
 if (0≤(0:Int)∧(0:Int)<(p1.length:Int)) then
 if (0≤(1:Int)∧(1:Int)≤(p1.length:Int)∧(p1.length:Int)≤(p1.length:Int)) then
 (Z0m a (ix p1 0) (sub p1 (1:Int) (p1.length:Int))).bind fun b =>
 some (b.1,b.2.1,b.2.2)
 else none
 else none
def Z30 (e:Node)(a:List Int)(i:Int)(h:Int):Option ((List Int)×(List pair)×Bool) :=
 if ((decide ((e.Ints.length:Int)<i))||(decide ((e.Ints.length:Int)>h)))=true then
 some (([]:List Int),([]:List pair),false)
 else
 (Z29 e.Ints a).bind fun b =>
 some (b.1,b.2.1,b.2.2)
def Z1y (k1:shiftKind)(h:Int)(i:Int)(e:Node)(a:List (List Int)):Option ((List Int)×Bool) :=
 if ((a.length:Int) != 1)=true then
 some (([]:List Int),false)
 else
 if (0≤(0:Int)∧(0:Int)<(a.length:Int)) then
 (Z30 e (ix a 0) h i).bind fun b =>
 some (b.1,b.2.2)
 else none
def Z0n_J1 (b:List Int)(a:Int)(l:Int)(e:List pair):Option ((List Int)×(List pair)×Bool) :=
 (Z1u b a l).bind fun h =>
 (Zf h).bind fun i =>
 if (!i)=true then
 some (([]:List Int),([]:List pair),false)
 else
 (Z8 b a l e).bind fun j =>
 some (h,j,true)
def Z0n_L1 (a:List Int)(h:Int)(e:List pair)(b:Int):Option (((List pair)×Int)⊕(((List Int)×(List pair)×Bool)⊕((List pair)))) :=
 if decide (b<(a.length:Int))=true then
 if (0≤b∧b<(a.length:Int)) then
 if ((decide ((ix a b)<0))||(decide ((ix a b)≥h)))=true then
 some (.inr (.inl (([]:List Int),([]:List pair),false)))
 else
 if e.length+([(⟨b,(ix a b)⟩:pair)]:List pair).length≤8796093022208 then
 some (.inl ((e++([(⟨b,(ix a b)⟩:pair)]:List pair)),(aI (b+1))))
 else none
 else none
 else
 some (.inr (.inr e))
def Z0n (b:List Int)(a:Int)(h:List Int)(i:Int):Option ((List Int)×(List pair)×Bool) :=
 (Zp b a).bind fun j =>
 if (!j)=false→(0≤a∧a<(b.length:Int)) then
 if (((!j)||((h.length:Int) != (ix b a)))||(decide (i<1)))=true then
 some (([]:List Int),([]:List pair),false)
 else (
 (aQ (fun s:(List pair)×Int=>Z0n_L1 h i s.1 s.2) (([]:List pair),(0:Int))).bind fun e=>match e with
 | .inl e=>some e
 | .inr e=>Z0n_J1 b a i e)
 else none
def Z2a (p1:List Int)(a:List Int):Option ((List Int)×(List pair)×Bool) :=
 if (0≤(0:Int)∧(0:Int)<(p1.length:Int)) then
 if (0≤(2:Int)∧(2:Int)≤(p1.length:Int)∧(p1.length:Int)≤(p1.length:Int)) then
 if (0≤(1:Int)∧(1:Int)<(p1.length:Int)) then
 (Z0n a (ix p1 0) (sub p1 (2:Int) (p1.length:Int)) (ix p1 1)).bind fun b =>
 some (b.1,b.2.1,b.2.2)
 else none
 else none
 else none
def Z31 (e:Node)(a:List Int)(i:Int)(h:Int):Option ((List Int)×(List pair)×Bool) :=
 if ((decide ((e.Ints.length:Int)<i))||(decide ((e.Ints.length:Int)>h)))=true then
 some (([]:List Int),([]:List pair),false)
 else
 (Z2a e.Ints a).bind fun b =>
 some (b.1,b.2.1,b.2.2)
def Z1z (k1:shiftKind)(h:Int)(i:Int)(e:Node)(a:List (List Int)):Option ((List Int)×Bool) :=
 if ((a.length:Int) != 1)=true then
 some (([]:List Int),false)
 else
 if (0≤(0:Int)∧(0:Int)<(a.length:Int)) then
 (Z31 e (ix a 0) h i).bind fun b =>
 some (b.1,b.2.2)
 else none
def Z4_J16 (b:List Int)(e:List Int)(a:List pair):Option ((List Int)×(List pair)×Bool) :=
 some ((sub e (0:Int) (aI ((b.length:Int) - 1))),a,true)
def Z4_J15 (b:Int)(a:List pair):Option (((List pair)×Int)⊕((List pair))) :=
 some (.inl (a,(aI (b+1))))
def Z4_J14 (b:Int)(a:List pair):Option (((List pair)×Int)⊕((List pair))) :=
 some (.inl (a,(aI (b+1))))
def Z4_J13 (b:Int)(a:List pair):Option (((List pair)×Int)⊕((List pair))) :=
 some (.inl (a,(aI (b+1))))
def Z4_L4 (a:List Int)(r:Int)(l:Int)(q:Int×Int×Int)(h:Int)(j:Int)(i:Int)(b:List pair)(e:Int):Option (((List pair)×Int)⊕((List pair))) :=
 if (0≤(aI ((a.length:Int) - 1))∧(aI ((a.length:Int) - 1))<(a.length:Int)) then
 if decide (e<(ix a (aI ((a.length:Int) - 1))))=true then
 if b.length+([(⟨(aI ((aI ((aI ((aI ((aI ((aI (h*q.2.1))+j))*q.2.2))+i))*(ix a (aI ((a.length:Int) - 1)))))+e)),(aI ((aI ((aI ((aI ((aI (h*r))+(aI (j*l))))+e))*q.2.2))+i))⟩:pair)]:List pair).length≤8796093022208 then
 some (.inl ((b++([(⟨(aI ((aI ((aI ((aI ((aI ((aI (h*q.2.1))+j))*q.2.2))+i))*(ix a (aI ((a.length:Int) - 1)))))+e)),(aI ((aI ((aI ((aI ((aI (h*r))+(aI (j*l))))+e))*q.2.2))+i))⟩:pair)]:List pair)),(aI (e+1))))
 else none
 else
 some (.inr b)
 else none
def Z4_L3 (i:List Int)(r:Int)(h:Int)(q:Int×Int×Int)(j:Int)(l:Int)(a:List pair)(b:Int):Option (((List pair)×Int)⊕((List pair))) :=
 if decide (b<q.2.2)=true then
 (aQ (fun s:(List pair)×Int=>Z4_L4 i r h q j l b s.1 s.2) (a,(0:Int))).bind fun e=>Z4_J13 b e
 else
 some (.inr a)
def Z4_L2 (i:List Int)(q:Int)(h:Int)(l:Int×Int×Int)(j:Int)(a:List pair)(b:Int):Option (((List pair)×Int)⊕((List pair))) :=
 if decide (b<l.2.1)=true then
 (aQ (fun s:(List pair)×Int=>Z4_L3 i q h l j b s.1 s.2) (a,(0:Int))).bind fun e=>Z4_J14 b e
 else
 some (.inr a)
def Z4_L1 (i:List Int)(l:Int)(h:Int)(j:Int×Int×Int)(a:List pair)(b:Int):Option (((List pair)×Int)⊕((List pair))) :=
 if decide (b<j.1)=true then
 (aQ (fun s:(List pair)×Int=>Z4_L2 i l h j b s.1 s.2) (a,(0:Int))).bind fun e=>Z4_J15 b e
 else
 some (.inr a)
def Z4_J1 (a:List Int)(h:Int)(l:Int)(i:List Int)(b:Int):Option ((List Int)×(List pair)×Bool) :=
 if (0≤(0:Int)∧(0:Int)≤(aI ((a.length:Int) - 1))∧(aI ((a.length:Int) - 1))≤(a.length:Int)) then
 (Z2c (sub a (0:Int) (aI ((a.length:Int) - 1))) h).bind fun j =>
 (aQ (fun s:(List pair)×Int=>Z4_L1 a l b j s.1 s.2) (([]:List pair),(0:Int))).bind fun e=>Z4_J16 a i e
 else none
def Z4 (a:List Int)(b:Int)(e:Int)(h:Int):Option ((List Int)×(List pair)×Bool) :=
 (Zp a b).bind fun j =>
 if (((((!j)||(b==(aI ((a.length:Int) - 1))))||(decide (e<1)))||(decide (h<1)))||(decide (h>4096)))=false→(0≤(aI ((a.length:Int) - 1))∧(aI ((a.length:Int) - 1))<(a.length:Int)) then
 if ((((((!j)||(b==(aI ((a.length:Int) - 1))))||(decide (e<1)))||(decide (h<1)))||(decide (h>4096)))||(decide ((ix a (aI ((a.length:Int) - 1)))>h)))=false→(0≤b∧b<(a.length:Int)) then
 if ((((((!j)||(b==(aI ((a.length:Int) - 1))))||(decide (e<1)))||(decide (h<1)))||(decide (h>4096)))||(decide ((ix a (aI ((a.length:Int) - 1)))>h)))=false→(0≤(aI ((a.length:Int) - 1))∧(aI ((a.length:Int) - 1))<(a.length:Int)) then
 if ((((((!j)||(b==(aI ((a.length:Int) - 1))))||(decide (e<1)))||(decide (h<1)))||(decide (h>4096)))||(decide ((ix a (aI ((a.length:Int) - 1)))>h)))=false→e≠0 then
 if (((((((!j)||(b==(aI ((a.length:Int) - 1))))||(decide (e<1)))||(decide (h<1)))||(decide (h>4096)))||(decide ((ix a (aI ((a.length:Int) - 1)))>h)))||((ix a b) != (aI ((aI ((aI (h - (ix a (aI ((a.length:Int) - 1))))).tdiv e))+1))))=true then
 some (([]:List Int),([]:List pair),false)
 else
 (Z1u a b h).bind fun i =>
 if (0≤(0:Int)∧(0:Int)≤(aI ((a.length:Int) - 1))∧(aI ((a.length:Int) - 1))≤(i.length:Int)) then
 (Zf (sub i (0:Int) (aI ((a.length:Int) - 1)))).bind fun l =>
 if (!l)=true then
 some (([]:List Int),([]:List pair),false)
 else
 if (0≤b∧b<(a.length:Int)) then
 if ((ix a b)==1)=true then
 Z4_J1 a b h i (0:Int)
 else
 Z4_J1 a b h i e
 else none
 else none
 else none
 else none
 else none
 else none
def Z2b (p1:List Int)(a:List Int):Option ((List Int)×(List pair)×Bool) :=
 if (0≤(0:Int)∧(0:Int)<(p1.length:Int)) then
 if (0≤(1:Int)∧(1:Int)<(p1.length:Int)) then
 if (0≤(2:Int)∧(2:Int)<(p1.length:Int)) then
 (Z4 a (ix p1 0) (ix p1 1) (ix p1 2)).bind fun b =>
 some (b.1,b.2.1,b.2.2)
 else none
 else none
 else none
def Z32 (e:Node)(a:List Int)(i:Int)(h:Int):Option ((List Int)×(List pair)×Bool) :=
 if ((decide ((e.Ints.length:Int)<i))||(decide ((e.Ints.length:Int)>h)))=true then
 some (([]:List Int),([]:List pair),false)
 else
 (Z2b e.Ints a).bind fun b =>
 some (b.1,b.2.1,b.2.2)
def Z20 (k1:shiftKind)(h:Int)(i:Int)(e:Node)(a:List (List Int)):Option ((List Int)×Bool) :=
 if ((a.length:Int) != 1)=true then
 some (([]:List Int),false)
 else
 if (0≤(0:Int)∧(0:Int)<(a.length:Int)) then
 (Z32 e (ix a 0) h i).bind fun b =>
 some (b.1,b.2.2)
 else none
def bT (r:kindOfR)(a:Node)(b:List (List Int)):Option ((List Int)×Bool) :=
 if Nat.beq r.t 0=true then none else (if Nat.beq r.t 1=true then Z1t (⟨r.b0⟩:leafKind) a b else (if Nat.beq r.t 2=true then Z2d (⟨r.i0⟩:pairKind) a b else (if Nat.beq r.t 3=true then Z35 (⟨r.i0⟩:soloKind) a b else (if Nat.beq r.t 4=true then Z25 (⟨⟩:topKind) a b else (if Nat.beq r.t 5=true then Z34 (⟨⟩:formKind) a b else (if Nat.beq r.t 6=true then Z21 (⟨r.s0⟩:shiftKind) a b else (if Nat.beq r.t 7=true then Z2e (⟨r.s0⟩:shiftKind) a b else (if Nat.beq r.t 8=true then Z1x (⟨r.s0⟩:shiftKind) r.i0 r.i1 a b else (if Nat.beq r.t 9=true then Z1y (⟨r.s0⟩:shiftKind) r.i0 r.i1 a b else (if Nat.beq r.t 10=true then Z1z (⟨r.s0⟩:shiftKind) r.i0 r.i1 a b else (Z20 (⟨r.s0⟩:shiftKind) r.i0 r.i1 a b)))))))))))
def Zh_J1 (e:Node)(h:kindOfR)(a:List (List Int)):Option ((List Int)×Bool) :=
 (bT h e a).bind fun b =>
 some (b.1,b.2)
def Zh_L1 (h:Node)(a:List (List Int))(e:List (List Int))(b:Int):Option (((List (List Int))×Int)⊕(((List Int)×Bool)⊕((List (List Int))))) :=
 if decide (b<(h.Args.length:Int))=true then
 if (0≤b∧b<(h.Args.length:Int)) then
 if ((decide ((ix h.Args b)<0))||(decide ((ix h.Args b)≥(a.length:Int))))=true then
 some (.inr (.inl (([]:List Int),false)))
 else
 if (0≤(ix h.Args b)∧(ix h.Args b)<(a.length:Int)) then
 if e.length+([(ix a (ix h.Args b))]:List (List Int)).length≤5864062014805 then
 some (.inl ((e++([(ix a (ix h.Args b))]:List (List Int))),(aI (b+1))))
 else none
 else none
 else none
 else
 some (.inr (.inr e))
def Zh (b:Node)(a:List (List Int)):Option ((List Int)×Bool) :=
 (Z01 b.Op).bind fun h =>
 (bP (!(Nat.beq h.t 0)) (gC h)).bind fun i =>
 (bP (!(Nat.beq h.t 0)) (Z24 b i)).bind fun j =>
 if (((Nat.beq h.t 0)||(!j))||(decide ((b.Args.length:Int)>6)))=true then
 some (([]:List Int),false)
 else (
 (aQ (fun s:(List (List Int))×Int=>Zh_L1 b a s.1 s.2) (([]:List (List Int)),(0:Int))).bind fun e=>match e with
 | .inl e=>some e
 | .inr e=>Zh_J1 b h e)
def Zn_J2 (a:List (List Int)):Option ((List (List Int))×Bool) :=
 some (a,true)
def Zn_L2 (g1:Graph)(a:Int):Option ((Int)⊕(((List (List Int))×Bool)⊕(Unit))) :=
 if decide (a<(g1.Outs.length:Int))=true then
 if (0≤a∧a<(g1.Outs.length:Int)) then
 if ((decide ((ix g1.Outs a)<0))||(decide ((ix g1.Outs a)≥(g1.Nodes.length:Int))))=true then
 some (.inr (.inl (([]:List (List Int)),false)))
 else
 some (.inl (aI (a+1)))
 else none
 else
 some (.inr (.inr ()))
def Zn_J1 (g1:Graph)(a:List (List Int)):Option ((List (List Int))×Bool) :=
 (aQ (fun s:Int=>Zn_L2 g1 s) (0:Int)).bind fun e=>match e with
 | .inl e=>some e
 | .inr e=>Zn_J2 a
def Zn_L1 (g1:Graph)(b:List (List Int))(a:Int):Option (((List (List Int))×Int)⊕(((List (List Int))×Bool)⊕((List (List Int))))) :=
 if decide (a<(g1.Nodes.length:Int))=true then
 if (0≤a∧a<(g1.Nodes.length:Int)) then
 (Zh (ix g1.Nodes a) b).bind fun e =>
 if (!e.2)=true then
 some (.inr (.inl (([]:List (List Int)),false)))
 else
 if b.length+([e.1]:List (List Int)).length≤5864062014805 then
 some (.inl ((b++([e.1]:List (List Int))),(aI (a+1))))
 else none
 else none
 else
 some (.inr (.inr b))
def Zn (g1:Graph):Option ((List (List Int))×Bool) :=
 if ((decide ((g1.Nodes.length:Int)>200))||(decide ((g1.Outs.length:Int)>40)))=true then
 some (([]:List (List Int)),false)
 else (
 (aQ (fun s:(List (List Int))×Int=>Zn_L1 g1 s.1 s.2) (([]:List (List Int)),(0:Int))).bind fun e=>match e with
 | .inl e=>some e
 | .inr e=>Zn_J1 g1 e)
def Z1g (k1:Int)(a:Int):Option Bool :=
 if (0≤k1∧k1≤64) then
 some ((bits .and .u64 (a / 2 ^ k1.toNat) (1:Int))==1)
 else none
def Z0h_J3 (a:List Int):Option (List Int) :=
 some a
def Z0h_J2 (b:List Int)(e:Int)(a:Int)(h:Int):Option (((List Int)×Int×Int)⊕((List Int))) :=
 some (.inl ((b.set a.toNat e),h,(aI (a+1))))
def Z0h_L1 (i:Int)(j:Int)(e:List Int)(b:Int)(a:Int):Option (((List Int)×Int×Int)⊕((List Int))) :=
 if decide (a<((List.replicate i.toNat (0:Int)).length:Int))=true then
 if (0≤a∧a<((List.replicate i.toNat (0:Int)).length:Int)) then
 (Z1g a j).bind fun h =>
 if h=true then
 Z0h_J2 e b a (aI (b+1))
 else
 Z0h_J2 e b a b
 else none
 else
 some (.inr e)
def Z0h (a:Int)(b:Int):Option (List Int) :=
 if (0≤a∧a≤140737488355328∧8*a≤281474976710656) then
 (aQ (fun s:(List Int)×Int×Int=>Z0h_L1 a b s.1 s.2.1 s.2.2) ((List.replicate a.toNat (0:Int)),(0:Int),(0:Int))).bind fun e=>Z0h_J3 e
 else none
def Z27 (a:Node):Option Bool :=
 some ((a.Op==1)||(a.Op==2))
def Z07_J3:Option Bool :=
 some true
def Z07_J2 (a:Int):Option ((Int)⊕((Bool)⊕(Unit))) :=
 some (.inl (aI (a+1)))
def Z07_L2 (g1:Graph)(j:Int)(h:List Int)(a:Int)(b:Int):Option ((Int)⊕((Bool)⊕(Unit))) :=
 if decide (b<(((ix g1.Nodes a).Args).length:Int))=true then
 if (0≤b∧b<(((ix g1.Nodes a).Args).length:Int)) then
 if (0≤(ix ((ix g1.Nodes a).Args) b)∧(ix ((ix g1.Nodes a).Args) b)<(h.length:Int)) then
 if (0≤a∧a<(h.length:Int)) then
 (bP ((ix h (ix ((ix g1.Nodes a).Args) b)) != (ix h a)) (Z1g (ix ((ix g1.Nodes a).Args) b) j)).bind fun e =>
 if (((ix h (ix ((ix g1.Nodes a).Args) b)) != (ix h a))&&(!e))=true→(0≤(ix ((ix g1.Nodes a).Args) b)∧(ix ((ix g1.Nodes a).Args) b)<(g1.Nodes.length:Int)) then
 (bP (((ix h (ix ((ix g1.Nodes a).Args) b)) != (ix h a))&&(!e)) (Z27 (ix g1.Nodes (ix ((ix g1.Nodes a).Args) b)))).bind fun i =>
 if ((((ix h (ix ((ix g1.Nodes a).Args) b)) != (ix h a))&&(!e))&&(!i))=true then
 some (.inr (.inl false))
 else
 some (.inl (aI (b+1)))
 else none
 else none
 else none
 else none
 else
 some (.inr (.inr ()))
def Z07_L1 (g1:Graph)(b:Int)(h:List Int)(a:Int):Option ((Int)⊕((Bool)⊕(Unit))) :=
 if decide (a<(g1.Nodes.length:Int))=true then (
 if (0≤a∧a<(g1.Nodes.length:Int)) then
 (aQ (fun s:Int=>Z07_L2 g1 b h a s) (0:Int)).bind fun e=>match e with
 | .inl e=>some (.inr (.inl e))
 | .inr e=>Z07_J2 a
 else none)
 else
 some (.inr (.inr ()))
def Z07 (g1:Graph)(a:Int):Option Bool :=
 (Z0h (g1.Nodes.length:Int) a).bind fun b =>
 (aQ (fun s:Int=>Z07_L1 g1 a b s) (0:Int)).bind fun e=>match e with
 | .inl e=>some e
 | .inr e=>Z07_J3
def Z1c_J1 (a:Int):Option Int :=
 some a
def Z1c_L1 (p1:List Int)(b:Int)(a:Int):Option ((Int×Int)⊕(Int)) :=
 if decide (a<(p1.length:Int))=true then
 if (0≤a∧a<(p1.length:Int)) then
 some (.inl ((if (ix p1 a)>b then (ix p1 a) else b),(aI (a+1))))
 else none
 else
 some (.inr b)
def Z1c (p1:List Int):Option Int :=
 if decide ((p1.length:Int)<1)=true then
 none
 else
 if (0≤(0:Int)∧(0:Int)<(p1.length:Int)) then
 (aQ (fun s:Int×Int=>Z1c_L1 p1 s.1 s.2) ((ix p1 0),(1:Int))).bind fun e=>Z1c_J1 e
 else none
def Zj_J5 (b:List Int)(a:Int)(e:Int):Option (Int×Int) :=
 (Z1c b).bind fun h =>
 some ((aI (a+h)),e)
def Zj_J4 (h:Int)(b:List Int)(a:Int)(e:Int):Option (((List Int)×Int×Int×Int)⊕((List Int)×Int×Int)) :=
 some (.inl (b,a,e,(aI (h+1))))
def Zj_J3 (g1:Graph)(r:Int)(b:List Int)(i:List Int)(h:Int)(j:Int)(e:Int)(a:Int):Option (((List Int)×Int×Int×Int)⊕((List Int)×Int×Int)) :=
 (Z1g e r).bind fun q =>
 if q=true then
 Zj_J4 e i (aI (h+a)) (aI (j+a))
 else
 if (0≤e∧e<(b.length:Int)) then
 if (0≤(ix b e)∧(ix b e)<((List.replicate (aI ((g1.Nodes.length:Int)+1)).toNat (0:Int)).length:Int)) then
 (nm (i.set (ix b e).toNat (aI ((ix i (ix b e))+a)))).bind fun l =>
 if (0≤(aI ((b.length:Int) - 1))∧(aI ((b.length:Int) - 1))<(b.length:Int)) then
 if ((ix b e) != (ix b (aI ((b.length:Int) - 1))))=true then
 Zj_J4 e l h (aI ((aI (j+a))+a))
 else
 Zj_J4 e l h (aI (j+a))
 else none
 else none
 else none
def Zj_L1 (g1:Graph)(i:List (List Int))(r:Int)(j:List Int)(b:List Int)(a:Int)(e:Int)(h:Int):Option (((List Int)×Int×Int×Int)⊕((List Int)×Int×Int)) :=
 if decide (h<(g1.Nodes.length:Int))=true then
 if (0≤h∧h<(g1.Nodes.length:Int)) then
 if (0≤h∧h<(i.length:Int)) then
 (Zl (ix i h)).bind fun l =>
 (Z27 (ix g1.Nodes h)).bind fun q =>
 if q=true then
 Zj_J3 g1 r j b a e h (0:Int)
 else
 Zj_J3 g1 r j b a e h l
 else none
 else none
 else
 some (.inr (b,a,e))
def Zj (g1:Graph)(a:List (List Int))(h:Int):Option (Int×Int) :=
 (Z0h (g1.Nodes.length:Int) h).bind fun b =>
 if (0≤(aI ((g1.Nodes.length:Int)+1))∧(aI ((g1.Nodes.length:Int)+1))≤140737488355328∧8*(aI ((g1.Nodes.length:Int)+1))≤281474976710656) then
 (aQ (fun s:(List Int)×Int×Int×Int=>Zj_L1 g1 a h b s.1 s.2.1 s.2.2.1 s.2.2.2) ((List.replicate (aI ((g1.Nodes.length:Int)+1)).toNat (0:Int)),(0:Int),(0:Int),(0:Int))).bind fun e=>Zj_J5 e.1 e.2.1 e.2.2
 else none
def Z3j (a:Int):Option Int :=
 if 0≤a∧a<18446744073709551616 then some ((Lib.ctz 64 a.toNat:Nat):Int) else none
def Z2n (p1:Int):Option Bool :=
 some (p1 != p1)
def Z2v (p1:Int)(a:Int):Option Int :=
 (Z2n p1).bind fun e =>
 (Z2n a).bind fun b =>
 if e=true then
 if b=true then
 some (0:Int)
 else
 some (-1:Int)
 else
 if b=true then
 some (1:Int)
 else
 if decide (p1<a)=true then
 some (-1:Int)
 else
 if decide (p1>a)=true then
 some (1:Int)
 else
 some (0:Int)
def Z0e_J1 (a:List Int)(b:List Int):Option Int :=
 if decide ((a.length:Int)<(b.length:Int))=true then
 some (-1:Int)
 else
 some (0:Int)
def Z0e_L1 (b:List Int)(e:List Int)(a:Int):Option ((Int)⊕((Int)⊕(Unit))) :=
 if decide (a<(b.length:Int))=true then
 if (0≤a∧a<(b.length:Int)) then
 if decide (a≥(e.length:Int))=true then
 some (.inr (.inl (1:Int)))
 else
 if (0≤a∧a<(e.length:Int)) then
 (Z2v (ix b a) (ix e a)).bind fun h =>
 if (h != 0)=true then
 some (.inr (.inl h))
 else
 some (.inl (aI (a+1)))
 else none
 else none
 else
 some (.inr (.inr ()))
def Z0e (a:List Int)(b:List Int):Option Int :=
 (aQ (fun s:Int=>Z0e_L1 a b s) (0:Int)).bind fun e=>match e with
 | .inl e=>some e
 | .inr e=>Z0e_J1 a b
def Z9_J5 (a:List Int):Option (List Int) :=
 some a
def Z9_J4 (h:Int)(e:List Int)(a:Int)(b:Int):Option (((List Int)×Int×Int×Int)⊕((List Int))) :=
 some (.inl (e,a,b,(IntKind.wrap .u64 (h+1))))
def Z9_J3 (e:List Int)(a:Int)(b:Int)(j:Int)(i:Int×Int)(h:List Int):Option (((List Int)×Int×Int×Int)⊕((List Int))) :=
 (bP (!(((decide (a<0))||(decide (i.2<b)))||(decide (i.1<a)))) (Z0e h e)).bind fun l =>
 if ((((decide (a<0))||(decide (i.2<b)))||(decide (i.1<a)))||(decide (l<0)))=true then
 Z9_J4 j h i.1 i.2
 else
 Z9_J4 j e a b
def Z9_L2 (a:List Int)(b:Int):Option (((List Int)×Int)⊕((List Int))) :=
 if (b != 0)=true then
 (Z3j b).bind fun e =>
 if a.length+([e]:List Int).length≤17592186044416 then
 some (.inl ((a++([e]:List Int)),(bits .and .u64 b (IntKind.wrap .u64 (b - 1)))))
 else none
 else
 some (.inr a)
def Z9_L1 (g1:Graph)(l:Int)(r:(List (List Int))×Bool)(h:List Int)(a:Int)(b:Int)(i:Int):Option (((List Int)×Int×Int×Int)⊕((List Int))) :=
 if decide (i<(IntKind.wrap .u64 ((1:Int)*2 ^ (g1.Nodes.length:Int).toNat)))=true then
 (Z07 g1 i).bind fun q =>
 if (!q)=true then
 Z9_J4 i h a b
 else
 (Zj g1 r.1 i).bind fun j =>
 if ((decide (j.1>l))||((decide (a≥0))&&((decide (j.2>b))||((j.2==b)&&(decide (j.1>a))))))=true then
 Z9_J4 i h a b
 else
 (aQ (fun s:(List Int)×Int=>Z9_L2 s.1 s.2) (([]:List Int),i)).bind fun e=>Z9_J3 h a b i j e
 else
 some (.inr h)
def Z9 (g1:Graph)(a:Int):Option (List Int) :=
 (Zn g1).bind fun b =>
 if ((!b.2)||(decide ((g1.Nodes.length:Int)>12)))=true then
 some ([]:List Int)
 else
 if (0≤(g1.Nodes.length:Int)∧(g1.Nodes.length:Int)≤64) then
 (aQ (fun s:(List Int)×Int×Int×Int=>Z9_L1 g1 a b s.1 s.2.1 s.2.2.1 s.2.2.2) (([]:List Int),(-1:Int),(0:Int),(0:Int))).bind fun e=>Z9_J5 e
 else none
def Zz_J1:Option Bool :=
 some true
def Zz_L1 (b:List Int)(e:List Int)(a:Int):Option ((Int)⊕((Bool)⊕(Unit))) :=
 if decide (a<(b.length:Int))=true then
 if (0≤a∧a<(b.length:Int)) then
 if (0≤a∧a<(e.length:Int)) then
 if ((ix b a) != (ix e a))=true then
 some (.inr (.inl false))
 else
 some (.inl (aI (a+1)))
 else none
 else none
 else
 some (.inr (.inr ()))
def Zz (a:List Int)(b:List Int):Option Bool :=
 if ((a.length:Int) != (b.length:Int))=true then
 some false
 else (
 (aQ (fun s:Int=>Zz_L1 a b s) (0:Int)).bind fun e=>match e with
 | .inl e=>some e
 | .inr e=>Zz_J1)
def Z2t (a:Node)(b:Node):Option Bool :=
 if (a.Op != b.Op)=true then
 some false
 else
 (Zz a.Args b.Args).bind fun e =>
 if (!e)=true then
 some false
 else
 (Zz a.Dims b.Dims).bind fun h =>
 if (!h)=true then
 some false
 else
 (Zz a.Ints b.Ints).bind fun i =>
 if (!i)=true then
 some false
 else
 if (!(a.Form==b.Form))=true then
 some false
 else
 (Zz a.Data b.Data).bind fun j =>
 if (!j)=true then
 some false
 else
 some true
def Z1m_J1:Option Bool :=
 some true
def Z1m_L1 (b:List Node)(h:List Node)(a:Int):Option ((Int)⊕((Bool)⊕(Unit))) :=
 if decide (a<(b.length:Int))=true then
 if (0≤a∧a<(b.length:Int)) then
 if (0≤a∧a<(h.length:Int)) then
 (Z2t (ix b a) (ix h a)).bind fun e =>
 if (!e)=true then
 some (.inr (.inl false))
 else
 some (.inl (aI (a+1)))
 else none
 else none
 else
 some (.inr (.inr ()))
def Z1m (a:List Node)(b:List Node):Option Bool :=
 if ((a.length:Int) != (b.length:Int))=true then
 some false
 else (
 (aQ (fun s:Int=>Z1m_L1 a b s) (0:Int)).bind fun e=>match e with
 | .inl e=>some e
 | .inr e=>Z1m_J1)
def Z2s (b:Graph)(e:Graph):Option Bool :=
 (Z1m b.Nodes e.Nodes).bind fun h =>
 if (!h)=true then
 some false
 else
 (Zz b.Outs e.Outs).bind fun a =>
 if (!a)=true then
 some false
 else
 some true
def Zy_J1 (a:Int)(b:List Int):Option (Int×(List Int)) :=
 some (a,b)
def Zy_L1 (e:List Int)(h:List Int)(b:Int)(a:Int):Option (((List Int)×Int×Int)⊕(Int×(List Int))) :=
 if decide (a<(e.length:Int))=true then
 if (0≤a∧a<(e.length:Int)) then
 some (.inl ((h.set a.toNat b),(aI (b+1)),(aI (a+1))))
 else none
 else
 some (.inr (b,h))
def Zy (a:List Int)(k3:Int):Option (Int×(List Int)) :=
 (aQ (fun s:(List Int)×Int×Int=>Zy_L1 a s.1 s.2.1 s.2.2) (a,k3,(0:Int))).bind fun e=>Zy_J1 e.1 e.2
def Z0u_J1 (a:aN):Option aN :=
 if str9.length+a.length≤9223372036854775807 then
 some (str9++a)
 else none
def Z0u_L1 (a:Int)(b:aN):Option ((Int×aN)⊕(aN)) :=
 if decide (a>0)=true then
 if (oB ([(IntKind.wrap .u8 ((aI ((48:Int)+(a.tmod (10:Int))))))]:List Int)).length+b.length≤9223372036854775807 then
 some (.inl ((aI (a.tdiv (10:Int))),((oB ([(IntKind.wrap .u8 ((aI ((48:Int)+(a.tmod (10:Int))))))]:List Int))++b)))
 else none
 else
 some (.inr b)
def Z0u (k1:Int):Option aN :=
 if decide (k1≤0)=true then
 some Ar
 else
 (aQ (fun s:Int×aN=>Z0u_L1 s.1 s.2) (k1,([]:aN))).bind fun e=>Z0u_J1 e
def Z0o_J1 (a:Int)(b:List Node):Option (Int×(List Node)) :=
 some (a,b)
def Z0o_L1 (E:List Node)(a46:List Node)(l:Int)(a:Int):Option (((List Node)×Int×Int)⊕(Int×(List Node))) :=
 if decide (a<(E.length:Int))=true then
 if (0≤a∧a<(E.length:Int)) then
 (nm (a46.set a.toNat (⟨l,(ix a46 a).Args,(ix a46 a).Dims,(ix a46 a).Ints,(ix a46 a).Form,(ix a46 a).Data⟩:Node))).bind fun b =>
 (Zy ((ix b a).Args) (aI (l+1))).bind fun r =>
 (nm (b.set a.toNat (⟨(ix b a).Op,r.2,(ix b a).Dims,(ix b a).Ints,(ix b a).Form,(ix b a).Data⟩:Node))).bind fun e =>
 (Zy ((ix e a).Dims) r.1).bind fun s =>
 (nm (e.set a.toNat (⟨(ix e a).Op,(ix e a).Args,s.2,(ix e a).Ints,(ix e a).Form,(ix e a).Data⟩:Node))).bind fun h =>
 (Zy ((ix h a).Ints) s.1).bind fun q =>
 (nm (h.set a.toNat (⟨(ix h a).Op,(ix h a).Args,(ix h a).Dims,q.2,(ix h a).Form,(ix h a).Data⟩:Node))).bind fun j =>
 (Z0u q.1).bind fun D =>
 (nm (j.set a.toNat (⟨(ix j a).Op,(ix j a).Args,(ix j a).Dims,(ix j a).Ints,D,(ix j a).Data⟩:Node))).bind fun i =>
 (Zy ((ix i a).Data) (aI (q.1+1))).bind fun u =>
 (nm (i.set a.toNat (⟨(ix i a).Op,(ix i a).Args,(ix i a).Dims,(ix i a).Ints,(ix i a).Form,u.2⟩:Node))).bind fun B =>
 some (.inl (B,u.1,(aI (a+1))))
 else none
 else
 some (.inr (l,a46))
def Z0o (a:List Node)(k3:Int):Option (Int×(List Node)) :=
 (aQ (fun s:(List Node)×Int×Int=>Z0o_L1 a s.1 s.2.1 s.2.2) (a,k3,(0:Int))).bind fun e=>Z0o_J1 e.1 e.2
def Z2f (a:Graph)(h:Int):Option (Int×(List Node)×(List Int)) :=
 (Z0o a.Nodes h).bind fun b =>
 (Zy a.Outs b.1).bind fun e =>
 some (e.1,b.2,e.2)
def Z0k_J1 (a:Int):Option Int :=
 some a
def Z0k_L1 (b:List Int)(e:Int)(a:Int):Option ((Int×Int)⊕((Int)⊕(Int))) :=
 if decide (a<(b.length:Int))=true then
 if (0≤a∧a<(b.length:Int)) then
 if ((ix b a) != e)=true then
 some (.inr (.inl (-1:Int)))
 else
 some (.inl ((aI (e+1)),(aI (a+1))))
 else none
 else
 some (.inr (.inr e))
def Z0k (a:List Int)(k3:Int):Option Int :=
 (aQ (fun s:Int×Int=>Z0k_L1 a s.1 s.2) (k3,(0:Int))).bind fun e=>match e with
 | .inl e=>some e
 | .inr e=>Z0k_J1 e
def Z3i (b:Graph)(a:Int):Option Bool :=
 (Z36 b (1048576:Int)).bind fun I =>
 if decide (I<0)=true then
 some true
 else
 (Z1i b).bind fun J =>
 (Z6 J a).bind fun h =>
 (Z1i b).bind fun i =>
 (Z9 i a).bind fun j =>
 (Zz j h).bind fun s =>
 if (!s)=true then
 some false
 else
 (Z1i b).bind fun u =>
 (Z2s i u).bind fun B =>
 if (!B)=true then
 some false
 else
 (Z2f i (1:Int)).bind fun l =>
 (bP (!(decide (l.1<0))) (Zz j h)).bind fun D =>
 if ((decide (l.1<0))||(!D))=true then
 some false
 else
 (Zy j (1:Int)).bind fun e =>
 (Z0k e.2 (1:Int)).bind fun q =>
 if decide (q<0)=true then
 some false
 else
 if (q != e.1)=true then
 some false
 else
 (Z1i b).bind fun E =>
 (Z9 E a).bind fun F =>
 (Zz F h).bind fun G =>
 if (!G)=true then
 some false
 else
 (Z0k e.2 (1:Int)).bind fun r =>
 if decide (r<0)=true then
 some false
 else
 if (r != e.1)=true then
 some false
 else
 some true
end
end Go.Proofs.YtoffdamdpmeoiaaGreatDoor
