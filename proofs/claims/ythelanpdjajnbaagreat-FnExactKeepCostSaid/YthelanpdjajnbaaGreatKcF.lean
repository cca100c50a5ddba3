import Derived.Test.YthelanpdjajnbaaGreatKcH
set_option linter.unusedVariables false
namespace Go.Proofs.YthelanpdjajnbaaGreat
open Go Go.Pg
noncomputable section
def Z1i (b:(List Int))(a:Int):Option (Int) :=
 if (decide ((aH (a - (b.length:Int)))<0))=true then (
 some (-1:Int))
 else (
 some (aH (a - (b.length:Int))))
def Z2q (e:Node)(a:Int):Option (Int) :=
 (Z1i e.Args a).bind fun i =>
 if (decide (i<0))=true then (
 some (-1:Int))
 else (
 (Z1i e.Dims i).bind fun g =>
 if (decide (g<0))=true then (
 some (-1:Int))
 else (
 (Z1i e.Ints g).bind fun b =>
 if (decide (b<0))=true then (
 some (-1:Int))
 else (
 if (decide ((aH (b - (e.Form.length:Int)))<0))=true then (
 some (-1:Int))
 else (
 (Z1i e.Data (aH (b - (e.Form.length:Int)))).bind fun h =>
 if (decide (h<0))=true then (
 some (-1:Int))
 else (
 some h)))))
def Z1a_J1 (a:Int):Option (Int) :=
 some a
def Z1a_L1 (g:(List Node))(a:Int)(b:Int):Option ((Int×Int)⊕((Int)⊕(Int))) :=
 if (decide (b<(g.length:Int)))=true then (
 if (0≤b∧b<(g.length:Int)) then
 (Z2q (ix g b) a).bind fun e =>
 if (decide (e<0))=true then (
 some (.inr (.inl (-1:Int))))
 else (
 some (.inl (e,(aH (b+1)))))
 else none)
 else (
 some (.inr (.inr a)))
def Z1a (b:(List Node))(a:Int):Option (Int) :=
 if (decide ((aH (a - (b.length:Int)))<0))=true then (
 some (-1:Int))
 else (
 (aR (fun s:Int×Int=>Z1a_L1 b s.1 s.2) ((aH (a - (b.length:Int))),(0:Int))).bind fun e=>match e with
 | .inl e=>some e
 | .inr e=>Z1a_J1 e)
def Z34 (b:Graph)(a:Int):Option (Int) :=
 (Z1a b.Nodes a).bind fun e =>
 if (decide (e<0))=true then (
 some (-1:Int))
 else (
 (Z1i b.Outs e).bind fun g =>
 if (decide (g<0))=true then (
 some (-1:Int))
 else (
 some g))
def Zf_J1 (a:(List Int)):Option ((List Int)) :=
 some a
def Zf_L1 (e:(List Int))(b:(List Int))(a:Int):Option (((List Int)×Int)⊕((List Int))) :=
 if (decide (a<(e.length:Int)))=true then (
 if (0≤a∧a<(e.length:Int)) then
 if (0≤a∧a<((List.replicate (e.length:Int).toNat (0:Int)).length:Int)) then
 some (.inl ((b.set a.toNat (ix e a)),(aH (a+1))))
 else none
 else none)
 else (
 some (.inr b))
def Zf (a:(List Int)):Option ((List Int)) :=
 if (0≤(a.length:Int)∧(a.length:Int)≤140737488355328∧8*(a.length:Int)≤281474976710656) then
 (aR (fun s:(List Int)×Int=>Zf_L1 a s.1 s.2) ((List.replicate (a.length:Int).toNat (0:Int)),(0:Int))).bind fun e=>Zf_J1 e
 else none
def Z35 (a:Node):Option (Node) :=
 (Zf a.Args).bind fun h =>
 (Zf a.Dims).bind fun b =>
 (Zf a.Ints).bind fun e =>
 (Zf a.Data).bind fun g =>
 some (⟨a.Op,h,b,e,a.Form,g⟩:Node)
def Z0p_J1 (a:(List Node)):Option ((List Node)) :=
 some a
def Z0p_L1 (e:(List Node))(b:(List Node))(a:Int):Option (((List Node)×Int)⊕((List Node))) :=
 if (decide (a<(e.length:Int)))=true then (
 if (0≤a∧a<(e.length:Int)) then
 (Z35 (ix e a)).bind fun g =>
 if (0≤a∧a<((List.replicate (e.length:Int).toNat zT65.z).length:Int)) then
 some (.inl ((b.set a.toNat g),(aH (a+1))))
 else none
 else none)
 else (
 some (.inr b))
def Z0p (a:(List Node)):Option ((List Node)) :=
 if (0≤(a.length:Int)∧(a.length:Int)≤140737488355328∧120*(a.length:Int)≤281474976710656) then
 (aR (fun s:(List Node)×Int=>Z0p_L1 a s.1 s.2) ((List.replicate (a.length:Int).toNat zT65.z),(0:Int))).bind fun e=>Z0p_J1 e
 else none
def Z1w (b:Graph):Option (Graph) :=
 (Z0p b.Nodes).bind fun e =>
 (Zf b.Outs).bind fun a =>
 some (⟨e,a⟩:Graph)
def Z38 (a:Int):Option (Int×Int) :=
 if (decide (a≤2))=true then (
 some ((0:Int),(0:Int)))
 else (
 if (decide (a≤5))=true then (
 some ((2:Int),(2:Int)))
 else (
 if (a==11)=true then (
 some ((1:Int),(6:Int)))
 else (
 some ((1:Int),(1:Int)))))
def Z3i (a:Int):Option (Bool) :=
 some ((((a==1)||(a==2))||(a==12))||(a==13))
def Z1c_J2 (a:Bool):Option (Int) :=
 if a=true then (
 some (3:Int))
 else (
 some (0:Int))
def Z1c_J1 (a:Int)(b:Bool):Option (Int) :=
 if b=true then (
 some (4:Int))
 else (
 if (a==16)=true then (
 some (1:Int))
 else (
 if (a==17)=true then (
 some (2:Int))
 else (
 if (a==18)=true then (
 Z1c_J2 (a==18))
 else (
 Z1c_J2 (a==19)))))
def Z1c (a:Int):Option (Int) :=
 if (a==10)=true then (
 some (1:Int))
 else (
 if (a==14)=true then (
 Z1c_J1 a (a==14))
 else (
 Z1c_J1 a (a==15)))
def Z19 (a:Node):Option (Bool) :=
 if ((decide (a.Op<1))||(decide (a.Op>19)))=true then (
 some false)
 else (
 (Z38 a.Op).bind fun g =>
 if ((decide ((a.Args.length:Int)<g.1))||(decide ((a.Args.length:Int)>g.2)))=true then (
 some false)
 else (
 (Z3i a.Op).bind fun e =>
 if ((((!e)&&(decide ((a.Dims.length:Int)>0)))||((a.Op != 11)&&(!(a.Form==([]:aO)))))||((a.Op != 2)&&(decide ((a.Data.length:Int)>0))))=true then (
 some false)
 else (
 (Z1c a.Op).bind fun b =>
 if ((a.Op==16)||(a.Op==17))=true then (
 some ((decide ((a.Ints.length:Int)≥b))&&(decide ((a.Ints.length:Int)≤(aH (b+4096))))))
 else (
 some ((a.Ints.length:Int)==b)))))
def Z0k_J1:Option (Bool) :=
 some true
def Z0k_L1 (a:(List Int))(e:Int)(b:Int):Option ((Int)⊕((Bool)⊕(Unit))) :=
 if (decide (b<(a.length:Int)))=true then (
 if (0≤b∧b<(a.length:Int)) then
 if ((decide ((ix a b)<0))||(decide ((ix a b)≥e)))=true then (
 some (.inr (.inl false)))
 else (
 some (.inl (aH (b+1))))
 else none)
 else (
 some (.inr (.inr ())))
def Z0k (a:(List Int))(b:Int):Option (Bool) :=
 (aR (fun s:Int=>Z0k_L1 a b s) (0:Int)).bind fun e=>match e with
 | .inl e=>some e
 | .inr e=>Z0k_J1
def Zq_J1 (a:Int):Option (Int) :=
 some a
def Zq_L1 (a:(List Int))(e:Int)(b:Int):Option ((Int×Int)⊕((Int)⊕(Int))) :=
 if (decide (b<(a.length:Int)))=true then (
 if (0≤b∧b<(a.length:Int)) then
 if ((decide ((ix a b)<1))||(decide ((ix a b)>4096)))=true then (
 some (.inr (.inl (0:Int))))
 else (
 if (decide ((aH (e*(ix a b)))>4096))=true then (
 some (.inr (.inl (0:Int))))
 else (
 some (.inl ((aH (e*(ix a b))),(aH (b+1))))))
 else none)
 else (
 some (.inr (.inr e)))
def Zq (a:(List Int)):Option (Int) :=
 (aR (fun s:Int×Int=>Zq_L1 a s.1 s.2) ((1:Int),(0:Int))).bind fun e=>match e with
 | .inl e=>some e
 | .inr e=>Zq_J1 e
def Zp (a:(List Int)):Option (Bool) :=
 (bL (decide ((a.length:Int)≤6)) (Zq a)).bind fun b =>
 some ((decide ((a.length:Int)≤6))&&(decide (b>0)))
def Zu_J1:Option (Bool) :=
 some true
def Zu_L1 (t1:Tensor)(a:Int):Option ((Int)⊕((Bool)⊕(Unit))) :=
 if (decide (a<(t1.Data.length:Int)))=true then (
 if (0≤a∧a<(t1.Data.length:Int)) then
 if ((decide ((ix t1.Data a)<0))||(decide ((ix t1.Data a)≥2147483647)))=true then (
 some (.inr (.inl false)))
 else (
 some (.inl (aH (a+1))))
 else none)
 else (
 some (.inr (.inr ())))
def Zu (t1:Tensor):Option (Bool) :=
 (Zp t1.Dims).bind fun a =>
 (bL (!(!a)) (Zq t1.Dims)).bind fun b =>
 if ((!a)||((t1.Data.length:Int) != b))=true then (
 some false)
 else (
 (aR (fun s:Int=>Zu_L1 t1 s) (0:Int)).bind fun e=>match e with
 | .inl e=>some e
 | .inr e=>Zu_J1)
def Zw (a:(List Int)):Option ((List Int)) :=
 if ([]:List Int).length+a.length≤17592186044416 then
 some (([]:List Int)++a)
 else none
def Z01_J1:Option (Bool) :=
 some true
def Z01_L1 (b:(List Int))(e:(List Int))(a:Int):Option ((Int)⊕((Bool)⊕(Unit))) :=
 if (decide (a<(b.length:Int)))=true then (
 if (0≤a∧a<(b.length:Int)) then
 if (0≤a∧a<(e.length:Int)) then
 if ((ix b a) != (ix e a))=true then (
 some (.inr (.inl false)))
 else (
 some (.inl (aH (a+1))))
 else none
 else none)
 else (
 some (.inr (.inr ())))
def Z01 (a:(List Int))(b:(List Int)):Option (Bool) :=
 if ((a.length:Int) != (b.length:Int))=true then (
 some false)
 else (
 (aR (fun s:Int=>Z01_L1 a b s) (0:Int)).bind fun e=>match e with
 | .inl e=>some e
 | .inr e=>Z01_J1)
def Z2e (a:(List Int))(b:Int):Option (Int) :=
 if (decide (b≥(a.length:Int)))=true then (
 some (1:Int))
 else (
 if (0≤(aH ((aH ((a.length:Int) - 1)) - b))∧(aH ((aH ((a.length:Int) - 1)) - b))<(a.length:Int)) then
 some (ix a (aH ((aH ((a.length:Int) - 1)) - b)))
 else none)
def Z00_J4 (a:(List Int)):Option ((List Int)) :=
 (Zp a).bind fun b =>
 if (!b)=true then (
 some ([]:List Int))
 else (
 some a)
def Z00_J3 (b:Int)(e:(List Int))(a:Int)(g:Int):Option (((List Int)×Int)⊕(((List Int))⊕((List Int)))) :=
 if (0≤(aH ((aH (b - 1)) - a))∧(aH ((aH (b - 1)) - a))<((List.replicate b.toNat (0:Int)).length:Int)) then
 some (.inl ((e.set (aH ((aH (b - 1)) - a)).toNat g),(aH (a+1))))
 else none
def Z00_L1 (i:(List Int))(j:(List Int))(g:Int)(h:(List Int))(a:Int):Option (((List Int)×Int)⊕(((List Int))⊕((List Int)))) :=
 if (decide (a<g))=true then (
 (Z2e i a).bind fun b =>
 (Z2e j a).bind fun e =>
 if (((b != e)&&(b != 1))&&(e != 1))=true then (
 some (.inr (.inl ([]:List Int))))
 else (
 if (decide (e>b))=true then (
 Z00_J3 g h a e)
 else (
 Z00_J3 g h a b)))
 else (
 some (.inr (.inr h)))
def Z00_J1 (b:(List Int))(g:(List Int))(a:Int):Option ((List Int)) :=
 if (0≤a∧a≤140737488355328∧8*a≤281474976710656) then
 (aR (fun s:(List Int)×Int=>Z00_L1 b g a s.1 s.2) ((List.replicate a.toNat (0:Int)),(0:Int))).bind fun e=>match e with
 | .inl e=>some e
 | .inr e=>Z00_J4 e
 else none
def Z00 (a:(List Int))(b:(List Int)):Option ((List Int)) :=
 (Zp a).bind fun e =>
 (bL (!(!e)) (Zp b)).bind fun g =>
 if ((!e)||(!g))=true then (
 some ([]:List Int))
 else (
 if (decide ((b.length:Int)>(a.length:Int)))=true then (
 Z00_J1 a b (b.length:Int))
 else (
 Z00_J1 a b (a.length:Int)))
def Z0i (a:(List Int)):Option (Tensor) :=
 (Zw a).bind fun e =>
 (Zq a).bind fun b =>
 if (0≤b∧b≤140737488355328∧8*b≤281474976710656) then
 some (⟨e,(List.replicate b.toNat (0:Int))⟩:Tensor)
 else none
def Zm_J1 (a:(List Int)):Option ((List Int)) :=
 some a
def Zm_L1 (a:(List Int))(e:Int)(g:(List Int))(b:Int):Option ((Int×(List Int)×Int)⊕((List Int))) :=
 if (decide (b≥0))=true then (
 if (0≤b∧b<(a.length:Int)) then
 if (ix a b)≠0 then
 if (0≤b∧b<((List.replicate (a.length:Int).toNat (0:Int)).length:Int)) then
 some (.inl ((aH (e.tdiv (ix a b))),(g.set b.toNat (e.tmod (ix a b))),(aH (b - 1))))
 else none
 else none
 else none)
 else (
 some (.inr g))
def Zm (a:(List Int))(b:Int):Option ((List Int)) :=
 if (0≤(a.length:Int)∧(a.length:Int)≤140737488355328∧8*(a.length:Int)≤281474976710656) then
 (aR (fun s:Int×(List Int)×Int=>Zm_L1 a s.1 s.2.1 s.2.2) (b,(List.replicate (a.length:Int).toNat (0:Int)),(aH ((a.length:Int) - 1)))).bind fun e=>Zm_J1 e
 else none
def Z0n_J1 (ue:Int):Option (Int) :=
 some ue
def Z0n_L1 (b:(List Int))(e:(List Int))(g:Int)(a:Int):Option ((Int×Int)⊕(Int)) :=
 if (decide (a<(b.length:Int)))=true then (
 if (0≤a∧a<(b.length:Int)) then
 if (0≤a∧a<(e.length:Int)) then
 some (.inl ((aH ((aH (g*(ix b a)))+(ix e a))),(aH (a+1))))
 else none
 else none)
 else (
 some (.inr g))
def Z0n (b:(List Int))(a:(List Int)):Option (Int) :=
 (aR (fun s:Int×Int=>Z0n_L1 b a s.1 s.2) ((0:Int),(0:Int))).bind fun e=>Z0n_J1 e
def Z18 (t1:Tensor)(a:(List Int)):Option (Int) :=
 (Z0n t1.Dims a).bind fun b =>
 if (0≤b∧b<(t1.Data.length:Int)) then
 some (ix t1.Data b)
 else none
def Z09_J3 (t1:Tensor)(b:(List Int)):Option (Int) :=
 (Z18 t1 b).bind fun a =>
 some a
def Z09_J2 (a:(List Int))(e:Int)(b:Int):Option (((List Int)×Int)⊕((List Int))) :=
 if a.length+([b]:List Int).length≤17592186044416 then
 some (.inl ((a++([b]:List Int)),(aH (e+1))))
 else none
def Z09_L1 (t1:Tensor)(a:(List Int))(e:(List Int))(b:Int):Option (((List Int)×Int)⊕((List Int))) :=
 if (decide (b<(t1.Dims.length:Int)))=true then (
 if (0≤(aH ((aH ((a.length:Int) - (t1.Dims.length:Int)))+b))∧(aH ((aH ((a.length:Int) - (t1.Dims.length:Int)))+b))<(a.length:Int)) then
 if (0≤b∧b<(t1.Dims.length:Int)) then
 if ((ix t1.Dims b)==1)=true then (
 Z09_J2 e b (0:Int))
 else (
 Z09_J2 e b (ix a (aH ((aH ((a.length:Int) - (t1.Dims.length:Int)))+b))))
 else none
 else none)
 else (
 some (.inr e))
def Z09 (t1:Tensor)(a:(List Int)):Option (Int) :=
 (aR (fun s:(List Int)×Int=>Z09_L1 t1 a s.1 s.2) (([]:List Int),(0:Int))).bind fun e=>Z09_J3 t1 e
def Zt_J1 (a:Int):Option (Int) :=
 some a
def Zt (p1:Int):Option (Int) :=
 if (decide ((p1.tmod (2147483647:Int))<0))=true then (
 Zt_J1 (aH ((p1.tmod (2147483647:Int))+2147483647)))
 else (
 Zt_J1 (p1.tmod (2147483647:Int)))
def Z1f (b:Int):Option (Int) :=
 (Zt b).bind fun a =>
 if (decide (a>1073741823))=true then (
 some (aH (a - 2147483647)))
 else (
 some a)
def Z1n (a:Int)(b:Int):Option (Int) :=
 (Zt a).bind fun e =>
 (Zt b).bind fun g =>
 (Zt (aH (e+g))).bind fun h =>
 some h
def Z2c (a:Int)(b:Int):Option (Int) :=
 (Zt a).bind fun e =>
 (Zt b).bind fun g =>
 (Zt (aH (e - g))).bind fun h =>
 some h
def Z1g (a:Int)(b:Int):Option (Int) :=
 (Zt a).bind fun e =>
 (Zt b).bind fun g =>
 (Zt (aH (e*g))).bind fun h =>
 some h
def Zv_J1 (a:Int):Option (Int) :=
 some a
def Zv_S (i:Int→Int→Option (Int))(b:Int)(a:Int):Option (Int) :=
 if (a==0)=true then (
 some (1:Int))
 else (
 (i b (aH (a.tdiv (2:Int)))).bind fun e =>
 (Z1g e e).bind fun g =>
 if ((a.tmod (2:Int))==1)=true then (
 (Z1g g b).bind fun h =>
 Zv_J1 h)
 else (
 Zv_J1 g))
def Zv_R:Nat→Int→Int→Option (Int)
 | 0=>fun _ _=>none
 | n+1=>Zv_S (Zv_R n)
def Zv (a:Int)(b:Int):Option (Int):=Zv_R nG a b
def Z2b (a:Int):Option (Int) :=
 (Zt a).bind fun b =>
 (Zv b (2147483645:Int)).bind fun e =>
 some e
def Z3z (a:Int)(b:Int):Option (Int) :=
 (Z2b b).bind fun e =>
 (Z1g a e).bind fun g =>
 some g
def Z1o_J1 (a:Bool):Option (Int) :=
 if a=true then (
 some (1:Int))
 else (
 some (0:Int))
def Z1o (a:Int)(b:Int)(e:Int):Option (Int) :=
 (Z1f b).bind fun j =>
 (Z1f e).bind fun l =>
 if (a==1)=true then (
 (Z1n b e).bind fun m =>
 some m)
 else (
 if (a==2)=true then (
 (Z2c b e).bind fun g =>
 some g)
 else (
 if (a==3)=true then (
 (Z1g b e).bind fun h =>
 some h)
 else (
 if (a==4)=true then (
 (Z3z b e).bind fun i =>
 some i)
 else (
 if (a==5)=true then (
 if (decide (j<l))=true then (
 some e)
 else (
 some b))
 else (
 if (a==6)=true then (
 if (decide (j<l))=true then (
 some b)
 else (
 some e))
 else (
 if (a==7)=true then (
 Z1o_J1 (decide (j<l)))
 else (
 if (a==8)=true then (
 Z1o_J1 (b==e))
 else (
 Z1o_J1 false))))))))
def Z13_J1 (a:Tensor)(b:(List Int)):Option (Tensor) :=
 some (⟨a.Dims,b⟩:Tensor)
def Z13_L1 (h:Int)(q:Tensor)(r:Tensor)(i:(List Int))(b:Tensor)(g:(List Int))(a:Int):Option (((List Int)×Int)⊕((List Int))) :=
 if (decide (a<(b.Data.length:Int)))=true then (
 (Zm i a).bind fun e =>
 (Z09 q e).bind fun j =>
 (Z09 r e).bind fun l =>
 (Z1o h j l).bind fun m =>
 if (0≤a∧a<(b.Data.length:Int)) then
 some (.inl ((g.set a.toNat m),(aH (a+1))))
 else none)
 else (
 some (.inr g))
def Z13 (b:Int)(i:Tensor)(j:Tensor):Option (Tensor) :=
 (Zu i).bind fun h =>
 (bL (!(!h)) (Zu j)).bind fun l =>
 if ((((!h)||(!l))||(decide (b<1)))||(decide (b>8)))=true then (
 some (⟨([]:List Int),([]:List Int)⟩:Tensor))
 else (
 (Z00 i.Dims j.Dims).bind fun a =>
 if ((decide ((a.length:Int)<(i.Dims.length:Int)))||(decide ((a.length:Int)<(j.Dims.length:Int))))=true then (
 some (⟨([]:List Int),([]:List Int)⟩:Tensor))
 else (
 (Z0i a).bind fun g =>
 (aR (fun s:(List Int)×Int=>Z13_L1 b i j a g s.1 s.2) (g.Data,(0:Int))).bind fun e=>Z13_J1 g e))
def Z37 (a:Int)(b:Int):Option (Int) :=
 if (a==1)=true then (
 (Z2c (0:Int) b).bind fun e =>
 some e)
 else (
 if (a==2)=true then (
 (Z2b b).bind fun g =>
 some g)
 else (
 (Z1f b).bind fun h =>
 if (decide (h≤0))=true then (
 some (0:Int))
 else (
 if (a==3)=true then (
 some (1:Int))
 else (
 some b))))
def Z12_J1 (a:Tensor)(b:(List Int)):Option (Tensor) :=
 some (⟨a.Dims,b⟩:Tensor)
def Z12_L1 (e:Int)(i:Tensor)(g:Tensor)(b:(List Int))(a:Int):Option (((List Int)×Int)⊕((List Int))) :=
 if (decide (a<(i.Data.length:Int)))=true then (
 if (0≤a∧a<(i.Data.length:Int)) then
 (Z37 e (ix i.Data a)).bind fun h =>
 if (0≤a∧a<(g.Data.length:Int)) then
 some (.inl ((b.set a.toNat h),(aH (a+1))))
 else none
 else none)
 else (
 some (.inr b))
def Z12 (a:Int)(g:Tensor):Option (Tensor) :=
 (Zu g).bind fun h =>
 if (((!h)||(decide (a<1)))||(decide (a>4)))=true then (
 some (⟨([]:List Int),([]:List Int)⟩:Tensor))
 else (
 (Z0i g.Dims).bind fun b =>
 (aR (fun s:(List Int)×Int=>Z12_L1 a g b s.1 s.2) (b.Data,(0:Int))).bind fun e=>Z12_J1 b e)
def Z1h (t1:Tensor)(a:Int):Option (Bool) :=
 (Zu t1).bind fun b =>
 some ((b&&(decide (a≥0)))&&(decide (a<(t1.Dims.length:Int))))
def Z0j (e:(List Int))(a:Int)(g:Int):Option ((List Int)) :=
 (Zw e).bind fun b =>
 if (0≤a∧a<(b.length:Int)) then
 some (b.set a.toNat g)
 else none
def Z0y_J1 (a:(List Int)):Option ((List Int)) :=
 some a
def Z0y_L1 (t1:Tensor)(a:Int)(h:(List Int))(b:(List Int))(ue:Int):Option (((List Int)×Int)⊕((List Int))) :=
 if (0≤a∧a<(t1.Dims.length:Int)) then
 if (decide (ue<(ix t1.Dims a)))=true then (
 (Z0j h a ue).bind fun g =>
 (Z18 t1 g).bind fun e =>
 if b.length+([e]:List Int).length≤17592186044416 then
 some (.inl ((b++([e]:List Int)),(aH (ue+1))))
 else none)
 else (
 some (.inr b))
 else none
def Z0y (t1:Tensor)(a:Int)(b:(List Int)):Option ((List Int)) :=
 (aR (fun s:(List Int)×Int=>Z0y_L1 t1 a b s.1 s.2) (([]:List Int),(0:Int))).bind fun e=>Z0y_J1 e
def Zb_J9 (b:Tensor)(a:(List Int)):Option (Tensor) :=
 some (⟨b.Dims,a⟩:Tensor)
def Zb_J8 (b:Int)(a:(List Int)):Option (((List Int)×Int)⊕((List Int))) :=
 some (.inl (a,(aH (b+1))))
def Zb_J7 (g:Tensor)(e:(List Int))(b:Int)(a:Bool):Option (((List Int)×Int)⊕((List Int))) :=
 if a=true then (
 if (0≤b∧b<(g.Data.length:Int)) then
 Zb_J8 b (e.set b.toNat (1:Int))
 else none)
 else (
 Zb_J8 b e)
def Zb_J6 (b:Int)(a:Bool):Option ((Bool×Int)⊕(Bool)) :=
 some (.inl (a,(aH (b+1))))
def Zb_L2 (t1:Tensor)(e:Int)(i:Int)(l:(List Int))(j:(List Int))(b:Bool)(a:Int):Option ((Bool×Int)⊕(Bool)) :=
 if (decide (a<(j.length:Int)))=true then (
 if (0≤a∧a<(j.length:Int)) then
 (Z1f (ix j a)).bind fun g =>
 if (0≤i∧i<(t1.Data.length:Int)) then
 (Z1f (ix t1.Data i)).bind fun h =>
 if (decide (g>h))=false→(g==h)=true→(0≤e∧e<(l.length:Int)) then
 if ((decide (g>h))||((g==h)&&(decide (a<(ix l e)))))=true then (
 Zb_J6 a false)
 else (
 Zb_J6 a b)
 else none
 else none
 else none)
 else (
 some (.inr b))
def Zb_L1 (t1:Tensor)(a:Int)(i:Tensor)(h:(List Int))(b:Int):Option (((List Int)×Int)⊕((List Int))) :=
 if (decide (b<(t1.Data.length:Int)))=true then (
 (Zm t1.Dims b).bind fun g =>
 (Z0y t1 a g).bind fun j =>
 (aR (fun s:Bool×Int=>Zb_L2 t1 a b g j s.1 s.2) (true,(0:Int))).bind fun e=>Zb_J7 i h b e)
 else (
 some (.inr h))
def Zb (t1:Tensor)(a:Int):Option (Tensor) :=
 (Z1h t1 a).bind fun g =>
 if (!g)=true then (
 some (⟨([]:List Int),([]:List Int)⟩:Tensor))
 else (
 (Z0i t1.Dims).bind fun b =>
 (aR (fun s:(List Int)×Int=>Zb_L1 t1 a b s.1 s.2) (b.Data,(0:Int))).bind fun e=>Zb_J9 b e)
def Z0x_J1 (p1:aO):Option (Bool) :=
 some (decide ((p1.length:Int)≤6))
def Z0x_L1 (p1:aO)(a:Int):Option ((Int)⊕((Bool)⊕(Unit))) :=
 if (decide (a<(p1.length:Int)))=true then (
 if (0≤a∧a<(p1.length:Int)) then
 if ((decide ((bt p1 a)<97))||(decide ((bt p1 a)>122)))=true then (
 some (.inr (.inl false)))
 else (
 some (.inl (aH (a+1))))
 else none)
 else (
 some (.inr (.inr ())))
def Z0x (p1:aO):Option (Bool) :=
 (aR (fun s:Int=>Z0x_L1 p1 s) (0:Int)).bind fun e=>match e with
 | .inl e=>some e
 | .inr e=>Z0x_J1 p1
def Z0w_J1:Option (Bool) :=
 some false
def Z0w_L1 (p1:aO)(b:Int)(a:Int):Option ((Int)⊕((Bool)⊕(Unit))) :=
 if (decide (a<(p1.length:Int)))=true then (
 if (0≤a∧a<(p1.length:Int)) then
 if ((bt p1 a)==b)=true then (
 some (.inr (.inl true)))
 else (
 some (.inl (aH (a+1))))
 else none)
 else (
 some (.inr (.inr ())))
def Z0w (p1:aO)(a:Int):Option (Bool) :=
 (aR (fun s:Int=>Z0w_L1 p1 a s) (0:Int)).bind fun e=>match e with
 | .inl e=>some e
 | .inr e=>Z0w_J1
def Z0_J8 (b:aO)(e:Int)(a:(List aO)):Option ((List aO)×aO×Bool) :=
 some (a,(sub b (aH (e+2)) (b.length:Int)),true)
def Z0_J7 (a:aO)(g:Int)(b:Int)(e:Bool):Option ((Int)⊕(((List aO)×aO×Bool)⊕(Unit))) :=
 if (!e)=false→(0≤(0:Int)∧(0:Int)≤b∧b≤((sub a (aH (g+2)) (a.length:Int)).length:Int)) then
 if (!e)=false→(0≤b∧b<((sub a (aH (g+2)) (a.length:Int)).length:Int)) then
 (bL (!(!e)) (Z0w (sub (sub a (aH (g+2)) (a.length:Int)) (0:Int) b) (bt (sub a (aH (g+2)) (a.length:Int)) b))).bind fun h =>
 if ((!e)||h)=true then (
 some (.inr (.inl (([]:List aO),([]:aO),false))))
 else (
 some (.inl (aH (b+1))))
 else none
 else none
def Z0_L5 (b:aO)(j:Int)(a:(List aO))(h:Int)(g:Bool)(e:Int):Option ((Bool×Int)⊕(Bool)) :=
 if (decide (e<(a.length:Int)))=true then (
 if g=false→(0≤e∧e<(a.length:Int)) then
 if g=false→(0≤h∧h<((sub b (aH (j+2)) (b.length:Int)).length:Int)) then
 (bL (!g) (Z0w (ix a e) (bt (sub b (aH (j+2)) (b.length:Int)) h))).bind fun i =>
 some (.inl ((g||i),(aH (e+1))))
 else none
 else none)
 else (
 some (.inr g))
def Z0_L4 (a:aO)(h:Int)(b:(List aO))(g:Int):Option ((Int)⊕(((List aO)×aO×Bool)⊕(Unit))) :=
 if (decide (g<((sub a (aH (h+2)) (a.length:Int)).length:Int)))=true then (
 (aR (fun s:Bool×Int=>Z0_L5 a h b g s.1 s.2) (false,(0:Int))).bind fun e=>Z0_J7 a h g e)
 else (
 some (.inr (.inr ())))
def Z0_J5 (b:aO)(g:Int)(a:(List aO)):Option ((List aO)×aO×Bool) :=
 (aR (fun s:Int=>Z0_L4 b g a s) (0:Int)).bind fun e=>match e with
 | .inl e=>some e
 | .inr e=>Z0_J8 b g a
def Z0_L3 (a:(List aO))(b:Int):Option ((Int)⊕(((List aO)×aO×Bool)⊕(Unit))) :=
 if (decide (b<(a.length:Int)))=true then (
 if (0≤b∧b<(a.length:Int)) then
 (Z0x (ix a b)).bind fun e =>
 if (!e)=true then (
 some (.inr (.inl (([]:List aO),([]:aO),false))))
 else (
 some (.inl (aH (b+1))))
 else none)
 else (
 some (.inr (.inr ())))
def Z0_J4 (b:aO)(g:Int)(a:(List aO)):Option ((List aO)×aO×Bool) :=
 if (0≤(aH (g+2))∧(aH (g+2))≤(b.length:Int)∧(b.length:Int)≤(b.length:Int)) then
 (bL (!(decide ((a.length:Int)>6))) (Z0x (sub b (aH (g+2)) (b.length:Int)))).bind fun h =>
 if ((decide ((a.length:Int)>6))||(!h))=true then (
 some (([]:List aO),([]:aO),false))
 else (
 (aR (fun s:Int=>Z0_L3 a s) (0:Int)).bind fun e=>match e with
 | .inl e=>some e
 | .inr e=>Z0_J5 b g a)
 else none
def Z0_J3 (b:Int)(a:(List aO))(e:Int):Option (((List aO)×Int×Int)⊕((List aO))) :=
 some (.inl (a,e,(aH (b+1))))
def Z0_L2 (e:aO)(h:Int)(a:(List aO))(g:Int)(b:Int):Option (((List aO)×Int×Int)⊕((List aO))) :=
 if (decide (b≤h))=true then (
 if (b==h)=false→(0≤b∧b<(e.length:Int)) then
 if ((b==h)||((bt e b)==44))=true then (
 if (0≤g∧g≤b∧b≤(e.length:Int)) then
 if a.length+([(sub e g b)]:List aO).length≤8796093022208 then
 Z0_J3 b (a++([(sub e g b)]:List aO)) (aH (b+1))
 else none
 else none)
 else (
 Z0_J3 b a g)
 else none)
 else (
 some (.inr a))
def Z0_J1 (a:aO)(b:Int):Option ((List aO)×aO×Bool) :=
 if (decide ((aH (b+1))≥(a.length:Int)))=true then (
 some (([]:List aO),([]:aO),false))
 else (
 (aR (fun s:(List aO)×Int×Int=>Z0_L2 a b s.1 s.2.1 s.2.2) (([]:List aO),(0:Int),(0:Int))).bind fun e=>Z0_J4 a b e)
def Z0_L1 (a:aO)(b:Int):Option ((Int)⊕(Int)) :=
 if (decide ((aH (b+1))<(a.length:Int)))=true→(0≤b∧b≤(aH (b+2))∧(aH (b+2))≤(a.length:Int)) then
 if ((decide ((aH (b+1))<(a.length:Int)))&&(!((sub a b (aH (b+2)))==str0)))=true then (
 some (.inl (aH (b+1))))
 else (
 some (.inr b))
 else none
def Z0 (a:aO):Option ((List aO)×aO×Bool) :=
 (aR (fun s:Int=>Z0_L1 a s) (0:Int)).bind fun e=>Z0_J1 a e
def Z2_J12 (b:aO)(a:(List Int)):Option (aO×(List Int)×Bool) :=
 some (b,a,true)
def Z2_L4 (a:(List Int))(e:Int)(b:Int):Option ((Int×Int)⊕((aO×(List Int)×Bool)⊕(Unit))) :=
 if (decide (b<(a.length:Int)))=true then (
 if (0≤b∧b<(a.length:Int)) then
 if (decide ((aH (e*(ix a b)))>65536))=true then (
 some (.inr (.inl (([]:aO),a,false))))
 else (
 some (.inl ((aH (e*(ix a b))),(aH (b+1)))))
 else none)
 else (
 some (.inr (.inr ())))
def Z2_J11 (b:aO)(a:(List Int)):Option (aO×(List Int)×Bool) :=
 (aR (fun s:Int×Int=>Z2_L4 a s.1 s.2) ((1:Int),(0:Int))).bind fun e=>match e with
 | .inl e=>some e
 | .inr e=>Z2_J12 b a
def Z2_J10 (e:Int)(b:aO)(a:(List Int)):Option ((aO×(List Int)×Int)⊕((aO×(List Int)×Bool)⊕(aO×(List Int)))) :=
 some (.inl (b,a,(aH (e+1))))
def Z2_J9 (g:(List (List Int)))(i:Int)(b:Int)(e:Int)(h:aO)(a:(List Int)):Option ((aO×(List Int)×Int)⊕((aO×(List Int)×Bool)⊕(aO×(List Int)))) :=
 if (0≤e∧e<(a.length:Int)) then
 if ((ix a e) != 0)=true→(0≤b∧b<((ix g i).length:Int)) then
 if (((ix a e) != 0)&&((ix a e) != (ix (ix g i) b)))=true then (
 some (.inr (.inl (([]:aO),a,false))))
 else (
 if (0≤b∧b<((ix g i).length:Int)) then
 some (.inl (h,(a.set e.toNat (ix (ix g i) b)),(aH (b+1))))
 else none)
 else none
 else none
def Z2_J8 (g:(List aO))(i:(List (List Int)))(h:Int)(a:aO)(b:(List Int))(e:Int)(j:Int):Option ((aO×(List Int)×Int)⊕((aO×(List Int)×Bool)⊕(aO×(List Int)))) :=
 if (j==(a.length:Int))=true then (
 if (0≤e∧e≤(aH (e+1))∧(aH (e+1))≤((ix g h).length:Int)) then
 if a.length+(sub (ix g h) e (aH (e+1))).length≤9223372036854775807 then
 if b.length+([(0:Int)]:List Int).length≤17592186044416 then
 Z2_J9 i h e j (a++(sub (ix g h) e (aH (e+1)))) (b++([(0:Int)]:List Int))
 else none
 else none
 else none)
 else (
 Z2_J9 i h e j a b)
def Z2_L3 (e:(List aO))(h:Int)(a:aO)(g:Int)(b:Int):Option ((Int)⊕(Int)) :=
 if (decide (b<(a.length:Int)))=true→(0≤b∧b<(a.length:Int)) then
 if (decide (b<(a.length:Int)))=true→(0≤g∧g<((ix e h).length:Int)) then
 if ((decide (b<(a.length:Int)))&&((bt a b) != (bt (ix e h) g)))=true then (
 some (.inl (aH (b+1))))
 else (
 some (.inr b))
 else none
 else none
def Z2_L2 (g:(List aO))(j:(List (List Int)))(i:Int)(a:aO)(b:(List Int))(h:Int):Option ((aO×(List Int)×Int)⊕((aO×(List Int)×Bool)⊕(aO×(List Int)))) :=
 if (decide (h<((ix g i).length:Int)))=true then (
 (aR (fun s:Int=>Z2_L3 g i a h s) (0:Int)).bind fun e=>Z2_J8 g j i a b h e)
 else (
 some (.inr (.inr (a,b))))
def Z2_L1 (b:(List aO))(i:(List (List Int)))(h:aO)(a:(List Int))(g:Int):Option ((aO×(List Int)×Int)⊕((aO×(List Int)×Bool)⊕(aO×(List Int)))) :=
 if (decide (g<(b.length:Int)))=true then (
 if (0≤g∧g<(i.length:Int)) then
 if (0≤g∧g<(b.length:Int)) then
 if (((ix i g).length:Int) != ((ix b g).length:Int))=true then (
 some (.inr (.inl (([]:aO),a,false))))
 else (
 (aR (fun s:aO×(List Int)×Int=>Z2_L2 b i g s.1 s.2.1 s.2.2) (h,a,(0:Int))).bind fun e=>match e with
 | .inl e=>some (.inr (.inl e))
 | .inr e=>Z2_J10 g e.1 e.2)
 else none
 else none)
 else (
 some (.inr (.inr (h,a))))
def Z2 (a:(List aO))(g:aO)(b:(List (List Int))):Option (aO×(List Int)×Bool) :=
 if (0≤(g.length:Int)∧(g.length:Int)≤140737488355328∧8*(g.length:Int)≤281474976710656) then
 (aR (fun s:aO×(List Int)×Int=>Z2_L1 a b s.1 s.2.1 s.2.2) (g,(List.replicate (g.length:Int).toNat (0:Int)),(0:Int))).bind fun e=>match e with
 | .inl e=>some e
 | .inr e=>Z2_J11 e.1 e.2
 else none
def Zh_J7 (a:(List Int)):Option ((List Int)) :=
 some a
def Zh_J6 (a:Int)(b:(List Int)):Option (((List Int)×Int)⊕((List Int))) :=
 some (.inl (b,(aH (a+1))))
def Zh_J5 (a:Int)(b:(List Int)):Option (((List Int)×Int)⊕((List Int))) :=
 some (.inl (b,(aH (a+1))))
def Zh_L2 (g:aO)(a:aO)(b:(List Int))(i:Int)(h:(List Int))(e:Int):Option (((List Int)×Int)⊕((List Int))) :=
 if (decide (e<(a.length:Int)))=true then (
 if (0≤e∧e<(a.length:Int)) then
 if (0≤i∧i<(g.length:Int)) then
 if ((bt a e)==(bt g i))=true then (
 if (0≤e∧e<(b.length:Int)) then
 if h.length+([(ix b e)]:List Int).length≤17592186044416 then
 Zh_J5 e (h++([(ix b e)]:List Int))
 else none
 else none)
 else (
 Zh_J5 e h)
 else none
 else none)
 else (
 some (.inr h))
def Zh_L1 (a:aO)(b:aO)(g:(List Int))(i:(List Int))(h:Int):Option (((List Int)×Int)⊕((List Int))) :=
 if (decide (h<(a.length:Int)))=true then (
 (aR (fun s:(List Int)×Int=>Zh_L2 a b g h s.1 s.2) (i,(0:Int))).bind fun e=>Zh_J6 h e)
 else (
 some (.inr i))
def Zh (g:aO)(a:aO)(b:(List Int)):Option ((List Int)) :=
 (aR (fun s:(List Int)×Int=>Zh_L1 g a b s.1 s.2) (([]:List Int),(0:Int))).bind fun e=>Zh_J7 e
def Z5_J5 (b:Tensor)(a:(List Int)):Option (Tensor) :=
 some (⟨b.Dims,a⟩:Tensor)
def Z5_J4 (l:(List aO)×aO×Bool)(i:Tensor)(b:(List Int))(g:Int)(e:(List Int))(j:Int):Option (((List Int)×Int)⊕((List Int))) :=
 if (0≤(0:Int)∧(0:Int)≤(l.2.1.length:Int)∧(l.2.1.length:Int)≤(e.length:Int)) then
 (Z0n i.Dims (sub e (0:Int) (l.2.1.length:Int))).bind fun a =>
 if (0≤a∧a<(i.Data.length:Int)) then
 (Z1n (ix b a) j).bind fun h =>
 some (.inl ((b.set a.toNat h),(aH (g+1))))
 else none
 else none
def Z5_L4 (j:(List Tensor))(m:(List aO)×aO×Bool)(l:aO×(List Int)×Bool)(e:(List Int))(b:Int)(a:Int):Option ((Int×Int)⊕(Int)) :=
 if (decide (a<(m.1.length:Int)))=true then (
 if (0≤a∧a<(j.length:Int)) then
 if (0≤a∧a<(m.1.length:Int)) then
 (Zh (ix m.1 a) l.1 e).bind fun g =>
 (Z18 (ix j a) g).bind fun h =>
 (Z1g b h).bind fun i =>
 some (.inl (i,(aH (a+1))))
 else none
 else none)
 else (
 some (.inr b))
def Z5_L3 (l:(List Tensor))(m:(List aO)×aO×Bool)(i:aO×(List Int)×Bool)(j:Tensor)(g:Int)(a:(List Int))(b:Int):Option (((List Int)×Int)⊕((List Int))) :=
 if (decide (b<g))=true then (
 (Zm i.2.1 b).bind fun h =>
 (aR (fun s:Int×Int=>Z5_L4 l m i h s.1 s.2) ((1:Int),(0:Int))).bind fun e=>Z5_J4 m j a b h e)
 else (
 some (.inr a))
def Z5_J2 (h:(List Tensor))(i:(List aO)×aO×Bool)(g:aO×(List Int)×Bool)(b:Tensor)(a:Int):Option (Tensor) :=
 (aR (fun s:(List Int)×Int=>Z5_L3 h i g b a s.1 s.2) (b.Data,(0:Int))).bind fun e=>Z5_J5 b e
def Z5_L2 (e:aO×(List Int)×Bool)(a:Int)(b:Int):Option ((Int×Int)⊕(Int)) :=
 if (decide (b<(e.2.1.length:Int)))=true then (
 if (0≤b∧b<(e.2.1.length:Int)) then
 some (.inl ((aH (a*(ix e.2.1 b))),(aH (b+1))))
 else none)
 else (
 some (.inr a))
def Z5_J1 (j:(List Tensor))(g:(List aO)×aO×Bool)(b:(List (List Int))):Option (Tensor) :=
 (Z2 g.1 g.2.1 b).bind fun a =>
 if (!a.2.2)=false→(0≤(0:Int)∧(0:Int)≤(g.2.1.length:Int)∧(g.2.1.length:Int)≤(a.2.1.length:Int)) then
 (bL (!(!a.2.2)) (Zp (sub a.2.1 (0:Int) (g.2.1.length:Int)))).bind fun h =>
 if ((!a.2.2)||(!h))=true then (
 some (⟨([]:List Int),([]:List Int)⟩:Tensor))
 else (
 if (0≤(0:Int)∧(0:Int)≤(g.2.1.length:Int)∧(g.2.1.length:Int)≤(a.2.1.length:Int)) then
 (Z0i (sub a.2.1 (0:Int) (g.2.1.length:Int))).bind fun i =>
 (aR (fun s:Int×Int=>Z5_L2 a s.1 s.2) ((1:Int),(0:Int))).bind fun e=>Z5_J2 j g a i e
 else none)
 else none
def Z5_L1 (e:(List Tensor))(a:(List (List Int)))(b:Int):Option (((List (List Int))×Int)⊕((Tensor)⊕((List (List Int))))) :=
 if (decide (b<(e.length:Int)))=true then (
 if (0≤b∧b<(e.length:Int)) then
 (Zu (ix e b)).bind fun g =>
 if (!g)=true then (
 some (.inr (.inl (⟨([]:List Int),([]:List Int)⟩:Tensor))))
 else (
 if a.length+([(ix e b).Dims]:List (List Int)).length≤5864062014805 then
 some (.inl ((a++([(ix e b).Dims]:List (List Int))),(aH (b+1))))
 else none)
 else none)
 else (
 some (.inr (.inr a)))
def Z5 (a:aO)(b:(List Tensor)):Option (Tensor) :=
 (Z0 a).bind fun g =>
 if ((!g.2.2)||((g.1.length:Int) != (b.length:Int)))=true then (
 some (⟨([]:List Int),([]:List Int)⟩:Tensor))
 else (
 (aR (fun s:(List (List Int))×Int=>Z5_L1 b s.1 s.2) (([]:List (List Int)),(0:Int))).bind fun e=>match e with
 | .inl e=>some e
 | .inr e=>Z5_J1 b g e)
def Z0h_J3 (v1:View)(a:(List Int)):Option (View) :=
 some (⟨v1.Dims,a,v1.Offset,v1.Base⟩:View)
def Z0h_J2 (a:Int)(b:(List Int)):Option ((Int×(List Int))⊕((List Int))) :=
 some (.inl ((aH (a+1)),b))
def Z0h_L1 (v1:View)(a:Int)(b:(List Int)):Option ((Int×(List Int))⊕((List Int))) :=
 if (decide (a<(v1.Dims.length:Int)))=true then (
 if (0≤a∧a<(v1.Dims.length:Int)) then
 if ((ix v1.Dims a)==1)=true then (
 if (0≤a∧a<(v1.Strides.length:Int)) then
 Z0h_J2 a (b.set a.toNat (0:Int))
 else none)
 else (
 Z0h_J2 a b)
 else none)
 else (
 some (.inr b))
def Z0h (v1:View):Option (View) :=
 (aR (fun s:Int×(List Int)=>Z0h_L1 v1 s.1 s.2) ((0:Int),v1.Strides)).bind fun e=>Z0h_J3 v1 e
def Zx_J1 (g:(List Int))(a:Int)(e:(List Int)):Option (View) :=
 (Z0h (⟨g,e,(0:Int),a⟩:View)).bind fun b =>
 some b
def Zx_L1 (a:(List Int))(e:(List Int))(b:Int):Option (((List Int)×Int)⊕((List Int))) :=
 if (decide (b<(a.length:Int)))=true then (
 if (0≤(aH (b+1))∧(aH (b+1))≤(a.length:Int)∧(a.length:Int)≤(a.length:Int)) then
 (Zq (sub a (aH (b+1)) (a.length:Int))).bind fun g =>
 if e.length+([g]:List Int).length≤17592186044416 then
 some (.inl ((e++([g]:List Int)),(aH (b+1))))
 else none
 else none)
 else (
 some (.inr e))
def Zx (a:(List Int)):Option (View) :=
 (Zp a).bind fun g =>
 if (!g)=true then (
 some (⟨([]:List Int),([]:List Int),(0:Int),(0:Int)⟩:View))
 else (
 (Zw a).bind fun h =>
 (Zq a).bind fun b =>
 (aR (fun s:(List Int)×Int=>Zx_L1 a s.1 s.2) (([]:List Int),(0:Int))).bind fun e=>Zx_J1 h b e)
def Z17_J1 (a:Int):Option (Int) :=
 some a
def Z17_L1 (v1:View)(a:(List Int))(e:Int)(b:Int):Option ((Int×Int)⊕(Int)) :=
 if (decide (b<(a.length:Int)))=true then (
 if (0≤b∧b<(a.length:Int)) then
 if (0≤b∧b<(v1.Strides.length:Int)) then
 some (.inl ((aH (e+(aH ((ix a b)*(ix v1.Strides b))))),(aH (b+1))))
 else none
 else none)
 else (
 some (.inr e))
def Z17 (v1:View)(a:(List Int)):Option (Int) :=
 (aR (fun s:Int×Int=>Z17_L1 v1 a s.1 s.2) (v1.Offset,(0:Int))).bind fun e=>Z17_J1 e
def Z0d_J1 (a:(List Int)):Option ((List Int)) :=
 some a
def Z0d_L1 (v1:View)(h:Int)(b:(List Int))(a:Int):Option (((List Int)×Int)⊕((List Int))) :=
 if (decide (a<h))=true then (
 (Zm v1.Dims a).bind fun g =>
 (Z17 v1 g).bind fun e =>
 if b.length+([e]:List Int).length≤17592186044416 then
 some (.inl ((b++([e]:List Int)),(aH (a+1))))
 else none)
 else (
 some (.inr b))
def Z0d (v1:View):Option ((List Int)) :=
 (Zq v1.Dims).bind fun a =>
 (aR (fun s:(List Int)×Int=>Z0d_L1 v1 a s.1 s.2) (([]:List Int),(0:Int))).bind fun e=>Z0d_J1 e
def Za_J2:Option (Bool) :=
 some true
def Za_L2 (v1:View)(b:(List Int))(a:Int):Option ((Int)⊕((Bool)⊕(Unit))) :=
 if (decide (a<(b.length:Int)))=true then (
 if (0≤a∧a<(b.length:Int)) then
 if ((decide ((ix b a)<0))||(decide ((ix b a)≥v1.Base)))=true then (
 some (.inr (.inl false)))
 else (
 some (.inl (aH (a+1))))
 else none)
 else (
 some (.inr (.inr ())))
def Za_J1 (v1:View):Option (Bool) :=
 (Z0d v1).bind fun a =>
 (aR (fun s:Int=>Za_L2 v1 a s) (0:Int)).bind fun e=>match e with
 | .inl e=>some e
 | .inr e=>Za_J2
def Za_L1 (v1:View)(a:Int):Option ((Int)⊕((Bool)⊕(Unit))) :=
 if (decide (a<(v1.Strides.length:Int)))=true then (
 if (0≤a∧a<(v1.Strides.length:Int)) then
 if ((decide ((ix v1.Strides a)<(-4096:Int)))||(decide ((ix v1.Strides a)>4096)))=true then (
 some (.inr (.inl false)))
 else (
 some (.inl (aH (a+1))))
 else none)
 else (
 some (.inr (.inr ())))
def Za (v1:View):Option (Bool) :=
 (Zp v1.Dims).bind fun a =>
 if ((((((!a)||((v1.Strides.length:Int) != (v1.Dims.length:Int)))||(decide (v1.Base<1)))||(decide (v1.Base>4096)))||(decide (v1.Offset<0)))||(decide (v1.Offset≥v1.Base)))=true then (
 some false)
 else (
 (aR (fun s:Int=>Za_L1 v1 s) (0:Int)).bind fun e=>match e with
 | .inl e=>some e
 | .inr e=>Za_J1 v1)
def Z05_J3 (v1:View)(a:(List Int))(b:(List Int)):Option (View) :=
 some (⟨a,b,v1.Offset,v1.Base⟩:View)
def Z05_J2 (a:Int)(b:(List Int)):Option (((List Int)×Int)⊕((View)⊕((List Int)))) :=
 some (.inl (b,(aH (a+1))))
def Z05_L1 (v1:View)(a:(List Int))(e:(List Int))(b:Int):Option (((List Int)×Int)⊕((View)⊕((List Int)))) :=
 if (decide (b<(v1.Dims.length:Int)))=true then (
 if (0≤b∧b<(v1.Dims.length:Int)) then
 if (0≤(aH ((aH ((a.length:Int) - (v1.Dims.length:Int)))+b))∧(aH ((aH ((a.length:Int) - (v1.Dims.length:Int)))+b))<(a.length:Int)) then
 if ((ix v1.Dims b)==(ix a (aH ((aH ((a.length:Int) - (v1.Dims.length:Int)))+b))))=true then (
 if (0≤b∧b<(v1.Strides.length:Int)) then
 if (0≤(aH ((aH ((a.length:Int) - (v1.Dims.length:Int)))+b))∧(aH ((aH ((a.length:Int) - (v1.Dims.length:Int)))+b))<((List.replicate (a.length:Int).toNat (0:Int)).length:Int)) then
 (nm (e.set (aH ((aH ((a.length:Int) - (v1.Dims.length:Int)))+b)).toNat (ix v1.Strides b))).bind fun g =>
 Z05_J2 b g
 else none
 else none)
 else (
 if ((ix v1.Dims b) != 1)=true then (
 some (.inr (.inl (⟨([]:List Int),([]:List Int),(0:Int),(0:Int)⟩:View))))
 else (
 Z05_J2 b e))
 else none
 else none)
 else (
 some (.inr (.inr e)))
def Z05 (v1:View)(a:(List Int)):Option (View) :=
 (Za v1).bind fun h =>
 (bL (!(!h)) (Zp a)).bind fun b =>
 if (((!h)||(!b))||(decide ((aH ((a.length:Int) - (v1.Dims.length:Int)))<0)))=true then (
 some (⟨([]:List Int),([]:List Int),(0:Int),(0:Int)⟩:View))
 else (
 (Zw a).bind fun g =>
 if (0≤(a.length:Int)∧(a.length:Int)≤140737488355328∧8*(a.length:Int)≤281474976710656) then
 (aR (fun s:(List Int)×Int=>Z05_L1 v1 a s.1 s.2) ((List.replicate (a.length:Int).toNat (0:Int)),(0:Int))).bind fun e=>match e with
 | .inl e=>some e
 | .inr e=>Z05_J3 v1 g e
 else none)
def Z02_J1 (a:(List Int))(b:(List Int)):Option (Tensor) :=
 some (⟨a,b⟩:Tensor)
def Z02_L1 (t1:Tensor)(b:(List Int))(e:(List Int))(a:Int):Option (((List Int)×Int)⊕((List Int))) :=
 if (decide (a<(b.length:Int)))=true then (
 if (0≤a∧a<(b.length:Int)) then
 if (0≤(ix b a)∧(ix b a)<(t1.Data.length:Int)) then
 if e.length+([(ix t1.Data (ix b a))]:List Int).length≤17592186044416 then
 some (.inl ((e++([(ix t1.Data (ix b a))]:List Int)),(aH (a+1))))
 else none
 else none
 else none)
 else (
 some (.inr e))
def Z02 (t1:Tensor)(v4:View):Option (Tensor) :=
 (Zu t1).bind fun a =>
 (bL (!(!a)) (Za v4)).bind fun b =>
 if (((!a)||(!b))||(v4.Base != (t1.Data.length:Int)))=true then (
 some (⟨([]:List Int),([]:List Int)⟩:Tensor))
 else (
 (Zw v4.Dims).bind fun g =>
 (Z0d v4).bind fun h =>
 (aR (fun s:(List Int)×Int=>Z02_L1 t1 h s.1 s.2) (([]:List Int),(0:Int))).bind fun e=>Z02_J1 g e)
def Z0c_J3 (v1:View)(a:(List Int))(b:(List Int))(g:(List Int)):Option (View) :=
 (Za (⟨b,g,(ix a 0),v1.Base⟩:View)).bind fun e =>
 (bL (!(!e)) (Z0d (⟨b,g,(ix a 0),v1.Base⟩:View))).bind fun h =>
 (bL (!(!e)) (Z01 h a)).bind fun i =>
 if ((!e)||(!i))=true then (
 some (⟨([]:List Int),([]:List Int),(0:Int),(0:Int)⟩:View))
 else (
 some (⟨b,g,(ix a 0),v1.Base⟩:View))
def Z0c_J2 (a:(List Int))(e:Int)(b:Int):Option (((List Int)×Int)⊕((List Int))) :=
 if a.length+([b]:List Int).length≤17592186044416 then
 some (.inl ((a++([b]:List Int)),(aH (e+1))))
 else none
def Z0c_L1 (a:(List Int))(e:(List Int))(h:(List Int))(b:Int):Option (((List Int)×Int)⊕((List Int))) :=
 if (decide (b<(a.length:Int)))=true then (
 if (0≤b∧b<(a.length:Int)) then
 if (decide ((ix a b)>1))=true then (
 if (0≤(aH (b+1))∧(aH (b+1))≤(a.length:Int)∧(a.length:Int)≤(a.length:Int)) then
 (Zq (sub a (aH (b+1)) (a.length:Int))).bind fun g =>
 if (0≤g∧g<(e.length:Int)) then
 Z0c_J2 h b (aH ((ix e g) - (ix e 0)))
 else none
 else none)
 else (
 Z0c_J2 h b (0:Int))
 else none)
 else (
 some (.inr h))
def Z0c (v1:View)(a:(List Int)):Option (View) :=
 (Za v1).bind fun h =>
 (bL (!(!h)) (Zp a)).bind fun b =>
 (bL (!((!h)||(!b))) (Zq a)).bind fun i =>
 (bL (!((!h)||(!b))) (Zq v1.Dims)).bind fun j =>
 if (((!h)||(!b))||(i != j))=true then (
 some (⟨([]:List Int),([]:List Int),(0:Int),(0:Int)⟩:View))
 else (
 (Z0d v1).bind fun g =>
 (Zw a).bind fun l =>
 if (0≤(0:Int)∧(0:Int)<(g.length:Int)) then
 (aR (fun s:(List Int)×Int=>Z0c_L1 a g s.1 s.2) (([]:List Int),(0:Int))).bind fun e=>Z0c_J3 v1 g l e
 else none)
def Z2d (v1:View)(a:Int):Option (Bool) :=
 (Za v1).bind fun b =>
 some ((b&&(decide (a≥0)))&&(decide (a<(v1.Dims.length:Int))))
def Z2f (v1:View):Option (View) :=
 (Zw v1.Dims).bind fun a =>
 (Zw v1.Strides).bind fun b =>
 some (⟨a,b,v1.Offset,v1.Base⟩:View)
def Z2g (v1:View):Option (View) :=
 (Za v1).bind fun a =>
 if (!a)=true then (
 some (⟨([]:List Int),([]:List Int),(0:Int),(0:Int)⟩:View))
 else (
 some v1)
def Z1b_J1 (a:Int)(i:Int)(b:Int)(e:View)(h:(List Int)):Option (View) :=
 (Z2g (⟨(e.Dims.set a.toNat b),h,(aH (e.Offset+(aH (i*(ix e.Strides a))))),e.Base⟩:View)).bind fun g =>
 some g
def Z1b (v1:View)(a:Int)(h:Int)(b:Int)(e:Int):Option (View) :=
 (Z2d v1 a).bind fun j =>
 if ((((((!j)||(decide (b<1)))||(decide (b>4096)))||(decide (e<(-4096:Int))))||(decide (e>4096)))||(decide (h<0)))=false→(0≤a∧a<(v1.Dims.length:Int)) then
 if (((((((!j)||(decide (b<1)))||(decide (b>4096)))||(decide (e<(-4096:Int))))||(decide (e>4096)))||(decide (h<0)))||(decide (h≥(ix v1.Dims a))))=true then (
 some (⟨([]:List Int),([]:List Int),(0:Int),(0:Int)⟩:View))
 else (
 if (decide ((aH (h+(aH ((aH (b - 1))*e))))<0))=false→(0≤a∧a<(v1.Dims.length:Int)) then
 if ((decide ((aH (h+(aH ((aH (b - 1))*e))))<0))||(decide ((aH (h+(aH ((aH (b - 1))*e))))≥(ix v1.Dims a))))=true then (
 some (⟨([]:List Int),([]:List Int),(0:Int),(0:Int)⟩:View))
 else (
 (Z2f v1).bind fun g =>
 if (0≤a∧a<(g.Strides.length:Int)) then
 if (0≤a∧a<(g.Dims.length:Int)) then
 (nm (g.Strides.set a.toNat (aH ((ix g.Strides a)*e)))).bind fun i =>
 if (b==1)=true then (
 Z1b_J1 a h b g (i.set a.toNat (0:Int)))
 else (
 Z1b_J1 a h b g i)
 else none
 else none)
 else none)
 else none
def Z1x (t1:Tensor)(a:(List Int))(e:Int):Option ((List Int)) :=
 (Z0n t1.Dims a).bind fun b =>
 if (0≤b∧b<(t1.Data.length:Int)) then
 some (t1.Data.set b.toNat e)
 else none
def Z0t_J1 (a:Tensor)(b:(List Int)):Option (Tensor) :=
 some (⟨a.Dims,b⟩:Tensor)
def Z0t_L1 (t1:Tensor)(a:Int)(e:Int)(h:Int)(j:Tensor)(i:(List Int))(b:Int):Option (((List Int)×Int)⊕((List Int))) :=
 if (decide (b<(t1.Data.length:Int)))=true then (
 (Zm t1.Dims b).bind fun g =>
 if (0≤a∧a<(g.length:Int)) then
 (Z0j g a (aH (e+(aH ((ix g a)*(aH (h+1))))))).bind fun l =>
 if (0≤b∧b<(t1.Data.length:Int)) then
 (Z1x (⟨j.Dims,i⟩:Tensor) l (ix t1.Data b)).bind fun m =>
 some (.inl (m,(aH (b+1))))
 else none
 else none)
 else (
 some (.inr i))
def Z0t (t1:Tensor)(a:Int)(b:Int)(g:Int)(h:Int):Option (Tensor) :=
 (Z1h t1 a).bind fun l =>
 if (((((((!l)||(decide (b<0)))||(decide (b>4096)))||(decide (g<0)))||(decide (g>4096)))||(decide (h<0)))||(decide (h>4096)))=true then (
 some (⟨([]:List Int),([]:List Int)⟩:Tensor))
 else (
 if (0≤a∧a<(t1.Dims.length:Int)) then
 (Z0j t1.Dims a (aH ((aH ((aH (b+(ix t1.Dims a)))+(aH ((aH ((ix t1.Dims a) - 1))*h))))+g))).bind fun j =>
 (Zp j).bind fun m =>
 if (!m)=true then (
 some (⟨([]:List Int),([]:List Int)⟩:Tensor))
 else (
 (Z0i j).bind fun i =>
 (aR (fun s:(List Int)×Int=>Z0t_L1 t1 a b h i s.1 s.2) (i.Data,(0:Int))).bind fun e=>Z0t_J1 i e)
 else none)
def Z0s_J1 (a:Tensor)(b:(List Int)):Option (Tensor) :=
 some (⟨a.Dims,b⟩:Tensor)
def Z0s_L1 (t1:Tensor)(a:Int)(b:(List Int))(j:(List Int))(h:Tensor)(i:(List Int))(e:Int):Option (((List Int)×Int)⊕((List Int))) :=
 if (decide (e<(h.Data.length:Int)))=true then (
 (Zm j e).bind fun g =>
 if (0≤a∧a<(g.length:Int)) then
 if (0≤(ix g a)∧(ix g a)<(b.length:Int)) then
 (Z0j g a (ix b (ix g a))).bind fun l =>
 (Z18 t1 l).bind fun m =>
 if (0≤e∧e<(h.Data.length:Int)) then
 some (.inl ((i.set e.toNat m),(aH (e+1))))
 else none
 else none
 else none)
 else (
 some (.inr i))
def Z0s (t1:Tensor)(b:Int)(a:(List Int)):Option (Tensor) :=
 (Z1h t1 b).bind fun l =>
 if ((!l)||((a.length:Int)==0))=false→(0≤b∧b<(t1.Dims.length:Int)) then
 (bL (!((!l)||((a.length:Int)==0))) (Z0k a (ix t1.Dims b))).bind fun i =>
 if (((!l)||((a.length:Int)==0))||(!i))=true then (
 some (⟨([]:List Int),([]:List Int)⟩:Tensor))
 else (
 (Z0j t1.Dims b (a.length:Int)).bind fun g =>
 (Zp g).bind fun j =>
 if (!j)=true then (
 some (⟨([]:List Int),([]:List Int)⟩:Tensor))
 else (
 (Z0i g).bind fun h =>
 (aR (fun s:(List Int)×Int=>Z0s_L1 t1 b a g h s.1 s.2) (h.Data,(0:Int))).bind fun e=>Z0s_J1 h e))
 else none
def Z0u_J1 (a:Tensor)(b:(List Int)):Option (Tensor) :=
 some (⟨a.Dims,b⟩:Tensor)
def Z0u_L1 (t1:Tensor)(a:Int)(b:(List Int))(i:Tensor)(h:(List Int))(e:Int):Option (((List Int)×Int)⊕((List Int))) :=
 if (decide (e<(t1.Data.length:Int)))=true then (
 (Zm t1.Dims e).bind fun g =>
 if (0≤a∧a<(g.length:Int)) then
 if (0≤(ix g a)∧(ix g a)<(b.length:Int)) then
 (Z0j g a (ix b (ix g a))).bind fun j =>
 (Z18 (⟨i.Dims,h⟩:Tensor) j).bind fun l =>
 if (0≤e∧e<(t1.Data.length:Int)) then
 (Z1n l (ix t1.Data e)).bind fun m =>
 (Z1x (⟨i.Dims,h⟩:Tensor) j m).bind fun q =>
 some (.inl (q,(aH (e+1))))
 else none
 else none
 else none)
 else (
 some (.inr h))
def Z0u (t1:Tensor)(a:Int)(b:(List Int))(m:Int):Option (Tensor) :=
 (Z1h t1 a).bind fun g =>
 if (!g)=false→(0≤a∧a<(t1.Dims.length:Int)) then
 (bL (!((!g)||((b.length:Int) != (ix t1.Dims a)))) (Z0k b m)).bind fun j =>
 if (((!g)||((b.length:Int) != (ix t1.Dims a)))||(!j))=true then (
 some (⟨([]:List Int),([]:List Int)⟩:Tensor))
 else (
 (Z0j t1.Dims a m).bind fun i =>
 (Zp i).bind fun l =>
 if (!l)=true then (
 some (⟨([]:List Int),([]:List Int)⟩:Tensor))
 else (
 (Z0i i).bind fun h =>
 (aR (fun s:(List Int)×Int=>Z0u_L1 t1 a b h s.1 s.2) (h.Data,(0:Int))).bind fun e=>Z0u_J1 h e))
 else none
def Z0e_J2 (a:Int)(b:View)(h:(List Int))(e:(List Int))(g:Int):Option (View) :=
 if e.length+([g]:List Int).length≤17592186044416 then
 (Z2g (⟨(h++([a]:List Int)),(e++([g]:List Int)),b.Offset,b.Base⟩:View)).bind fun i =>
 some i
 else none
def Z0e_J1 (v1:View)(b:Int)(a:Int)(g:View)(e:(List Int))(h:(List Int)):Option (View) :=
 if e.length+([a]:List Int).length≤17592186044416 then
 if (a==1)=true then (
 Z0e_J2 a g e h (0:Int))
 else (
 Z0e_J2 a g e h (ix v1.Strides b))
 else none
def Z0e (v1:View)(a:Int)(b:Int)(e:Int):Option (View) :=
 (Z2d v1 a).bind fun j =>
 if (((!j)||(decide (b<1)))||(decide (e<1)))=false→(0≤a∧a<(v1.Dims.length:Int)) then
 if ((((!j)||(decide (b<1)))||(decide (e<1)))||(decide (b>(ix v1.Dims a))))=true then (
 some (⟨([]:List Int),([]:List Int),(0:Int),(0:Int)⟩:View))
 else (
 (Z2f v1).bind fun g =>
 if (0≤a∧a<(v1.Dims.length:Int)) then
 if e≠0 then
 if (0≤a∧a<(v1.Strides.length:Int)) then
 if (0≤a∧a<(g.Dims.length:Int)) then
 (nm (g.Dims.set a.toNat (aH ((aH ((aH ((ix v1.Dims a) - b)).tdiv e))+1)))).bind fun h =>
 if (0≤a∧a<(g.Strides.length:Int)) then
 if (decide ((aH ((aH ((aH ((ix v1.Dims a) - b)).tdiv e))+1))>1))=true then (
 (nm ((g.Strides.set a.toNat (0:Int)).set a.toNat (aH ((ix v1.Strides a)*e)))).bind fun i =>
 Z0e_J1 v1 a b g h i)
 else (
 Z0e_J1 v1 a b g h (g.Strides.set a.toNat (0:Int)))
 else none
 else none
 else none
 else none
 else none)
 else none
def Z0r_J1 (a:Tensor)(b:(List Int)):Option (Tensor) :=
 some (⟨a.Dims,b⟩:Tensor)
def Z0r_L1 (t1:Tensor)(a:Int)(h:Int)(j:Tensor)(i:(List Int))(b:Int):Option (((List Int)×Int)⊕((List Int))) :=
 if (decide (b<(t1.Data.length:Int)))=true then (
 (Zm t1.Dims b).bind fun e =>
 if (0≤a∧a<(e.length:Int)) then
 if (0≤(aH ((t1.Dims.length:Int) - 1))∧(aH ((t1.Dims.length:Int) - 1))<(e.length:Int)) then
 (Z0j e a (aH ((aH ((ix e a)*h))+(ix e (aH ((t1.Dims.length:Int) - 1)))))).bind fun g =>
 if (0≤(0:Int)∧(0:Int)≤(aH ((t1.Dims.length:Int) - 1))∧(aH ((t1.Dims.length:Int) - 1))≤(g.length:Int)) then
 (Z18 (⟨j.Dims,i⟩:Tensor) (sub g (0:Int) (aH ((t1.Dims.length:Int) - 1)))).bind fun l =>
 if (0≤b∧b<(t1.Data.length:Int)) then
 (Z1n l (ix t1.Data b)).bind fun m =>
 (Z1x (⟨j.Dims,i⟩:Tensor) (sub g (0:Int) (aH ((t1.Dims.length:Int) - 1))) m).bind fun q =>
 some (.inl (q,(aH (b+1))))
 else none
 else none
 else none
 else none)
 else (
 some (.inr i))
def Z0r (t1:Tensor)(a:Int)(b:Int)(g:Int):Option (Tensor) :=
 (Z1h t1 a).bind fun l =>
 if (((((!l)||(a==(aH ((t1.Dims.length:Int) - 1))))||(decide (b<1)))||(decide (g<1)))||(decide (g>4096)))=true then (
 some (⟨([]:List Int),([]:List Int)⟩:Tensor))
 else (
 if (0≤(aH ((t1.Dims.length:Int) - 1))∧(aH ((t1.Dims.length:Int) - 1))<(t1.Dims.length:Int)) then
 if (decide ((ix t1.Dims (aH ((t1.Dims.length:Int) - 1)))>g))=false→b≠0 then
 if (decide ((ix t1.Dims (aH ((t1.Dims.length:Int) - 1)))>g))=false→(0≤a∧a<(t1.Dims.length:Int)) then
 if ((decide ((ix t1.Dims (aH ((t1.Dims.length:Int) - 1)))>g))||((aH ((aH ((aH (g - (ix t1.Dims (aH ((t1.Dims.length:Int) - 1))))).tdiv b))+1)) != (ix t1.Dims a)))=true then (
 some (⟨([]:List Int),([]:List Int)⟩:Tensor))
 else (
 (Z0j t1.Dims a g).bind fun h =>
 if (0≤(0:Int)∧(0:Int)≤(aH ((t1.Dims.length:Int) - 1))∧(aH ((t1.Dims.length:Int) - 1))≤(h.length:Int)) then
 (Zp (sub h (0:Int) (aH ((t1.Dims.length:Int) - 1)))).bind fun j =>
 if (!j)=true then (
 some (⟨([]:List Int),([]:List Int)⟩:Tensor))
 else (
 (Z0i (sub h (0:Int) (aH ((t1.Dims.length:Int) - 1)))).bind fun i =>
 (aR (fun s:(List Int)×Int=>Z0r_L1 t1 a b i s.1 s.2) (i.Data,(0:Int))).bind fun e=>Z0r_J1 i e)
 else none)
 else none
 else none
 else none)
def Z1_J2 (a:Node)(b:(List Tensor))(M:Bool):Option (Tensor) :=
 if M=true then (
 if (0≤(0:Int)∧(0:Int)<(b.length:Int)) then
 (Z12 (aH ((aH (a.Op - 6))+1)) (ix b 0)).bind fun D =>
 some D
 else none)
 else (
 if (a.Op==10)=true then (
 if (0≤(0:Int)∧(0:Int)<(b.length:Int)) then
 if (0≤(0:Int)∧(0:Int)<(a.Ints.length:Int)) then
 (Zb (ix b 0) (ix a.Ints 0)).bind fun E =>
 some E
 else none
 else none)
 else (
 if (a.Op==11)=true then (
 (Z5 a.Form b).bind fun F =>
 some F)
 else (
 if (a.Op==12)=true then (
 if (0≤(0:Int)∧(0:Int)<(b.length:Int)) then
 (Zx ((ix b 0).Dims)).bind fun G =>
 (Z05 G a.Dims).bind fun I =>
 (Z02 (ix b 0) I).bind fun J =>
 some J
 else none)
 else (
 if (a.Op==13)=true then (
 if (0≤(0:Int)∧(0:Int)<(b.length:Int)) then
 (Zx ((ix b 0).Dims)).bind fun L =>
 (Z0c L a.Dims).bind fun e =>
 (Z02 (ix b 0) e).bind fun g =>
 some g
 else none)
 else (
 if (a.Op==14)=true then (
 if (0≤(3:Int)∧(3:Int)<(a.Ints.length:Int)) then
 if (decide ((ix a.Ints 3)<1))=true then (
 some (⟨([]:List Int),([]:List Int)⟩:Tensor))
 else (
 if (0≤(0:Int)∧(0:Int)<(b.length:Int)) then
 (Zx ((ix b 0).Dims)).bind fun h =>
 if (0≤(0:Int)∧(0:Int)<(a.Ints.length:Int)) then
 if (0≤(1:Int)∧(1:Int)<(a.Ints.length:Int)) then
 if (0≤(2:Int)∧(2:Int)<(a.Ints.length:Int)) then
 (Z1b h (ix a.Ints 0) (ix a.Ints 1) (ix a.Ints 2) (ix a.Ints 3)).bind fun i =>
 (Z02 (ix b 0) i).bind fun j =>
 some j
 else none
 else none
 else none
 else none)
 else none)
 else (
 if (a.Op==15)=true then (
 if (0≤(0:Int)∧(0:Int)<(b.length:Int)) then
 if (0≤(0:Int)∧(0:Int)<(a.Ints.length:Int)) then
 if (0≤(1:Int)∧(1:Int)<(a.Ints.length:Int)) then
 if (0≤(2:Int)∧(2:Int)<(a.Ints.length:Int)) then
 if (0≤(3:Int)∧(3:Int)<(a.Ints.length:Int)) then
 (Z0t (ix b 0) (ix a.Ints 0) (ix a.Ints 1) (ix a.Ints 2) (ix a.Ints 3)).bind fun l =>
 some l
 else none
 else none
 else none
 else none
 else none)
 else (
 if (a.Op==16)=true then (
 if (0≤(0:Int)∧(0:Int)<(b.length:Int)) then
 if (0≤(0:Int)∧(0:Int)<(a.Ints.length:Int)) then
 if (0≤(1:Int)∧(1:Int)≤(a.Ints.length:Int)∧(a.Ints.length:Int)≤(a.Ints.length:Int)) then
 (Z0s (ix b 0) (ix a.Ints 0) (sub a.Ints (1:Int) (a.Ints.length:Int))).bind fun m =>
 some m
 else none
 else none
 else none)
 else (
 if (a.Op==17)=true then (
 if (0≤(0:Int)∧(0:Int)<(b.length:Int)) then
 if (0≤(0:Int)∧(0:Int)<(a.Ints.length:Int)) then
 if (0≤(2:Int)∧(2:Int)≤(a.Ints.length:Int)∧(a.Ints.length:Int)≤(a.Ints.length:Int)) then
 if (0≤(1:Int)∧(1:Int)<(a.Ints.length:Int)) then
 (Z0u (ix b 0) (ix a.Ints 0) (sub a.Ints (2:Int) (a.Ints.length:Int)) (ix a.Ints 1)).bind fun q =>
 some q
 else none
 else none
 else none
 else none)
 else (
 if (a.Op==18)=true then (
 if (0≤(0:Int)∧(0:Int)<(b.length:Int)) then
 (Zx ((ix b 0).Dims)).bind fun r =>
 if (0≤(0:Int)∧(0:Int)<(a.Ints.length:Int)) then
 if (0≤(1:Int)∧(1:Int)<(a.Ints.length:Int)) then
 if (0≤(2:Int)∧(2:Int)<(a.Ints.length:Int)) then
 (Z0e r (ix a.Ints 0) (ix a.Ints 1) (ix a.Ints 2)).bind fun s =>
 (Z02 (ix b 0) s).bind fun u =>
 some u
 else none
 else none
 else none
 else none)
 else (
 if (0≤(0:Int)∧(0:Int)<(b.length:Int)) then
 if (0≤(0:Int)∧(0:Int)<(a.Ints.length:Int)) then
 if (0≤(1:Int)∧(1:Int)<(a.Ints.length:Int)) then
 if (0≤(2:Int)∧(2:Int)<(a.Ints.length:Int)) then
 (Z0r (ix b 0) (ix a.Ints 0) (ix a.Ints 1) (ix a.Ints 2)).bind fun B =>
 some B
 else none
 else none
 else none
 else none))))))))))
def Z1_J1 (a:Node)(b:(List Tensor))(h:Bool):Option (Tensor) :=
 if h=true then (
 if (0≤(0:Int)∧(0:Int)<(b.length:Int)) then
 if (0≤(1:Int)∧(1:Int)<(b.length:Int)) then
 (Z01 ((ix b 0).Dims) ((ix b 1).Dims)).bind fun e =>
 if (!e)=true then (
 some (⟨([]:List Int),([]:List Int)⟩:Tensor))
 else (
 (Z13 (aH ((aH (a.Op - 3))+1)) (ix b 0) (ix b 1)).bind fun g =>
 some g)
 else none
 else none)
 else (
 if (a.Op==6)=true then (
 Z1_J2 a b (a.Op==6))
 else (
 if (a.Op==7)=true then (
 Z1_J2 a b (a.Op==7))
 else (
 if (a.Op==8)=true then (
 Z1_J2 a b (a.Op==8))
 else (
 Z1_J2 a b (a.Op==9)))))
def Z1 (a:Node)(b:(List Tensor)):Option (Tensor) :=
 if (a.Op==2)=true then (
 (Zu (⟨a.Dims,a.Data⟩:Tensor)).bind fun e =>
 if (!e)=true then (
 some (⟨([]:List Int),([]:List Int)⟩:Tensor))
 else (
 (Zw a.Dims).bind fun g =>
 (Zw a.Data).bind fun h =>
 some (⟨g,h⟩:Tensor)))
 else (
 if (a.Op==3)=true then (
 Z1_J1 a b (a.Op==3))
 else (
 if (a.Op==4)=true then (
 Z1_J1 a b (a.Op==4))
 else (
 Z1_J1 a b (a.Op==5))))
def Z0q_J1 (b:Tensor)(a:(List Int)):Option (Tensor) :=
 some (⟨b.Dims,a⟩:Tensor)
def Z0q_L1 (h:Int)(g:Tensor)(b:(List Int))(a:Int):Option (((List Int)×Int)⊕((List Int))) :=
 if (decide (a<(g.Data.length:Int)))=true then (
 (Zt h).bind fun e =>
 if (0≤a∧a<(g.Data.length:Int)) then
 some (.inl ((b.set a.toNat e),(aH (a+1))))
 else none)
 else (
 some (.inr b))
def Z0q (a:(List Int))(g:Int):Option (Tensor) :=
 (Zp a).bind fun h =>
 if (!h)=true then (
 some (⟨([]:List Int),([]:List Int)⟩:Tensor))
 else (
 (Z0i a).bind fun b =>
 (aR (fun s:(List Int)×Int=>Z0q_L1 g b s.1 s.2) (b.Data,(0:Int))).bind fun e=>Z0q_J1 b e)
def Z9_J5 (g1:Graph)(a:(List Tensor))(b:Bool)(g:(List Tensor))(h:Int):Option ((List Tensor)×Bool) :=
 (Z0k g1.Outs (g1.Nodes.length:Int)).bind fun e =>
 some (g,(e&&(b||(h==(a.length:Int)))))
def Z9_J4 (b:(List Tensor))(g:Int)(h:Int)(e:(List Int))(a:(List Int)):Option (((List Tensor)×Int×Int)⊕(((List Tensor)×Bool)⊕((List Tensor)×Int))) :=
 if ((a.length:Int)==0)=true then (
 some (.inr (.inl (b,false))))
 else (
 if b.length+([(⟨e,a⟩:Tensor)]:List Tensor).length≤2932031007402 then
 some (.inl ((b++([(⟨e,a⟩:Tensor)]:List Tensor)),h,(aH (g+1))))
 else none)
def Z9_J3 (g1:Graph)(a:(List Tensor))(i:Bool)(g:(List Tensor))(b:Int)(e:Int)(m:(List Tensor)):Option (((List Tensor)×Int×Int)⊕(((List Tensor)×Bool)⊕((List Tensor)×Int))) :=
 if ((ix g1.Nodes e).Op != 1)=true then (
 (Z1 (ix g1.Nodes e) m).bind fun j =>
 Z9_J4 g e b j.Dims j.Data)
 else (
 if i=true then (
 (Z0q ((ix g1.Nodes e).Dims) (0:Int)).bind fun l =>
 Z9_J4 g e b l.Dims l.Data)
 else (
 if (decide (b≥(a.length:Int)))=false→(0≤b∧b<(a.length:Int)) then
 (bL (!(decide (b≥(a.length:Int)))) (Zu (ix a b))).bind fun h =>
 if ((decide (b≥(a.length:Int)))||(!h))=false→(0≤b∧b<(a.length:Int)) then
 (bL (!((decide (b≥(a.length:Int)))||(!h))) (Z01 ((ix a b).Dims) ((ix g1.Nodes e).Dims))).bind fun q =>
 if (((decide (b≥(a.length:Int)))||(!h))||(!q))=true then (
 some (.inr (.inl (g,false))))
 else (
 (Zw ((ix g1.Nodes e).Dims)).bind fun r =>
 if (0≤b∧b<(a.length:Int)) then
 (Zw ((ix a b).Data)).bind fun s =>
 Z9_J4 g e (aH (b+1)) r s
 else none)
 else none
 else none))
def Z9_L2 (g1:Graph)(g:(List Tensor))(b:Int)(e:(List Tensor))(a:Int):Option (((List Tensor)×Int)⊕((List Tensor))) :=
 if (decide (a<(((ix g1.Nodes b).Args).length:Int)))=true then (
 if (0≤a∧a<(((ix g1.Nodes b).Args).length:Int)) then
 if (0≤(ix ((ix g1.Nodes b).Args) a)∧(ix ((ix g1.Nodes b).Args) a)<(g.length:Int)) then
 if e.length+([(ix g (ix ((ix g1.Nodes b).Args) a))]:List Tensor).length≤2932031007402 then
 some (.inl ((e++([(ix g (ix ((ix g1.Nodes b).Args) a))]:List Tensor)),(aH (a+1))))
 else none
 else none
 else none)
 else (
 some (.inr e))
def Z9_L1 (g1:Graph)(g:(List Tensor))(h:Bool)(b:(List Tensor))(j:Int)(a:Int):Option (((List Tensor)×Int×Int)⊕(((List Tensor)×Bool)⊕((List Tensor)×Int))) :=
 if (decide (a<(g1.Nodes.length:Int)))=true then (
 if (0≤a∧a<(g1.Nodes.length:Int)) then
 (Z19 (ix g1.Nodes a)).bind fun i =>
 (bL (!(!i)) (Z0k ((ix g1.Nodes a).Args) a)).bind fun l =>
 if ((!i)||(!l))=true then (
 some (.inr (.inl (b,false))))
 else (
 (aR (fun s:(List Tensor)×Int=>Z9_L2 g1 b a s.1 s.2) (([]:List Tensor),(0:Int))).bind fun e=>Z9_J3 g1 g h b j a e)
 else none)
 else (
 some (.inr (.inr (b,j))))
def Z9 (g1:Graph)(a:(List Tensor))(b:Bool):Option ((List Tensor)×Bool) :=
 if ((decide ((g1.Nodes.length:Int)>200))||(decide ((g1.Outs.length:Int)>40)))=true then (
 some (([]:List Tensor),false))
 else (
 (aR (fun s:(List Tensor)×Int×Int=>Z9_L1 g1 a b s.1 s.2.1 s.2.2) (([]:List Tensor),(0:Int),(0:Int))).bind fun e=>match e with
 | .inl e=>some e
 | .inr e=>Z9_J5 g1 a b e.1 e.2)
def Z36 (g1:Graph):Option (Bool) :=
 (Z9 g1 ([]:List Tensor) true).bind fun a =>
 some a.2
def Z03_J3 (a:Int):Option (Int) :=
 some a
def Z03_J2 (a:Int)(b:Int):Option ((Int×Int)⊕(Int)) :=
 some (.inl (b,(aH (a+1))))
def Z03_L1 (a:(List Int))(g:Int)(e:Int)(b:Int):Option ((Int×Int)⊕(Int)) :=
 if (decide (b<(a.length:Int)))=true then (
 if (0≤b∧b<(a.length:Int)) then
 if (decide ((ix a b)<g))=true then (
 Z03_J2 b (aH (e+1)))
 else (
 Z03_J2 b e)
 else none)
 else (
 some (.inr e))
def Z03 (a:(List Int))(b:Int):Option (Int) :=
 (aR (fun s:Int×Int=>Z03_L1 a b s.1 s.2) ((0:Int),(0:Int))).bind fun e=>Z03_J3 e
def Z0o_J1:Option (Bool) :=
 some false
def Z0o_L1 (a:(List Int))(e:Int)(b:Int):Option ((Int)⊕((Bool)⊕(Unit))) :=
 if (decide (b<(a.length:Int)))=true then (
 if (0≤b∧b<(a.length:Int)) then
 if ((ix a b)==e)=true then (
 some (.inr (.inl true)))
 else (
 some (.inl (aH (b+1))))
 else none)
 else (
 some (.inr (.inr ())))
def Z0o (a:(List Int))(b:Int):Option (Bool) :=
 (aR (fun s:Int=>Z0o_L1 a b s) (0:Int)).bind fun e=>match e with
 | .inl e=>some e
 | .inr e=>Z0o_J1
def Z20 (a:Node):Option (Bool) :=
 some ((a.Op==1)||(a.Op==2))
def Zc_J4:Option (Bool) :=
 some true
def Zc_J3 (a:Int):Option ((Int)⊕((Bool)⊕(Unit))) :=
 some (.inl (aH (a+1)))
def Zc_L3 (g1:Graph)(e:(List Int))(b:Int)(a:Int):Option ((Int)⊕((Bool)⊕(Unit))) :=
 if (0≤b∧b<(g1.Nodes.length:Int)) then
 if (decide (a<(((ix g1.Nodes b).Args).length:Int)))=true then (
 if (0≤a∧a<(((ix g1.Nodes b).Args).length:Int)) then
 (Z03 e (ix ((ix g1.Nodes b).Args) a)).bind fun g =>
 (Z03 e b).bind fun h =>
 (bL (g != h) (Z0o e (ix ((ix g1.Nodes b).Args) a))).bind fun i =>
 if ((g != h)&&(!i))=true→(0≤(ix ((ix g1.Nodes b).Args) a)∧(ix ((ix g1.Nodes b).Args) a)<(g1.Nodes.length:Int)) then
 (bL ((g != h)&&(!i)) (Z20 (ix g1.Nodes (ix ((ix g1.Nodes b).Args) a)))).bind fun j =>
 if (((g != h)&&(!i))&&(!j))=true then (
 some (.inr (.inl false)))
 else (
 some (.inl (aH (a+1))))
 else none
 else none)
 else (
 some (.inr (.inr ())))
 else none
def Zc_L2 (g1:Graph)(b:(List Int))(a:Int):Option ((Int)⊕((Bool)⊕(Unit))) :=
 if (decide (a<(g1.Nodes.length:Int)))=true then (
 (aR (fun s:Int=>Zc_L3 g1 b a s) (0:Int)).bind fun e=>match e with
 | .inl e=>some (.inr (.inl e))
 | .inr e=>Zc_J3 a)
 else (
 some (.inr (.inr ())))
def Zc_J1 (g1:Graph)(a:(List Int)):Option (Bool) :=
 (aR (fun s:Int=>Zc_L2 g1 a s) (0:Int)).bind fun e=>match e with
 | .inl e=>some e
 | .inr e=>Zc_J4
def Zc_L1 (g1:Graph)(a:(List Int))(b:Int):Option ((Int)⊕((Bool)⊕(Unit))) :=
 if (decide (b<(a.length:Int)))=true then (
 if (0≤b∧b<(a.length:Int)) then
 if ((decide ((ix a b)<0))||(decide ((ix a b)≥(g1.Nodes.length:Int))))=false→(decide (b>0))=true→(0≤(aH (b - 1))∧(aH (b - 1))<(a.length:Int)) then
 if (((decide ((ix a b)<0))||(decide ((ix a b)≥(g1.Nodes.length:Int))))||((decide (b>0))&&(decide ((ix a (aH (b - 1)))≥(ix a b)))))=true then (
 some (.inr (.inl false)))
 else (
 some (.inl (aH (b+1))))
 else none
 else none)
 else (
 some (.inr (.inr ())))
def Zc (g1:Graph)(a:(List Int)):Option (Bool) :=
 (aR (fun s:Int=>Zc_L1 g1 a s) (0:Int)).bind fun e=>match e with
 | .inl e=>some e
 | .inr e=>Zc_J1 g1 a
def Z2s (g1:Graph)(a:(List Int)):Option (Bool) :=
 (Z36 g1).bind fun b =>
 (bL b (Zc g1 a)).bind fun e =>
 some (b&&e)
def Z0v_J1 (a:(List (List Int))):Option ((List (List Int))) :=
 some a
def Z0v_L1 (e:(List Tensor)×Bool)(b:(List (List Int)))(a:Int):Option (((List (List Int))×Int)⊕((List (List Int)))) :=
 if ((decide (a<(e.1.length:Int)))&&e.2)=true then (
 if (0≤a∧a<(e.1.length:Int)) then
 if b.length+([(ix e.1 a).Dims]:List (List Int)).length≤5864062014805 then
 some (.inl ((b++([(ix e.1 a).Dims]:List (List Int))),(aH (a+1))))
 else none
 else none)
 else (
 some (.inr b))
def Z0v (g1:Graph):Option ((List (List Int))) :=
 (Z9 g1 ([]:List Tensor) true).bind fun a =>
 (aR (fun s:(List (List Int))×Int=>Z0v_L1 a s.1 s.2) (([]:List (List Int)),(0:Int))).bind fun e=>Z0v_J1 e
def Z7_J9 (a:Int)(e:Int)(b:Int):Option (Int×Int) :=
 some ((aH (a+b)),e)
def Z7_J8 (g:Int)(a:Int)(e:Int)(b:Int):Option ((Int×Int×Int×Int)⊕(Int×Int×Int)) :=
 some (.inl (a,e,b,(aH (g+1))))
def Z7_J7 (e:Int)(h:Int)(a:Int)(b:Int)(g:Int):Option ((Int×Int×Int×Int)⊕(Int×Int×Int)) :=
 if (decide (g>e))=true then (
 Z7_J8 h a b g)
 else (
 Z7_J8 h a b e)
def Z7_J6 (g:Int)(a:Int)(b:Int)(e:Int):Option ((Int×Int×Int×Int)⊕(Int×Int×Int)) :=
 some (.inl (a,b,e,(aH (g+1))))
def Z7_L2 (g1:Graph)(i:(List (List Int)))(j:(List Int))(s:Int)(m:Int)(b:Int)(e:Int)(g:Int)(a:Int):Option ((Int×Int×Int×Int)⊕(Int×Int×Int)) :=
 if (decide (a<(g1.Nodes.length:Int)))=true then (
 (Z03 j a).bind fun l =>
 if (l != m)=false→(0≤a∧a<(g1.Nodes.length:Int)) then
 (bL (!(l != m)) (Z20 (ix g1.Nodes a))).bind fun q =>
 if ((l != m)||q)=true then (
 Z7_J6 a b e g)
 else (
 if (0≤a∧a<(i.length:Int)) then
 (Zq (ix i a)).bind fun h =>
 (Z0o j a).bind fun r =>
 if r=true then (
 Z7_J6 a (aH (b+h)) (aH (e+h)) g)
 else (
 if (m != s)=true then (
 Z7_J6 a b (aH ((aH (e+h))+h)) (aH (g+h)))
 else (
 Z7_J6 a b (aH (e+h)) (aH (g+h))))
 else none)
 else none)
 else (
 some (.inr (b,e,g)))
def Z7_L1 (g1:Graph)(i:(List (List Int)))(h:(List Int))(l:Int)(a:Int)(g:Int)(b:Int)(j:Int):Option ((Int×Int×Int×Int)⊕(Int×Int×Int)) :=
 if (decide (j≤(h.length:Int)))=true then (
 (aR (fun s:Int×Int×Int×Int=>Z7_L2 g1 i h l j s.1 s.2.1 s.2.2.1 s.2.2.2) (a,g,(0:Int),(0:Int))).bind fun e=>Z7_J7 b j e.1 e.2.1 e.2.2)
 else (
 some (.inr (a,g,b)))
def Z7 (g1:Graph)(b:(List (List Int)))(a:(List Int)):Option (Int×Int) :=
 (Z03 a (aH ((g1.Nodes.length:Int) - 1))).bind fun g =>
 (aR (fun s:Int×Int×Int×Int=>Z7_L1 g1 b a g s.1 s.2.1 s.2.2.1 s.2.2.2) ((0:Int),(0:Int),(0:Int),(0:Int))).bind fun e=>Z7_J9 e.1 e.2.1 e.2.2
def Z2r (g1:Graph)(a:(List Int)):Option (Int×Int) :=
 (Z2s g1 a).bind fun g =>
 if (!g)=true then (
 some ((0:Int),(0:Int)))
 else (
 (Z0v g1).bind fun e =>
 (Z7 g1 e a).bind fun b =>
 some (b.1,b.2))
def Z3k (a:Int)(b:Int):Option (Int×Int) :=
 some (a,b)
def Z3l (a:Int)(b:Int):Option (Int×Int) :=
 some (a,b)
def Z3m (a:Int)(b:Int):Option (Int×Int) :=
 some (a,b)
def Z3n (a:Int)(b:Int):Option (Int×Int) :=
 some (a,b)
def Zy_J3 (a:Int)(i:Bool):Option (kindOfR) :=
 if i=true then (
 some (⟨6,false,(0:Int),(0:Int),eV⟩:kindOfR))
 else (
 if (a==15)=true then (
 (Z3k (4:Int) (4:Int)).bind fun b =>
 some (⟨8,false,b.1,b.2,eV⟩:kindOfR))
 else (
 if (a==16)=true then (
 (Z3l (1:Int) (4097:Int)).bind fun e =>
 some (⟨9,false,e.1,e.2,eV⟩:kindOfR))
 else (
 if (a==17)=true then (
 (Z3m (2:Int) (4098:Int)).bind fun g =>
 some (⟨10,false,g.1,g.2,eV⟩:kindOfR))
 else (
 if (a==19)=true then (
 (Z3n (3:Int) (3:Int)).bind fun h =>
 some (⟨11,false,h.1,h.2,eV⟩:kindOfR))
 else (
 some (⟨0,false,(0:Int),(0:Int),([]:aO)⟩:kindOfR))))))
def Zy_J2 (a:Int)(b:Bool):Option (kindOfR) :=
 if b=true then (
 some (⟨3,false,(aH ((aH (a - 6))+1)),(0:Int),([]:aO)⟩:kindOfR))
 else (
 if (a==10)=true then (
 some (⟨4,false,(0:Int),(0:Int),([]:aO)⟩:kindOfR))
 else (
 if (a==11)=true then (
 some (⟨5,false,(0:Int),(0:Int),([]:aO)⟩:kindOfR))
 else (
 if (a==12)=true then (
 some (⟨6,false,(0:Int),(0:Int),hB⟩:kindOfR))
 else (
 if (a==13)=true then (
 some (⟨7,false,(0:Int),(0:Int),hB⟩:kindOfR))
 else (
 if (a==14)=true then (
 Zy_J3 a (a==14))
 else (
 Zy_J3 a (a==18)))))))
def Zy_J1 (a:Int)(b:Bool):Option (kindOfR) :=
 if b=true then (
 some (⟨2,false,(aH ((aH (a - 3))+1)),(0:Int),([]:aO)⟩:kindOfR))
 else (
 if (a==6)=true then (
 Zy_J2 a (a==6))
 else (
 if (a==7)=true then (
 Zy_J2 a (a==7))
 else (
 if (a==8)=true then (
 Zy_J2 a (a==8))
 else (
 Zy_J2 a (a==9)))))
def Zy (a:Int):Option (kindOfR) :=
 if (a==1)=true then (
 some (⟨1,false,(0:Int),(0:Int),([]:aO)⟩:kindOfR))
 else (
 if (a==2)=true then (
 some (⟨1,true,(0:Int),(0:Int),([]:aO)⟩:kindOfR))
 else (
 if (a==3)=true then (
 Zy_J1 a (a==3))
 else (
 if (a==4)=true then (
 Zy_J1 a (a==4))
 else (
 Zy_J1 a (a==5)))))
def Z3p (k1:leafKind):Option (aO) :=
 if k1.data=true then (
 some oB)
 else (
 some hB)
def Z3q (k1:pairKind):Option (aO) :=
 some ([]:aO)
def Z3x (k1:soloKind):Option (aO) :=
 some ([]:aO)
def Z3y (k1:topKind):Option (aO) :=
 some eV
def Z3o (k1:formKind):Option (aO) :=
 some ki
def Z3v (k1:shiftKind):Option (aO) :=
 some k1.use
def Z3w (k1:shiftKind):Option (aO) :=
 some k1.use
def Z3r (k1:shiftKind)(a:Int)(b:Int):Option (aO) :=
 some k1.use
def Z3s (k1:shiftKind)(a:Int)(b:Int):Option (aO) :=
 some k1.use
def Z3t (k1:shiftKind)(a:Int)(b:Int):Option (aO) :=
 some k1.use
def Z3u (k1:shiftKind)(a:Int)(b:Int):Option (aO) :=
 some k1.use
def fY (r:kindOfR):Option (aO) :=
 if Nat.beq r.t 0=true then none else (if Nat.beq r.t 1=true then Z3p (⟨r.b0⟩:leafKind) else (if Nat.beq r.t 2=true then Z3q (⟨r.i0⟩:pairKind) else (if Nat.beq r.t 3=true then Z3x (⟨r.i0⟩:soloKind) else (if Nat.beq r.t 4=true then Z3y (⟨⟩:topKind) else (if Nat.beq r.t 5=true then Z3o (⟨⟩:formKind) else (if Nat.beq r.t 6=true then Z3v (⟨r.s0⟩:shiftKind) else (if Nat.beq r.t 7=true then Z3w (⟨r.s0⟩:shiftKind) else (if Nat.beq r.t 8=true then Z3r (⟨r.s0⟩:shiftKind) r.i0 r.i1 else (if Nat.beq r.t 9=true then Z3s (⟨r.s0⟩:shiftKind) r.i0 r.i1 else (if Nat.beq r.t 10=true then Z3t (⟨r.s0⟩:shiftKind) r.i0 r.i1 else (Z3u (⟨r.s0⟩:shiftKind) r.i0 r.i1)))))))))))
def cV (a b:aO):Option (Int) :=
 if a.length<4294967281 then some (Lib.index a b) else none
def Z2h (p1:aO)(a:aO):Option (Int) :=
 (cV p1 a).bind fun b =>
 some b
def Z40 (p1:aO)(a:aO):Option (Bool) :=
 (Z2h p1 a).bind fun b =>
 some (decide (b≥0))
def Z6 (a:aO)(b:aO):Option (Bool) :=
 (Z40 b a).bind fun e =>
 some e
def Z1y (b:Node)(a:aO):Option (Bool) :=
 (Z6 hB a).bind fun h =>
 (bL (h||((b.Dims.length:Int)==0)) (Z6 eV a)).bind fun e =>
 (bL ((h||((b.Dims.length:Int)==0))&&(e||((b.Ints.length:Int)==0))) (Z6 ki a)).bind fun g =>
 (bL (((h||((b.Dims.length:Int)==0))&&(e||((b.Ints.length:Int)==0)))&&(g||(b.Form==([]:aO)))) (Z6 oC a)).bind fun i =>
 some ((((h||((b.Dims.length:Int)==0))&&(e||((b.Ints.length:Int)==0)))&&(g||(b.Form==([]:aO))))&&(i||((b.Data.length:Int)==0)))
def Zd_J1 (a:(List Int)):Option (Bool) :=
 some (decide ((a.length:Int)≤6))
def Zd_L1 (a:(List Int))(e:Int)(b:Int):Option ((Int×Int)⊕((Bool)⊕(Unit))) :=
 if (decide (b<(a.length:Int)))=true then (
 if (0≤b∧b<(a.length:Int)) then
 if ((decide ((ix a b)<1))||(decide ((ix a b)>4096)))=true then (
 some (.inr (.inl false)))
 else (
 if (decide ((aH (e*(ix a b)))>4096))=true then (
 some (.inr (.inl false)))
 else (
 some (.inl ((aH (e*(ix a b))),(aH (b+1))))))
 else none)
 else (
 some (.inr (.inr ())))
def Zd (a:(List Int)):Option (Bool) :=
 (aR (fun s:Int×Int=>Zd_L1 a s.1 s.2) ((1:Int),(0:Int))).bind fun e=>match e with
 | .inl e=>some e
 | .inr e=>Zd_J1 a
def Zl_J1 (a:Int):Option (Int) :=
 some a
def Zl_L1 (a:(List Int))(e:Int)(b:Int):Option ((Int×Int)⊕(Int)) :=
 if (decide (b<(a.length:Int)))=true then (
 if (0≤b∧b<(a.length:Int)) then
 some (.inl ((aH (e*(ix a b))),(aH (b+1))))
 else none)
 else (
 some (.inr e))
def Zl (a:(List Int)):Option (Int) :=
 (aR (fun s:Int×Int=>Zl_L1 a s.1 s.2) ((1:Int),(0:Int))).bind fun e=>Zl_J1 e
def Z3c (p1:Int):Option (Bool) :=
 some ((decide (p1≥0))&&(decide (p1<2147483647)))
def Z15_J1:Option (Bool) :=
 some true
def Z15_L1 (b:(List Int))(a:Int):Option ((Int)⊕((Bool)⊕(Unit))) :=
 if (decide (a<(b.length:Int)))=true then (
 if (0≤a∧a<(b.length:Int)) then
 (Z3c (ix b a)).bind fun e =>
 if (!e)=true then (
 some (.inr (.inl false)))
 else (
 some (.inl (aH (a+1))))
 else none)
 else (
 some (.inr (.inr ())))
def Z15 (a:(List Int)):Option (Bool) :=
 (aR (fun s:Int=>Z15_L1 a s) (0:Int)).bind fun e=>match e with
 | .inl e=>some e
 | .inr e=>Z15_J1
def Z2t (t1:Tensor):Option (Bool) :=
 (Zd t1.Dims).bind fun a =>
 (bL a (Zl t1.Dims)).bind fun b =>
 (bL (a&&((t1.Data.length:Int)==b)) (Z15 t1.Data)).bind fun e =>
 some ((a&&((t1.Data.length:Int)==b))&&e)
def Z1l (k1:leafKind)(e:Node)(a:(List (List Int))):Option ((List Int)×Bool) :=
 (bL (!((a.length:Int) != 0)) (Zd e.Dims)).bind fun b =>
 (bL ((!(((a.length:Int) != 0)||(!b)))&&k1.data) (Z2t (⟨e.Dims,e.Data⟩:Tensor))).bind fun g =>
 if ((((a.length:Int) != 0)||(!b))||(k1.data&&(!g)))=true then (
 some (([]:List Int),false))
 else (
 some (e.Dims,true))
def Z11_J1:Option (Bool) :=
 some true
def Z11_L1 (b:(List Int))(e:(List Int))(a:Int):Option ((Int)⊕((Bool)⊕(Unit))) :=
 if (decide (a<(b.length:Int)))=true then (
 if (0≤a∧a<(b.length:Int)) then
 if (0≤a∧a<(e.length:Int)) then
 if ((ix b a) != (ix e a))=true then (
 some (.inr (.inl false)))
 else (
 some (.inl (aH (a+1))))
 else none
 else none)
 else (
 some (.inr (.inr ())))
def Z11 (a:(List Int))(b:(List Int)):Option (Bool) :=
 if ((a.length:Int) != (b.length:Int))=true then (
 some false)
 else (
 (aR (fun s:Int=>Z11_L1 a b s) (0:Int)).bind fun e=>match e with
 | .inl e=>some e
 | .inr e=>Z11_J1)
def Z28 (k1:pairKind)(e:Node)(a:(List (List Int))):Option ((List Int)×Bool) :=
 if ((a.length:Int) != 2)=false→(0≤(0:Int)∧(0:Int)<(a.length:Int)) then
 if ((a.length:Int) != 2)=false→(0≤(1:Int)∧(1:Int)<(a.length:Int)) then
 (bL (!((a.length:Int) != 2)) (Z11 (ix a 0) (ix a 1))).bind fun b =>
 if (((a.length:Int) != 2)||(!b))=true then (
 some (([]:List Int),false))
 else (
 if (0≤(0:Int)∧(0:Int)<(a.length:Int)) then
 some ((ix a 0),true)
 else none)
 else none
 else none
def Z32 (k1:soloKind)(b:Node)(a:(List (List Int))):Option ((List Int)×Bool) :=
 if ((a.length:Int) != 1)=true then (
 some (([]:List Int),false))
 else (
 if (0≤(0:Int)∧(0:Int)<(a.length:Int)) then
 some ((ix a 0),true)
 else none)
def Zo (b:(List Int))(a:Int):Option (Bool) :=
 some ((decide (a≥0))&&(decide (a<(b.length:Int))))
def Z1z (k1:topKind)(b:Node)(a:(List (List Int))):Option ((List Int)×Bool) :=
 if (((a.length:Int) != 1)||((b.Ints.length:Int) != 1))=false→(0≤(0:Int)∧(0:Int)<(a.length:Int)) then
 if (((a.length:Int) != 1)||((b.Ints.length:Int) != 1))=false→(0≤(0:Int)∧(0:Int)<(b.Ints.length:Int)) then
 (bL (!(((a.length:Int) != 1)||((b.Ints.length:Int) != 1))) (Zo (ix a 0) (ix b.Ints 0))).bind fun e =>
 if ((((a.length:Int) != 1)||((b.Ints.length:Int) != 1))||(!e))=true then (
 some (([]:List Int),false))
 else (
 if (0≤(0:Int)∧(0:Int)<(a.length:Int)) then
 some ((ix a 0),true)
 else none)
 else none
 else none
def eH (p1:aO)(a:aO):Option (aO×aO×Bool) :=
 (cV p1 a).bind fun b =>
 if (decide (b≥0))=true then (
 if (0≤(0:Int)∧(0:Int)≤b∧b≤(p1.length:Int)) then
 if (0≤(aH (b+(a.length:Int)))∧(aH (b+(a.length:Int)))≤(p1.length:Int)∧(p1.length:Int)≤(p1.length:Int)) then
 some ((sub p1 (0:Int) b),(sub p1 (aH (b+(a.length:Int))) (p1.length:Int)),true)
 else none
 else none)
 else (
 some (p1,([]:aO),false))
def Z39 (p1:aO)(a:aO):Option (aO×aO×Bool) :=
 (eH p1 a).bind fun b =>
 some (b.1,b.2.1,b.2.2)
def Z3j (a b:aO):Option (Int) :=
 match b with
 | [c]=>some (Lib.countByte a c)
 | _=>none
def Z0l_J3 (p1:aO)(b:Int)(g:aO)(e:(List aO))(a:Int):Option ((List aO)) :=
 if (0≤a∧a<((List.replicate (if (aH ((p1.length:Int)+1))<b then (aH ((p1.length:Int)+1)) else b).toNat ([]:aO)).length:Int)) then
 if (0≤(0:Int)∧(0:Int)≤(aH (a+1))∧(aH (a+1))≤((List.replicate (if (aH ((p1.length:Int)+1))<b then (aH ((p1.length:Int)+1)) else b).toNat ([]:aO)).length:Int)) then
 some (sub (e.set a.toNat g) (0:Int) (aH (a+1)))
 else none
 else none
def Z0l_L1 (p1:aO)(h:aO)(a:Int)(i:Int)(b:aO)(j:(List aO))(e:Int):Option ((aO×(List aO)×Int)⊕(aO×(List aO)×Int)) :=
 if (decide (e<(aH ((if (aH ((p1.length:Int)+1))<i then (aH ((p1.length:Int)+1)) else i) - 1))))=true then (
 (Z2h b h).bind fun g =>
 if (decide (g<0))=true then (
 some (.inr (b,j,e)))
 else (
 if (0≤(0:Int)∧(0:Int)≤(aH (g+a))∧(aH (g+a))≤(b.length:Int)) then
 if (0≤e∧e<((List.replicate (if (aH ((p1.length:Int)+1))<i then (aH ((p1.length:Int)+1)) else i).toNat ([]:aO)).length:Int)) then
 (nm (j.set e.toNat (sub b (0:Int) (aH (g+a))))).bind fun l =>
 if (0≤(aH (g+(h.length:Int)))∧(aH (g+(h.length:Int)))≤(b.length:Int)∧(b.length:Int)≤(b.length:Int)) then
 some (.inl ((sub b (aH (g+(h.length:Int))) (b.length:Int)),l,(aH (e+1))))
 else none
 else none
 else none))
 else (
 some (.inr (b,j,e)))
def Z0l_J2 (p1:aO)(g:aO)(b:Int)(a:Int):Option ((List aO)) :=
 if (0≤(if (aH ((p1.length:Int)+1))<a then (aH ((p1.length:Int)+1)) else a)∧(if (aH ((p1.length:Int)+1))<a then (aH ((p1.length:Int)+1)) else a)≤140737488355328∧16*(if (aH ((p1.length:Int)+1))<a then (aH ((p1.length:Int)+1)) else a)≤281474976710656) then
 (aR (fun s:aO×(List aO)×Int=>Z0l_L1 p1 g b a s.1 s.2.1 s.2.2) (p1,(List.replicate (if (aH ((p1.length:Int)+1))<a then (aH ((p1.length:Int)+1)) else a).toNat ([]:aO)),(0:Int))).bind fun e=>Z0l_J3 p1 a e.1 e.2.1 e.2.2
 else none
def Z0l (p1:aO)(b:aO)(a:Int)(e:Int):Option ((List aO)) :=
 if (e==0)=true then (
 some ([]:List aO))
 else (
 if (b==([]:aO))=true then (
 none)
 else (
 if (decide (e<0))=true then (
 (Z3j p1 b).bind fun g =>
 Z0l_J2 p1 b a (aH (g+1)))
 else (
 Z0l_J2 p1 b a e)))
def Z3a (p1:aO)(a:aO):Option ((List aO)) :=
 (Z0l p1 a (0:Int) (-1:Int)).bind fun b =>
 some b
def dK (b:aO)(a:Int):Option (Int) :=
 some (Lib.indexByte b a.toNat.toUInt8)
def Z1v (p1:aO)(a:Int):Option (Int) :=
 (dK p1 a).bind fun b =>
 some b
def Ze_J4 (a:aO×aO×Bool)(b:(List aO)):Option ((List aO)×aO×Bool) :=
 some (b,a.2.1,true)
def Ze_L3 (b:aO×aO×Bool)(a:Int):Option ((Int)⊕(((List aO)×aO×Bool)⊕(Unit))) :=
 if (decide (a<(b.2.1.length:Int)))=true then (
 if (0≤a∧a<(b.2.1.length:Int)) then
 if ((decide ((bt b.2.1 a)<97))||(decide ((bt b.2.1 a)>122)))=false→(0≤(0:Int)∧(0:Int)≤a∧a≤(b.2.1.length:Int)) then
 (bL (!((decide ((bt b.2.1 a)<97))||(decide ((bt b.2.1 a)>122)))) (Z1v (sub b.2.1 (0:Int) a) (bt b.2.1 a))).bind fun e =>
 (bL (!(((decide ((bt b.2.1 a)<97))||(decide ((bt b.2.1 a)>122)))||(decide (e≥0)))) (Z1v b.1 (bt b.2.1 a))).bind fun g =>
 if ((((decide ((bt b.2.1 a)<97))||(decide ((bt b.2.1 a)>122)))||(decide (e≥0)))||(decide (g<0)))=true then (
 some (.inr (.inl (([]:List aO),([]:aO),false))))
 else (
 some (.inl (aH (a+1))))
 else none
 else none)
 else (
 some (.inr (.inr ())))
def Ze_J3 (a:aO×aO×Bool)(b:(List aO)):Option ((List aO)×aO×Bool) :=
 (aR (fun s:Int=>Ze_L3 a s) (0:Int)).bind fun e=>match e with
 | .inl e=>some e
 | .inr e=>Ze_J4 a b
def Ze_J2 (a:Int):Option ((Int)⊕(((List aO)×aO×Bool)⊕(Unit))) :=
 some (.inl (aH (a+1)))
def Ze_L2 (e:(List aO))(b:Int)(a:Int):Option ((Int)⊕(((List aO)×aO×Bool)⊕(Unit))) :=
 if (decide (a<((ix e b).length:Int)))=true then (
 if (0≤a∧a<((ix e b).length:Int)) then
 if ((decide ((bt (ix e b) a)<97))||(decide ((bt (ix e b) a)>122)))=true then (
 some (.inr (.inl (([]:List aO),([]:aO),false))))
 else (
 some (.inl (aH (a+1))))
 else none)
 else (
 some (.inr (.inr ())))
def Ze_L1 (b:(List aO))(a:Int):Option ((Int)⊕(((List aO)×aO×Bool)⊕(Unit))) :=
 if (decide (a<(b.length:Int)))=true then (
 if (0≤a∧a<(b.length:Int)) then
 if (decide (((ix b a).length:Int)>6))=true then (
 some (.inr (.inl (([]:List aO),([]:aO),false))))
 else (
 (aR (fun s:Int=>Ze_L2 b a s) (0:Int)).bind fun e=>match e with
 | .inl e=>some (.inr (.inl e))
 | .inr e=>Ze_J2 a)
 else none)
 else (
 some (.inr (.inr ())))
def Ze (a:aO):Option ((List aO)×aO×Bool) :=
 (Z39 a str0).bind fun b =>
 if ((!b.2.2)||(decide ((b.2.1.length:Int)>6)))=true then (
 some (([]:List aO),([]:aO),false))
 else (
 (Z3a b.1 str6).bind fun g =>
 if (decide ((g.length:Int)>6))=true then (
 some (([]:List aO),([]:aO),false))
 else (
 (aR (fun s:Int=>Ze_L1 g s) (0:Int)).bind fun e=>match e with
 | .inl e=>some e
 | .inr e=>Ze_J3 b g))
def Zs (a:List Int):Option (List Int) :=
 if a.length≤17592186044416 then some a else none
def Z07_J3 (a:(List Int)):Option ((List Int)) :=
 some a
def Z07_J2 (a:(List Int))(e:Int)(b:Int)(g:(List Int)):Option (((List Int)×Int×Int)⊕((List Int))) :=
 if (0≤b∧b<(a.length:Int)) then
 some (.inl (g,(aH (e*(ix a b))),(aH (b - 1))))
 else none
def Z07_L1 (a:(List Int))(g:(List Int))(e:Int)(b:Int):Option (((List Int)×Int×Int)⊕((List Int))) :=
 if (decide (b≥0))=true then (
 if (0≤b∧b<(a.length:Int)) then
 if (decide ((ix a b)>1))=true then (
 if (0≤b∧b<((List.replicate (a.length:Int).toNat (0:Int)).length:Int)) then
 Z07_J2 a e b (g.set b.toNat e)
 else none)
 else (
 Z07_J2 a e b g)
 else none)
 else (
 some (.inr g))
def Z07 (a:(List Int)):Option ((List Int)) :=
 if (0≤(a.length:Int)∧(a.length:Int)≤140737488355328∧8*(a.length:Int)≤281474976710656) then
 (aR (fun s:(List Int)×Int×Int=>Z07_L1 a s.1 s.2.1 s.2.2) ((List.replicate (a.length:Int).toNat (0:Int)),(1:Int),(aH ((a.length:Int) - 1)))).bind fun e=>Z07_J3 e
 else none
def Zn_J7 (a:(List Int)):Option ((List Int)) :=
 some a
def Zn_J6 (a:Int)(b:(List Int)):Option (((List Int)×Int)⊕((List Int))) :=
 some (.inl (b,(aH (a+1))))
def Zn_J5 (a:Int)(b:(List Int)):Option (((List Int)×Int)⊕((List Int))) :=
 some (.inl (b,(aH (a+1))))
def Zn_L2 (f1:form)(a:aO)(g:(List Int))(e:Int)(h:(List Int))(b:Int):Option (((List Int)×Int)⊕((List Int))) :=
 if (decide (b<(a.length:Int)))=true then (
 if (0≤b∧b<(a.length:Int)) then
 if (0≤e∧e<(f1.order.length:Int)) then
 if ((bt a b)==(bt f1.order e))=true then (
 if (0≤e∧e<((List.replicate (f1.order.length:Int).toNat (0:Int)).length:Int)) then
 if (0≤b∧b<(g.length:Int)) then
 Zn_J5 b (h.set e.toNat (aH ((ix h e)+(ix g b))))
 else none
 else none)
 else (
 Zn_J5 b h)
 else none
 else none)
 else (
 some (.inr h))
def Zn_L1 (f1:form)(a:aO)(b:(List Int))(h:(List Int))(g:Int):Option (((List Int)×Int)⊕((List Int))) :=
 if (decide (g<((List.replicate (f1.order.length:Int).toNat (0:Int)).length:Int)))=true then (
 (aR (fun s:(List Int)×Int=>Zn_L2 f1 a b g s.1 s.2) (h,(0:Int))).bind fun e=>Zn_J6 g e)
 else (
 some (.inr h))
def Zn (f1:form)(a:aO)(b:(List Int)):Option ((List Int)) :=
 if (0≤(f1.order.length:Int)∧(f1.order.length:Int)≤140737488355328∧8*(f1.order.length:Int)≤281474976710656) then
 (aR (fun s:(List Int)×Int=>Zn_L1 f1 a b s.1 s.2) ((List.replicate (f1.order.length:Int).toNat (0:Int)),(0:Int))).bind fun e=>Zn_J7 e
 else none
def Z3_J9 (i:(List aO)×aO×Bool)(b:aO)(e:(List Int))(a:(List Int))(f224:(List (List Int))):Option (form×Bool) :=
 (Z07 a).bind fun g =>
 (Zn (⟨i.1,i.2.1,b,e,a,f224,([]:List Int)⟩:form) i.2.1 g).bind fun h =>
 some ((⟨i.1,i.2.1,b,e,a,f224,h⟩:form),true)
def Z3_L4 (b:(List (List Int)))(m:(List aO)×aO×Bool)(h:aO)(i:(List Int))(j:(List Int))(e:(List (List Int)))(a:Int):Option (((List (List Int))×Int)⊕((List (List Int)))) :=
 if (decide (a<(m.1.length:Int)))=true then (
 if (0≤a∧a<(m.1.length:Int)) then
 if (0≤a∧a<(b.length:Int)) then
 (Z07 (ix b a)).bind fun l =>
 (Zn (⟨m.1,m.2.1,h,i,j,e,([]:List Int)⟩:form) (ix m.1 a) l).bind fun g =>
 if e.length+([g]:List (List Int)).length≤5864062014805 then
 some (.inl ((e++([g]:List (List Int))),(aH (a+1))))
 else none
 else none
 else none)
 else (
 some (.inr e))
def Z3_J8 (g:(List (List Int)))(j:(List aO)×aO×Bool)(h:aO)(a:(List Int)):Option (form×Bool) :=
 if (0≤(0:Int)∧(0:Int)≤(j.2.1.length:Int)∧(j.2.1.length:Int)≤(a.length:Int)) then
 (Zs (sub a (0:Int) (j.2.1.length:Int))).bind fun b =>
 (Zd b).bind fun i =>
 if (!i)=true then (
 some ((⟨([]:List aO),([]:aO),([]:aO),([]:List Int),([]:List Int),([]:List (List Int)),([]:List Int)⟩:form),false))
 else (
 (aR (fun s:(List (List Int))×Int=>Z3_L4 g j h a b s.1 s.2) (([]:List (List Int)),(0:Int))).bind fun e=>Z3_J9 j h a b e)
 else none
def Z3_L3 (e:aO)(b:(List Int))(h:(List Int))(g:Int)(a:Int):Option (((List Int)×Int×Int)⊕((form×Bool)⊕((List Int)))) :=
 if (decide (a<(e.length:Int)))=true then (
 if (0≤a∧a<(e.length:Int)) then
 if (0≤(IntKind.wrap .u8 ((bt e a) - 97))∧(IntKind.wrap .u8 ((bt e a) - 97))<26) then
 if h.length+([(ix b (IntKind.wrap .u8 ((bt e a) - 97)))]:List Int).length≤17592186044416 then
 if (decide ((aH (g*(ix b (IntKind.wrap .u8 ((bt e a) - 97)))))>65536))=true then (
 some (.inr (.inl ((⟨([]:List aO),([]:aO),([]:aO),([]:List Int),([]:List Int),([]:List (List Int)),([]:List Int)⟩:form),false))))
 else (
 some (.inl ((h++([(ix b (IntKind.wrap .u8 ((bt e a) - 97)))]:List Int)),(aH (g*(ix b (IntKind.wrap .u8 ((bt e a) - 97))))),(aH (a+1)))))
 else none
 else none
 else none)
 else (
 some (.inr (.inr h)))
def Z3_J7 (b:(List (List Int)))(h:(List aO)×aO×Bool)(g:aO)(a:(List Int)):Option (form×Bool) :=
 (aR (fun s:(List Int)×Int×Int=>Z3_L3 g a s.1 s.2.1 s.2.2) (([]:List Int),(1:Int),(0:Int))).bind fun e=>match e with
 | .inl e=>some e
 | .inr e=>Z3_J8 b h g e
def Z3_J6 (e:Int)(b:aO)(a:(List Int)):Option ((aO×(List Int)×Int)⊕((form×Bool)⊕(aO×(List Int)))) :=
 some (.inl (b,a,(aH (e+1))))
def Z3_J5 (e:Int)(b:aO)(a:(List Int)):Option ((aO×(List Int)×Int)⊕((form×Bool)⊕(aO×(List Int)))) :=
 some (.inl (b,a,(aH (e+1))))
def Z3_L2 (g:(List (List Int)))(i:(List aO)×aO×Bool)(e:Int)(h:aO)(b:(List Int))(a:Int):Option ((aO×(List Int)×Int)⊕((form×Bool)⊕(aO×(List Int)))) :=
 if (decide (a<((ix i.1 e).length:Int)))=true then (
 if (0≤a∧a<((ix i.1 e).length:Int)) then
 if (0≤(IntKind.wrap .u8 ((bt (ix i.1 e) a) - 97))∧(IntKind.wrap .u8 ((bt (ix i.1 e) a) - 97))<26) then
 if ((ix b (IntKind.wrap .u8 ((bt (ix i.1 e) a) - 97))) != 0)=true→(0≤a∧a<((ix g e).length:Int)) then
 if (((ix b (IntKind.wrap .u8 ((bt (ix i.1 e) a) - 97))) != 0)&&((ix b (IntKind.wrap .u8 ((bt (ix i.1 e) a) - 97))) != (ix (ix g e) a)))=true then (
 some (.inr (.inl ((⟨([]:List aO),([]:aO),([]:aO),([]:List Int),([]:List Int),([]:List (List Int)),([]:List Int)⟩:form),false))))
 else (
 if (0≤a∧a<((ix g e).length:Int)) then
 (nm (b.set (IntKind.wrap .u8 ((bt (ix i.1 e) a) - 97)).toNat (ix (ix g e) a))).bind fun j =>
 (Z1v h (bt (ix i.1 e) a)).bind fun l =>
 if (decide (l<0))=true then (
 if (0≤a∧a≤(aH (a+1))∧(aH (a+1))≤((ix i.1 e).length:Int)) then
 if h.length+(sub (ix i.1 e) a (aH (a+1))).length≤9223372036854775807 then
 Z3_J5 a (h++(sub (ix i.1 e) a (aH (a+1)))) j
 else none
 else none)
 else (
 Z3_J5 a h j)
 else none)
 else none
 else none
 else none)
 else (
 some (.inr (.inr (h,b))))
def Z3_L1 (a:(List (List Int)))(i:(List aO)×aO×Bool)(h:aO)(g:(List Int))(b:Int):Option ((aO×(List Int)×Int)⊕((form×Bool)⊕(aO×(List Int)))) :=
 if (decide (b<(i.1.length:Int)))=true then (
 if (0≤b∧b<(i.1.length:Int)) then
 if (0≤b∧b<(a.length:Int)) then
 if (((ix i.1 b).length:Int) != ((ix a b).length:Int))=true then (
 some (.inr (.inl ((⟨([]:List aO),([]:aO),([]:aO),([]:List Int),([]:List Int),([]:List (List Int)),([]:List Int)⟩:form),false))))
 else (
 (aR (fun s:aO×(List Int)×Int=>Z3_L2 a i b s.1 s.2.1 s.2.2) (h,g,(0:Int))).bind fun e=>match e with
 | .inl e=>some (.inr (.inl e))
 | .inr e=>Z3_J6 b e.1 e.2)
 else none
 else none)
 else (
 some (.inr (.inr (h,g))))
def Z3 (b:aO)(a:(List (List Int))):Option (form×Bool) :=
 (Ze b).bind fun g =>
 if ((!g.2.2)||((g.1.length:Int) != (a.length:Int)))=true then (
 some ((⟨([]:List aO),([]:aO),([]:aO),([]:List Int),([]:List Int),([]:List (List Int)),([]:List Int)⟩:form),false))
 else (
 (aR (fun s:aO×(List Int)×Int=>Z3_L1 a g s.1 s.2.1 s.2.2) (g.2.1,(List.replicate 26 (0:Int)),(0:Int))).bind fun e=>match e with
 | .inl e=>some e
 | .inr e=>Z3_J7 a g e.1 e.2)
def Z31 (k1:formKind)(e:Node)(a:(List (List Int))):Option ((List Int)×Bool) :=
 (Z3 e.Form a).bind fun b =>
 some (b.1.dims,b.2)
def Z2v (a:(List Int)):Option (View) :=
 (Zd a).bind fun g =>
 if (!g)=true then (
 some (⟨([]:List Int),([]:List Int),(0:Int),(0:Int)⟩:View))
 else (
 (Zs a).bind fun h =>
 (Z07 a).bind fun b =>
 (Zl a).bind fun e =>
 some (⟨h,b,(0:Int),e⟩:View))
def Zi_J1 (v1:View)(b:Int)(a:Int):Option (Bool) :=
 some ((decide (b≥0))&&(decide (a<v1.Base)))
def Zi_L1 (v1:View)(e:Int)(b:Int)(a:Int):Option ((Int×Int×Int)⊕((Bool)⊕(Int×Int))) :=
 if (decide (a<(v1.Strides.length:Int)))=true then (
 if (0≤a∧a<(v1.Strides.length:Int)) then
 if ((decide ((ix v1.Strides a)<(-4096:Int)))||(decide ((ix v1.Strides a)>4096)))=true then (
 some (.inr (.inl false)))
 else (
 if (0≤a∧a<(v1.Dims.length:Int)) then
 some (.inl ((aH (e+(if (aH ((ix v1.Strides a)*(aH ((ix v1.Dims a) - 1))))<0 then (aH ((ix v1.Strides a)*(aH ((ix v1.Dims a) - 1)))) else (0:Int)))),(aH (b+(if (aH ((ix v1.Strides a)*(aH ((ix v1.Dims a) - 1))))>0 then (aH ((ix v1.Strides a)*(aH ((ix v1.Dims a) - 1)))) else (0:Int)))),(aH (a+1))))
 else none)
 else none)
 else (
 some (.inr (.inr (e,b))))
def Zi (v1:View):Option (Bool) :=
 (Zd v1.Dims).bind fun a =>
 if ((((((!a)||((v1.Strides.length:Int) != (v1.Dims.length:Int)))||(decide (v1.Base<1)))||(decide (v1.Base>4096)))||(decide (v1.Offset<0)))||(decide (v1.Offset≥v1.Base)))=true then (
 some false)
 else (
 (aR (fun s:Int×Int×Int=>Zi_L1 v1 s.1 s.2.1 s.2.2) (v1.Offset,v1.Offset,(0:Int))).bind fun e=>match e with
 | .inl e=>some e
 | .inr e=>Zi_J1 v1 e.1 e.2)
def Z08_J3 (p1:View)(b:(List Int))(a:(List Int)):Option (Bool×View) :=
 some (true,(⟨b,a,p1.Offset,p1.Base⟩:View))
def Z08_J2 (a:Int)(b:(List Int)):Option (((List Int)×Int)⊕((Bool×View)⊕((List Int)))) :=
 some (.inl (b,(aH (a+1))))
def Z08_L1 (p1:View)(e:(List Int))(b:View)(i:(List Int))(g:(List Int))(a:Int):Option (((List Int)×Int)⊕((Bool×View)⊕((List Int)))) :=
 if (decide (a<(b.Dims.length:Int)))=true then (
 if (0≤a∧a<(b.Dims.length:Int)) then
 if (0≤(aH ((aH ((e.length:Int) - (b.Dims.length:Int)))+a))∧(aH ((aH ((e.length:Int) - (b.Dims.length:Int)))+a))<(e.length:Int)) then
 if ((ix b.Dims a)==(ix e (aH ((aH ((e.length:Int) - (b.Dims.length:Int)))+a))))=true then (
 if (0≤a∧a<(b.Strides.length:Int)) then
 if (0≤(aH ((aH ((e.length:Int) - (b.Dims.length:Int)))+a))∧(aH ((aH ((e.length:Int) - (b.Dims.length:Int)))+a))<((List.replicate (e.length:Int).toNat (0:Int)).length:Int)) then
 (nm (g.set (aH ((aH ((e.length:Int) - (b.Dims.length:Int)))+a)).toNat (ix b.Strides a))).bind fun h =>
 Z08_J2 a h
 else none
 else none)
 else (
 if ((ix b.Dims a) != 1)=true then (
 some (.inr (.inl (false,(⟨i,g,p1.Offset,p1.Base⟩:View)))))
 else (
 Z08_J2 a g))
 else none
 else none)
 else (
 some (.inr (.inr g)))
def Z08 (p1:View)(a:(List Int))(h:View):Option (Bool×View) :=
 (Zd a).bind fun g =>
 if ((!g)||(decide ((a.length:Int)<(h.Dims.length:Int))))=true then (
 some (false,p1))
 else (
 (Zs a).bind fun b =>
 if (0≤(a.length:Int)∧(a.length:Int)≤140737488355328∧8*(a.length:Int)≤281474976710656) then
 (aR (fun s:(List Int)×Int=>Z08_L1 p1 a h b s.1 s.2) ((List.replicate (a.length:Int).toNat (0:Int)),(0:Int))).bind fun e=>match e with
 | .inl e=>some e
 | .inr e=>Z08_J3 p1 b e
 else none)
def Z3f (v1:View)(i:(List Int))(j:View):Option (View) :=
 (Zi v1).bind fun b =>
 if (!b)=true then (
 some (⟨([]:List Int),([]:List Int),(0:Int),(0:Int)⟩:View))
 else (
 (Zs v1.Dims).bind fun e =>
 (Zs v1.Strides).bind fun g =>
 (Z08 (⟨e,g,v1.Offset,v1.Base⟩:View) i j).bind fun a =>
 (bL (!(!a.1)) (Zi a.2)).bind fun h =>
 if ((!a.1)||(!h))=true then (
 some (⟨([]:List Int),([]:List Int),(0:Int),(0:Int)⟩:View))
 else (
 some a.2))
def Z2m (v1:View)(a:(List Int)):Option (View) :=
 (Z3f v1 a v1).bind fun b =>
 some b
def Z0z_J3 (v1:View)(a:Int)(b:Int)(e:Int):Option (View) :=
 if (0≤a∧a<(v1.Dims.length:Int)) then
 if (0≤a∧a<(v1.Strides.length:Int)) then
 some (⟨(v1.Dims.set a.toNat b),(v1.Strides.set a.toNat e),v1.Offset,v1.Base⟩:View)
 else none
 else none
def Z0z (v1:View)(b:Int)(a:Int)(e:Int):Option (View) :=
 if (a==1)=true then (
 Z0z_J3 v1 b a (0:Int))
 else (
 Z0z_J3 v1 b a e)
def Z1j_J3 (p1:View)(a:Int)(g:Int)(h:Int)(b:Int):Option (Bool×View×Int) :=
 if (0≤a∧a<(p1.Strides.length:Int)) then
 (Z0z (⟨p1.Dims,p1.Strides,(aH (p1.Offset+(aH (h*(ix p1.Strides a))))),p1.Base⟩:View) a g (aH ((ix p1.Strides a)*b))).bind fun e =>
 some (true,e,b)
 else none
def Z1j (p1:View)(b:Int)(e:Int)(g:Int)(a:Int):Option (Bool×View×Int) :=
 (Zo p1.Dims b).bind fun h =>
 if (((!h)||(decide (e<1)))||(decide (e>4096)))=true then (
 some (false,p1,a))
 else (
 if (0≤b∧b<(p1.Dims.length:Int)) then
 if ((((decide (g<0))||(decide (g≥(ix p1.Dims b))))||(decide (a<(-4096:Int))))||(decide (a>4096)))=true then (
 some (false,p1,a))
 else (
 if (decide (e>1))=true then (
 if ((decide ((aH (g+(aH (a*(aH (e - 1))))))<0))||(decide ((aH (g+(aH (a*(aH (e - 1))))))≥(ix p1.Dims b))))=true then (
 some (false,p1,a))
 else (
 Z1j_J3 p1 b e g a))
 else (
 Z1j_J3 p1 b e g (0:Int)))
 else none)
def Z3e (v1:View)(j:Int)(l:Int)(m:Int)(b:Int):Option (View×Int) :=
 (Zi v1).bind fun e =>
 if (!e)=true then (
 some ((⟨([]:List Int),([]:List Int),(0:Int),(0:Int)⟩:View),b))
 else (
 (Zs v1.Dims).bind fun g =>
 (Zs v1.Strides).bind fun h =>
 (Z1j (⟨g,h,v1.Offset,v1.Base⟩:View) j l m b).bind fun a =>
 (bL (!(!a.1)) (Zi a.2.1)).bind fun i =>
 if ((!a.1)||(!i))=true then (
 some ((⟨([]:List Int),([]:List Int),(0:Int),(0:Int)⟩:View),a.2.2))
 else (
 some (a.2.1,a.2.2)))
def Z2l (v1:View)(b:Int)(h:Int)(a:Int)(e:Int):Option (View) :=
 (Z3e v1 b a h e).bind fun g =>
 some g.1
def Z2u (v1:View)(a:Int)(b:Int):Option (View) :=
 if v1.Dims.length+([(0:Int)]:List Int).length≤17592186044416 then
 if v1.Strides.length+([(0:Int)]:List Int).length≤17592186044416 then
 (Z0z (⟨(v1.Dims++([(0:Int)]:List Int)),(v1.Strides++([(0:Int)]:List Int)),v1.Offset,v1.Base⟩:View) (aH (((v1.Dims++([(0:Int)]:List Int)).length:Int) - 1)) a b).bind fun e =>
 some e
 else none
 else none
def Z1k_J3 (p1:View)(b:Int)(h:Int)(i:Int)(a:Int):Option (Bool×View×Int) :=
 (Z0z p1 b (aH ((aH ((aH ((ix p1.Dims b) - h)).tdiv i))+1)) (aH ((ix p1.Strides b)*a))).bind fun e =>
 (Z2u e h (ix p1.Strides b)).bind fun g =>
 some (true,g,a)
def Z1k (p1:View)(a:Int)(e:Int)(b:Int):Option (Bool×View×Int) :=
 (Zo p1.Dims a).bind fun g =>
 if (((!g)||(decide (e<1)))||(decide (b<1)))=false→(0≤a∧a<(p1.Dims.length:Int)) then
 if ((((!g)||(decide (e<1)))||(decide (b<1)))||(decide (e>(ix p1.Dims a))))=true then (
 some (false,p1,b))
 else (
 if (0≤a∧a<(p1.Strides.length:Int)) then
 if (0≤a∧a<(p1.Dims.length:Int)) then
 if b≠0 then
 if ((aH ((aH ((aH ((ix p1.Dims a) - e)).tdiv b))+1))==1)=true then (
 Z1k_J3 p1 a e b (0:Int))
 else (
 Z1k_J3 p1 a e b b)
 else none
 else none
 else none)
 else none
def Z3g (v1:View)(j:Int)(l:Int)(i:Int):Option (View×Int) :=
 (Zi v1).bind fun b =>
 if (!b)=true then (
 some ((⟨([]:List Int),([]:List Int),(0:Int),(0:Int)⟩:View),i))
 else (
 (Zs v1.Dims).bind fun e =>
 (Zs v1.Strides).bind fun g =>
 (Z1k (⟨e,g,v1.Offset,v1.Base⟩:View) j l i).bind fun a =>
 (bL (!(!a.1)) (Zi a.2.1)).bind fun h =>
 if ((!a.1)||(!h))=true then (
 some ((⟨([]:List Int),([]:List Int),(0:Int),(0:Int)⟩:View),a.2.2))
 else (
 some (a.2.1,a.2.2)))
def Z2n (v1:View)(a:Int)(b:Int)(e:Int):Option (View) :=
 (Z3g v1 a b e).bind fun g =>
 some g.1
def Z1d (a:Node)(b:(List Int)):Option (View) :=
 (Z2v b).bind fun e =>
 if (a.Op==12)=true then (
 (Z2m e a.Dims).bind fun g =>
 some g)
 else (
 if ((a.Op==14)&&((a.Ints.length:Int)==4))=true→(0≤(3:Int)∧(3:Int)<(a.Ints.length:Int)) then
 if (((a.Op==14)&&((a.Ints.length:Int)==4))&&(decide ((ix a.Ints 3)≥1)))=true then (
 if (0≤(0:Int)∧(0:Int)<(a.Ints.length:Int)) then
 if (0≤(1:Int)∧(1:Int)<(a.Ints.length:Int)) then
 if (0≤(2:Int)∧(2:Int)<(a.Ints.length:Int)) then
 if (0≤(3:Int)∧(3:Int)<(a.Ints.length:Int)) then
 (Z2l e (ix a.Ints 0) (ix a.Ints 1) (ix a.Ints 2) (ix a.Ints 3)).bind fun h =>
 some h
 else none
 else none
 else none
 else none)
 else (
 if ((a.Op==18)&&((a.Ints.length:Int)==3))=true then (
 if (0≤(0:Int)∧(0:Int)<(a.Ints.length:Int)) then
 if (0≤(1:Int)∧(1:Int)<(a.Ints.length:Int)) then
 if (0≤(2:Int)∧(2:Int)<(a.Ints.length:Int)) then
 (Z2n e (ix a.Ints 0) (ix a.Ints 1) (ix a.Ints 2)).bind fun i =>
 some i
 else none
 else none
 else none)
 else (
 some (⟨([]:List Int),([]:List Int),(0:Int),(0:Int)⟩:View)))
 else none)
def Z3d (e:(List Int))(a:(List Int))(b:Int):Option ((List Int)×Int×(List Int)) :=
 some (e,b,a)
def Z06_J2 (b:Type)(YF:b→Int→Option (b×Bool))(e:b×Bool)(a:(List Int))(h:Int)(g:Int):Option (((List Int)×Int×b)⊕(b)) :=
 if (decide (g<0))=true then (
 some (.inr e.1))
 else (
 some (.inl (a,h,e.1)))
def Z06_L2 (j:Type)(YF:j→Int→Option (j×Bool))(g:(List Int))(h:(List Int))(b:(List Int))(e:Int)(a:Int):Option (((List Int)×Int×Int)⊕((List Int)×Int×Int)) :=
 if (decide (a≥0))=true then (
 if (0≤a∧a<((List.replicate (g.length:Int).toNat (0:Int)).length:Int)) then
 if (0≤a∧a<(h.length:Int)) then
 if (0≤a∧a<(g.length:Int)) then
 if (decide ((ix (b.set a.toNat (aH ((ix b a)+1))) a)<(ix g a)))=true then (
 some (.inr ((b.set a.toNat (aH ((ix b a)+1))),(aH (e+(ix h a))),a)))
 else (
 (nm ((b.set a.toNat (aH ((ix b a)+1))).set a.toNat (0:Int))).bind fun i =>
 some (.inl (i,(aH ((aH (e+(ix h a))) - (aH ((ix h a)*(ix g a))))),(aH (a - 1)))))
 else none
 else none
 else none)
 else (
 some (.inr (b,e,a)))
def Z06_L1 (b:Type)(YF:b→Int→Option (b×Bool))(j:(List Int))(l:(List Int))(a:(List Int))(h:Int)(i:b):Option (((List Int)×Int×b)⊕(b)) :=
 (YF i h).bind fun g =>
 if (!g.2)=true then (
 some (.inr g.1))
 else (
 (aR (fun s:(List Int)×Int×Int=>Z06_L2 b YF j l s.1 s.2.1 s.2.2) (a,h,(aH ((j.length:Int) - 1)))).bind fun e=>Z06_J2 b YF g e.1 e.2.1 e.2.2)
def Z06 (b:Type)(YF:b→Int→Option (b×Bool))(a:b)(g:(List Int))(h:Int)(i:(List Int)):Option (b) :=
 if (0≤(g.length:Int)∧(g.length:Int)≤140737488355328∧8*(g.length:Int)≤281474976710656) then
 (aR (fun s:(List Int)×Int×b=>Z06_L1 b YF g i s.1 s.2.1 s.2.2) ((List.replicate (g.length:Int).toNat (0:Int)),h,a)).bind fun e=>some e
 else none
def Z41 (a:(List pair))(b:Int):Option (((List pair))×Bool) :=
 if a.length+([(⟨b,(a.length:Int)⟩:pair)]:List pair).length≤8796093022208 then
 some ((a++([(⟨b,(a.length:Int)⟩:pair)]:List pair)),true)
 else none
def Z2o (v1:View):Option ((List Int)×(List pair)×Bool) :=
 (Zi v1).bind fun e =>
 if (!e)=true then (
 some (([]:List Int),([]:List pair),false))
 else (
 (Z3d v1.Dims v1.Strides v1.Offset).bind fun a =>
 (Z06 ((List pair)) (fun (s:(List pair)) (x:Int)=>Z41 s x) ([]:List pair) a.1 a.2.1 a.2.2).bind fun b =>
 some (v1.Dims,b,true))
def Z30 (e:Node)(a:(List Int)):Option ((List Int)×(List pair)×Bool) :=
 (Z1d e a).bind fun g =>
 (Z2o g).bind fun b =>
 some (b.1,b.2.1,b.2.2)
def Z1u (k1:shiftKind)(e:Node)(a:(List (List Int))):Option ((List Int)×Bool) :=
 if ((a.length:Int) != 1)=true then (
 some (([]:List Int),false))
 else (
 if (0≤(0:Int)∧(0:Int)<(a.length:Int)) then
 (Z30 e (ix a 0)).bind fun b =>
 some (b.1,b.2.2)
 else none)
def Z10_J1 (b:Node)(a:(List pair)):Option ((List Int)×(List pair)×Bool) :=
 some (b.Dims,a,true)
def Z10_L1 (e:Int)(a:(List pair))(b:Int):Option (((List pair)×Int)⊕((List pair))) :=
 if (decide (b<e))=true then (
 if a.length+([(⟨b,b⟩:pair)]:List pair).length≤8796093022208 then
 some (.inl ((a++([(⟨b,b⟩:pair)]:List pair)),(aH (b+1))))
 else none)
 else (
 some (.inr a))
def Z10 (b:Node)(a:(List Int)):Option ((List Int)×(List pair)×Bool) :=
 (Zd b.Dims).bind fun j =>
 (bL (!(!j)) (Zl b.Dims)).bind fun g =>
 (bL (!(!j)) (Zl a)).bind fun h =>
 if ((!j)||(g != h))=true then (
 some (([]:List Int),([]:List pair),false))
 else (
 (Zl a).bind fun i =>
 (aR (fun s:(List pair)×Int=>Z10_L1 i s.1 s.2) (([]:List pair),(0:Int))).bind fun e=>Z10_J1 b e)
def Z29 (k1:shiftKind)(e:Node)(a:(List (List Int))):Option ((List Int)×Bool) :=
 if ((a.length:Int) != 1)=true then (
 some (([]:List Int),false))
 else (
 if (0≤(0:Int)∧(0:Int)<(a.length:Int)) then
 (Z10 e (ix a 0)).bind fun b =>
 some (b.1,b.2.2)
 else none)
def Z1m (b:(List Int))(a:Int)(g:Int):Option ((List Int)) :=
 (Zs b).bind fun e =>
 if (0≤a∧a<(e.length:Int)) then
 some (e.set a.toNat g)
 else none
def Z27 (b:(List Int))(a:Int):Option (Int×Int×Int) :=
 if (0≤(0:Int)∧(0:Int)≤a∧a≤(b.length:Int)) then
 (Zl (sub b (0:Int) a)).bind fun g =>
 if (0≤a∧a<(b.length:Int)) then
 if (0≤(aH (a+1))∧(aH (a+1))≤(b.length:Int)∧(b.length:Int)≤(b.length:Int)) then
 (Zl (sub b (aH (a+1)) (b.length:Int))).bind fun e =>
 some (g,(ix b a),e)
 else none
 else none
 else none
def Z8_J7 (a:(List pair)):Option ((List pair)) :=
 some a
def Z8_J6 (b:Int)(a:(List pair)):Option (((List pair)×Int)⊕((List pair))) :=
 some (.inl (a,(aH (b+1))))
def Z8_J5 (b:Int)(a:(List pair)):Option (((List pair)×Int)⊕((List pair))) :=
 some (.inl (a,(aH (b+1))))
def Z8_L3 (j:Int)(b:(List pair))(i:Int×Int×Int)(g:Int)(h:Int)(e:(List pair))(a:Int):Option (((List pair)×Int)⊕((List pair))) :=
 if (decide (a<i.2.2))=true then (
 if e.length+([(⟨(aH ((aH ((aH ((aH (g*i.2.1))+(ix b h).from_))*i.2.2))+a)),(aH ((aH ((aH ((aH (g*j))+(ix b h).to))*i.2.2))+a))⟩:pair)]:List pair).length≤8796093022208 then
 some (.inl ((e++([(⟨(aH ((aH ((aH ((aH (g*i.2.1))+(ix b h).from_))*i.2.2))+a)),(aH ((aH ((aH ((aH (g*j))+(ix b h).to))*i.2.2))+a))⟩:pair)]:List pair)),(aH (a+1))))
 else none)
 else (
 some (.inr e))
def Z8_L2 (i:Int)(a:(List pair))(j:Int×Int×Int)(h:Int)(g:(List pair))(b:Int):Option (((List pair)×Int)⊕((List pair))) :=
 if (decide (b<(a.length:Int)))=true then (
 if (0≤b∧b<(a.length:Int)) then
 (aR (fun s:(List pair)×Int=>Z8_L3 i a j h b s.1 s.2) (g,(0:Int))).bind fun e=>Z8_J5 b e
 else none)
 else (
 some (.inr g))
def Z8_L1 (i:Int)(b:(List pair))(h:Int×Int×Int)(g:(List pair))(a:Int):Option (((List pair)×Int)⊕((List pair))) :=
 if (decide (a<h.1))=true then (
 (aR (fun s:(List pair)×Int=>Z8_L2 i b h a s.1 s.2) (g,(0:Int))).bind fun e=>Z8_J6 a e)
 else (
 some (.inr g))
def Z8 (g:(List Int))(b:Int)(i:Int)(a:(List pair)):Option ((List pair)) :=
 (Z27 g b).bind fun h =>
 if (0≤(aH ((aH (h.1*h.2.2))*(a.length:Int)))∧(aH ((aH (h.1*h.2.2))*(a.length:Int)))≤140737488355328∧16*(aH ((aH (h.1*h.2.2))*(a.length:Int)))≤281474976710656) then
 (aR (fun s:(List pair)×Int=>Z8_L1 i a h s.1 s.2) (([]:List pair),(0:Int))).bind fun e=>Z8_J7 e
 else none
def Zz_J2 (b:(List Int))(a:Int)(e:Int)(g:Int)(i:Int)(j:(List Int))(h:(List pair)):Option ((List Int)×(List pair)×Bool) :=
 (Z8 b a (aH ((aH ((aH (e+(ix b a)))+(aH ((aH ((ix b a) - 1))*i))))+g)) h).bind fun l =>
 some (j,l,true)
def Zz_L2 (i:(List Int))(h:Int)(b:Int)(g:Int)(a:(List pair))(e:Int):Option (((List pair)×Int)⊕((List pair))) :=
 if (decide (e<(ix i h)))=true then (
 if a.length+([(⟨e,(aH (b+(aH (e*(aH (g+1))))))⟩:pair)]:List pair).length≤8796093022208 then
 some (.inl ((a++([(⟨e,(aH (b+(aH (e*(aH (g+1))))))⟩:pair)]:List pair)),(aH (e+1))))
 else none)
 else (
 some (.inr a))
def Zz_J1 (b:(List Int))(a:Int)(g:Int)(h:Int)(i:Int):Option ((List Int)×(List pair)×Bool) :=
 if (0≤a∧a<(b.length:Int)) then
 (Z1m b a (aH ((aH ((aH (g+(ix b a)))+(aH ((aH ((ix b a) - 1))*i))))+h))).bind fun j =>
 (Zd j).bind fun l =>
 if (!l)=true then (
 some (([]:List Int),([]:List pair),false))
 else (
 (aR (fun s:(List pair)×Int=>Zz_L2 b a g i s.1 s.2) (([]:List pair),(0:Int))).bind fun e=>Zz_J2 b a g h i j e)
 else none
def Zz_L1 (a:Int)(b:Int)(e:Int)(g:Int):Option ((Int)⊕(((List Int)×(List pair)×Bool)⊕(Unit))) :=
 if (decide (g<(([a,b,e]:List Int).length:Int)))=true then (
 if (0≤g∧g<(([a,b,e]:List Int).length:Int)) then
 if ((decide ((ix ([a,b,e]:List Int) g)<0))||(decide ((ix ([a,b,e]:List Int) g)>4096)))=true then (
 some (.inr (.inl (([]:List Int),([]:List pair),false))))
 else (
 some (.inl (aH (g+1))))
 else none)
 else (
 some (.inr (.inr ())))
def Zz (h:(List Int))(g:Int)(a:Int)(b:Int)(i:Int):Option ((List Int)×(List pair)×Bool) :=
 (Zo h g).bind fun j =>
 if (!j)=true then (
 some (([]:List Int),([]:List pair),false))
 else (
 (aR (fun s:Int=>Zz_L1 a b i s) (0:Int)).bind fun e=>match e with
 | .inl e=>some e
 | .inr e=>Zz_J1 h g a b i)
def Z23 (p1:(List Int))(a:(List Int)):Option ((List Int)×(List pair)×Bool) :=
 if (0≤(0:Int)∧(0:Int)<(p1.length:Int)) then
 if (0≤(1:Int)∧(1:Int)<(p1.length:Int)) then
 if (0≤(2:Int)∧(2:Int)<(p1.length:Int)) then
 if (0≤(3:Int)∧(3:Int)<(p1.length:Int)) then
 (Zz a (ix p1 0) (ix p1 1) (ix p1 2) (ix p1 3)).bind fun b =>
 some (b.1,b.2.1,b.2.2)
 else none
 else none
 else none
 else none
def Z2w (e:Node)(a:(List Int))(h:Int)(g:Int):Option ((List Int)×(List pair)×Bool) :=
 if ((decide ((e.Ints.length:Int)<h))||(decide ((e.Ints.length:Int)>g)))=true then (
 some (([]:List Int),([]:List pair),false))
 else (
 (Z23 e.Ints a).bind fun b =>
 some (b.1,b.2.1,b.2.2))
def Z1q (k1:shiftKind)(g:Int)(h:Int)(e:Node)(a:(List (List Int))):Option ((List Int)×Bool) :=
 if ((a.length:Int) != 1)=true then (
 some (([]:List Int),false))
 else (
 if (0≤(0:Int)∧(0:Int)<(a.length:Int)) then
 (Z2w e (ix a 0) g h).bind fun b =>
 some (b.1,b.2.2)
 else none)
def Z0f_J1 (e:(List Int))(b:Int)(a:(List Int))(g:(List pair)):Option ((List Int)×(List pair)×Bool) :=
 (Z1m e b (a.length:Int)).bind fun h =>
 (Zd h).bind fun i =>
 if (!i)=true then (
 some (([]:List Int),([]:List pair),false))
 else (
 (Z8 e b (a.length:Int) g).bind fun j =>
 some (h,j,true))
def Z0f_L1 (h:(List Int))(g:Int)(a:(List Int))(e:(List pair))(b:Int):Option (((List pair)×Int)⊕(((List Int)×(List pair)×Bool)⊕((List pair)))) :=
 if (decide (b<(a.length:Int)))=true then (
 if (0≤b∧b<(a.length:Int)) then
 if (decide ((ix a b)<0))=false→(0≤g∧g<(h.length:Int)) then
 if ((decide ((ix a b)<0))||(decide ((ix a b)≥(ix h g))))=true then (
 some (.inr (.inl (([]:List Int),([]:List pair),false))))
 else (
 if e.length+([(⟨(ix a b),b⟩:pair)]:List pair).length≤8796093022208 then
 some (.inl ((e++([(⟨(ix a b),b⟩:pair)]:List pair)),(aH (b+1))))
 else none)
 else none
 else none)
 else (
 some (.inr (.inr e)))
def Z0f (g:(List Int))(b:Int)(a:(List Int)):Option ((List Int)×(List pair)×Bool) :=
 (Zo g b).bind fun h =>
 if (((!h)||((a.length:Int)==0))||(decide ((a.length:Int)>4096)))=true then (
 some (([]:List Int),([]:List pair),false))
 else (
 (aR (fun s:(List pair)×Int=>Z0f_L1 g b a s.1 s.2) (([]:List pair),(0:Int))).bind fun e=>match e with
 | .inl e=>some e
 | .inr e=>Z0f_J1 g b a e)
def Z24 (p1:(List Int))(a:(List Int)):Option ((List Int)×(List pair)×Bool) :=
 if (0≤(0:Int)∧(0:Int)<(p1.length:Int)) then
 if (0≤(1:Int)∧(1:Int)≤(p1.length:Int)∧(p1.length:Int)≤(p1.length:Int)) then
 (Z0f a (ix p1 0) (sub p1 (1:Int) (p1.length:Int))).bind fun b =>
 some (b.1,b.2.1,b.2.2)
 else none
 else none
def Z2x (e:Node)(a:(List Int))(h:Int)(g:Int):Option ((List Int)×(List pair)×Bool) :=
 if ((decide ((e.Ints.length:Int)<h))||(decide ((e.Ints.length:Int)>g)))=true then (
 some (([]:List Int),([]:List pair),false))
 else (
 (Z24 e.Ints a).bind fun b =>
 some (b.1,b.2.1,b.2.2))
def Z1r (k1:shiftKind)(g:Int)(h:Int)(e:Node)(a:(List (List Int))):Option ((List Int)×Bool) :=
 if ((a.length:Int) != 1)=true then (
 some (([]:List Int),false))
 else (
 if (0≤(0:Int)∧(0:Int)<(a.length:Int)) then
 (Z2x e (ix a 0) g h).bind fun b =>
 some (b.1,b.2.2)
 else none)
def Z0g_J1 (b:(List Int))(a:Int)(j:Int)(e:(List pair)):Option ((List Int)×(List pair)×Bool) :=
 (Z1m b a j).bind fun g =>
 (Zd g).bind fun h =>
 if (!h)=true then (
 some (([]:List Int),([]:List pair),false))
 else (
 (Z8 b a j e).bind fun i =>
 some (g,i,true))
def Z0g_L1 (a:(List Int))(g:Int)(e:(List pair))(b:Int):Option (((List pair)×Int)⊕(((List Int)×(List pair)×Bool)⊕((List pair)))) :=
 if (decide (b<(a.length:Int)))=true then (
 if (0≤b∧b<(a.length:Int)) then
 if ((decide ((ix a b)<0))||(decide ((ix a b)≥g)))=true then (
 some (.inr (.inl (([]:List Int),([]:List pair),false))))
 else (
 if e.length+([(⟨b,(ix a b)⟩:pair)]:List pair).length≤8796093022208 then
 some (.inl ((e++([(⟨b,(ix a b)⟩:pair)]:List pair)),(aH (b+1))))
 else none)
 else none)
 else (
 some (.inr (.inr e)))
def Z0g (b:(List Int))(a:Int)(g:(List Int))(h:Int):Option ((List Int)×(List pair)×Bool) :=
 (Zo b a).bind fun i =>
 if (!i)=false→(0≤a∧a<(b.length:Int)) then
 if (((!i)||((g.length:Int) != (ix b a)))||(decide (h<1)))=true then (
 some (([]:List Int),([]:List pair),false))
 else (
 (aR (fun s:(List pair)×Int=>Z0g_L1 g h s.1 s.2) (([]:List pair),(0:Int))).bind fun e=>match e with
 | .inl e=>some e
 | .inr e=>Z0g_J1 b a h e)
 else none
def Z25 (p1:(List Int))(a:(List Int)):Option ((List Int)×(List pair)×Bool) :=
 if (0≤(0:Int)∧(0:Int)<(p1.length:Int)) then
 if (0≤(2:Int)∧(2:Int)≤(p1.length:Int)∧(p1.length:Int)≤(p1.length:Int)) then
 if (0≤(1:Int)∧(1:Int)<(p1.length:Int)) then
 (Z0g a (ix p1 0) (sub p1 (2:Int) (p1.length:Int)) (ix p1 1)).bind fun b =>
 some (b.1,b.2.1,b.2.2)
 else none
 else none
 else none
def Z2y (e:Node)(a:(List Int))(h:Int)(g:Int):Option ((List Int)×(List pair)×Bool) :=
 if ((decide ((e.Ints.length:Int)<h))||(decide ((e.Ints.length:Int)>g)))=true then (
 some (([]:List Int),([]:List pair),false))
 else (
 (Z25 e.Ints a).bind fun b =>
 some (b.1,b.2.1,b.2.2))
def Z1s (k1:shiftKind)(g:Int)(h:Int)(e:Node)(a:(List (List Int))):Option ((List Int)×Bool) :=
 if ((a.length:Int) != 1)=true then (
 some (([]:List Int),false))
 else (
 if (0≤(0:Int)∧(0:Int)<(a.length:Int)) then
 (Z2y e (ix a 0) g h).bind fun b =>
 some (b.1,b.2.2)
 else none)
def Z4_J16 (b:(List Int))(e:(List Int))(a:(List pair)):Option ((List Int)×(List pair)×Bool) :=
 some ((sub e (0:Int) (aH ((b.length:Int) - 1))),a,true)
def Z4_J15 (b:Int)(a:(List pair)):Option (((List pair)×Int)⊕((List pair))) :=
 some (.inl (a,(aH (b+1))))
def Z4_J14 (b:Int)(a:(List pair)):Option (((List pair)×Int)⊕((List pair))) :=
 some (.inl (a,(aH (b+1))))
def Z4_J13 (b:Int)(a:(List pair)):Option (((List pair)×Int)⊕((List pair))) :=
 some (.inl (a,(aH (b+1))))
def Z4_L4 (a:(List Int))(m:Int)(j:Int)(l:Int×Int×Int)(g:Int)(i:Int)(h:Int)(b:(List pair))(e:Int):Option (((List pair)×Int)⊕((List pair))) :=
 if (0≤(aH ((a.length:Int) - 1))∧(aH ((a.length:Int) - 1))<(a.length:Int)) then
 if (decide (e<(ix a (aH ((a.length:Int) - 1)))))=true then (
 if b.length+([(⟨(aH ((aH ((aH ((aH ((aH ((aH (g*l.2.1))+i))*l.2.2))+h))*(ix a (aH ((a.length:Int) - 1)))))+e)),(aH ((aH ((aH ((aH ((aH (g*m))+(aH (i*j))))+e))*l.2.2))+h))⟩:pair)]:List pair).length≤8796093022208 then
 some (.inl ((b++([(⟨(aH ((aH ((aH ((aH ((aH ((aH (g*l.2.1))+i))*l.2.2))+h))*(ix a (aH ((a.length:Int) - 1)))))+e)),(aH ((aH ((aH ((aH ((aH (g*m))+(aH (i*j))))+e))*l.2.2))+h))⟩:pair)]:List pair)),(aH (e+1))))
 else none)
 else (
 some (.inr b))
 else none
def Z4_L3 (h:(List Int))(m:Int)(g:Int)(l:Int×Int×Int)(i:Int)(j:Int)(a:(List pair))(b:Int):Option (((List pair)×Int)⊕((List pair))) :=
 if (decide (b<l.2.2))=true then (
 (aR (fun s:(List pair)×Int=>Z4_L4 h m g l i j b s.1 s.2) (a,(0:Int))).bind fun e=>Z4_J13 b e)
 else (
 some (.inr a))
def Z4_L2 (h:(List Int))(l:Int)(g:Int)(j:Int×Int×Int)(i:Int)(a:(List pair))(b:Int):Option (((List pair)×Int)⊕((List pair))) :=
 if (decide (b<j.2.1))=true then (
 (aR (fun s:(List pair)×Int=>Z4_L3 h l g j i b s.1 s.2) (a,(0:Int))).bind fun e=>Z4_J14 b e)
 else (
 some (.inr a))
def Z4_L1 (h:(List Int))(j:Int)(g:Int)(i:Int×Int×Int)(a:(List pair))(b:Int):Option (((List pair)×Int)⊕((List pair))) :=
 if (decide (b<i.1))=true then (
 (aR (fun s:(List pair)×Int=>Z4_L2 h j g i b s.1 s.2) (a,(0:Int))).bind fun e=>Z4_J15 b e)
 else (
 some (.inr a))
def Z4_J1 (a:(List Int))(g:Int)(j:Int)(h:(List Int))(b:Int):Option ((List Int)×(List pair)×Bool) :=
 if (0≤(0:Int)∧(0:Int)≤(aH ((a.length:Int) - 1))∧(aH ((a.length:Int) - 1))≤(a.length:Int)) then
 (Z27 (sub a (0:Int) (aH ((a.length:Int) - 1))) g).bind fun i =>
 (aR (fun s:(List pair)×Int=>Z4_L1 a j b i s.1 s.2) (([]:List pair),(0:Int))).bind fun e=>Z4_J16 a h e
 else none
def Z4 (a:(List Int))(b:Int)(e:Int)(g:Int):Option ((List Int)×(List pair)×Bool) :=
 (Zo a b).bind fun i =>
 if (((((!i)||(b==(aH ((a.length:Int) - 1))))||(decide (e<1)))||(decide (g<1)))||(decide (g>4096)))=false→(0≤(aH ((a.length:Int) - 1))∧(aH ((a.length:Int) - 1))<(a.length:Int)) then
 if ((((((!i)||(b==(aH ((a.length:Int) - 1))))||(decide (e<1)))||(decide (g<1)))||(decide (g>4096)))||(decide ((ix a (aH ((a.length:Int) - 1)))>g)))=false→(0≤b∧b<(a.length:Int)) then
 if ((((((!i)||(b==(aH ((a.length:Int) - 1))))||(decide (e<1)))||(decide (g<1)))||(decide (g>4096)))||(decide ((ix a (aH ((a.length:Int) - 1)))>g)))=false→(0≤(aH ((a.length:Int) - 1))∧(aH ((a.length:Int) - 1))<(a.length:Int)) then
 if ((((((!i)||(b==(aH ((a.length:Int) - 1))))||(decide (e<1)))||(decide (g<1)))||(decide (g>4096)))||(decide ((ix a (aH ((a.length:Int) - 1)))>g)))=false→e≠0 then
 if (((((((!i)||(b==(aH ((a.length:Int) - 1))))||(decide (e<1)))||(decide (g<1)))||(decide (g>4096)))||(decide ((ix a (aH ((a.length:Int) - 1)))>g)))||((ix a b) != (aH ((aH ((aH (g - (ix a (aH ((a.length:Int) - 1))))).tdiv e))+1))))=true then (
 some (([]:List Int),([]:List pair),false))
 else (
 (Z1m a b g).bind fun h =>
 if (0≤(0:Int)∧(0:Int)≤(aH ((a.length:Int) - 1))∧(aH ((a.length:Int) - 1))≤(h.length:Int)) then
 (Zd (sub h (0:Int) (aH ((a.length:Int) - 1)))).bind fun j =>
 if (!j)=true then (
 some (([]:List Int),([]:List pair),false))
 else (
 if (0≤b∧b<(a.length:Int)) then
 if ((ix a b)==1)=true then (
 Z4_J1 a b g h (0:Int))
 else (
 Z4_J1 a b g h e)
 else none)
 else none)
 else none
 else none
 else none
 else none
def Z26 (p1:(List Int))(a:(List Int)):Option ((List Int)×(List pair)×Bool) :=
 if (0≤(0:Int)∧(0:Int)<(p1.length:Int)) then
 if (0≤(1:Int)∧(1:Int)<(p1.length:Int)) then
 if (0≤(2:Int)∧(2:Int)<(p1.length:Int)) then
 (Z4 a (ix p1 0) (ix p1 1) (ix p1 2)).bind fun b =>
 some (b.1,b.2.1,b.2.2)
 else none
 else none
 else none
def Z2z (e:Node)(a:(List Int))(h:Int)(g:Int):Option ((List Int)×(List pair)×Bool) :=
 if ((decide ((e.Ints.length:Int)<h))||(decide ((e.Ints.length:Int)>g)))=true then (
 some (([]:List Int),([]:List pair),false))
 else (
 (Z26 e.Ints a).bind fun b =>
 some (b.1,b.2.1,b.2.2))
def Z1t (k1:shiftKind)(g:Int)(h:Int)(e:Node)(a:(List (List Int))):Option ((List Int)×Bool) :=
 if ((a.length:Int) != 1)=true then (
 some (([]:List Int),false))
 else (
 if (0≤(0:Int)∧(0:Int)<(a.length:Int)) then
 (Z2z e (ix a 0) g h).bind fun b =>
 some (b.1,b.2.2)
 else none)
def bQ (r:kindOfR)(a:Node)(b:(List (List Int))):Option ((List Int)×Bool) :=
 if Nat.beq r.t 0=true then none else (if Nat.beq r.t 1=true then Z1l (⟨r.b0⟩:leafKind) a b else (if Nat.beq r.t 2=true then Z28 (⟨r.i0⟩:pairKind) a b else (if Nat.beq r.t 3=true then Z32 (⟨r.i0⟩:soloKind) a b else (if Nat.beq r.t 4=true then Z1z (⟨⟩:topKind) a b else (if Nat.beq r.t 5=true then Z31 (⟨⟩:formKind) a b else (if Nat.beq r.t 6=true then Z1u (⟨r.s0⟩:shiftKind) a b else (if Nat.beq r.t 7=true then Z29 (⟨r.s0⟩:shiftKind) a b else (if Nat.beq r.t 8=true then Z1q (⟨r.s0⟩:shiftKind) r.i0 r.i1 a b else (if Nat.beq r.t 9=true then Z1r (⟨r.s0⟩:shiftKind) r.i0 r.i1 a b else (if Nat.beq r.t 10=true then Z1s (⟨r.s0⟩:shiftKind) r.i0 r.i1 a b else (Z1t (⟨r.s0⟩:shiftKind) r.i0 r.i1 a b)))))))))))
def Zg_J1 (e:Node)(g:kindOfR)(a:(List (List Int))):Option ((List Int)×Bool) :=
 (bQ g e a).bind fun b =>
 some (b.1,b.2)
def Zg_L1 (g:Node)(a:(List (List Int)))(e:(List (List Int)))(b:Int):Option (((List (List Int))×Int)⊕(((List Int)×Bool)⊕((List (List Int))))) :=
 if (decide (b<(g.Args.length:Int)))=true then (
 if (0≤b∧b<(g.Args.length:Int)) then
 if ((decide ((ix g.Args b)<0))||(decide ((ix g.Args b)≥(a.length:Int))))=true then (
 some (.inr (.inl (([]:List Int),false))))
 else (
 if (0≤(ix g.Args b)∧(ix g.Args b)<(a.length:Int)) then
 if e.length+([(ix a (ix g.Args b))]:List (List Int)).length≤5864062014805 then
 some (.inl ((e++([(ix a (ix g.Args b))]:List (List Int))),(aH (b+1))))
 else none
 else none)
 else none)
 else (
 some (.inr (.inr e)))
def Zg (b:Node)(a:(List (List Int))):Option ((List Int)×Bool) :=
 (Zy b.Op).bind fun g =>
 (bL (!(Nat.beq g.t 0)) (fY g)).bind fun h =>
 (bL (!(Nat.beq g.t 0)) (Z1y b h)).bind fun i =>
 if (((Nat.beq g.t 0)||(!i))||(decide ((b.Args.length:Int)>6)))=true then (
 some (([]:List Int),false))
 else (
 (aR (fun s:(List (List Int))×Int=>Zg_L1 b a s.1 s.2) (([]:List (List Int)),(0:Int))).bind fun e=>match e with
 | .inl e=>some e
 | .inr e=>Zg_J1 b g e)
def Zk_J2 (a:(List (List Int))):Option ((List (List Int))×Bool) :=
 some (a,true)
def Zk_L2 (g1:Graph)(a:Int):Option ((Int)⊕(((List (List Int))×Bool)⊕(Unit))) :=
 if (decide (a<(g1.Outs.length:Int)))=true then (
 if (0≤a∧a<(g1.Outs.length:Int)) then
 if ((decide ((ix g1.Outs a)<0))||(decide ((ix g1.Outs a)≥(g1.Nodes.length:Int))))=true then (
 some (.inr (.inl (([]:List (List Int)),false))))
 else (
 some (.inl (aH (a+1))))
 else none)
 else (
 some (.inr (.inr ())))
def Zk_J1 (g1:Graph)(a:(List (List Int))):Option ((List (List Int))×Bool) :=
 (aR (fun s:Int=>Zk_L2 g1 s) (0:Int)).bind fun e=>match e with
 | .inl e=>some e
 | .inr e=>Zk_J2 a
def Zk_L1 (g1:Graph)(b:(List (List Int)))(a:Int):Option (((List (List Int))×Int)⊕(((List (List Int))×Bool)⊕((List (List Int))))) :=
 if (decide (a<(g1.Nodes.length:Int)))=true then (
 if (0≤a∧a<(g1.Nodes.length:Int)) then
 (Zg (ix g1.Nodes a) b).bind fun e =>
 if (!e.2)=true then (
 some (.inr (.inl (([]:List (List Int)),false))))
 else (
 if b.length+([e.1]:List (List Int)).length≤5864062014805 then
 some (.inl ((b++([e.1]:List (List Int))),(aH (a+1))))
 else none)
 else none)
 else (
 some (.inr (.inr b)))
def Zk (g1:Graph):Option ((List (List Int))×Bool) :=
 if ((decide ((g1.Nodes.length:Int)>200))||(decide ((g1.Outs.length:Int)>40)))=true then (
 some (([]:List (List Int)),false))
 else (
 (aR (fun s:(List (List Int))×Int=>Zk_L1 g1 s.1 s.2) (([]:List (List Int)),(0:Int))).bind fun e=>match e with
 | .inl e=>some e
 | .inr e=>Zk_J1 g1 e)
def Z2j (g1:Graph):Option (Bool) :=
 (Zk g1).bind fun a =>
 some a.2
def Z22 (a:(List Int)):Option ((List Int)) :=
 some a
def Z2i (p1:Int):Option (Bool) :=
 some (p1 != p1)
def Z3b (p1:Int)(b:Int):Option (Bool) :=
 (Z2i p1).bind fun a =>
 (bL a (Z2i b)).bind fun e =>
 some ((a&&(!e))||(decide (p1<b)))
def Z2a (p1:Int):Option (Bool) :=
 some (p1 != p1)
def Z0m_J1 (p1:(List Int))(a:Int)(b:Int):Option (Int×Bool) :=
 if (decide (b<(p1.length:Int)))=true→(0≤b∧b<(p1.length:Int)) then
 if (decide (b<(p1.length:Int)))=true→((ix p1 b)==a)=false→(0≤b∧b<(p1.length:Int)) then
 (bL ((decide (b<(p1.length:Int)))&&(!((ix p1 b)==a))) (Z2a (ix p1 b))).bind fun e =>
 (bL ((decide (b<(p1.length:Int)))&&((!((ix p1 b)==a))&&e)) (Z2a a)).bind fun g =>
 some (b,((decide (b<(p1.length:Int)))&&(((ix p1 b)==a)||(e&&g))))
 else none
 else none
def Z0m_L1 (p1:(List Int))(e:Int)(a:Int)(b:Int):Option ((Int×Int)⊕(Int)) :=
 if (decide (a<b))=true then (
 if (0≤(aH (((IntKind.wrap .u64 ((aH (a+b)))) / 2 ^ (1:Int).toNat)))∧(aH (((IntKind.wrap .u64 ((aH (a+b)))) / 2 ^ (1:Int).toNat)))<(p1.length:Int)) then
 (Z3b (ix p1 (aH (((IntKind.wrap .u64 ((aH (a+b)))) / 2 ^ (1:Int).toNat)))) e).bind fun g =>
 if g=true then (
 some (.inl ((aH ((aH (((IntKind.wrap .u64 ((aH (a+b)))) / 2 ^ (1:Int).toNat)))+1)),b)))
 else (
 some (.inl (a,(aH (((IntKind.wrap .u64 ((aH (a+b)))) / 2 ^ (1:Int).toNat))))))
 else none)
 else (
 some (.inr a))
def Z0m (p1:(List Int))(a:Int):Option (Int×Bool) :=
 (aR (fun s:Int×Int=>Z0m_L1 p1 a s.1 s.2) ((0:Int),(p1.length:Int))).bind fun e=>Z0m_J1 p1 a e
def Z1p (k1:Int)(a:(List Int)):Option (Bool) :=
 (Z0m a k1).bind fun b =>
 some b.2
def Z0a_J3 (a:(List Int)):Option ((List Int)) :=
 some a
def Z0a_J2 (b:(List Int))(e:Int)(a:Int)(g:Int):Option (((List Int)×Int×Int)⊕((List Int))) :=
 some (.inl ((b.set a.toNat e),g,(aH (a+1))))
def Z0a_L1 (h:Int)(i:(List Int))(e:(List Int))(b:Int)(a:Int):Option (((List Int)×Int×Int)⊕((List Int))) :=
 if (decide (a<((List.replicate h.toNat (0:Int)).length:Int)))=true then (
 if (0≤a∧a<((List.replicate h.toNat (0:Int)).length:Int)) then
 (Z1p a i).bind fun g =>
 if g=true then (
 Z0a_J2 e b a (aH (b+1)))
 else (
 Z0a_J2 e b a b)
 else none)
 else (
 some (.inr e))
def Z0a (a:Int)(b:(List Int)):Option ((List Int)) :=
 if (0≤a∧a≤140737488355328∧8*a≤281474976710656) then
 (aR (fun s:(List Int)×Int×Int=>Z0a_L1 a b s.1 s.2.1 s.2.2) ((List.replicate a.toNat (0:Int)),(0:Int),(0:Int))).bind fun e=>Z0a_J3 e
 else none
def Z21 (a:Node):Option (Bool) :=
 some ((a.Op==1)||(a.Op==2))
def Z04_J3:Option (Bool) :=
 some true
def Z04_J2 (a:Int):Option ((Int)⊕((Bool)⊕(Unit))) :=
 some (.inl (aH (a+1)))
def Z04_L2 (g1:Graph)(i:(List Int))(g:(List Int))(b:Int)(a:Int):Option ((Int)⊕((Bool)⊕(Unit))) :=
 if (decide (a<(((ix g1.Nodes b).Args).length:Int)))=true then (
 if (0≤a∧a<(((ix g1.Nodes b).Args).length:Int)) then
 if (0≤(ix ((ix g1.Nodes b).Args) a)∧(ix ((ix g1.Nodes b).Args) a)<(g.length:Int)) then
 if (0≤b∧b<(g.length:Int)) then
 (bL ((ix g (ix ((ix g1.Nodes b).Args) a)) != (ix g b)) (Z1p (ix ((ix g1.Nodes b).Args) a) i)).bind fun e =>
 if (((ix g (ix ((ix g1.Nodes b).Args) a)) != (ix g b))&&(!e))=true→(0≤(ix ((ix g1.Nodes b).Args) a)∧(ix ((ix g1.Nodes b).Args) a)<(g1.Nodes.length:Int)) then
 (bL (((ix g (ix ((ix g1.Nodes b).Args) a)) != (ix g b))&&(!e)) (Z21 (ix g1.Nodes (ix ((ix g1.Nodes b).Args) a)))).bind fun h =>
 if ((((ix g (ix ((ix g1.Nodes b).Args) a)) != (ix g b))&&(!e))&&(!h))=true then (
 some (.inr (.inl false)))
 else (
 some (.inl (aH (a+1))))
 else none
 else none
 else none
 else none)
 else (
 some (.inr (.inr ())))
def Z04_L1 (g1:Graph)(b:(List Int))(g:(List Int))(a:Int):Option ((Int)⊕((Bool)⊕(Unit))) :=
 if (decide (a<(g1.Nodes.length:Int)))=true then (
 if (0≤a∧a<(g1.Nodes.length:Int)) then
 (aR (fun s:Int=>Z04_L2 g1 b g a s) (0:Int)).bind fun e=>match e with
 | .inl e=>some (.inr (.inl e))
 | .inr e=>Z04_J2 a
 else none)
 else (
 some (.inr (.inr ())))
def Z04 (g1:Graph)(a:(List Int)):Option (Bool) :=
 (Z0a (g1.Nodes.length:Int) a).bind fun b =>
 (aR (fun s:Int=>Z04_L1 g1 a b s) (0:Int)).bind fun e=>match e with
 | .inl e=>some e
 | .inr e=>Z04_J3
def Z14_J1 (g1:Graph)(a:(List Int)):Option (Bool) :=
 (Z22 a).bind fun b =>
 (Z04 g1 b).bind fun e =>
 some e
def Z14_L1 (g1:Graph)(a:(List Int))(b:Int):Option ((Int)⊕((Bool)⊕(Unit))) :=
 if (decide (b<(a.length:Int)))=true then (
 if (0≤b∧b<(a.length:Int)) then
 if ((decide ((ix a b)<0))||(decide ((ix a b)≥(g1.Nodes.length:Int))))=false→(decide (b>0))=true→(0≤(aH (b - 1))∧(aH (b - 1))<(a.length:Int)) then
 if (((decide ((ix a b)<0))||(decide ((ix a b)≥(g1.Nodes.length:Int))))||((decide (b>0))&&(decide ((ix a (aH (b - 1)))≥(ix a b)))))=true then (
 some (.inr (.inl false)))
 else (
 some (.inl (aH (b+1))))
 else none
 else none)
 else (
 some (.inr (.inr ())))
def Z14 (g1:Graph)(a:(List Int)):Option (Bool) :=
 (Z2j g1).bind fun b =>
 if (!b)=true then (
 some false)
 else (
 (aR (fun s:Int=>Z14_L1 g1 a s) (0:Int)).bind fun e=>match e with
 | .inl e=>some e
 | .inr e=>Z14_J1 g1 a)
def Z16_J1 (a:Int):Option (Int) :=
 some a
def Z16_L1 (p1:(List Int))(b:Int)(a:Int):Option ((Int×Int)⊕(Int)) :=
 if (decide (a<(p1.length:Int)))=true then (
 if (0≤a∧a<(p1.length:Int)) then
 some (.inl ((if (ix p1 a)>b then (ix p1 a) else b),(aH (a+1))))
 else none)
 else (
 some (.inr b))
def Z16 (p1:(List Int)):Option (Int) :=
 if (decide ((p1.length:Int)<1))=true then (
 none)
 else (
 if (0≤(0:Int)∧(0:Int)<(p1.length:Int)) then
 (aR (fun s:Int×Int=>Z16_L1 p1 s.1 s.2) ((ix p1 0),(1:Int))).bind fun e=>Z16_J1 e
 else none)
def Zj_J5 (b:(List Int))(a:Int)(e:Int):Option (Int×Int) :=
 (Z16 b).bind fun g =>
 some ((aH (a+g)),e)
def Zj_J4 (g:Int)(b:(List Int))(a:Int)(e:Int):Option (((List Int)×Int×Int×Int)⊕((List Int)×Int×Int)) :=
 some (.inl (b,a,e,(aH (g+1))))
def Zj_J3 (g1:Graph)(m:(List Int))(b:(List Int))(h:(List Int))(g:Int)(i:Int)(e:Int)(a:Int):Option (((List Int)×Int×Int×Int)⊕((List Int)×Int×Int)) :=
 (Z1p e m).bind fun l =>
 if l=true then (
 Zj_J4 e h (aH (g+a)) (aH (i+a)))
 else (
 if (0≤e∧e<(b.length:Int)) then
 if (0≤(ix b e)∧(ix b e)<((List.replicate (aH ((g1.Nodes.length:Int)+1)).toNat (0:Int)).length:Int)) then
 (nm (h.set (ix b e).toNat (aH ((ix h (ix b e))+a)))).bind fun j =>
 if (0≤(aH ((b.length:Int) - 1))∧(aH ((b.length:Int) - 1))<(b.length:Int)) then
 if ((ix b e) != (ix b (aH ((b.length:Int) - 1))))=true then (
 Zj_J4 e j g (aH ((aH (i+a))+a)))
 else (
 Zj_J4 e j g (aH (i+a)))
 else none
 else none
 else none)
def Zj_L1 (g1:Graph)(h:(List (List Int)))(m:(List Int))(i:(List Int))(b:(List Int))(a:Int)(e:Int)(g:Int):Option (((List Int)×Int×Int×Int)⊕((List Int)×Int×Int)) :=
 if (decide (g<(g1.Nodes.length:Int)))=true then (
 if (0≤g∧g<(g1.Nodes.length:Int)) then
 if (0≤g∧g<(h.length:Int)) then
 (Zl (ix h g)).bind fun j =>
 (Z21 (ix g1.Nodes g)).bind fun l =>
 if l=true then (
 Zj_J3 g1 m i b a e g (0:Int))
 else (
 Zj_J3 g1 m i b a e g j)
 else none
 else none)
 else (
 some (.inr (b,a,e)))
def Zj (g1:Graph)(a:(List (List Int)))(g:(List Int)):Option (Int×Int) :=
 (Z0a (g1.Nodes.length:Int) g).bind fun b =>
 if (0≤(aH ((g1.Nodes.length:Int)+1))∧(aH ((g1.Nodes.length:Int)+1))≤140737488355328∧8*(aH ((g1.Nodes.length:Int)+1))≤281474976710656) then
 (aR (fun s:(List Int)×Int×Int×Int=>Zj_L1 g1 a g b s.1 s.2.1 s.2.2.1 s.2.2.2) ((List.replicate (aH ((g1.Nodes.length:Int)+1)).toNat (0:Int)),(0:Int),(0:Int),(0:Int))).bind fun e=>Zj_J5 e.1 e.2.1 e.2.2
 else none
def Z2k (g1:Graph)(a:(List Int)):Option (Int×Int) :=
 (Z14 g1 a).bind fun h =>
 if (!h)=true then (
 some ((0:Int),(0:Int)))
 else (
 (Zk g1).bind fun e =>
 (Z22 a).bind fun g =>
 (Zj g1 e.1 g).bind fun b =>
 some (b.1,b.2))
def Z0b_J1:Option (Bool) :=
 some true
def Z0b_L1 (b:(List Int))(e:(List Int))(a:Int):Option ((Int)⊕((Bool)⊕(Unit))) :=
 if (decide (a<(b.length:Int)))=true then (
 if (0≤a∧a<(b.length:Int)) then
 if (0≤a∧a<(e.length:Int)) then
 if ((ix b a) != (ix e a))=true then (
 some (.inr (.inl false)))
 else (
 some (.inl (aH (a+1))))
 else none
 else none)
 else (
 some (.inr (.inr ())))
def Z0b (a:(List Int))(b:(List Int)):Option (Bool) :=
 if ((a.length:Int) != (b.length:Int))=true then (
 some false)
 else (
 (aR (fun s:Int=>Z0b_L1 a b s) (0:Int)).bind fun e=>match e with
 | .inl e=>some e
 | .inr e=>Z0b_J1)
def Z2p (a:Node)(b:Node):Option (Bool) :=
 if (a.Op != b.Op)=true then (
 some false)
 else (
 (Z0b a.Args b.Args).bind fun e =>
 if (!e)=true then (
 some false)
 else (
 (Z0b a.Dims b.Dims).bind fun g =>
 if (!g)=true then (
 some false)
 else (
 (Z0b a.Ints b.Ints).bind fun h =>
 if (!h)=true then (
 some false)
 else (
 if (!(a.Form==b.Form))=true then (
 some false)
 else (
 (Z0b a.Data b.Data).bind fun i =>
 if (!i)=true then (
 some false)
 else (
 some true))))))
def Z1e_J1:Option (Bool) :=
 some true
def Z1e_L1 (b:(List Node))(g:(List Node))(a:Int):Option ((Int)⊕((Bool)⊕(Unit))) :=
 if (decide (a<(b.length:Int)))=true then (
 if (0≤a∧a<(b.length:Int)) then
 if (0≤a∧a<(g.length:Int)) then
 (Z2p (ix b a) (ix g a)).bind fun e =>
 if (!e)=true then (
 some (.inr (.inl false)))
 else (
 some (.inl (aH (a+1))))
 else none
 else none)
 else (
 some (.inr (.inr ())))
def Z1e (a:(List Node))(b:(List Node)):Option (Bool) :=
 if ((a.length:Int) != (b.length:Int))=true then (
 some false)
 else (
 (aR (fun s:Int=>Z1e_L1 a b s) (0:Int)).bind fun e=>match e with
 | .inl e=>some e
 | .inr e=>Z1e_J1)
def Z33 (b:Graph)(e:Graph):Option (Bool) :=
 (Z1e b.Nodes e.Nodes).bind fun g =>
 if (!g)=true then (
 some false)
 else (
 (Z0b b.Outs e.Outs).bind fun a =>
 if (!a)=true then (
 some false)
 else (
 some true))
def Z3h (b:Graph)(a:(List Int)):Option (Bool) :=
 if (decide ((a.length:Int)>1048576))=true then (
 some true)
 else (
 (Z34 b (1048576:Int)).bind fun u =>
 if (decide (u<0))=true then (
 some true)
 else (
 (Z1w b).bind fun j =>
 (Zf a).bind fun l =>
 (Z2r j l).bind fun e =>
 (Z1w b).bind fun g =>
 (Zf a).bind fun h =>
 (Z2k g h).bind fun i =>
 if ((i.1 != e.1)||(i.2 != e.2))=true then (
 some false)
 else (
 (Z1w b).bind fun m =>
 (Z33 g m).bind fun q =>
 if (!q)=true then (
 some false)
 else (
 (Zf a).bind fun r =>
 (Z0b h r).bind fun s =>
 if (!s)=true then (
 some false)
 else (
 some true)))))
end
end Go.Proofs.YthelanpdjajnbaaGreat
