import Derived.Test.YtmpnollfdpdipaaGreatDoorSfH
set_option linter.unusedVariables false
namespace Go.Proofs.YtmpnollfdpdipaaGreatDoor
open Go Go.Pg
noncomputable section
def Z0n (e:(List Int))(a:Int):Option (Int) :=
 if (decide ((aK (a - (e.length:Int)))<0))=true then (
 some (-1:Int))
 else (
 some (aK (a - (e.length:Int))))
def Z0o (e:Tensor)(a:Int):Option (Int) :=
 (Z0n e.Dims a).bind fun g =>
 if (decide (g<0))=true then (
 some (-1:Int))
 else (
 (Z0n e.Data g).bind fun h =>
 if (decide (h<0))=true then (
 some (-1:Int))
 else (
 some h))
def Z07_J1 (a:Int):Option (Int) :=
 some a
def Z07_L1 (h:(List Tensor))(a:Int)(e:Int):Option ((Int×Int)⊕((Int)⊕(Int))) :=
 if (decide (e<(h.length:Int)))=true then (
 if (0≤e∧e<(h.length:Int)) then
 (Z0o (ix h e) a).bind fun g =>
 if (decide (g<0))=true then (
 some (.inr (.inl (-1:Int))))
 else (
 some (.inl (g,(aK (e+1)))))
 else none)
 else (
 some (.inr (.inr a)))
def Z07 (g:(List Tensor))(a:Int):Option (Int) :=
 if (decide ((aK (a - (g.length:Int)))<0))=true then (
 some (-1:Int))
 else (
 (aI (fun s:Int×Int=>Z07_L1 g s.1 s.2) ((aK (a - (g.length:Int))),(0:Int))).bind fun e=>match e with
 | .inl e=>some e
 | .inr e=>Z07_J1 e)
def Zn_J1 (a:(List Int)):Option ((List Int)) :=
 some a
def Zn_L1 (g:(List Int))(e:(List Int))(a:Int):Option (((List Int)×Int)⊕((List Int))) :=
 if (decide (a<(g.length:Int)))=true then (
 if (0≤a∧a<(g.length:Int)) then
 if (0≤a∧a<((List.replicate (g.length:Int).toNat (0:Int)).length:Int)) then
 some (.inl ((e.set a.toNat (ix g a)),(aK (a+1))))
 else none
 else none)
 else (
 some (.inr e))
def Zn (a:(List Int)):Option ((List Int)) :=
 if (0≤(a.length:Int)∧(a.length:Int)≤140737488355328∧8*(a.length:Int)≤281474976710656) then
 (aI (fun s:(List Int)×Int=>Zn_L1 a s.1 s.2) ((List.replicate (a.length:Int).toNat (0:Int)),(0:Int))).bind fun e=>Zn_J1 e
 else none
def Z0u (e:Tensor):Option (Tensor) :=
 (Zn e.Dims).bind fun g =>
 (Zn e.Data).bind fun a =>
 some (⟨g,a⟩:Tensor)
def Zf_J1 (a:(List Tensor)):Option ((List Tensor)) :=
 some a
def Zf_L1 (g:(List Tensor))(e:(List Tensor))(a:Int):Option (((List Tensor)×Int)⊕((List Tensor))) :=
 if (decide (a<(g.length:Int)))=true then (
 if (0≤a∧a<(g.length:Int)) then
 (Z0u (ix g a)).bind fun h =>
 if (0≤a∧a<((List.replicate (g.length:Int).toNat zT38.z).length:Int)) then
 some (.inl ((e.set a.toNat h),(aK (a+1))))
 else none
 else none)
 else (
 some (.inr e))
def Zf (a:(List Tensor)):Option ((List Tensor)) :=
 if (0≤(a.length:Int)∧(a.length:Int)≤140737488355328∧48*(a.length:Int)≤281474976710656) then
 (aI (fun s:(List Tensor)×Int=>Zf_L1 a s.1 s.2) ((List.replicate (a.length:Int).toNat zT38.z),(0:Int))).bind fun e=>Zf_J1 e
 else none
def Zz_J1 (p1:aD):Option (Bool) :=
 some (decide ((p1.length:Int)≤6))
def Zz_L1 (p1:aD)(a:Int):Option ((Int)⊕((Bool)⊕(Unit))) :=
 if (decide (a<(p1.length:Int)))=true then (
 if (0≤a∧a<(p1.length:Int)) then
 if ((decide ((bt p1 a)<97))||(decide ((bt p1 a)>122)))=true then (
 some (.inr (.inl false)))
 else (
 some (.inl (aK (a+1))))
 else none)
 else (
 some (.inr (.inr ())))
def Zz (p1:aD):Option (Bool) :=
 (aI (fun s:Int=>Zz_L1 p1 s) (0:Int)).bind fun e=>match e with
 | .inl e=>some e
 | .inr e=>Zz_J1 p1
def Zq_J1:Option (Bool) :=
 some false
def Zq_L1 (p1:aD)(e:Int)(a:Int):Option ((Int)⊕((Bool)⊕(Unit))) :=
 if (decide (a<(p1.length:Int)))=true then (
 if (0≤a∧a<(p1.length:Int)) then
 if ((bt p1 a)==e)=true then (
 some (.inr (.inl true)))
 else (
 some (.inl (aK (a+1))))
 else none)
 else (
 some (.inr (.inr ())))
def Zq (p1:aD)(a:Int):Option (Bool) :=
 (aI (fun s:Int=>Zq_L1 p1 a s) (0:Int)).bind fun e=>match e with
 | .inl e=>some e
 | .inr e=>Zq_J1
def Z1_J8 (e:aD)(g:Int)(a:(List aD)):Option ((List aD)×aD×Bool) :=
 some (a,(sub e (aK (g+2)) (e.length:Int)),true)
def Z1_J7 (a:aD)(h:Int)(e:Int)(g:Bool):Option ((Int)⊕(((List aD)×aD×Bool)⊕(Unit))) :=
 if (!g)=false→(0≤(0:Int)∧(0:Int)≤e∧e≤((sub a (aK (h+2)) (a.length:Int)).length:Int)) then
 if (!g)=false→(0≤e∧e<((sub a (aK (h+2)) (a.length:Int)).length:Int)) then
 (bR (!(!g)) (Zq (sub (sub a (aK (h+2)) (a.length:Int)) (0:Int) e) (bt (sub a (aK (h+2)) (a.length:Int)) e))).bind fun i =>
 if ((!g)||i)=true then (
 some (.inr (.inl (([]:List aD),([]:aD),false))))
 else (
 some (.inl (aK (e+1))))
 else none
 else none
def Z1_L5 (e:aD)(m:Int)(a:(List aD))(i:Int)(h:Bool)(g:Int):Option ((Bool×Int)⊕(Bool)) :=
 if (decide (g<(a.length:Int)))=true then (
 if h=false→(0≤g∧g<(a.length:Int)) then
 if h=false→(0≤i∧i<((sub e (aK (m+2)) (e.length:Int)).length:Int)) then
 (bR (!h) (Zq (ix a g) (bt (sub e (aK (m+2)) (e.length:Int)) i))).bind fun j =>
 some (.inl ((h||j),(aK (g+1))))
 else none
 else none)
 else (
 some (.inr h))
def Z1_L4 (a:aD)(i:Int)(g:(List aD))(h:Int):Option ((Int)⊕(((List aD)×aD×Bool)⊕(Unit))) :=
 if (decide (h<((sub a (aK (i+2)) (a.length:Int)).length:Int)))=true then (
 (aI (fun s:Bool×Int=>Z1_L5 a i g h s.1 s.2) (false,(0:Int))).bind fun e=>Z1_J7 a i h e)
 else (
 some (.inr (.inr ())))
def Z1_J5 (g:aD)(h:Int)(a:(List aD)):Option ((List aD)×aD×Bool) :=
 (aI (fun s:Int=>Z1_L4 g h a s) (0:Int)).bind fun e=>match e with
 | .inl e=>some e
 | .inr e=>Z1_J8 g h a
def Z1_L3 (a:(List aD))(e:Int):Option ((Int)⊕(((List aD)×aD×Bool)⊕(Unit))) :=
 if (decide (e<(a.length:Int)))=true then (
 if (0≤e∧e<(a.length:Int)) then
 (Zz (ix a e)).bind fun g =>
 if (!g)=true then (
 some (.inr (.inl (([]:List aD),([]:aD),false))))
 else (
 some (.inl (aK (e+1))))
 else none)
 else (
 some (.inr (.inr ())))
def Z1_J4 (g:aD)(h:Int)(a:(List aD)):Option ((List aD)×aD×Bool) :=
 if (0≤(aK (h+2))∧(aK (h+2))≤(g.length:Int)∧(g.length:Int)≤(g.length:Int)) then
 (bR (!(decide ((a.length:Int)>6))) (Zz (sub g (aK (h+2)) (g.length:Int)))).bind fun i =>
 if ((decide ((a.length:Int)>6))||(!i))=true then (
 some (([]:List aD),([]:aD),false))
 else (
 (aI (fun s:Int=>Z1_L3 a s) (0:Int)).bind fun e=>match e with
 | .inl e=>some e
 | .inr e=>Z1_J5 g h a)
 else none
def Z1_J3 (e:Int)(a:(List aD))(g:Int):Option (((List aD)×Int×Int)⊕((List aD))) :=
 some (.inl (a,g,(aK (e+1))))
def Z1_L2 (g:aD)(i:Int)(a:(List aD))(h:Int)(e:Int):Option (((List aD)×Int×Int)⊕((List aD))) :=
 if (decide (e≤i))=true then (
 if (e==i)=false→(0≤e∧e<(g.length:Int)) then
 if ((e==i)||((bt g e)==44))=true then (
 if (0≤h∧h≤e∧e≤(g.length:Int)) then
 if a.length+([(sub g h e)]:List aD).length≤8796093022208 then
 Z1_J3 e (a++([(sub g h e)]:List aD)) (aK (e+1))
 else none
 else none)
 else (
 Z1_J3 e a h)
 else none)
 else (
 some (.inr a))
def Z1_J1 (a:aD)(g:Int):Option ((List aD)×aD×Bool) :=
 if (decide ((aK (g+1))≥(a.length:Int)))=true then (
 some (([]:List aD),([]:aD),false))
 else (
 (aI (fun s:(List aD)×Int×Int=>Z1_L2 a g s.1 s.2.1 s.2.2) (([]:List aD),(0:Int),(0:Int))).bind fun e=>Z1_J4 a g e)
def Z1_L1 (a:aD)(e:Int):Option ((Int)⊕(Int)) :=
 if (decide ((aK (e+1))<(a.length:Int)))=true→(0≤e∧e≤(aK (e+2))∧(aK (e+2))≤(a.length:Int)) then
 if ((decide ((aK (e+1))<(a.length:Int)))&&(!((sub a e (aK (e+2)))==str0)))=true then (
 some (.inl (aK (e+1))))
 else (
 some (.inr e))
 else none
def Z1 (a:aD):Option ((List aD)×aD×Bool) :=
 (aI (fun s:Int=>Z1_L1 a s) (0:Int)).bind fun e=>Z1_J1 a e
def Z04_J1:Option (Bool) :=
 some false
def Z04_L1 (a:(List aD))(e:aD)(g:Int):Option ((Int)⊕((Bool)⊕(Unit))) :=
 if (decide (g<(a.length:Int)))=true then (
 if (0≤g∧g<(a.length:Int)) then
 if (0≤(0:Int)∧(0:Int)<(e.length:Int)) then
 (Zq (ix a g) (bt e 0)).bind fun h =>
 if h=true then (
 some (.inr (.inl true)))
 else (
 some (.inl (aK (g+1))))
 else none
 else none)
 else (
 some (.inr (.inr ())))
def Z04 (g:(List aD))(a:aD):Option (Bool) :=
 if ((a.length:Int) != 1)=true then (
 some false)
 else (
 (aI (fun s:Int=>Z04_L1 g a s) (0:Int)).bind fun e=>match e with
 | .inl e=>some e
 | .inr e=>Z04_J1)
def Z0y (p1:Int)(e:Int)(a:Int):Option (Bool) :=
 some ((decide (p1≥e))&&(decide (p1≤a)))
def Zp_J1 (a:Int):Option (Int) :=
 some a
def Zp_L1 (a:(List Int))(g:Int)(e:Int):Option ((Int×Int)⊕((Int)⊕(Int))) :=
 if (decide (e<(a.length:Int)))=true then (
 if (0≤e∧e<(a.length:Int)) then
 if ((decide ((ix a e)<1))||(decide ((ix a e)>4096)))=true then (
 some (.inr (.inl (0:Int))))
 else (
 if (decide ((aK (g*(ix a e)))>4096))=true then (
 some (.inr (.inl (0:Int))))
 else (
 some (.inl ((aK (g*(ix a e))),(aK (e+1))))))
 else none)
 else (
 some (.inr (.inr g)))
def Zp (a:(List Int)):Option (Int) :=
 (aI (fun s:Int×Int=>Zp_L1 a s.1 s.2) ((1:Int),(0:Int))).bind fun e=>match e with
 | .inl e=>some e
 | .inr e=>Zp_J1 e
def Z0c (a:(List Int)):Option (Bool) :=
 (bR (decide ((a.length:Int)≤6)) (Zp a)).bind fun e =>
 some ((decide ((a.length:Int)≤6))&&(decide (e>0)))
def Zo_J1:Option (Bool) :=
 some true
def Zo_L1 (t1:Tensor)(a:Int):Option ((Int)⊕((Bool)⊕(Unit))) :=
 if (decide (a<(t1.Data.length:Int)))=true then (
 if (0≤a∧a<(t1.Data.length:Int)) then
 if ((decide ((ix t1.Data a)<0))||(decide ((ix t1.Data a)≥2147483647)))=true then (
 some (.inr (.inl false)))
 else (
 some (.inl (aK (a+1))))
 else none)
 else (
 some (.inr (.inr ())))
def Zo (t1:Tensor):Option (Bool) :=
 (Z0c t1.Dims).bind fun a =>
 (bR (!(!a)) (Zp t1.Dims)).bind fun g =>
 if ((!a)||((t1.Data.length:Int) != g))=true then (
 some false)
 else (
 (aI (fun s:Int=>Zo_L1 t1 s) (0:Int)).bind fun e=>match e with
 | .inl e=>some e
 | .inr e=>Zo_J1)
def Z2_J12 (e:aD)(a:(List Int)):Option (aD×(List Int)×Bool) :=
 some (e,a,true)
def Z2_L4 (a:(List Int))(g:Int)(e:Int):Option ((Int×Int)⊕((aD×(List Int)×Bool)⊕(Unit))) :=
 if (decide (e<(a.length:Int)))=true then (
 if (0≤e∧e<(a.length:Int)) then
 if (decide ((aK (g*(ix a e)))>65536))=true then (
 some (.inr (.inl (([]:aD),a,false))))
 else (
 some (.inl ((aK (g*(ix a e))),(aK (e+1)))))
 else none)
 else (
 some (.inr (.inr ())))
def Z2_J11 (g:aD)(a:(List Int)):Option (aD×(List Int)×Bool) :=
 (aI (fun s:Int×Int=>Z2_L4 a s.1 s.2) ((1:Int),(0:Int))).bind fun e=>match e with
 | .inl e=>some e
 | .inr e=>Z2_J12 g a
def Z2_J10 (g:Int)(e:aD)(a:(List Int)):Option ((aD×(List Int)×Int)⊕((aD×(List Int)×Bool)⊕(aD×(List Int)))) :=
 some (.inl (e,a,(aK (g+1))))
def Z2_J9 (h:(List (List Int)))(j:Int)(e:Int)(g:Int)(i:aD)(a:(List Int)):Option ((aD×(List Int)×Int)⊕((aD×(List Int)×Bool)⊕(aD×(List Int)))) :=
 if (0≤g∧g<(a.length:Int)) then
 if ((ix a g) != 0)=true→(0≤e∧e<((ix h j).length:Int)) then
 if (((ix a g) != 0)&&((ix a g) != (ix (ix h j) e)))=true then (
 some (.inr (.inl (([]:aD),a,false))))
 else (
 if (0≤e∧e<((ix h j).length:Int)) then
 some (.inl (i,(a.set g.toNat (ix (ix h j) e)),(aK (e+1))))
 else none)
 else none
 else none
def Z2_J8 (h:(List aD))(j:(List (List Int)))(i:Int)(a:aD)(e:(List Int))(g:Int)(m:Int):Option ((aD×(List Int)×Int)⊕((aD×(List Int)×Bool)⊕(aD×(List Int)))) :=
 if (m==(a.length:Int))=true then (
 if (0≤g∧g≤(aK (g+1))∧(aK (g+1))≤((ix h i).length:Int)) then
 if a.length+(sub (ix h i) g (aK (g+1))).length≤9223372036854775807 then
 if e.length+([(0:Int)]:List Int).length≤17592186044416 then
 Z2_J9 j i g m (a++(sub (ix h i) g (aK (g+1)))) (e++([(0:Int)]:List Int))
 else none
 else none
 else none)
 else (
 Z2_J9 j i g m a e)
def Z2_L3 (g:(List aD))(i:Int)(a:aD)(h:Int)(e:Int):Option ((Int)⊕(Int)) :=
 if (decide (e<(a.length:Int)))=true→(0≤e∧e<(a.length:Int)) then
 if (decide (e<(a.length:Int)))=true→(0≤h∧h<((ix g i).length:Int)) then
 if ((decide (e<(a.length:Int)))&&((bt a e) != (bt (ix g i) h)))=true then (
 some (.inl (aK (e+1))))
 else (
 some (.inr e))
 else none
 else none
def Z2_L2 (h:(List aD))(m:(List (List Int)))(j:Int)(a:aD)(g:(List Int))(i:Int):Option ((aD×(List Int)×Int)⊕((aD×(List Int)×Bool)⊕(aD×(List Int)))) :=
 if (decide (i<((ix h j).length:Int)))=true then (
 (aI (fun s:Int=>Z2_L3 h j a i s) (0:Int)).bind fun e=>Z2_J8 h m j a g i e)
 else (
 some (.inr (.inr (a,g))))
def Z2_L1 (g:(List aD))(j:(List (List Int)))(i:aD)(a:(List Int))(h:Int):Option ((aD×(List Int)×Int)⊕((aD×(List Int)×Bool)⊕(aD×(List Int)))) :=
 if (decide (h<(g.length:Int)))=true then (
 if (0≤h∧h<(j.length:Int)) then
 if (0≤h∧h<(g.length:Int)) then
 if (((ix j h).length:Int) != ((ix g h).length:Int))=true then (
 some (.inr (.inl (([]:aD),a,false))))
 else (
 (aI (fun s:aD×(List Int)×Int=>Z2_L2 g j h s.1 s.2.1 s.2.2) (i,a,(0:Int))).bind fun e=>match e with
 | .inl e=>some (.inr (.inl e))
 | .inr e=>Z2_J10 h e.1 e.2)
 else none
 else none)
 else (
 some (.inr (.inr (i,a))))
def Z2 (a:(List aD))(h:aD)(g:(List (List Int))):Option (aD×(List Int)×Bool) :=
 if (0≤(h.length:Int)∧(h.length:Int)≤140737488355328∧8*(h.length:Int)≤281474976710656) then
 (aI (fun s:aD×(List Int)×Int=>Z2_L1 a g s.1 s.2.1 s.2.2) (h,(List.replicate (h.length:Int).toNat (0:Int)),(0:Int))).bind fun e=>match e with
 | .inl e=>some e
 | .inr e=>Z2_J11 e.1 e.2
 else none
def Z0b (a:(List Int)):Option ((List Int)) :=
 if ([]:List Int).length+a.length≤17592186044416 then
 some (([]:List Int)++a)
 else none
def Z0h (a:(List Int)):Option (Tensor) :=
 (Z0b a).bind fun g =>
 (Zp a).bind fun e =>
 if (0≤e∧e≤140737488355328∧8*e≤281474976710656) then
 some (⟨g,(List.replicate e.toNat (0:Int))⟩:Tensor)
 else none
def Zg_J1 (a:(List Int)):Option ((List Int)) :=
 some a
def Zg_L1 (a:(List Int))(g:Int)(h:(List Int))(e:Int):Option ((Int×(List Int)×Int)⊕((List Int))) :=
 if (decide (e≥0))=true then (
 if (0≤e∧e<(a.length:Int)) then
 if (ix a e)≠0 then
 if (0≤e∧e<((List.replicate (a.length:Int).toNat (0:Int)).length:Int)) then
 some (.inl ((aK (g.tdiv (ix a e))),(h.set e.toNat (g.tmod (ix a e))),(aK (e - 1))))
 else none
 else none
 else none)
 else (
 some (.inr h))
def Zg (a:(List Int))(k3:Int):Option ((List Int)) :=
 if (0≤(a.length:Int)∧(a.length:Int)≤140737488355328∧8*(a.length:Int)≤281474976710656) then
 (aI (fun s:Int×(List Int)×Int=>Zg_L1 a s.1 s.2.1 s.2.2) (k3,(List.replicate (a.length:Int).toNat (0:Int)),(aK ((a.length:Int) - 1)))).bind fun e=>Zg_J1 e
 else none
def Z7_J7 (a:(List Int)):Option ((List Int)) :=
 some a
def Z7_J6 (a:Int)(e:(List Int)):Option (((List Int)×Int)⊕((List Int))) :=
 some (.inl (e,(aK (a+1))))
def Z7_J5 (a:Int)(e:(List Int)):Option (((List Int)×Int)⊕((List Int))) :=
 some (.inl (e,(aK (a+1))))
def Z7_L2 (h:aD)(a:aD)(e:(List Int))(j:Int)(i:(List Int))(g:Int):Option (((List Int)×Int)⊕((List Int))) :=
 if (decide (g<(a.length:Int)))=true then (
 if (0≤g∧g<(a.length:Int)) then
 if (0≤j∧j<(h.length:Int)) then
 if ((bt a g)==(bt h j))=true then (
 if (0≤g∧g<(e.length:Int)) then
 if i.length+([(ix e g)]:List Int).length≤17592186044416 then
 Z7_J5 g (i++([(ix e g)]:List Int))
 else none
 else none)
 else (
 Z7_J5 g i)
 else none
 else none)
 else (
 some (.inr i))
def Z7_L1 (a:aD)(g:aD)(h:(List Int))(j:(List Int))(i:Int):Option (((List Int)×Int)⊕((List Int))) :=
 if (decide (i<(a.length:Int)))=true then (
 (aI (fun s:(List Int)×Int=>Z7_L2 a g h i s.1 s.2) (j,(0:Int))).bind fun e=>Z7_J6 i e)
 else (
 some (.inr j))
def Z7 (h:aD)(a:aD)(g:(List Int)):Option ((List Int)) :=
 (aI (fun s:(List Int)×Int=>Z7_L1 h a g s.1 s.2) (([]:List Int),(0:Int))).bind fun e=>Z7_J7 e
def Zy_J1 (a:Int):Option (Int) :=
 some a
def Zy_L1 (e:(List Int))(g:(List Int))(h:Int)(a:Int):Option ((Int×Int)⊕(Int)) :=
 if (decide (a<(e.length:Int)))=true then (
 if (0≤a∧a<(e.length:Int)) then
 if (0≤a∧a<(g.length:Int)) then
 some (.inl ((aK ((aK (h*(ix e a)))+(ix g a))),(aK (a+1))))
 else none
 else none)
 else (
 some (.inr h))
def Zy (g:(List Int))(a:(List Int)):Option (Int) :=
 (aI (fun s:Int×Int=>Zy_L1 g a s.1 s.2) ((0:Int),(0:Int))).bind fun e=>Zy_J1 e
def Z0f (t1:Tensor)(a:(List Int)):Option (Int) :=
 (Zy t1.Dims a).bind fun e =>
 if (0≤e∧e<(t1.Data.length:Int)) then
 some (ix t1.Data e)
 else none
def Zi_J1 (a:Int):Option (Int) :=
 some a
def Zi (p1:Int):Option (Int) :=
 if (decide ((p1.tmod (2147483647:Int))<0))=true then (
 Zi_J1 (aK ((p1.tmod (2147483647:Int))+2147483647)))
 else (
 Zi_J1 (p1.tmod (2147483647:Int)))
def Z0w (a:Int)(e:Int):Option (Int) :=
 (Zi a).bind fun g =>
 (Zi e).bind fun h =>
 (Zi (aK (g*h))).bind fun i =>
 some i
def Z0v (a:Int)(e:Int):Option (Int) :=
 (Zi a).bind fun g =>
 (Zi e).bind fun h =>
 (Zi (aK (g+h))).bind fun i =>
 some i
def Z4_J5 (e:Tensor)(a:(List Int)):Option (Tensor) :=
 some (⟨e.Dims,a⟩:Tensor)
def Z4_J4 (q:(List aD)×aD×Bool)(j:Tensor)(e:(List Int))(h:Int)(g:(List Int))(m:Int):Option (((List Int)×Int)⊕((List Int))) :=
 if (0≤(0:Int)∧(0:Int)≤(q.2.1.length:Int)∧(q.2.1.length:Int)≤(g.length:Int)) then
 (Zy j.Dims (sub g (0:Int) (q.2.1.length:Int))).bind fun a =>
 if (0≤a∧a<(j.Data.length:Int)) then
 (Z0v (ix e a) m).bind fun i =>
 some (.inl ((e.set a.toNat i),(aK (h+1))))
 else none
 else none
def Z4_L4 (m:(List Tensor))(r:(List aD)×aD×Bool)(q:aD×(List Int)×Bool)(g:(List Int))(e:Int)(a:Int):Option ((Int×Int)⊕(Int)) :=
 if (decide (a<(r.1.length:Int)))=true then (
 if (0≤a∧a<(m.length:Int)) then
 if (0≤a∧a<(r.1.length:Int)) then
 (Z7 (ix r.1 a) q.1 g).bind fun h =>
 (Z0f (ix m a) h).bind fun i =>
 (Z0w e i).bind fun j =>
 some (.inl (j,(aK (a+1))))
 else none
 else none)
 else (
 some (.inr e))
def Z4_L3 (q:(List Tensor))(r:(List aD)×aD×Bool)(j:aD×(List Int)×Bool)(m:Tensor)(h:Int)(a:(List Int))(g:Int):Option (((List Int)×Int)⊕((List Int))) :=
 if (decide (g<h))=true then (
 (Zg j.2.1 g).bind fun i =>
 (aI (fun s:Int×Int=>Z4_L4 q r j i s.1 s.2) ((1:Int),(0:Int))).bind fun e=>Z4_J4 r m a g i e)
 else (
 some (.inr a))
def Z4_J2 (i:(List Tensor))(j:(List aD)×aD×Bool)(h:aD×(List Int)×Bool)(g:Tensor)(a:Int):Option (Tensor) :=
 (aI (fun s:(List Int)×Int=>Z4_L3 i j h g a s.1 s.2) (g.Data,(0:Int))).bind fun e=>Z4_J5 g e
def Z4_L2 (g:aD×(List Int)×Bool)(a:Int)(e:Int):Option ((Int×Int)⊕(Int)) :=
 if (decide (e<(g.2.1.length:Int)))=true then (
 if (0≤e∧e<(g.2.1.length:Int)) then
 some (.inl ((aK (a*(ix g.2.1 e))),(aK (e+1))))
 else none)
 else (
 some (.inr a))
def Z4_J1 (m:(List Tensor))(h:(List aD)×aD×Bool)(g:(List (List Int))):Option (Tensor) :=
 (Z2 h.1 h.2.1 g).bind fun a =>
 if (!a.2.2)=false→(0≤(0:Int)∧(0:Int)≤(h.2.1.length:Int)∧(h.2.1.length:Int)≤(a.2.1.length:Int)) then
 (bR (!(!a.2.2)) (Z0c (sub a.2.1 (0:Int) (h.2.1.length:Int)))).bind fun i =>
 if ((!a.2.2)||(!i))=true then (
 some (⟨([]:List Int),([]:List Int)⟩:Tensor))
 else (
 if (0≤(0:Int)∧(0:Int)≤(h.2.1.length:Int)∧(h.2.1.length:Int)≤(a.2.1.length:Int)) then
 (Z0h (sub a.2.1 (0:Int) (h.2.1.length:Int))).bind fun j =>
 (aI (fun s:Int×Int=>Z4_L2 a s.1 s.2) ((1:Int),(0:Int))).bind fun e=>Z4_J2 m h a j e
 else none)
 else none
def Z4_L1 (g:(List Tensor))(a:(List (List Int)))(e:Int):Option (((List (List Int))×Int)⊕((Tensor)⊕((List (List Int))))) :=
 if (decide (e<(g.length:Int)))=true then (
 if (0≤e∧e<(g.length:Int)) then
 (Zo (ix g e)).bind fun h =>
 if (!h)=true then (
 some (.inr (.inl (⟨([]:List Int),([]:List Int)⟩:Tensor))))
 else (
 if a.length+([(ix g e).Dims]:List (List Int)).length≤5864062014805 then
 some (.inl ((a++([(ix g e).Dims]:List (List Int))),(aK (e+1))))
 else none)
 else none)
 else (
 some (.inr (.inr a)))
def Z4 (a:aD)(g:(List Tensor)):Option (Tensor) :=
 (Z1 a).bind fun h =>
 if ((!h.2.2)||((h.1.length:Int) != (g.length:Int)))=true then (
 some (⟨([]:List Int),([]:List Int)⟩:Tensor))
 else (
 (aI (fun s:(List (List Int))×Int=>Z4_L1 g s.1 s.2) (([]:List (List Int)),(0:Int))).bind fun e=>match e with
 | .inl e=>some e
 | .inr e=>Z4_J1 g h e)
def Z0z (t1:Tensor):Option (Tensor) :=
 (Z0b t1.Dims).bind fun a =>
 (Z0b t1.Data).bind fun e =>
 some (⟨a,e⟩:Tensor)
def Zs_J1 (a:(List Int)):Option ((List Int)) :=
 some a
def Zs_L1 (e:Int)(g:(List Int))(a:Int):Option (((List Int)×Int)⊕((List Int))) :=
 if (decide (a<e))=true then (
 if g.length+([a]:List Int).length≤17592186044416 then
 some (.inl ((g++([a]:List Int)),(aK (a+1))))
 else none)
 else (
 some (.inr g))
def Zs (p1:Int)(a:Int):Option ((List Int)) :=
 (aI (fun s:(List Int)×Int=>Zs_L1 a s.1 s.2) (([]:List Int),p1)).bind fun e=>Zs_J1 e
def Z0x (t1:Tensor)(a:Int):Option (Bool) :=
 (Zo t1).bind fun e =>
 some ((e&&(decide (a≥0)))&&(decide (a<(t1.Dims.length:Int))))
def Z05_J1:Option (Bool) :=
 some true
def Z05_L1 (a:(List Int))(g:Int)(e:Int):Option ((Int)⊕((Bool)⊕(Unit))) :=
 if (decide (e<(a.length:Int)))=true then (
 if (0≤e∧e<(a.length:Int)) then
 if ((decide ((ix a e)<0))||(decide ((ix a e)≥g)))=true then (
 some (.inr (.inl false)))
 else (
 some (.inl (aK (e+1))))
 else none)
 else (
 some (.inr (.inr ())))
def Z05 (a:(List Int))(g:Int):Option (Bool) :=
 (aI (fun s:Int=>Z05_L1 a g s) (0:Int)).bind fun e=>match e with
 | .inl e=>some e
 | .inr e=>Z05_J1
def Z0i (g:(List Int))(a:Int)(h:Int):Option ((List Int)) :=
 (Z0b g).bind fun e =>
 if (0≤a∧a<(e.length:Int)) then
 some (e.set a.toNat h)
 else none
def Zx_J1 (a:Tensor)(e:(List Int)):Option (Tensor) :=
 some (⟨a.Dims,e⟩:Tensor)
def Zx_L1 (t1:Tensor)(a:Int)(e:(List Int))(m:(List Int))(i:Tensor)(j:(List Int))(g:Int):Option (((List Int)×Int)⊕((List Int))) :=
 if (decide (g<(i.Data.length:Int)))=true then (
 (Zg m g).bind fun h =>
 if (0≤a∧a<(h.length:Int)) then
 if (0≤(ix h a)∧(ix h a)<(e.length:Int)) then
 (Z0i h a (ix e (ix h a))).bind fun q =>
 (Z0f t1 q).bind fun r =>
 if (0≤g∧g<(i.Data.length:Int)) then
 some (.inl ((j.set g.toNat r),(aK (g+1))))
 else none
 else none
 else none)
 else (
 some (.inr j))
def Zx (t1:Tensor)(g:Int)(a:(List Int)):Option (Tensor) :=
 (Z0x t1 g).bind fun q =>
 if ((!q)||((a.length:Int)==0))=false→(0≤g∧g<(t1.Dims.length:Int)) then
 (bR (!((!q)||((a.length:Int)==0))) (Z05 a (ix t1.Dims g))).bind fun j =>
 if (((!q)||((a.length:Int)==0))||(!j))=true then (
 some (⟨([]:List Int),([]:List Int)⟩:Tensor))
 else (
 (Z0i t1.Dims g (a.length:Int)).bind fun h =>
 (Z0c h).bind fun m =>
 if (!m)=true then (
 some (⟨([]:List Int),([]:List Int)⟩:Tensor))
 else (
 (Z0h h).bind fun i =>
 (aI (fun s:(List Int)×Int=>Zx_L1 t1 g a h i s.1 s.2) (i.Data,(0:Int))).bind fun e=>Zx_J1 i e))
 else none
def Z0_J22 (a:(List (List Tensor))):Option ((List (List Tensor))×Bool) :=
 some (a,true)
def Z0_J21 (e:(List (List Tensor)))(g:Int)(a:(List Tensor)):Option (((List (List Tensor))×Int)⊕((List (List Tensor)))) :=
 if e.length+([a]:List (List Tensor)).length≤5864062014805 then
 some (.inl ((e++([a]:List (List Tensor))),(aK (g+1))))
 else none
def Z0_J20 (a:(List Tensor))(h:Int)(e:(List Int))(g:(List Int)):Option (((List Tensor)×Int)⊕((List Tensor))) :=
 if a.length+([(⟨e,g⟩:Tensor)]:List Tensor).length≤2932031007402 then
 some (.inl ((a++([(⟨e,g⟩:Tensor)]:List Tensor)),(aK (h+1))))
 else none
def Z0_J19 (a:Int)(e:(List Int))(g:(List Int)):Option (((List Int)×(List Int)×Int)⊕((List Int)×(List Int))) :=
 some (.inl (e,g,(aK (a+1))))
def Z0_L5 (g:aD)(B:Int)(u:(List aD)×aD×Bool)(h:Int)(m:Int)(e:Int)(i:(List Int))(j:(List Int))(a:Int):Option (((List Int)×(List Int)×Int)⊕((List Int)×(List Int))) :=
 if (0≤e∧e<(u.1.length:Int)) then
 if (decide (a<((ix u.1 e).length:Int)))=true then (
 if (0≤a∧a<((ix u.1 e).length:Int)) then
 if (0≤(0:Int)∧(0:Int)<(g.length:Int)) then
 if ((bt (ix u.1 e) a)==(bt g 0))=true then (
 if B≠0 then
 (Zs (aK ((aK (m*h)).tdiv B)) (aK ((aK ((aK (m+1))*h)).tdiv B))).bind fun r =>
 (Zx (⟨i,j⟩:Tensor) a r).bind fun q =>
 Z0_J19 a q.Dims q.Data
 else none)
 else (
 Z0_J19 a i j)
 else none
 else none)
 else (
 some (.inr (i,j)))
 else none
def Z0_L4 (h:aD)(r:Int)(m:(List Tensor))(u:(List aD)×aD×Bool)(i:Int)(q:Int)(g:(List Tensor))(a:Int):Option (((List Tensor)×Int)⊕((List Tensor))) :=
 if (decide (a<(m.length:Int)))=true then (
 if (0≤a∧a<(m.length:Int)) then
 (Z0z (ix m a)).bind fun j =>
 (aI (fun s:(List Int)×(List Int)×Int=>Z0_L5 h r u i q a s.1 s.2.1 s.2.2) (j.Dims,j.Data,(0:Int))).bind fun e=>Z0_J20 g a e.1 e.2
 else none)
 else (
 some (.inr g))
def Z0_L3 (g:aD)(m:Int)(j:(List Tensor))(q:(List aD)×aD×Bool)(h:Int)(i:(List (List Tensor)))(a:Int):Option (((List (List Tensor))×Int)⊕((List (List Tensor)))) :=
 if (decide (a<m))=true then (
 (aI (fun s:(List Tensor)×Int=>Z0_L4 g m j q h a s.1 s.2) (([]:List Tensor),(0:Int))).bind fun e=>Z0_J21 i a e)
 else (
 some (.inr i))
def Z0_J7 (g:aD)(i:Int)(h:(List Tensor))(j:(List aD)×aD×Bool)(a:Int):Option ((List (List Tensor))×Bool) :=
 if (decide (a<i))=true then (
 some (([]:List (List Tensor)),false))
 else (
 (aI (fun s:(List (List Tensor))×Int=>Z0_L3 g i h j a s.1 s.2) (([]:List (List Tensor)),(0:Int))).bind fun e=>Z0_J22 e)
def Z0_J6 (e:Int)(a:Int):Option ((Int×Int)⊕(Int)) :=
 some (.inl (a,(aK (e+1))))
def Z0_J5 (e:Int)(a:Int):Option ((Int×Int)⊕(Int)) :=
 some (.inl (a,(aK (e+1))))
def Z0_L2 (g:aD)(i:(List Tensor))(j:(List aD)×aD×Bool)(a:Int)(h:Int)(e:Int):Option ((Int×Int)⊕(Int)) :=
 if (0≤a∧a<(j.1.length:Int)) then
 if (decide (e<((ix j.1 a).length:Int)))=true then (
 if (0≤e∧e<((ix j.1 a).length:Int)) then
 if (0≤(0:Int)∧(0:Int)<(g.length:Int)) then
 if ((bt (ix j.1 a) e)==(bt g 0))=true then (
 if (0≤a∧a<(i.length:Int)) then
 if (0≤e∧e<(((ix i a).Dims).length:Int)) then
 Z0_J5 e (ix ((ix i a).Dims) e)
 else none
 else none)
 else (
 Z0_J5 e h)
 else none
 else none)
 else (
 some (.inr h))
 else none
def Z0_L1 (g:aD)(i:(List Tensor))(j:(List aD)×aD×Bool)(a:Int)(h:Int):Option ((Int×Int)⊕(Int)) :=
 if (decide (h<(j.1.length:Int)))=true then (
 (aI (fun s:Int×Int=>Z0_L2 g i j h s.1 s.2) (a,(0:Int))).bind fun e=>Z0_J6 h e)
 else (
 some (.inr a))
def Z0 (g:aD)(a:aD)(r:Int)(j:(List Tensor)):Option ((List (List Tensor))×Bool) :=
 (Z1 g).bind fun i =>
 (bR (!(!i.2.2)) (Z04 i.1 a)).bind fun h =>
 (bR (!((!i.2.2)||(!h))) (Z0y r (1:Int) (64:Int))).bind fun m =>
 (bR (!(((!i.2.2)||(!h))||(!m))) (Z4 g j)).bind fun q =>
 if ((((!i.2.2)||(!h))||(!m))||((q.Data.length:Int)==0))=true then (
 some (([]:List (List Tensor)),false))
 else (
 (aI (fun s:Int×Int=>Z0_L1 a j i s.1 s.2) ((0:Int),(0:Int))).bind fun e=>Z0_J7 a r j i e)
def bE (a e:aD):Option (Int) :=
 if a.length<4294967281 then some (Lib.index a e) else none
def cF (p1:aD)(a:aD):Option (aD×aD×Bool) :=
 (bE p1 a).bind fun e =>
 if (decide (e≥0))=true then (
 if (0≤(0:Int)∧(0:Int)≤e∧e≤(p1.length:Int)) then
 if (0≤(aK (e+(a.length:Int)))∧(aK (e+(a.length:Int)))≤(p1.length:Int)∧(p1.length:Int)≤(p1.length:Int)) then
 some ((sub p1 (0:Int) e),(sub p1 (aK (e+(a.length:Int))) (p1.length:Int)),true)
 else none
 else none)
 else (
 some (p1,([]:aD),false))
def Z10 (p1:aD)(a:aD):Option (aD×aD×Bool) :=
 (cF p1 a).bind fun e =>
 some (e.1,e.2.1,e.2.2)
def bY (a:Int):Option (Int) :=
 some a
def cO (p1:aD)(e:Int)(a:Int):Option ((Int×Int)⊕(Int)) :=
 if (0≤a∧(a<(p1.length:Int)→bt p1 a<128)) then
 if (decide (a<(p1.length:Int)))=true then (
 some (.inl ((aK (e+1)),(nk p1 a))))
 else (
 some (.inr e))
 else none
def cD (p1:aD):Option (Int) :=
 (aI (fun s:Int×Int=>cO p1 s.1 s.2) ((0:Int),(0:Int))).bind fun e=>bY e
def cA (p1:aD):Option (Int×Int) :=
 if (!(p1==([]:aD)))=true→(0≤(0:Int)∧(0:Int)<(p1.length:Int)) then
 if ((!(p1==([]:aD)))&&(decide ((bt p1 0)<128)))=true then (
 if (0≤(0:Int)∧(0:Int)<(p1.length:Int)) then
 some ((IntKind.wrap .i32 ((bt p1 0))),(1:Int))
 else none)
 else (
 none)
 else none
def Zj_J3 (a:(List aD)):Option ((List aD)) :=
 some a
def Zj_J2 (e:Int)(g:aD)(a:(List aD)):Option ((List aD)) :=
 if (decide (e>0))=true then (
 if (0≤(aK (e - 1))∧(aK (e - 1))<((List.replicate e.toNat ([]:aD)).length:Int)) then
 Zj_J3 (a.set (aK (e - 1)).toNat g)
 else none)
 else (
 Zj_J3 a)
def Zj_L1 (i:Int)(a:aD)(h:(List aD))(g:Int):Option ((aD×(List aD)×Int)⊕(aD×(List aD))) :=
 if (decide (g<(aK (i - 1))))=true then (
 (cA a).bind fun e =>
 if (0≤(0:Int)∧(0:Int)≤e.2∧e.2≤(a.length:Int)) then
 if (0≤g∧g<((List.replicate i.toNat ([]:aD)).length:Int)) then
 if (0≤e.2∧e.2≤(a.length:Int)∧(a.length:Int)≤(a.length:Int)) then
 some (.inl ((sub a e.2 (a.length:Int)),(h.set g.toNat (sub a (0:Int) e.2)),(aK (g+1))))
 else none
 else none
 else none)
 else (
 some (.inr (a,h)))
def Zj_J1 (p1:aD)(a:Int):Option ((List aD)) :=
 if (0≤a∧a≤140737488355328∧16*a≤281474976710656) then
 (aI (fun s:aD×(List aD)×Int=>Zj_L1 a s.1 s.2.1 s.2.2) (p1,(List.replicate a.toNat ([]:aD)),(0:Int))).bind fun e=>Zj_J2 a e.1 e.2
 else none
def Zj (p1:aD)(a:Int):Option ((List aD)) :=
 (cD p1).bind fun e =>
 if ((decide (a<0))||(decide (a>e)))=true then (
 Zj_J1 p1 e)
 else (
 Zj_J1 p1 a)
def Z18 (a e:aD):Option (Int) :=
 match e with
 | [c]=>some (Lib.countByte a c)
 | _=>none
def Z08 (p1:aD)(a:aD):Option (Int) :=
 (bE p1 a).bind fun e =>
 some e
def Zd_J3 (p1:aD)(e:Int)(h:aD)(g:(List aD))(a:Int):Option ((List aD)) :=
 if (0≤a∧a<((List.replicate (if (aK ((p1.length:Int)+1))<e then (aK ((p1.length:Int)+1)) else e).toNat ([]:aD)).length:Int)) then
 if (0≤(0:Int)∧(0:Int)≤(aK (a+1))∧(aK (a+1))≤((List.replicate (if (aK ((p1.length:Int)+1))<e then (aK ((p1.length:Int)+1)) else e).toNat ([]:aD)).length:Int)) then
 some (sub (g.set a.toNat h) (0:Int) (aK (a+1)))
 else none
 else none
def Zd_L1 (p1:aD)(i:aD)(a:Int)(j:Int)(e:aD)(m:(List aD))(g:Int):Option ((aD×(List aD)×Int)⊕(aD×(List aD)×Int)) :=
 if (decide (g<(aK ((if (aK ((p1.length:Int)+1))<j then (aK ((p1.length:Int)+1)) else j) - 1))))=true then (
 (Z08 e i).bind fun h =>
 if (decide (h<0))=true then (
 some (.inr (e,m,g)))
 else (
 if (0≤(0:Int)∧(0:Int)≤(aK (h+a))∧(aK (h+a))≤(e.length:Int)) then
 if (0≤g∧g<((List.replicate (if (aK ((p1.length:Int)+1))<j then (aK ((p1.length:Int)+1)) else j).toNat ([]:aD)).length:Int)) then
 (nm (m.set g.toNat (sub e (0:Int) (aK (h+a))))).bind fun q =>
 if (0≤(aK (h+(i.length:Int)))∧(aK (h+(i.length:Int)))≤(e.length:Int)∧(e.length:Int)≤(e.length:Int)) then
 some (.inl ((sub e (aK (h+(i.length:Int))) (e.length:Int)),q,(aK (g+1))))
 else none
 else none
 else none))
 else (
 some (.inr (e,m,g)))
def Zd_J2 (p1:aD)(h:aD)(g:Int)(a:Int):Option ((List aD)) :=
 if (0≤(if (aK ((p1.length:Int)+1))<a then (aK ((p1.length:Int)+1)) else a)∧(if (aK ((p1.length:Int)+1))<a then (aK ((p1.length:Int)+1)) else a)≤140737488355328∧16*(if (aK ((p1.length:Int)+1))<a then (aK ((p1.length:Int)+1)) else a)≤281474976710656) then
 (aI (fun s:aD×(List aD)×Int=>Zd_L1 p1 h g a s.1 s.2.1 s.2.2) (p1,(List.replicate (if (aK ((p1.length:Int)+1))<a then (aK ((p1.length:Int)+1)) else a).toNat ([]:aD)),(0:Int))).bind fun e=>Zd_J3 p1 a e.1 e.2.1 e.2.2
 else none
def Zd (p1:aD)(e:aD)(a:Int)(g:Int):Option ((List aD)) :=
 if (g==0)=true then (
 some ([]:List aD))
 else (
 if (e==([]:aD))=true then (
 (Zj p1 g).bind fun i =>
 some i)
 else (
 if (decide (g<0))=true then (
 (Z18 p1 e).bind fun h =>
 Zd_J2 p1 e a (aK (h+1)))
 else (
 Zd_J2 p1 e a g)))
def Z11 (p1:aD)(a:aD):Option ((List aD)) :=
 (Zd p1 a (0:Int) (-1:Int)).bind fun e =>
 some e
def bQ (e:aD)(a:Int):Option (Int) :=
 some (Lib.indexByte e a.toNat.toUInt8)
def Z0d (p1:aD)(a:Int):Option (Int) :=
 (bQ p1 a).bind fun e =>
 some e
def Z6_J4 (a:aD×aD×Bool)(e:(List aD)):Option ((List aD)×aD×Bool) :=
 some (e,a.2.1,true)
def Z6_L3 (e:aD×aD×Bool)(a:Int):Option ((Int)⊕(((List aD)×aD×Bool)⊕(Unit))) :=
 if (decide (a<(e.2.1.length:Int)))=true then (
 if (0≤a∧a<(e.2.1.length:Int)) then
 if ((decide ((bt e.2.1 a)<97))||(decide ((bt e.2.1 a)>122)))=false→(0≤(0:Int)∧(0:Int)≤a∧a≤(e.2.1.length:Int)) then
 (bR (!((decide ((bt e.2.1 a)<97))||(decide ((bt e.2.1 a)>122)))) (Z0d (sub e.2.1 (0:Int) a) (bt e.2.1 a))).bind fun g =>
 (bR (!(((decide ((bt e.2.1 a)<97))||(decide ((bt e.2.1 a)>122)))||(decide (g≥0)))) (Z0d e.1 (bt e.2.1 a))).bind fun h =>
 if ((((decide ((bt e.2.1 a)<97))||(decide ((bt e.2.1 a)>122)))||(decide (g≥0)))||(decide (h<0)))=true then (
 some (.inr (.inl (([]:List aD),([]:aD),false))))
 else (
 some (.inl (aK (a+1))))
 else none
 else none)
 else (
 some (.inr (.inr ())))
def Z6_J3 (a:aD×aD×Bool)(g:(List aD)):Option ((List aD)×aD×Bool) :=
 (aI (fun s:Int=>Z6_L3 a s) (0:Int)).bind fun e=>match e with
 | .inl e=>some e
 | .inr e=>Z6_J4 a g
def Z6_J2 (a:Int):Option ((Int)⊕(((List aD)×aD×Bool)⊕(Unit))) :=
 some (.inl (aK (a+1)))
def Z6_L2 (g:(List aD))(e:Int)(a:Int):Option ((Int)⊕(((List aD)×aD×Bool)⊕(Unit))) :=
 if (decide (a<((ix g e).length:Int)))=true then (
 if (0≤a∧a<((ix g e).length:Int)) then
 if ((decide ((bt (ix g e) a)<97))||(decide ((bt (ix g e) a)>122)))=true then (
 some (.inr (.inl (([]:List aD),([]:aD),false))))
 else (
 some (.inl (aK (a+1))))
 else none)
 else (
 some (.inr (.inr ())))
def Z6_L1 (g:(List aD))(a:Int):Option ((Int)⊕(((List aD)×aD×Bool)⊕(Unit))) :=
 if (decide (a<(g.length:Int)))=true then (
 if (0≤a∧a<(g.length:Int)) then
 if (decide (((ix g a).length:Int)>6))=true then (
 some (.inr (.inl (([]:List aD),([]:aD),false))))
 else (
 (aI (fun s:Int=>Z6_L2 g a s) (0:Int)).bind fun e=>match e with
 | .inl e=>some (.inr (.inl e))
 | .inr e=>Z6_J2 a)
 else none)
 else (
 some (.inr (.inr ())))
def Z6 (a:aD):Option ((List aD)×aD×Bool) :=
 (Z10 a str0).bind fun g =>
 if ((!g.2.2)||(decide ((g.2.1.length:Int)>6)))=true then (
 some (([]:List aD),([]:aD),false))
 else (
 (Z11 g.1 str1).bind fun h =>
 if (decide ((h.length:Int)>6))=true then (
 some (([]:List aD),([]:aD),false))
 else (
 (aI (fun s:Int=>Z6_L1 h s) (0:Int)).bind fun e=>match e with
 | .inl e=>some e
 | .inr e=>Z6_J3 g h))
def strings_Join (a:List aD)(e:aD):Option (aD) :=
 if a.length≤140737488355328∧(Lib.join a e).length≤140737488355328 then some (Lib.join a e) else none
def Z17 (p1:aD)(a:aD):Option (Bool) :=
 (Z08 p1 a).bind fun e =>
 some (decide (e≥0))
def Z0r (e:aD)(a:aD):Option ((List aD)×aD×Bool) :=
 (Z6 e).bind fun g =>
 (bR (!((!g.2.2)||((a.length:Int) != 1))) (strings_Join g.1 ([]:aD))).bind fun h =>
 (bR (!((!g.2.2)||((a.length:Int) != 1))) (Z17 h a)).bind fun i =>
 if (((!g.2.2)||((a.length:Int) != 1))||(!i))=true then (
 some (([]:List aD),([]:aD),false))
 else (
 some (g.1,g.2.1,true))
def Z0t (p1:Int)(e:Int)(a:Int):Option (Bool) :=
 some ((decide (p1≥e))&&(decide (p1≤a)))
def Zc_J1 (a:(List Int)):Option (Bool) :=
 some (decide ((a.length:Int)≤6))
def Zc_L1 (a:(List Int))(g:Int)(e:Int):Option ((Int×Int)⊕((Bool)⊕(Unit))) :=
 if (decide (e<(a.length:Int)))=true then (
 if (0≤e∧e<(a.length:Int)) then
 if ((decide ((ix a e)<1))||(decide ((ix a e)>4096)))=true then (
 some (.inr (.inl false)))
 else (
 if (decide ((aK (g*(ix a e)))>4096))=true then (
 some (.inr (.inl false)))
 else (
 some (.inl ((aK (g*(ix a e))),(aK (e+1))))))
 else none)
 else (
 some (.inr (.inr ())))
def Zc (a:(List Int)):Option (Bool) :=
 (aI (fun s:Int×Int=>Zc_L1 a s.1 s.2) ((1:Int),(0:Int))).bind fun e=>match e with
 | .inl e=>some e
 | .inr e=>Zc_J1 a
def Ze_J1 (a:Int):Option (Int) :=
 some a
def Ze_L1 (a:(List Int))(g:Int)(e:Int):Option ((Int×Int)⊕(Int)) :=
 if (decide (e<(a.length:Int)))=true then (
 if (0≤e∧e<(a.length:Int)) then
 some (.inl ((aK (g*(ix a e))),(aK (e+1))))
 else none)
 else (
 some (.inr g))
def Ze (a:(List Int)):Option (Int) :=
 (aI (fun s:Int×Int=>Ze_L1 a s.1 s.2) ((1:Int),(0:Int))).bind fun e=>Ze_J1 e
def Z12 (p1:Int):Option (Bool) :=
 some ((decide (p1≥0))&&(decide (p1<2147483647)))
def Z01_J1:Option (Bool) :=
 some true
def Z01_L1 (e:(List Int))(a:Int):Option ((Int)⊕((Bool)⊕(Unit))) :=
 if (decide (a<(e.length:Int)))=true then (
 if (0≤a∧a<(e.length:Int)) then
 (Z12 (ix e a)).bind fun g =>
 if (!g)=true then (
 some (.inr (.inl false)))
 else (
 some (.inl (aK (a+1))))
 else none)
 else (
 some (.inr (.inr ())))
def Z01 (a:(List Int)):Option (Bool) :=
 (aI (fun s:Int=>Z01_L1 a s) (0:Int)).bind fun e=>match e with
 | .inl e=>some e
 | .inr e=>Z01_J1
def Z0p (t1:Tensor):Option (Bool) :=
 (Zc t1.Dims).bind fun a =>
 (bR a (Ze t1.Dims)).bind fun e =>
 (bR (a&&((t1.Data.length:Int)==e)) (Z01 t1.Data)).bind fun g =>
 some ((a&&((t1.Data.length:Int)==e))&&g)
def Z02_J1:Option (Bool) :=
 some true
def Z02_L1 (e:(List Tensor))(a:Int):Option ((Int)⊕((Bool)⊕(Unit))) :=
 if (decide (a<(e.length:Int)))=true then (
 if (0≤a∧a<(e.length:Int)) then
 (Z0p (ix e a)).bind fun g =>
 if (!g)=true then (
 some (.inr (.inl false)))
 else (
 some (.inl (aK (a+1))))
 else none)
 else (
 some (.inr (.inr ())))
def Z02 (a:(List Tensor)):Option (Bool) :=
 (aI (fun s:Int=>Z02_L1 a s) (0:Int)).bind fun e=>match e with
 | .inl e=>some e
 | .inr e=>Z02_J1
def Z13 (t1:Tensor):Option ((List Int)) :=
 some t1.Dims
def Z06_J1 (a:(List (List Int))):Option ((List (List Int))) :=
 some a
def Z06_L1 (a:(List Tensor))(g:(List (List Int)))(e:Int):Option (((List (List Int))×Int)⊕((List (List Int)))) :=
 if (decide (e<(a.length:Int)))=true then (
 if (0≤e∧e<(a.length:Int)) then
 (Z13 (ix a e)).bind fun h =>
 if (0≤e∧e<((List.replicate (a.length:Int).toNat ([]:(List Int))).length:Int)) then
 some (.inl ((g.set e.toNat h),(aK (e+1))))
 else none
 else none)
 else (
 some (.inr g))
def Z06 (a:(List Tensor)):Option ((List (List Int))) :=
 if (0≤(a.length:Int)∧(a.length:Int)≤140737488355328∧24*(a.length:Int)≤281474976710656) then
 (aI (fun s:(List (List Int))×Int=>Z06_L1 a s.1 s.2) ((List.replicate (a.length:Int).toNat ([]:(List Int))),(0:Int))).bind fun e=>Z06_J1 e
 else none
def Z0s (a:(List Tensor)):Option ((List (List Int))) :=
 (Z06 a).bind fun e =>
 some e
def Zw (a:List Int):Option (List Int) :=
 if a.length≤17592186044416 then some a else none
def Zb_J3 (a:(List Int)):Option ((List Int)) :=
 some a
def Zb_J2 (a:(List Int))(g:Int)(e:Int)(h:(List Int)):Option (((List Int)×Int×Int)⊕((List Int))) :=
 if (0≤e∧e<(a.length:Int)) then
 some (.inl (h,(aK (g*(ix a e))),(aK (e - 1))))
 else none
def Zb_L1 (a:(List Int))(h:(List Int))(g:Int)(e:Int):Option (((List Int)×Int×Int)⊕((List Int))) :=
 if (decide (e≥0))=true then (
 if (0≤e∧e<(a.length:Int)) then
 if (decide ((ix a e)>1))=true then (
 if (0≤e∧e<((List.replicate (a.length:Int).toNat (0:Int)).length:Int)) then
 Zb_J2 a g e (h.set e.toNat g)
 else none)
 else (
 Zb_J2 a g e h)
 else none)
 else (
 some (.inr h))
def Zb (a:(List Int)):Option ((List Int)) :=
 if (0≤(a.length:Int)∧(a.length:Int)≤140737488355328∧8*(a.length:Int)≤281474976710656) then
 (aI (fun s:(List Int)×Int×Int=>Zb_L1 a s.1 s.2.1 s.2.2) ((List.replicate (a.length:Int).toNat (0:Int)),(1:Int),(aK ((a.length:Int) - 1)))).bind fun e=>Zb_J3 e
 else none
def Z8_J7 (a:(List Int)):Option ((List Int)) :=
 some a
def Z8_J6 (a:Int)(e:(List Int)):Option (((List Int)×Int)⊕((List Int))) :=
 some (.inl (e,(aK (a+1))))
def Z8_J5 (a:Int)(e:(List Int)):Option (((List Int)×Int)⊕((List Int))) :=
 some (.inl (e,(aK (a+1))))
def Z8_L2 (f1:form)(a:aD)(h:(List Int))(g:Int)(i:(List Int))(e:Int):Option (((List Int)×Int)⊕((List Int))) :=
 if (decide (e<(a.length:Int)))=true then (
 if (0≤e∧e<(a.length:Int)) then
 if (0≤g∧g<(f1.order.length:Int)) then
 if ((bt a e)==(bt f1.order g))=true then (
 if (0≤g∧g<((List.replicate (f1.order.length:Int).toNat (0:Int)).length:Int)) then
 if (0≤e∧e<(h.length:Int)) then
 Z8_J5 e (i.set g.toNat (aK ((ix i g)+(ix h e))))
 else none
 else none)
 else (
 Z8_J5 e i)
 else none
 else none)
 else (
 some (.inr i))
def Z8_L1 (f1:form)(a:aD)(g:(List Int))(i:(List Int))(h:Int):Option (((List Int)×Int)⊕((List Int))) :=
 if (decide (h<((List.replicate (f1.order.length:Int).toNat (0:Int)).length:Int)))=true then (
 (aI (fun s:(List Int)×Int=>Z8_L2 f1 a g h s.1 s.2) (i,(0:Int))).bind fun e=>Z8_J6 h e)
 else (
 some (.inr i))
def Z8 (f1:form)(a:aD)(g:(List Int)):Option ((List Int)) :=
 if (0≤(f1.order.length:Int)∧(f1.order.length:Int)≤140737488355328∧8*(f1.order.length:Int)≤281474976710656) then
 (aI (fun s:(List Int)×Int=>Z8_L1 f1 a g s.1 s.2) ((List.replicate (f1.order.length:Int).toNat (0:Int)),(0:Int))).bind fun e=>Z8_J7 e
 else none
def Z3_J9 (j:(List aD)×aD×Bool)(e:aD)(g:(List Int))(a:(List Int))(f224:(List (List Int))):Option (form×Bool) :=
 (Zb a).bind fun h =>
 (Z8 (⟨j.1,j.2.1,e,g,a,f224,([]:List Int)⟩:form) j.2.1 h).bind fun i =>
 some ((⟨j.1,j.2.1,e,g,a,f224,i⟩:form),true)
def Z3_L4 (e:(List (List Int)))(r:(List aD)×aD×Bool)(i:aD)(j:(List Int))(m:(List Int))(g:(List (List Int)))(a:Int):Option (((List (List Int))×Int)⊕((List (List Int)))) :=
 if (decide (a<(r.1.length:Int)))=true then (
 if (0≤a∧a<(r.1.length:Int)) then
 if (0≤a∧a<(e.length:Int)) then
 (Zb (ix e a)).bind fun q =>
 (Z8 (⟨r.1,r.2.1,i,j,m,g,([]:List Int)⟩:form) (ix r.1 a) q).bind fun h =>
 if g.length+([h]:List (List Int)).length≤5864062014805 then
 some (.inl ((g++([h]:List (List Int))),(aK (a+1))))
 else none
 else none
 else none)
 else (
 some (.inr g))
def Z3_J8 (h:(List (List Int)))(m:(List aD)×aD×Bool)(i:aD)(a:(List Int)):Option (form×Bool) :=
 if (0≤(0:Int)∧(0:Int)≤(m.2.1.length:Int)∧(m.2.1.length:Int)≤(a.length:Int)) then
 (Zw (sub a (0:Int) (m.2.1.length:Int))).bind fun g =>
 (Zc g).bind fun j =>
 if (!j)=true then (
 some ((⟨([]:List aD),([]:aD),([]:aD),([]:List Int),([]:List Int),([]:List (List Int)),([]:List Int)⟩:form),false))
 else (
 (aI (fun s:(List (List Int))×Int=>Z3_L4 h m i a g s.1 s.2) (([]:List (List Int)),(0:Int))).bind fun e=>Z3_J9 m i a g e)
 else none
def Z3_L3 (g:aD)(e:(List Int))(i:(List Int))(h:Int)(a:Int):Option (((List Int)×Int×Int)⊕((form×Bool)⊕((List Int)))) :=
 if (decide (a<(g.length:Int)))=true then (
 if (0≤a∧a<(g.length:Int)) then
 if (0≤(IntKind.wrap .u8 ((bt g a) - 97))∧(IntKind.wrap .u8 ((bt g a) - 97))<26) then
 if i.length+([(ix e (IntKind.wrap .u8 ((bt g a) - 97)))]:List Int).length≤17592186044416 then
 if (decide ((aK (h*(ix e (IntKind.wrap .u8 ((bt g a) - 97)))))>65536))=true then (
 some (.inr (.inl ((⟨([]:List aD),([]:aD),([]:aD),([]:List Int),([]:List Int),([]:List (List Int)),([]:List Int)⟩:form),false))))
 else (
 some (.inl ((i++([(ix e (IntKind.wrap .u8 ((bt g a) - 97)))]:List Int)),(aK (h*(ix e (IntKind.wrap .u8 ((bt g a) - 97))))),(aK (a+1)))))
 else none
 else none
 else none)
 else (
 some (.inr (.inr i)))
def Z3_J7 (g:(List (List Int)))(i:(List aD)×aD×Bool)(h:aD)(a:(List Int)):Option (form×Bool) :=
 (aI (fun s:(List Int)×Int×Int=>Z3_L3 h a s.1 s.2.1 s.2.2) (([]:List Int),(1:Int),(0:Int))).bind fun e=>match e with
 | .inl e=>some e
 | .inr e=>Z3_J8 g i h e
def Z3_J6 (g:Int)(e:aD)(a:(List Int)):Option ((aD×(List Int)×Int)⊕((form×Bool)⊕(aD×(List Int)))) :=
 some (.inl (e,a,(aK (g+1))))
def Z3_J5 (g:Int)(e:aD)(a:(List Int)):Option ((aD×(List Int)×Int)⊕((form×Bool)⊕(aD×(List Int)))) :=
 some (.inl (e,a,(aK (g+1))))
def Z3_L2 (h:(List (List Int)))(j:(List aD)×aD×Bool)(g:Int)(i:aD)(e:(List Int))(a:Int):Option ((aD×(List Int)×Int)⊕((form×Bool)⊕(aD×(List Int)))) :=
 if (decide (a<((ix j.1 g).length:Int)))=true then (
 if (0≤a∧a<((ix j.1 g).length:Int)) then
 if (0≤(IntKind.wrap .u8 ((bt (ix j.1 g) a) - 97))∧(IntKind.wrap .u8 ((bt (ix j.1 g) a) - 97))<26) then
 if ((ix e (IntKind.wrap .u8 ((bt (ix j.1 g) a) - 97))) != 0)=true→(0≤a∧a<((ix h g).length:Int)) then
 if (((ix e (IntKind.wrap .u8 ((bt (ix j.1 g) a) - 97))) != 0)&&((ix e (IntKind.wrap .u8 ((bt (ix j.1 g) a) - 97))) != (ix (ix h g) a)))=true then (
 some (.inr (.inl ((⟨([]:List aD),([]:aD),([]:aD),([]:List Int),([]:List Int),([]:List (List Int)),([]:List Int)⟩:form),false))))
 else (
 if (0≤a∧a<((ix h g).length:Int)) then
 (nm (e.set (IntKind.wrap .u8 ((bt (ix j.1 g) a) - 97)).toNat (ix (ix h g) a))).bind fun m =>
 (Z0d i (bt (ix j.1 g) a)).bind fun q =>
 if (decide (q<0))=true then (
 if (0≤a∧a≤(aK (a+1))∧(aK (a+1))≤((ix j.1 g).length:Int)) then
 if i.length+(sub (ix j.1 g) a (aK (a+1))).length≤9223372036854775807 then
 Z3_J5 a (i++(sub (ix j.1 g) a (aK (a+1)))) m
 else none
 else none)
 else (
 Z3_J5 a i m)
 else none)
 else none
 else none
 else none)
 else (
 some (.inr (.inr (i,e))))
def Z3_L1 (a:(List (List Int)))(j:(List aD)×aD×Bool)(i:aD)(h:(List Int))(g:Int):Option ((aD×(List Int)×Int)⊕((form×Bool)⊕(aD×(List Int)))) :=
 if (decide (g<(j.1.length:Int)))=true then (
 if (0≤g∧g<(j.1.length:Int)) then
 if (0≤g∧g<(a.length:Int)) then
 if (((ix j.1 g).length:Int) != ((ix a g).length:Int))=true then (
 some (.inr (.inl ((⟨([]:List aD),([]:aD),([]:aD),([]:List Int),([]:List Int),([]:List (List Int)),([]:List Int)⟩:form),false))))
 else (
 (aI (fun s:aD×(List Int)×Int=>Z3_L2 a j g s.1 s.2.1 s.2.2) (i,h,(0:Int))).bind fun e=>match e with
 | .inl e=>some (.inr (.inl e))
 | .inr e=>Z3_J6 g e.1 e.2)
 else none
 else none)
 else (
 some (.inr (.inr (i,h))))
def Z3 (g:aD)(a:(List (List Int))):Option (form×Bool) :=
 (Z6 g).bind fun h =>
 if ((!h.2.2)||((h.1.length:Int) != (a.length:Int)))=true then (
 some ((⟨([]:List aD),([]:aD),([]:aD),([]:List Int),([]:List Int),([]:List (List Int)),([]:List Int)⟩:form),false))
 else (
 (aI (fun s:aD×(List Int)×Int=>Z3_L1 a h s.1 s.2.1 s.2.2) (h.2.1,(List.replicate 26 (0:Int)),(0:Int))).bind fun e=>match e with
 | .inl e=>some e
 | .inr e=>Z3_J7 a h e.1 e.2)
def Z0g (e:Int)(g:Int)(a:Int):Option (Int) :=
 if a≠0 then
 some (aK ((aK (e*g)).tdiv a))
 else none
def Z0q (a:(List Int)):Option (View) :=
 (Zc a).bind fun h =>
 if (!h)=true then (
 some (⟨([]:List Int),([]:List Int),(0:Int),(0:Int)⟩:View))
 else (
 (Zw a).bind fun i =>
 (Zb a).bind fun e =>
 (Ze a).bind fun g =>
 some (⟨i,e,(0:Int),g⟩:View))
def Zk_J1 (v1:View)(e:Int)(a:Int):Option (Bool) :=
 some ((decide (e≥0))&&(decide (a<v1.Base)))
def Zk_L1 (v1:View)(g:Int)(e:Int)(a:Int):Option ((Int×Int×Int)⊕((Bool)⊕(Int×Int))) :=
 if (decide (a<(v1.Strides.length:Int)))=true then (
 if (0≤a∧a<(v1.Strides.length:Int)) then
 if ((decide ((ix v1.Strides a)<(-4096:Int)))||(decide ((ix v1.Strides a)>4096)))=true then (
 some (.inr (.inl false)))
 else (
 if (0≤a∧a<(v1.Dims.length:Int)) then
 some (.inl ((aK (g+(if (aK ((ix v1.Strides a)*(aK ((ix v1.Dims a) - 1))))<0 then (aK ((ix v1.Strides a)*(aK ((ix v1.Dims a) - 1)))) else (0:Int)))),(aK (e+(if (aK ((ix v1.Strides a)*(aK ((ix v1.Dims a) - 1))))>0 then (aK ((ix v1.Strides a)*(aK ((ix v1.Dims a) - 1)))) else (0:Int)))),(aK (a+1))))
 else none)
 else none)
 else (
 some (.inr (.inr (g,e))))
def Zk (v1:View):Option (Bool) :=
 (Zc v1.Dims).bind fun a =>
 if ((((((!a)||((v1.Strides.length:Int) != (v1.Dims.length:Int)))||(decide (v1.Base<1)))||(decide (v1.Base>4096)))||(decide (v1.Offset<0)))||(decide (v1.Offset≥v1.Base)))=true then (
 some false)
 else (
 (aI (fun s:Int×Int×Int=>Zk_L1 v1 s.1 s.2.1 s.2.2) (v1.Offset,v1.Offset,(0:Int))).bind fun e=>match e with
 | .inl e=>some e
 | .inr e=>Zk_J1 v1 e.1 e.2)
def Z0k (e:(List Int))(a:Int):Option (Bool) :=
 some ((decide (a≥0))&&(decide (a<(e.length:Int))))
def Z09_J3 (v1:View)(a:Int)(e:Int)(g:Int):Option (View) :=
 if (0≤a∧a<(v1.Dims.length:Int)) then
 if (0≤a∧a<(v1.Strides.length:Int)) then
 some (⟨(v1.Dims.set a.toNat e),(v1.Strides.set a.toNat g),v1.Offset,v1.Base⟩:View)
 else none
 else none
def Z09 (v1:View)(e:Int)(a:Int)(g:Int):Option (View) :=
 if (a==1)=true then (
 Z09_J3 v1 e a (0:Int))
 else (
 Z09_J3 v1 e a g)
def Z0a_J3 (p1:View)(a:Int)(h:Int)(i:Int)(e:Int):Option (Bool×View×Int) :=
 if (0≤a∧a<(p1.Strides.length:Int)) then
 (Z09 (⟨p1.Dims,p1.Strides,(aK (p1.Offset+(aK (i*(ix p1.Strides a))))),p1.Base⟩:View) a h (aK ((ix p1.Strides a)*e))).bind fun g =>
 some (true,g,e)
 else none
def Z0a (p1:View)(e:Int)(g:Int)(h:Int)(a:Int):Option (Bool×View×Int) :=
 (Z0k p1.Dims e).bind fun i =>
 if (((!i)||(decide (g<1)))||(decide (g>4096)))=true then (
 some (false,p1,a))
 else (
 if (0≤e∧e<(p1.Dims.length:Int)) then
 if ((((decide (h<0))||(decide (h≥(ix p1.Dims e))))||(decide (a<(-4096:Int))))||(decide (a>4096)))=true then (
 some (false,p1,a))
 else (
 if (decide (g>1))=true then (
 if ((decide ((aK (h+(aK (a*(aK (g - 1))))))<0))||(decide ((aK (h+(aK (a*(aK (g - 1))))))≥(ix p1.Dims e))))=true then (
 some (false,p1,a))
 else (
 Z0a_J3 p1 e g h a))
 else (
 Z0a_J3 p1 e g h (0:Int)))
 else none)
def Z15 (v1:View)(m:Int)(q:Int)(r:Int)(e:Int):Option (View×Int) :=
 (Zk v1).bind fun g =>
 if (!g)=true then (
 some ((⟨([]:List Int),([]:List Int),(0:Int),(0:Int)⟩:View),e))
 else (
 (Zw v1.Dims).bind fun h =>
 (Zw v1.Strides).bind fun i =>
 (Z0a (⟨h,i,v1.Offset,v1.Base⟩:View) m q r e).bind fun a =>
 (bR (!(!a.1)) (Zk a.2.1)).bind fun j =>
 if ((!a.1)||(!j))=true then (
 some ((⟨([]:List Int),([]:List Int),(0:Int),(0:Int)⟩:View),a.2.2))
 else (
 some (a.2.1,a.2.2)))
def Z0j (v1:View)(e:Int)(i:Int)(a:Int)(g:Int):Option (View) :=
 (Z15 v1 e a i g).bind fun h =>
 some h.1
def Z14 (g:(List Int))(a:(List Int))(e:Int):Option ((List Int)×Int×(List Int)) :=
 some (g,e,a)
def Za_J2 (YS:Type)(YF:YS→Int→Option (YS×Bool))(e:YS×Bool)(a:(List Int))(h:Int)(g:Int):Option (((List Int)×Int×YS)⊕(YS)) :=
 if (decide (g<0))=true then (
 some (.inr e.1))
 else (
 some (.inl (a,h,e.1)))
def Za_L2 (YS:Type)(YF:YS→Int→Option (YS×Bool))(h:(List Int))(i:(List Int))(e:(List Int))(g:Int)(a:Int):Option (((List Int)×Int×Int)⊕((List Int)×Int×Int)) :=
 if (decide (a≥0))=true then (
 if (0≤a∧a<((List.replicate (h.length:Int).toNat (0:Int)).length:Int)) then
 if (0≤a∧a<(i.length:Int)) then
 if (0≤a∧a<(h.length:Int)) then
 if (decide ((ix (e.set a.toNat (aK ((ix e a)+1))) a)<(ix h a)))=true then (
 some (.inr ((e.set a.toNat (aK ((ix e a)+1))),(aK (g+(ix i a))),a)))
 else (
 (nm ((e.set a.toNat (aK ((ix e a)+1))).set a.toNat (0:Int))).bind fun j =>
 some (.inl (j,(aK ((aK (g+(ix i a))) - (aK ((ix i a)*(ix h a))))),(aK (a - 1)))))
 else none
 else none
 else none)
 else (
 some (.inr (e,g,a)))
def Za_L1 (YS:Type)(YF:YS→Int→Option (YS×Bool))(j:(List Int))(m:(List Int))(a:(List Int))(h:Int)(i:YS):Option (((List Int)×Int×YS)⊕(YS)) :=
 (YF i h).bind fun g =>
 if (!g.2)=true then (
 some (.inr g.1))
 else (
 (aI (fun s:(List Int)×Int×Int=>Za_L2 YS YF j m s.1 s.2.1 s.2.2) (a,h,(aK ((j.length:Int) - 1)))).bind fun e=>Za_J2 YS YF g e.1 e.2.1 e.2.2)
def Za (YS:Type)(YF:YS→Int→Option (YS×Bool))(a:YS)(g:(List Int))(h:Int)(i:(List Int)):Option (YS) :=
 if (0≤(g.length:Int)∧(g.length:Int)≤140737488355328∧8*(g.length:Int)≤281474976710656) then
 (aI (fun s:(List Int)×Int×YS=>Za_L1 YS YF g i s.1 s.2.1 s.2.2) ((List.replicate (g.length:Int).toNat (0:Int)),h,a)).bind fun e=>some e
 else none
def Z19 (a:(List Int))(g:(List Int))(e:Int):Option (((List Int))×Bool) :=
 if (0≤e∧e<(a.length:Int)) then
 if g.length+([(ix a e)]:List Int).length≤17592186044416 then
 some ((g++([(ix a e)]:List Int)),true)
 else none
 else none
def Z0l (a:(List Int))(v3:View):Option (Tensor) :=
 (Zw v3.Dims).bind fun i =>
 (Ze v3.Dims).bind fun e =>
 if (0≤e∧e≤140737488355328∧8*e≤281474976710656) then
 (Z14 v3.Dims v3.Strides v3.Offset).bind fun g =>
 (Za ((List Int)) (fun (s:(List Int)) (x:Int)=>Z19 a s x) ([]:List Int) g.1 g.2.1 g.2.2).bind fun h =>
 some (⟨i,h⟩:Tensor)
 else none
def Z5_J7 (a:(List (List Tensor))):Option ((List (List Tensor))×Bool) :=
 some (a,true)
def Z5_J6 (e:(List (List Tensor)))(g:Int)(a:(List Tensor)):Option (((List (List Tensor))×Int)⊕((List (List Tensor)))) :=
 if e.length+([a]:List (List Tensor)).length≤5864062014805 then
 some (.inl ((e++([a]:List (List Tensor))),(aK (g+1))))
 else none
def Z5_J5 (q:(List Tensor))(a:(List Tensor))(g:Int)(h:(List Int))(i:(List Int))(j:Int)(m:Int):Option (((List Tensor)×Int)⊕((List Tensor))) :=
 (Z0l ((ix q g).Data) (⟨h,i,j,m⟩:View)).bind fun e =>
 if a.length+([e]:List Tensor).length≤2932031007402 then
 some (.inl ((a++([e]:List Tensor)),(aK (g+1))))
 else none
def Z5_L3 (g:aD)(u:(List aD)×aD×Bool)(r:Int)(B:Int)(e:Int)(i:(List Int))(j:(List Int))(m:Int)(q:Int)(a:Int):Option (((List Int)×(List Int)×Int×Int×Int)⊕((List Int)×(List Int)×Int×Int)) :=
 if (0≤a∧(a<((ix u.1 e).length:Int)→bt (ix u.1 e) a<128)) then
 if (decide (a<((ix u.1 e).length:Int)))=true then (
 if (0≤a∧a<((ix u.1 e).length:Int)) then
 if (0≤(0:Int)∧(0:Int)<(g.length:Int)) then
 if ((bt (ix u.1 e) a)==(bt g 0))=true then (
 (Z0j (⟨i,j,m,q⟩:View) a r (aK (B - r)) (1:Int)).bind fun h =>
 some (.inl (h.Dims,h.Strides,h.Offset,h.Base,(nk (ix u.1 e) a))))
 else (
 some (.inl (i,j,m,q,(nk (ix u.1 e) a))))
 else none
 else none)
 else (
 some (.inr (i,j,m,q)))
 else none
def Z5_L2 (i:aD)(j:(List Tensor))(r:(List aD)×aD×Bool)(m:Int)(q:Int)(g:(List Tensor))(a:Int):Option (((List Tensor)×Int)⊕((List Tensor))) :=
 if (decide (a<(j.length:Int)))=true then (
 if (0≤a∧a<(j.length:Int)) then
 (Z0q ((ix j a).Dims)).bind fun h =>
 if (0≤a∧a<(r.1.length:Int)) then
 (aI (fun s:(List Int)×(List Int)×Int×Int×Int=>Z5_L3 i r m q a s.1 s.2.1 s.2.2.1 s.2.2.2.1 s.2.2.2.2) (h.Dims,h.Strides,h.Offset,h.Base,(0:Int))).bind fun e=>Z5_J5 j g a e.1 e.2.1 e.2.2.1 e.2.2.2
 else none
 else none)
 else (
 some (.inr g))
def Z5_L1 (g:aD)(r:Int)(u:(List Tensor))(B:(List aD)×aD×Bool)(j:form×Bool)(q:Int)(h:(List (List Tensor)))(a:Int):Option (((List (List Tensor))×Int)⊕((List (List Tensor)))) :=
 if (decide (a<r))=true then (
 (Z0g a (ix j.1.loops q) r).bind fun i =>
 (Z0g (aK (a+1)) (ix j.1.loops q) r).bind fun m =>
 (aI (fun s:(List Tensor)×Int=>Z5_L2 g u B i m s.1 s.2) (([]:List Tensor),(0:Int))).bind fun e=>Z5_J6 h a e)
 else (
 some (.inr h))
def Z5 (g:aD)(a:aD)(q:Int)(j:(List Tensor)):Option ((List (List Tensor))×Bool) :=
 (Z0r g a).bind fun m =>
 (bR (!(!m.2.2)) (Z0t q (1:Int) (64:Int))).bind fun B =>
 (bR (!((!m.2.2)||(!B))) (Z02 j)).bind fun r =>
 if (((!m.2.2)||(!B))||(!r))=true then (
 some (([]:List (List Tensor)),false))
 else (
 (Z0s j).bind fun u =>
 (Z3 g u).bind fun h =>
 if (!h.2)=true then (
 some (([]:List (List Tensor)),false))
 else (
 (Z08 h.1.order a).bind fun i =>
 if (0≤i∧i<(h.1.loops.length:Int)) then
 if (decide ((ix h.1.loops i)<q))=true then (
 some (([]:List (List Tensor)),false))
 else (
 (aI (fun s:(List (List Tensor))×Int=>Z5_L1 a q j m h i s.1 s.2) (([]:List (List Tensor)),(0:Int))).bind fun e=>Z5_J7 e)
 else none))
def Z03_J1:Option (Bool) :=
 some true
def Z03_L1 (e:(List Int))(g:(List Int))(a:Int):Option ((Int)⊕((Bool)⊕(Unit))) :=
 if (decide (a<(e.length:Int)))=true then (
 if (0≤a∧a<(e.length:Int)) then
 if (0≤a∧a<(g.length:Int)) then
 if ((ix e a) != (ix g a))=true then (
 some (.inr (.inl false)))
 else (
 some (.inl (aK (a+1))))
 else none
 else none)
 else (
 some (.inr (.inr ())))
def Z03 (a:(List Int))(g:(List Int)):Option (Bool) :=
 if ((a.length:Int) != (g.length:Int))=true then (
 some false)
 else (
 (aI (fun s:Int=>Z03_L1 a g s) (0:Int)).bind fun e=>match e with
 | .inl e=>some e
 | .inr e=>Z03_J1)
def Z0m (e:Tensor)(g:Tensor):Option (Bool) :=
 (Z03 e.Dims g.Dims).bind fun h =>
 if (!h)=true then (
 some false)
 else (
 (Z03 e.Data g.Data).bind fun a =>
 if (!a)=true then (
 some false)
 else (
 some true))
def Z00_J1:Option (Bool) :=
 some true
def Z00_L1 (e:(List Tensor))(h:(List Tensor))(a:Int):Option ((Int)⊕((Bool)⊕(Unit))) :=
 if (decide (a<(e.length:Int)))=true then (
 if (0≤a∧a<(e.length:Int)) then
 if (0≤a∧a<(h.length:Int)) then
 (Z0m (ix e a) (ix h a)).bind fun g =>
 if (!g)=true then (
 some (.inr (.inl false)))
 else (
 some (.inl (aK (a+1))))
 else none
 else none)
 else (
 some (.inr (.inr ())))
def Z00 (a:(List Tensor))(g:(List Tensor)):Option (Bool) :=
 if ((a.length:Int) != (g.length:Int))=true then (
 some false)
 else (
 (aI (fun s:Int=>Z00_L1 a g s) (0:Int)).bind fun e=>match e with
 | .inl e=>some e
 | .inr e=>Z00_J1)
def Zt_J1:Option (Bool) :=
 some true
def Zt_L1 (e:(List (List Tensor)))(h:(List (List Tensor)))(a:Int):Option ((Int)⊕((Bool)⊕(Unit))) :=
 if (decide (a<(e.length:Int)))=true then (
 if (0≤a∧a<(e.length:Int)) then
 if (0≤a∧a<(h.length:Int)) then
 (Z00 (ix e a) (ix h a)).bind fun g =>
 if (!g)=true then (
 some (.inr (.inl false)))
 else (
 some (.inl (aK (a+1))))
 else none
 else none)
 else (
 some (.inr (.inr ())))
def Zt (a:(List (List Tensor)))(g:(List (List Tensor))):Option (Bool) :=
 if ((a.length:Int) != (g.length:Int))=true then (
 some false)
 else (
 (aI (fun s:Int=>Zt_L1 a g s) (0:Int)).bind fun e=>match e with
 | .inl e=>some e
 | .inr e=>Zt_J1)
def Zh_J1 (a:Int)(e:(List Int)):Option (Int×(List Int)) :=
 some (a,e)
def Zh_L1 (e:(List Int))(g:(List Int))(k9:Int)(a:Int):Option (((List Int)×Int×Int)⊕(Int×(List Int))) :=
 if (decide (a<(e.length:Int)))=true then (
 if (0≤a∧a<(e.length:Int)) then
 some (.inl ((g.set a.toNat k9),(aK (k9+1)),(aK (a+1))))
 else none)
 else (
 some (.inr (k9,g)))
def Zh (a:(List Int))(k3:Int):Option (Int×(List Int)) :=
 (aI (fun s:(List Int)×Int×Int=>Zh_L1 a s.1 s.2.1 s.2.2) (a,k3,(0:Int))).bind fun e=>Zh_J1 e.1 e.2
def Z9_J1 (a:Int)(e:(List Tensor)):Option (Int×(List Tensor)) :=
 some (a,e)
def Z9_L1 (j:(List Tensor))(a20:(List Tensor))(g:Int)(a:Int):Option (((List Tensor)×Int×Int)⊕(Int×(List Tensor))) :=
 if (decide (a<(j.length:Int)))=true then (
 if (0≤a∧a<(j.length:Int)) then
 (Zh ((ix a20 a).Dims) g).bind fun e =>
 (Zh ((ix (a20.set a.toNat (⟨e.2,(ix a20 a).Data⟩:Tensor)) a).Data) e.1).bind fun h =>
 (nm ((a20.set a.toNat (⟨e.2,(ix a20 a).Data⟩:Tensor)).set a.toNat (⟨(ix (a20.set a.toNat (⟨e.2,(ix a20 a).Data⟩:Tensor)) a).Dims,h.2⟩:Tensor))).bind fun i =>
 some (.inl (i,h.1,(aK (a+1))))
 else none)
 else (
 some (.inr (g,a20)))
def Z9 (a:(List Tensor))(k3:Int):Option (Int×(List Tensor)) :=
 (aI (fun s:(List Tensor)×Int×Int=>Z9_L1 a s.1 s.2.1 s.2.2) (a,k3,(0:Int))).bind fun e=>Z9_J1 e.1 e.2
def Zv_J1 (a:Int)(e:(List (List Tensor))):Option (Int×(List (List Tensor))) :=
 some (a,e)
def Zv_L1 (i:(List (List Tensor)))(e:(List (List Tensor)))(g:Int)(a:Int):Option (((List (List Tensor))×Int×Int)⊕(Int×(List (List Tensor)))) :=
 if (decide (a<(i.length:Int)))=true then (
 if (0≤a∧a<(i.length:Int)) then
 (Z9 (ix e a) g).bind fun h =>
 some (.inl ((e.set a.toNat h.2),h.1,(aK (a+1))))
 else none)
 else (
 some (.inr (g,e)))
def Zv (a:(List (List Tensor)))(k3:Int):Option (Int×(List (List Tensor))) :=
 (aI (fun s:(List (List Tensor))×Int×Int=>Zv_L1 a s.1 s.2.1 s.2.2) (a,k3,(0:Int))).bind fun e=>Zv_J1 e.1 e.2
def Zl_J1 (a:Int):Option (Int) :=
 some a
def Zl_L1 (e:(List Int))(k9:Int)(a:Int):Option ((Int×Int)⊕((Int)⊕(Int))) :=
 if (decide (a<(e.length:Int)))=true then (
 if (0≤a∧a<(e.length:Int)) then
 if ((ix e a) != k9)=true then (
 some (.inr (.inl (-1:Int))))
 else (
 some (.inl ((aK (k9+1)),(aK (a+1)))))
 else none)
 else (
 some (.inr (.inr k9)))
def Zl (a:(List Int))(k3:Int):Option (Int) :=
 (aI (fun s:Int×Int=>Zl_L1 a s.1 s.2) (k3,(0:Int))).bind fun e=>match e with
 | .inl e=>some e
 | .inr e=>Zl_J1 e
def Zu_J1 (a:Int):Option (Int) :=
 some a
def Zu_L1 (i:(List Tensor))(e:Int)(a:Int):Option ((Int×Int)⊕((Int)⊕(Int))) :=
 if (decide (a<(i.length:Int)))=true then (
 if (0≤a∧a<(i.length:Int)) then
 (Zl ((ix i a).Dims) e).bind fun g =>
 if (decide (g<0))=true then (
 some (.inr (.inl (-1:Int))))
 else (
 (Zl ((ix i a).Data) g).bind fun h =>
 if (decide (h<0))=true then (
 some (.inr (.inl (-1:Int))))
 else (
 some (.inl (h,(aK (a+1))))))
 else none)
 else (
 some (.inr (.inr e)))
def Zu (a:(List Tensor))(k3:Int):Option (Int) :=
 (aI (fun s:Int×Int=>Zu_L1 a s.1 s.2) (k3,(0:Int))).bind fun e=>match e with
 | .inl e=>some e
 | .inr e=>Zu_J1 e
def Zm_J1 (a:Int):Option (Int) :=
 some a
def Zm_L1 (h:(List (List Tensor)))(e:Int)(a:Int):Option ((Int×Int)⊕((Int)⊕(Int))) :=
 if (decide (a<(h.length:Int)))=true then (
 if (0≤a∧a<(h.length:Int)) then
 (Zu (ix h a) e).bind fun g =>
 if (decide (g<0))=true then (
 some (.inr (.inl (-1:Int))))
 else (
 some (.inl (g,(aK (a+1)))))
 else none)
 else (
 some (.inr (.inr e)))
def Zm (a:(List (List Tensor)))(k3:Int):Option (Int) :=
 (aI (fun s:Int×Int=>Zm_L1 a s.1 s.2) (k3,(0:Int))).bind fun e=>match e with
 | .inl e=>some e
 | .inr e=>Zm_J1 e
def Z16 (e:aD)(a:aD)(m:Int)(g:(List Tensor)):Option (Bool) :=
 if (decide ((e.length:Int)>1048576))=true then (
 some true)
 else (
 if (decide ((a.length:Int)>1048576))=true then (
 some true)
 else (
 (Z07 g (1048576:Int)).bind fun T =>
 if (decide (T<0))=true then (
 some true)
 else (
 (Zf g).bind fun E =>
 (Z0 e a m E).bind fun h =>
 (Zf g).bind fun q =>
 (Z5 e a m q).bind fun i =>
 (Zt i.1 h.1).bind fun F =>
 if ((!F)||(!(i.2==h.2)))=true then (
 some false)
 else (
 (Zf g).bind fun G =>
 (Z00 q G).bind fun I =>
 if (!I)=true then (
 some false)
 else (
 (Z9 q (1:Int)).bind fun r =>
 (bR (!(decide (r.1<0))) (Zt i.1 h.1)).bind fun J =>
 if (((decide (r.1<0))||(!J))||(!(i.2==h.2)))=true then (
 some false)
 else (
 (Zv i.1 (1:Int)).bind fun j =>
 (Zm j.2 (1:Int)).bind fun u =>
 if (decide (u<0))=true then (
 some false)
 else (
 if (u != j.1)=true then (
 some false)
 else (
 (Zf g).bind fun M =>
 (Z5 e a m M).bind fun B =>
 (Zt B.1 h.1).bind fun O =>
 if ((!O)||(!(B.2==h.2)))=true then (
 some false)
 else (
 (Zm j.2 (1:Int)).bind fun D =>
 if (decide (D<0))=true then (
 some false)
 else (
 if (D != j.1)=true then (
 some false)
 else (
 some true)))))))))))
end
end Go.Proofs.YtmpnollfdpdipaaGreatDoor
