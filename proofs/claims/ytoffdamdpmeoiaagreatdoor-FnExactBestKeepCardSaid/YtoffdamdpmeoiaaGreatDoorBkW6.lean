import Derived.Test.YtoffdamdpmeoiaaGreatDoorBkF
import Derived.Test.YtoffdamdpmeoiaaGreatDoorBkW1
set_option linter.unusedVariables false
set_option maxRecDepth 20000
namespace Go.Proofs.YtoffdamdpmeoiaaGreatDoor
open Go Go.Pg
variable {A2 A3 A4 A5 A6 A8 A9:Option Addr}{D2 D3 D4 D5 D6 D8 D9 N2 N3 N4 N5 N6 N8 N9:Nat}
theorem Z3m_ok  {a:Int}{b:Int}{r:Int×Int}(l:Z3m a b=some r) :
 FnOk Tryz.prog 106 [(iv a),(iv b),(.func (.func 107) [].toArray [].toArray)] [] (fun (h:Nat×Nat×Nat)=>((.func (.func 146) [].toArray [(pt h.1 0),(pt h.2.1 0),(pt h.2.2 0)].toArray),[aK h.1 [(iv r.1)] 3,aK h.2.1 [(iv r.2)] 3,aK h.2.2 [(.func (.func 107) [].toArray [].toArray)] 151])):=by
 unfold Z3m at l
 refine aR Tryz.func106 R 8 R R fun C V=>?_
 refine cN V ?_
 refine aZ ?_
 refine fS (cs:=[(iv a)]) R R R (fun e=>(fS (cs:=[(iv b)]) R R R (fun i=>(fS (cs:=[(.func (.func 107) [].toArray [].toArray)]) R R R (fun j=>(lO (vp _ R) (aB ?_)))))))
 let q:=aK j [(.func (.func 107) [].toArray [].toArray)] 151::aK i [(iv b)] 3::aK e [(iv a)] 3::V
 refine qN q ?_
 refine aV ?_
 refine lO (vp (.func (.func 146) [].toArray [(pt e 0),(pt i 0),(pt j 0)].toArray) R) (lO (vp _ R) ?_)
 refine aV ?_
 cases l
 exact qF (e,i,j) (tE 3 [2,1,0])
theorem Z3n_ok  {a:Int}{b:Int}{r:Int×Int}(l:Z3n a b=some r) :
 FnOk Tryz.prog 106 [(iv a),(iv b),(.func (.func 109) [].toArray [].toArray)] [] (fun (h:Nat×Nat×Nat)=>((.func (.func 146) [].toArray [(pt h.1 0),(pt h.2.1 0),(pt h.2.2 0)].toArray),[aK h.1 [(iv r.1)] 3,aK h.2.1 [(iv r.2)] 3,aK h.2.2 [(.func (.func 109) [].toArray [].toArray)] 151])):=by
 unfold Z3n at l
 refine aR Tryz.func106 R 8 R R fun C V=>?_
 refine cN V ?_
 refine aZ ?_
 refine fS (cs:=[(iv a)]) R R R (fun e=>(fS (cs:=[(iv b)]) R R R (fun i=>(fS (cs:=[(.func (.func 109) [].toArray [].toArray)]) R R R (fun j=>(lO (vp _ R) (aB ?_)))))))
 let q:=aK j [(.func (.func 109) [].toArray [].toArray)] 151::aK i [(iv b)] 3::aK e [(iv a)] 3::V
 refine qN q ?_
 refine aV ?_
 refine lO (vp (.func (.func 146) [].toArray [(pt e 0),(pt i 0),(pt j 0)].toArray) R) (lO (vp _ R) ?_)
 refine aV ?_
 cases l
 exact qF (e,i,j) (tE 3 [2,1,0])
theorem Z3o_ok  {a:Int}{b:Int}{r:Int×Int}(l:Z3o a b=some r) :
 FnOk Tryz.prog 106 [(iv a),(iv b),(.func (.func 111) [].toArray [].toArray)] [] (fun (h:Nat×Nat×Nat)=>((.func (.func 146) [].toArray [(pt h.1 0),(pt h.2.1 0),(pt h.2.2 0)].toArray),[aK h.1 [(iv r.1)] 3,aK h.2.1 [(iv r.2)] 3,aK h.2.2 [(.func (.func 111) [].toArray [].toArray)] 151])):=by
 unfold Z3o at l
 refine aR Tryz.func106 R 8 R R fun C V=>?_
 refine cN V ?_
 refine aZ ?_
 refine fS (cs:=[(iv a)]) R R R (fun e=>(fS (cs:=[(iv b)]) R R R (fun i=>(fS (cs:=[(.func (.func 111) [].toArray [].toArray)]) R R R (fun j=>(lO (vp _ R) (aB ?_)))))))
 let q:=aK j [(.func (.func 111) [].toArray [].toArray)] 151::aK i [(iv b)] 3::aK e [(iv a)] 3::V
 refine qN q ?_
 refine aV ?_
 refine lO (vp (.func (.func 146) [].toArray [(pt e 0),(pt i 0),(pt j 0)].toArray) R) (lO (vp _ R) ?_)
 refine aV ?_
 cases l
 exact qF (e,i,j) (tE 3 [2,1,0])
theorem Z3p_ok  {a:Int}{b:Int}{r:Int×Int}(l:Z3p a b=some r) :
 FnOk Tryz.prog 106 [(iv a),(iv b),(.func (.func 113) [].toArray [].toArray)] [] (fun (h:Nat×Nat×Nat)=>((.func (.func 146) [].toArray [(pt h.1 0),(pt h.2.1 0),(pt h.2.2 0)].toArray),[aK h.1 [(iv r.1)] 3,aK h.2.1 [(iv r.2)] 3,aK h.2.2 [(.func (.func 113) [].toArray [].toArray)] 151])):=by
 unfold Z3p at l
 refine aR Tryz.func106 R 8 R R fun C V=>?_
 refine cN V ?_
 refine aZ ?_
 refine fS (cs:=[(iv a)]) R R R (fun e=>(fS (cs:=[(iv b)]) R R R (fun i=>(fS (cs:=[(.func (.func 113) [].toArray [].toArray)]) R R R (fun j=>(lO (vp _ R) (aB ?_)))))))
 let q:=aK j [(.func (.func 113) [].toArray [].toArray)] 151::aK i [(iv b)] 3::aK e [(iv a)] 3::V
 refine qN q ?_
 refine aV ?_
 refine lO (vp (.func (.func 146) [].toArray [(pt e 0),(pt i 0),(pt j 0)].toArray) R) (lO (vp _ R) ?_)
 refine aV ?_
 cases l
 exact qF (e,i,j) (tE 3 [2,1,0])
theorem Z01_ok  {e:Int}{r:kindOfR}(b:Z01 e=some r) :
 FnOk Tryz.prog 71 [(iv e)] [] (fun (h:Nat×Nat×Nat)=>((dM r (h.1,h.2.1,h.2.2)),[fL r (h.1,h.2.1,h.2.2)])):=by
 unfold Z01 at b
 refine aR Tryz.func71 R 72 R R fun C V=>?_
 refine cN V ?_
 refine aZ ?_
 refine lO (vp _ R) ?_
 refine nP ?_
 split at b
 refine aV ?_
 refine lO (vz (.agg [(.bool false)].toArray) (bA xr xt R R)) (lO (vz (.iface 137 (.agg [(.bool false)].toArray)) (jH xu R)) (lO (vp _ R) ?_))
 refine cV ?_
 cases b
 exact qF (0,0,0) (fun w s=>St.pack (A:=[]) s)
 refine eD ?_
 split at b
 refine aV ?_
 refine lO (vz (.agg [(.bool true)].toArray) (bA xr xt R R)) (lO (vz (.iface 137 (.agg [(.bool true)].toArray)) (jH xu R)) (lO (vp _ R) ?_))
 refine cV ?_
 cases b
 exact qF (0,0,0) (fun w s=>St.pack (A:=[]) s)
 refine aZ ?_
 refine bB (A:=(Bool)×(Unit)) (fun a=>Z01_J1 e a.1=some r) (fun a=>[(0,(iv e)),(3,(iv e)),(12,(.bool a.1))]) (fun a=>V) ?_ ?_
 refine cB ?_
 split at b
 refine aZ ?_
 exact qI ((e==3),()) b tI
 refine eD ?_
 split at b
 refine aZ ?_
 exact qI ((e==4),()) b tI
 refine cV ?_
 exact qI ((e==5),()) b tI
 rintro ⟨x6,_⟩ σ1 b
 dsimp only [Z01_J1] at b
 split at b
 refine cB ?_
 refine lO (vz (.agg [(iv (aI ((aI (e - 3))+1)))].toArray) (bA AO AP R R)) (lO (vz (.iface 139 (.agg [(iv (aI ((aI (e - 3))+1)))].toArray)) (jH AQ R)) (lO (vp _ R) ?_))
 refine cV ?_
 cases b
 exact qF (0,0,0) (fun w s=>St.pack (A:=[]) s)
 refine aZ ?_
 refine bB (A:=(Bool)×(Unit)) (fun a=>Z01_J2 e a.1=some r) (fun a=>[(0,(iv e)),(3,(iv e)),(21,(.bool a.1))]) (fun a=>V) ?_ ?_
 refine cB ?_
 split at b
 refine aZ ?_
 exact qI ((e==6),()) b tI
 refine eD ?_
 split at b
 refine aZ ?_
 exact qI ((e==7),()) b tI
 refine eD ?_
 split at b
 refine aZ ?_
 exact qI ((e==8),()) b tI
 refine cV ?_
 exact qI ((e==9),()) b tI
 rintro ⟨a1,_⟩ σ1 b
 dsimp only [Z01_J2] at b
 split at b
 refine cB ?_
 refine lO (vz (.agg [(iv (aI ((aI (e - 6))+1)))].toArray) (bA AR AS R R)) (lO (vz (.iface 140 (.agg [(iv (aI ((aI (e - 6))+1)))].toArray)) (jH AT R)) (lO (vp _ R) ?_))
 refine cV ?_
 cases b
 exact qF (0,0,0) (fun w s=>St.pack (A:=[]) s)
 refine eD ?_
 split at b
 refine aV ?_
 refine lO (vz (.agg [].toArray) (bA AU AV R R)) (lO (vz (.iface 142 (.agg [].toArray)) (jH AW R)) (lO (vp _ R) ?_))
 refine cV ?_
 cases b
 exact qF (0,0,0) (fun w s=>St.pack (A:=[]) s)
 refine eD ?_
 split at b
 refine aV ?_
 refine lO (vz (.agg [].toArray) (bA AX AY R R)) (lO (vz (.iface 143 (.agg [].toArray)) (jH AZ R)) (lO (vp _ R) ?_))
 refine cV ?_
 cases b
 exact qF (0,0,0) (fun w s=>St.pack (A:=[]) s)
 refine eD ?_
 split at b
 refine aV ?_
 refine lO (vz (.agg [(aG hU),(.func (.func 104) [].toArray [].toArray)].toArray) (bA nk nl R R)) (lO (vz (.iface 146 (.agg [(aG hU),(.func (.func 104) [].toArray [].toArray)].toArray)) (jH np R)) (lO (vp _ R) ?_))
 refine cV ?_
 cases b
 exact qF (0,0,0) (fun w s=>St.pack (A:=[]) s)
 refine eD ?_
 split at b
 refine aV ?_
 refine lO (vz (.agg [(aG hU),(.func (.func 105) [].toArray [].toArray)].toArray) (bA nk nl R R)) (lO (vz (.iface 146 (.agg [(aG hU),(.func (.func 105) [].toArray [].toArray)].toArray)) (jH np R)) (lO (vp _ R) ?_))
 refine cV ?_
 cases b
 exact qF (0,0,0) (fun w s=>St.pack (A:=[]) s)
 refine aZ ?_
 refine bB (A:=(Bool)×(Unit)) (fun a=>Z01_J3 e a.1=some r) (fun a=>[(3,(iv e)),(47,(.bool a.1))]) (fun a=>V) ?_ ?_
 refine cB ?_
 split at b
 refine aZ ?_
 exact qI ((e==14),()) b tI
 refine cV ?_
 exact qI ((e==18),()) b tI
 rintro ⟨a2,_⟩ σ1 b
 dsimp only [Z01_J3] at b
 split at b
 refine aV ?_
 refine lO (vz (.agg [(aG fI),(.func (.func 104) [].toArray [].toArray)].toArray) (bA nk nl R R)) (lO (vz (.iface 146 (.agg [(aG fI),(.func (.func 104) [].toArray [].toArray)].toArray)) (jH np R)) (lO (vp _ R) ?_))
 refine cV ?_
 cases b
 exact qF (0,0,0) (fun w s=>St.pack (A:=[]) s)
 refine eD ?_
 split at b
 refine aZ ?_
 obtain ⟨U,L,b⟩:=bd b
 refine aC (lC 0 rP R (Z3m_ok L) R ?_)
 rintro ⟨i,j,l⟩
 refine lO (vz (.agg [(aG fI),(.func (.func 146) [].toArray [(pt i 0),(pt j 0),(pt l 0)].toArray)].toArray) (bA nk nl R R)) (lO (vz (.iface 146 (.agg [(aG fI),(.func (.func 146) [].toArray [(pt i 0),(pt j 0),(pt l 0)].toArray)].toArray)) (jH np R)) (lO (vp _ R) ?_))
 refine cV ?_
 cases b
 exact qF (i,j,l) (fun w s=>St.pack (A:=[aK i [(iv U.1)] 3,aK j [(iv U.2)] 3,aK l [(.func (.func 107) [].toArray [].toArray)] 151]) s)
 refine eD ?_
 split at b
 refine aZ ?_
 obtain ⟨Y,M,b⟩:=bd b
 refine aC (lC 0 rP R (Z3n_ok M) R ?_)
 rintro ⟨q,u,B⟩
 refine lO (vz (.agg [(aG fI),(.func (.func 146) [].toArray [(pt q 0),(pt u 0),(pt B 0)].toArray)].toArray) (bA nk nl R R)) (lO (vz (.iface 146 (.agg [(aG fI),(.func (.func 146) [].toArray [(pt q 0),(pt u 0),(pt B 0)].toArray)].toArray)) (jH np R)) (lO (vp _ R) ?_))
 refine cV ?_
 cases b
 exact qF (q,u,B) (fun w s=>St.pack (A:=[aK q [(iv Y.1)] 3,aK u [(iv Y.2)] 3,aK B [(.func (.func 109) [].toArray [].toArray)] 151]) s)
 refine eD ?_
 split at b
 refine aZ ?_
 obtain ⟨Z,O,b⟩:=bd b
 refine aC (lC 0 rP R (Z3o_ok O) R ?_)
 rintro ⟨D,E,F⟩
 refine lO (vz (.agg [(aG fI),(.func (.func 146) [].toArray [(pt D 0),(pt E 0),(pt F 0)].toArray)].toArray) (bA nk nl R R)) (lO (vz (.iface 146 (.agg [(aG fI),(.func (.func 146) [].toArray [(pt D 0),(pt E 0),(pt F 0)].toArray)].toArray)) (jH np R)) (lO (vp _ R) ?_))
 refine cV ?_
 cases b
 exact qF (D,E,F) (fun w s=>St.pack (A:=[aK D [(iv Z.1)] 3,aK E [(iv Z.2)] 3,aK F [(.func (.func 111) [].toArray [].toArray)] 151]) s)
 refine eD ?_
 split at b
 refine aZ ?_
 obtain ⟨a0,T,b⟩:=bd b
 refine aC (lC 0 rP R (Z3p_ok T) R ?_)
 rintro ⟨G,I,J⟩
 refine lO (vz (.agg [(aG fI),(.func (.func 146) [].toArray [(pt G 0),(pt I 0),(pt J 0)].toArray)].toArray) (bA nk nl R R)) (lO (vz (.iface 146 (.agg [(aG fI),(.func (.func 146) [].toArray [(pt G 0),(pt I 0),(pt J 0)].toArray)].toArray)) (jH np R)) (lO (vp _ R) ?_))
 refine cV ?_
 cases b
 exact qF (G,I,J) (fun w s=>St.pack (A:=[aK G [(iv a0.1)] 3,aK I [(iv a0.2)] 3,aK J [(.func (.func 113) [].toArray [].toArray)] 151]) s)
 refine cB ?_
 refine lO (vp _ R) ?_
 refine aV ?_
 cases b
 exact qF (0,0,0) (fun w s=>St.pack (A:=[]) s)
theorem Z3r_ok  {k1:leafKind}{r:aN}(a:Z3r k1=some r) :
 FnOk Tryz.prog 198 [(.agg [(.bool k1.data)].toArray)] [] (fun (h:Unit)=>((aG r),[])):=by
 unfold Z3r at a
 refine aR Tryz.func198 R 5 R R fun C V=>?_
 refine cN V ?_
 refine aZ ?_
 refine eT R fun e=>?_
 refine lO (vp (aG ([]:aN)) R) (aB ?_)
 let b:=aK e [(.bool k1.data)] 137::V
 refine qN b ?_
 refine dN ?_
 split at a
 refine aV ?_
 refine lO (vp (aG pE) R) ?_
 refine bL ?_
 cases a
 exact qF () (tE 1 [])
 refine cV ?_
 refine lO (vp (aG hU) R) ?_
 refine aV ?_
 cases a
 exact qF () (tE 1 [])
theorem Z3s_ok  {k1:pairKind}{r:aN}(a:Z3s k1=some r) :
 FnOk Tryz.prog 203 [(.agg [(iv k1.op)].toArray)] [] (fun (h:Unit)=>((aG r),[])):=by
 unfold Z3s at a
 refine aR Tryz.func203 R 3 R R fun C V=>?_
 refine cN V ?_
 refine aZ ?_
 refine eT R fun e=>?_
 refine lO (vp (aG ([]:aN)) R) (aB ?_)
 let b:=aK e [(iv k1.op)] 139::V
 refine qN b ?_
 refine aV ?_
 refine lO (vp (aG ([]:aN)) R) ?_
 refine aV ?_
 cases a
 exact qF () (tE 1 [])
theorem Z3z_ok  {k1:soloKind}{r:aN}(a:Z3z k1=some r) :
 FnOk Tryz.prog 206 [(.agg [(iv k1.op)].toArray)] [] (fun (h:Unit)=>((aG r),[])):=by
 unfold Z3z at a
 refine aR Tryz.func206 R 3 R R fun C V=>?_
 refine cN V ?_
 refine aZ ?_
 refine eT R fun e=>?_
 refine lO (vp (aG ([]:aN)) R) (aB ?_)
 let b:=aK e [(iv k1.op)] 140::V
 refine qN b ?_
 refine aV ?_
 refine lO (vp (aG ([]:aN)) R) ?_
 refine aV ?_
 cases a
 exact qF () (tE 1 [])
theorem Z40_ok  {k1:topKind}{r:aN}(a:Z40 k1=some r) :
 FnOk Tryz.prog 208 [(.agg [].toArray)] [] (fun (h:Unit)=>((aG r),[])):=by
 unfold Z40 at a
 refine aR Tryz.func208 R 3 R R fun C V=>?_
 refine cN V ?_
 refine aZ ?_
 refine eT R fun e=>?_
 refine lO (vp (aG ([]:aN)) R) (aB ?_)
 let b:=aK e [] 142::V
 refine qN b ?_
 refine aV ?_
 refine lO (vp (aG fI) R) ?_
 refine aV ?_
 cases a
 exact qF () (tE 1 [])
theorem Z3q_ok  {k1:formKind}{r:aN}(a:Z3q k1=some r) :
 FnOk Tryz.prog 210 [(.agg [].toArray)] [] (fun (h:Unit)=>((aG r),[])):=by
 unfold Z3q at a
 refine aR Tryz.func210 R 3 R R fun C V=>?_
 refine cN V ?_
 refine aZ ?_
 refine eT R fun e=>?_
 refine lO (vp (aG ([]:aN)) R) (aB ?_)
 let b:=aK e [] 143::V
 refine qN b ?_
 refine aV ?_
 refine lO (vp (aG kL) R) ?_
 refine aV ?_
 cases a
 exact qF () (tE 1 [])
theorem Z3x_ok  {k1:shiftKind}{r:aN}(a:Z3x k1=some r) :
 FnOk Tryz.prog 226 [(.agg [(aG k1.use),(.func (.func 104) [].toArray [].toArray)].toArray)] [] (fun (h:Unit)=>((aG r),[])):=by
 unfold Z3x at a
 refine aR Tryz.func226 R 5 R R fun C V=>?_
 refine cN V ?_
 refine aZ ?_
 refine eT R fun e=>?_
 refine lO (vp (aG ([]:aN)) R) (aB ?_)
 let b:=aK e [(aG k1.use),(.func (.func 104) [].toArray [].toArray)] 146::V
 refine qN b ?_
 refine cV ?_
 refine lO (vp (aG k1.use) R) ?_
 refine aV ?_
 cases a
 exact qF () (tE 1 [])
theorem Z3y_ok  {k1:shiftKind}{r:aN}(a:Z3y k1=some r) :
 FnOk Tryz.prog 226 [(.agg [(aG k1.use),(.func (.func 105) [].toArray [].toArray)].toArray)] [] (fun (h:Unit)=>((aG r),[])):=by
 unfold Z3y at a
 refine aR Tryz.func226 R 5 R R fun C V=>?_
 refine cN V ?_
 refine aZ ?_
 refine eT R fun e=>?_
 refine lO (vp (aG ([]:aN)) R) (aB ?_)
 let b:=aK e [(aG k1.use),(.func (.func 105) [].toArray [].toArray)] 146::V
 refine qN b ?_
 refine cV ?_
 refine lO (vp (aG k1.use) R) ?_
 refine aV ?_
 cases a
 exact qF () (tE 1 [])
theorem Z3t_ok  {k1:shiftKind}{i:Int}{j:Int}{a:Nat}{b:Nat}{e:Nat}{r:aN}(l:Z3t k1 i j=some r) :
 FnOk Tryz.prog 226 [(.agg [(aG k1.use),(.func (.func 146) [].toArray [(pt a 0),(pt b 0),(pt e 0)].toArray)].toArray)] [aK a [(iv i)] 3,aK b [(iv j)] 3,aK e [(.func (.func 107) [].toArray [].toArray)] 151] (fun (h:Unit)=>((aG r),[aK a [(iv i)] 3,aK b [(iv j)] 3,aK e [(.func (.func 107) [].toArray [].toArray)] 151])):=by
 unfold Z3t at l
 refine aR Tryz.func226 R 5 R R fun C V=>?_
 refine aZ ?_
 refine eT R fun u=>?_
 refine lO (vp (aG ([]:aN)) R) (aB ?_)
 let q:=aK u [(aG k1.use),(.func (.func 146) [].toArray [(pt a 0),(pt b 0),(pt e 0)].toArray)] 146::aK a [(iv i)] 3::aK b [(iv j)] 3::aK e [(.func (.func 107) [].toArray [].toArray)] 151::V
 refine qN q ?_
 refine cV ?_
 refine lO (vp (aG k1.use) R) ?_
 refine aV ?_
 cases l
 exact qF () (fun w s=>(s.f 4 [1,3]))
theorem Z3u_ok  {k1:shiftKind}{i:Int}{j:Int}{a:Nat}{b:Nat}{e:Nat}{r:aN}(l:Z3u k1 i j=some r) :
 FnOk Tryz.prog 226 [(.agg [(aG k1.use),(.func (.func 146) [].toArray [(pt a 0),(pt b 0),(pt e 0)].toArray)].toArray)] [aK a [(iv i)] 3,aK b [(iv j)] 3,aK e [(.func (.func 109) [].toArray [].toArray)] 151] (fun (h:Unit)=>((aG r),[aK a [(iv i)] 3,aK b [(iv j)] 3,aK e [(.func (.func 109) [].toArray [].toArray)] 151])):=by
 unfold Z3u at l
 refine aR Tryz.func226 R 5 R R fun C V=>?_
 refine aZ ?_
 refine eT R fun u=>?_
 refine lO (vp (aG ([]:aN)) R) (aB ?_)
 let q:=aK u [(aG k1.use),(.func (.func 146) [].toArray [(pt a 0),(pt b 0),(pt e 0)].toArray)] 146::aK a [(iv i)] 3::aK b [(iv j)] 3::aK e [(.func (.func 109) [].toArray [].toArray)] 151::V
 refine qN q ?_
 refine cV ?_
 refine lO (vp (aG k1.use) R) ?_
 refine aV ?_
 cases l
 exact qF () (fun w s=>(s.f 4 [1,3]))
theorem Z3v_ok  {k1:shiftKind}{i:Int}{j:Int}{a:Nat}{b:Nat}{e:Nat}{r:aN}(l:Z3v k1 i j=some r) :
 FnOk Tryz.prog 226 [(.agg [(aG k1.use),(.func (.func 146) [].toArray [(pt a 0),(pt b 0),(pt e 0)].toArray)].toArray)] [aK a [(iv i)] 3,aK b [(iv j)] 3,aK e [(.func (.func 111) [].toArray [].toArray)] 151] (fun (h:Unit)=>((aG r),[aK a [(iv i)] 3,aK b [(iv j)] 3,aK e [(.func (.func 111) [].toArray [].toArray)] 151])):=by
 unfold Z3v at l
 refine aR Tryz.func226 R 5 R R fun C V=>?_
 refine aZ ?_
 refine eT R fun u=>?_
 refine lO (vp (aG ([]:aN)) R) (aB ?_)
 let q:=aK u [(aG k1.use),(.func (.func 146) [].toArray [(pt a 0),(pt b 0),(pt e 0)].toArray)] 146::aK a [(iv i)] 3::aK b [(iv j)] 3::aK e [(.func (.func 111) [].toArray [].toArray)] 151::V
 refine qN q ?_
 refine cV ?_
 refine lO (vp (aG k1.use) R) ?_
 refine aV ?_
 cases l
 exact qF () (fun w s=>(s.f 4 [1,3]))
theorem Z3w_ok  {k1:shiftKind}{i:Int}{j:Int}{a:Nat}{b:Nat}{e:Nat}{r:aN}(l:Z3w k1 i j=some r) :
 FnOk Tryz.prog 226 [(.agg [(aG k1.use),(.func (.func 146) [].toArray [(pt a 0),(pt b 0),(pt e 0)].toArray)].toArray)] [aK a [(iv i)] 3,aK b [(iv j)] 3,aK e [(.func (.func 113) [].toArray [].toArray)] 151] (fun (h:Unit)=>((aG r),[aK a [(iv i)] 3,aK b [(iv j)] 3,aK e [(.func (.func 113) [].toArray [].toArray)] 151])):=by
 unfold Z3w at l
 refine aR Tryz.func226 R 5 R R fun C V=>?_
 refine aZ ?_
 refine eT R fun u=>?_
 refine lO (vp (aG ([]:aN)) R) (aB ?_)
 let q:=aK u [(aG k1.use),(.func (.func 146) [].toArray [(pt a 0),(pt b 0),(pt e 0)].toArray)] 146::aK a [(iv i)] 3::aK b [(iv j)] 3::aK e [(.func (.func 113) [].toArray [].toArray)] 151::V
 refine qN q ?_
 refine cV ?_
 refine lO (vp (aG k1.use) R) ?_
 refine aV ?_
 cases l
 exact qF () (fun w s=>(s.f 4 [1,3]))
theorem ke  {r:kindOfR}{b h1 h2:Nat}{q:aN}(a:gC r=some q) :
 InvOk Tryz.prog (dM r (b,h1,h2)) "loop.example/g00033/impl.uses" [] [fL r (b,h1,h2)] (fun (h:Unit)=>((aG q),[fL r (b,h1,h2)])):=by
 unfold gC at a
 rcases cF a with ⟨M,a⟩|⟨M,a⟩
 ·cases a
 rcases cF a with ⟨u,a⟩|⟨u,a⟩
 ·obtain ⟨t,i,i0,e,l⟩:=r
  obtain rfl:=Nat.eq_of_beq_eq_true u
  exact InvOk.mk (qz _) (((Z3r_ok a).perm (Pre':=[pk []]) (fun _ _ _ s=>St.unpack (A:=[]) s)).post id (fun _=>rfl) (fun _ _ _ _ s=>St.pack (A:=[]) (s)))
 rcases cF a with ⟨B,a⟩|⟨B,a⟩
 ·obtain ⟨t,i,i0,e,l⟩:=r
  obtain rfl:=Nat.eq_of_beq_eq_true B
  exact InvOk.mk (qB _) (((Z3s_ok a).perm (Pre':=[pk []]) (fun _ _ _ s=>St.unpack (A:=[]) s)).post id (fun _=>rfl) (fun _ _ _ _ s=>St.pack (A:=[]) (s)))
 rcases cF a with ⟨D,a⟩|⟨D,a⟩
 ·obtain ⟨t,i,i0,e,l⟩:=r
  obtain rfl:=Nat.eq_of_beq_eq_true D
  exact InvOk.mk (qC _) (((Z3z_ok a).perm (Pre':=[pk []]) (fun _ _ _ s=>St.unpack (A:=[]) s)).post id (fun _=>rfl) (fun _ _ _ _ s=>St.pack (A:=[]) (s)))
 rcases cF a with ⟨E,a⟩|⟨E,a⟩
 ·obtain ⟨t,i,i0,e,l⟩:=r
  obtain rfl:=Nat.eq_of_beq_eq_true E
  exact InvOk.mk (qD _) (((Z40_ok (k1:=⟨⟩) a).perm (Pre':=[pk []]) (fun _ _ _ s=>St.unpack (A:=[]) s)).post id (fun _=>rfl) (fun _ _ _ _ s=>St.pack (A:=[]) (s)))
 rcases cF a with ⟨F,a⟩|⟨F,a⟩
 ·obtain ⟨t,i,i0,e,l⟩:=r
  obtain rfl:=Nat.eq_of_beq_eq_true F
  exact InvOk.mk (qG _) (((Z3q_ok (k1:=⟨⟩) a).perm (Pre':=[pk []]) (fun _ _ _ s=>St.unpack (A:=[]) s)).post id (fun _=>rfl) (fun _ _ _ _ s=>St.pack (A:=[]) (s)))
 rcases cF a with ⟨G,a⟩|⟨G,a⟩
 ·obtain ⟨t,i,i0,e,l⟩:=r
  obtain rfl:=Nat.eq_of_beq_eq_true G
  exact InvOk.mk (hX _) (((Z3x_ok a).perm (Pre':=[pk []]) (fun _ _ _ s=>St.unpack (A:=[]) s)).post id (fun _=>rfl) (fun _ _ _ _ s=>St.pack (A:=[]) (s)))
 rcases cF a with ⟨I,a⟩|⟨I,a⟩
 ·obtain ⟨t,i,i0,e,l⟩:=r
  obtain rfl:=Nat.eq_of_beq_eq_true I
  exact InvOk.mk (hX _) (((Z3y_ok a).perm (Pre':=[pk []]) (fun _ _ _ s=>St.unpack (A:=[]) s)).post id (fun _=>rfl) (fun _ _ _ _ s=>St.pack (A:=[]) (s)))
 rcases cF a with ⟨J,a⟩|⟨J,a⟩
 ·obtain ⟨t,i,i0,e,l⟩:=r
  obtain rfl:=Nat.eq_of_beq_eq_true J
  exact InvOk.mk (hX _) (((Z3t_ok a).perm (Pre':=[pk [aK b [(iv i0)] 3,aK h1 [(iv e)] 3,aK h2 [(.func (.func 107) [].toArray [].toArray)] 151]]) (fun _ _ _ s=>St.unpack (A:=[aK b [(iv i0)] 3,aK h1 [(iv e)] 3,aK h2 [(.func (.func 107) [].toArray [].toArray)] 151]) s)).post id (fun _=>rfl) (fun _ _ _ _ s=>St.pack (A:=[aK b [(iv i0)] 3,aK h1 [(iv e)] 3,aK h2 [(.func (.func 107) [].toArray [].toArray)] 151]) (s)))
 rcases cF a with ⟨L,a⟩|⟨L,a⟩
 ·obtain ⟨t,i,i0,e,l⟩:=r
  obtain rfl:=Nat.eq_of_beq_eq_true L
  exact InvOk.mk (hX _) (((Z3u_ok a).perm (Pre':=[pk [aK b [(iv i0)] 3,aK h1 [(iv e)] 3,aK h2 [(.func (.func 109) [].toArray [].toArray)] 151]]) (fun _ _ _ s=>St.unpack (A:=[aK b [(iv i0)] 3,aK h1 [(iv e)] 3,aK h2 [(.func (.func 109) [].toArray [].toArray)] 151]) s)).post id (fun _=>rfl) (fun _ _ _ _ s=>St.pack (A:=[aK b [(iv i0)] 3,aK h1 [(iv e)] 3,aK h2 [(.func (.func 109) [].toArray [].toArray)] 151]) (s)))
 rcases cF a with ⟨j,a⟩|⟨j,a⟩
 ·obtain ⟨t,i,i0,e,l⟩:=r
  obtain rfl:=Nat.eq_of_beq_eq_true j
  exact InvOk.mk (hX _) (((Z3v_ok a).perm (Pre':=[pk [aK b [(iv i0)] 3,aK h1 [(iv e)] 3,aK h2 [(.func (.func 111) [].toArray [].toArray)] 151]]) (fun _ _ _ s=>St.unpack (A:=[aK b [(iv i0)] 3,aK h1 [(iv e)] 3,aK h2 [(.func (.func 111) [].toArray [].toArray)] 151]) s)).post id (fun _=>rfl) (fun _ _ _ _ s=>St.pack (A:=[aK b [(iv i0)] 3,aK h1 [(iv e)] 3,aK h2 [(.func (.func 111) [].toArray [].toArray)] 151]) (s)))
 have T:dM r (b,h1,h2)=(.iface 146 (.agg [(aG r.s0),(.func (.func 146) [].toArray [(pt b 0),(pt h1 0),(pt h2 0)].toArray)].toArray)):=by simp only [dM,M,u,B,D,E,F,G,I,J,L,j,cond_false]
 have O:fL r (b,h1,h2)=pk [aK b [(iv r.i0)] 3,aK h1 [(iv r.i1)] 3,aK h2 [(.func (.func 113) [].toArray [].toArray)] 151]:=by simp only [fL,M,u,B,D,E,F,G,I,J,L,j,cond_false]
 rw [T,O]
 exact InvOk.mk (hX _) (((Z3w_ok a).perm (Pre':=[pk [aK b [(iv r.i0)] 3,aK h1 [(iv r.i1)] 3,aK h2 [(.func (.func 113) [].toArray [].toArray)] 151]]) (fun _ _ _ s=>St.unpack (A:=[aK b [(iv r.i0)] 3,aK h1 [(iv r.i1)] 3,aK h2 [(.func (.func 113) [].toArray [].toArray)] 151]) s)).post id (fun _=>rfl) (fun _ _ _ _ s=>St.pack (A:=[aK b [(iv r.i0)] 3,aK h1 [(iv r.i1)] 3,aK h2 [(.func (.func 113) [].toArray [].toArray)] 151]) (s)))
theorem Z7_ok  {i:aN}{e:aN}{mG:Int}{a:Nat}{r:Bool}(b:Z7 i e=some r) :
 FnOk Tryz.prog 115 [(aG i),(pt a 0)] [aK a [(aG e)] 9,gG mG] (fun (h:Unit)=>((.bool r),[aK a [(aG e)] 9])):=by
 unfold Z7 at b
 refine aR Tryz.func115 R 7 R R fun C V=>?_
 let q:=gG mG::V
 refine bL ?_
 let l:=aK a [(aG e)] 9::q
 refine qN l ?_
 refine aZ ?_
 obtain ⟨u,j,b⟩:=bd b
 refine aZ ?_
 refine lO (vp (aG i) R) (lM _ (fun w s=>(s.dgx 1 R)) ?_)
 refine lC 1 B0 R (Z42_ok j) R ?_
 rintro _
 refine lN l ?_
 refine bL ?_
 cases b
 exact qF () (tE 2 [0])
theorem Z24_ok  {a:Node}{a0:aN}{mG:Int}{r:Bool}(hr:Z24 a a0=some r) :
 FnOk Tryz.prog 72 [(.agg [(iv a.Op),(.slice A2 N2 D2),(.slice A3 N3 D3),(.slice A4 N4 D4),(aG a.Form),(.slice A5 N5 D5)].toArray),(aG a0)] [aO kT3 (.slice A2 N2 D2) a.Args,aO kT3 (.slice A3 N3 D3) a.Dims,aO kT3 (.slice A4 N4 D4) a.Ints,aO kT3 (.slice A5 N5 D5) a.Data,gG mG] (fun (h:Unit)=>((.bool r),[])):=by
 unfold Z24 at hr
 refine aR Tryz.func72 R 44 R R fun C V=>?_
 refine cL 0 aA ?_
 rintro rfl
 refine cL 1 aA ?_
 rintro rfl
 refine cL 2 aA ?_
 rintro rfl
 refine cL 3 aA ?_
 rintro rfl
 let W0:=RR kT3 A2 D2 a.Args::RR kT3 A3 D3 a.Dims::RR kT3 A4 D4 a.Ints::RR kT3 A5 D5 a.Data::gG mG::V
 refine cN W0 ?_
 refine aZ ?_
 refine eT R fun b7=>?_
 refine fS (cs:=[(aG a0)]) R R R (fun Y=>(lB R (aB ?_)))
 let W1:=aK b7 [(iv a.Op),(sc A2 a.Args D2),(sc A3 a.Dims D3),(sc A4 a.Ints D4),(aG a.Form),(sc A5 a.Data D5)] 42::W0
 refine aV ?_
 refine lO (vp (.func (.func 115) [].toArray [(pt Y 0)].toArray) R) (lO (vp _ R) ?_)
 refine aV ?_
 obtain ⟨Z,ak,hr⟩:=bd hr
 obtain ⟨l,aj,hr⟩:=bd hr
 obtain ⟨i,a5,hr⟩:=bd hr
 obtain ⟨b,U,hr⟩:=bd hr
 refine cQ [(4,(.bool ((((Z||((a.Dims.length:Int)==0))&&(l||((a.Ints.length:Int)==0)))&&(i||(a.Form==([]:aN))))&&(b||((a.Data.length:Int)==0)))))] (W1) ?_ ?_
 refine aC (lO (vp _ R) (lM _ (fun w s=>((s.dgx 6 R).e 2 [1,0])) ?_))
 refine cU (fs:=[]) (cs:=[(pt Y 0)]) 2 R R j9 R R (Z7_ok ak) R ?_
 rintro _
 refine cP ?_
 rcases bo Z with q | q
 refine bL ?_
 refine lO (fB ((a.Dims.length:Int)==0) R q) (lB R (lW (dO (oT q)) (vp _ R) (lM _ (fun w s=>((s.dgx 6 R).e 2 [1,0])) ?_)))
 refine cU (fs:=[]) (cs:=[(pt Y 0)]) 2 R (dO (oT q)) j9 R R (Z7_ok (bM aj (oT q))) R ?_
 rintro _
 refine cP ?_
 rcases bo l with a6 | a6
 refine bL ?_
 refine lW (dO (oT q)) (fB ((a.Ints.length:Int)==0) R a6) (lO (iJ R (oT q) R) (lB R ?_))
 rcases bo ((Z||((a.Dims.length:Int)==0))&&(l||((a.Ints.length:Int)==0))) with u | u
 refine lW (dO u) (vp _ R) (lM _ (fun w s=>((s.dgx 6 R).e 2 [1,0])) ?_)
 refine cU (fs:=[]) (cs:=[(pt Y 0)]) 2 R (dO u) j9 R R (Z7_ok (bM a5 u)) R ?_
 rintro _
 refine cP ?_
 rcases bo i with a1 | a1
 refine aV ?_
 refine lW (dO u) (fB (a.Form==([]:aN)) R a1) (lO (iJ R u R) (lB R ?_))
 rcases bo (((Z||((a.Dims.length:Int)==0))&&(l||((a.Ints.length:Int)==0)))&&(i||(a.Form==([]:aN)))) with F | F
 refine lW (dO F) (vp _ R) (lM _ (fun w s=>((s.dgx 6 R).e 2 [1,0])) ?_)
 refine cU (fs:=[]) (cs:=[(pt Y 0)]) 2 R (dO F) j9 R R (Z7_ok (bM U F)) R ?_
 rintro _
 refine cP ?_
 rcases bo b with a7 | a7
 refine bL ?_
 refine lW (dO F) (fB ((a.Data.length:Int)==0) R a7) (lO (iJ R F R) ?_)
 refine aZ ?_
 exact qj (tE 1 [])
 refine bL ?_
 refine lW (dO F) (fG R a7 R) (lO (iJ R F R) ?_)
 refine aZ ?_
 exact qj (tE 1 [])
 refine dN ?_
 refine lO (ki (b||((a.Data.length:Int)==0)) R F) ?_
 refine aZ ?_
 exact qj (tE 1 [])
 refine aZ ?_
 refine lW (bW a1) (vz (.bool (a.Form==([]:aN))) (jU R R R)) (lW (dO u) (fG R a1 R) (lO (iJ R u R) (lB R ?_)))
 rcases bo (((Z||((a.Dims.length:Int)==0))&&(l||((a.Ints.length:Int)==0)))&&(i||(a.Form==([]:aN)))) with G | G
 refine lW (dO G) (vp _ R) (lM _ (fun w s=>((s.dgx 6 R).e 2 [1,0])) ?_)
 refine cU (fs:=[]) (cs:=[(pt Y 0)]) 2 R (dO G) j9 R R (Z7_ok (bM U G)) R ?_
 rintro _
 refine cP ?_
 rcases bo b with a8 | a8
 refine bL ?_
 refine lW (dO G) (fB ((a.Data.length:Int)==0) R a8) (lO (iJ R G R) ?_)
 refine aZ ?_
 exact qj (tE 1 [])
 refine bL ?_
 refine lW (dO G) (fG R a8 R) (lO (iJ R G R) ?_)
 refine aZ ?_
 exact qj (tE 1 [])
 refine dN ?_
 refine lO (ki (b||((a.Data.length:Int)==0)) R G) ?_
 refine aZ ?_
 exact qj (tE 1 [])
 refine eD ?_
 refine lO (ki (i||(a.Form==([]:aN))) R u) ?_
 refine dG ?_
 refine lO (ki (b||((a.Data.length:Int)==0)) R (aF u)) ?_
 refine aZ ?_
 exact qj (tE 1 [])
 refine bL ?_
 refine lW (dO (oT q)) (fG R a6 R) (lO (iJ R (oT q) R) (lB R ?_))
 rcases bo ((Z||((a.Dims.length:Int)==0))&&(l||((a.Ints.length:Int)==0))) with B | B
 refine lW (dO B) (vp _ R) (lM _ (fun w s=>((s.dgx 6 R).e 2 [1,0])) ?_)
 refine cU (fs:=[]) (cs:=[(pt Y 0)]) 2 R (dO B) j9 R R (Z7_ok (bM a5 B)) R ?_
 rintro _
 refine cP ?_
 rcases bo i with a2 | a2
 refine aV ?_
 refine lW (dO B) (fB (a.Form==([]:aN)) R a2) (lO (iJ R B R) (lB R ?_))
 rcases bo (((Z||((a.Dims.length:Int)==0))&&(l||((a.Ints.length:Int)==0)))&&(i||(a.Form==([]:aN)))) with I | I
 refine lW (dO I) (vp _ R) (lM _ (fun w s=>((s.dgx 6 R).e 2 [1,0])) ?_)
 refine cU (fs:=[]) (cs:=[(pt Y 0)]) 2 R (dO I) j9 R R (Z7_ok (bM U I)) R ?_
 rintro _
 refine cP ?_
 rcases bo b with a9 | a9
 refine bL ?_
 refine lW (dO I) (fB ((a.Data.length:Int)==0) R a9) (lO (iJ R I R) ?_)
 refine aZ ?_
 exact qj (tE 1 [])
 refine bL ?_
 refine lW (dO I) (fG R a9 R) (lO (iJ R I R) ?_)
 refine aZ ?_
 exact qj (tE 1 [])
 refine dN ?_
 refine lO (ki (b||((a.Data.length:Int)==0)) R I) ?_
 refine aZ ?_
 exact qj (tE 1 [])
 refine aZ ?_
 refine lW (bW a2) (vz (.bool (a.Form==([]:aN))) (jU R R R)) (lW (dO B) (fG R a2 R) (lO (iJ R B R) (lB R ?_)))
 rcases bo (((Z||((a.Dims.length:Int)==0))&&(l||((a.Ints.length:Int)==0)))&&(i||(a.Form==([]:aN)))) with J | J
 refine lW (dO J) (vp _ R) (lM _ (fun w s=>((s.dgx 6 R).e 2 [1,0])) ?_)
 refine cU (fs:=[]) (cs:=[(pt Y 0)]) 2 R (dO J) j9 R R (Z7_ok (bM U J)) R ?_
 rintro _
 refine cP ?_
 rcases bo b with aa | aa
 refine bL ?_
 refine lW (dO J) (fB ((a.Data.length:Int)==0) R aa) (lO (iJ R J R) ?_)
 refine aZ ?_
 exact qj (tE 1 [])
 refine bL ?_
 refine lW (dO J) (fG R aa R) (lO (iJ R J R) ?_)
 refine aZ ?_
 exact qj (tE 1 [])
 refine dN ?_
 refine lO (ki (b||((a.Data.length:Int)==0)) R J) ?_
 refine aZ ?_
 exact qj (tE 1 [])
 refine eD ?_
 refine lO (ki (i||(a.Form==([]:aN))) R B) ?_
 refine dG ?_
 refine lO (ki (b||((a.Data.length:Int)==0)) R (aF B)) ?_
 refine aZ ?_
 exact qj (tE 1 [])
 refine bL ?_
 refine lO (fG R q R) (lB R ?_)
 rcases bo (Z||((a.Dims.length:Int)==0)) with j | j
 refine lW (dO j) (vp _ R) (lM _ (fun w s=>((s.dgx 6 R).e 2 [1,0])) ?_)
 refine cU (fs:=[]) (cs:=[(pt Y 0)]) 2 R (dO j) j9 R R (Z7_ok (bM aj j)) R ?_
 rintro _
 refine cP ?_
 rcases bo l with ab | ab
 refine bL ?_
 refine lW (dO j) (fB ((a.Ints.length:Int)==0) R ab) (lO (iJ R j R) (lB R ?_))
 rcases bo ((Z||((a.Dims.length:Int)==0))&&(l||((a.Ints.length:Int)==0))) with D | D
 refine lW (dO D) (vp _ R) (lM _ (fun w s=>((s.dgx 6 R).e 2 [1,0])) ?_)
 refine cU (fs:=[]) (cs:=[(pt Y 0)]) 2 R (dO D) j9 R R (Z7_ok (bM a5 D)) R ?_
 rintro _
 refine cP ?_
 rcases bo i with a3 | a3
 refine aV ?_
 refine lW (dO D) (fB (a.Form==([]:aN)) R a3) (lO (iJ R D R) (lB R ?_))
 rcases bo (((Z||((a.Dims.length:Int)==0))&&(l||((a.Ints.length:Int)==0)))&&(i||(a.Form==([]:aN)))) with L | L
 refine lW (dO L) (vp _ R) (lM _ (fun w s=>((s.dgx 6 R).e 2 [1,0])) ?_)
 refine cU (fs:=[]) (cs:=[(pt Y 0)]) 2 R (dO L) j9 R R (Z7_ok (bM U L)) R ?_
 rintro _
 refine cP ?_
 rcases bo b with ac | ac
 refine bL ?_
 refine lW (dO L) (fB ((a.Data.length:Int)==0) R ac) (lO (iJ R L R) ?_)
 refine aZ ?_
 exact qj (tE 1 [])
 refine bL ?_
 refine lW (dO L) (fG R ac R) (lO (iJ R L R) ?_)
 refine aZ ?_
 exact qj (tE 1 [])
 refine dN ?_
 refine lO (ki (b||((a.Data.length:Int)==0)) R L) ?_
 refine aZ ?_
 exact qj (tE 1 [])
 refine aZ ?_
 refine lW (bW a3) (vz (.bool (a.Form==([]:aN))) (jU R R R)) (lW (dO D) (fG R a3 R) (lO (iJ R D R) (lB R ?_)))
 rcases bo (((Z||((a.Dims.length:Int)==0))&&(l||((a.Ints.length:Int)==0)))&&(i||(a.Form==([]:aN)))) with M | M
 refine lW (dO M) (vp _ R) (lM _ (fun w s=>((s.dgx 6 R).e 2 [1,0])) ?_)
 refine cU (fs:=[]) (cs:=[(pt Y 0)]) 2 R (dO M) j9 R R (Z7_ok (bM U M)) R ?_
 rintro _
 refine cP ?_
 rcases bo b with ae | ae
 refine bL ?_
 refine lW (dO M) (fB ((a.Data.length:Int)==0) R ae) (lO (iJ R M R) ?_)
 refine aZ ?_
 exact qj (tE 1 [])
 refine bL ?_
 refine lW (dO M) (fG R ae R) (lO (iJ R M R) ?_)
 refine aZ ?_
 exact qj (tE 1 [])
 refine dN ?_
 refine lO (ki (b||((a.Data.length:Int)==0)) R M) ?_
 refine aZ ?_
 exact qj (tE 1 [])
 refine eD ?_
 refine lO (ki (i||(a.Form==([]:aN))) R D) ?_
 refine dG ?_
 refine lO (ki (b||((a.Data.length:Int)==0)) R (aF D)) ?_
 refine aZ ?_
 exact qj (tE 1 [])
 refine bL ?_
 refine lW (dO j) (fG R ab R) (lO (iJ R j R) (lB R ?_))
 rcases bo ((Z||((a.Dims.length:Int)==0))&&(l||((a.Ints.length:Int)==0))) with E | E
 refine lW (dO E) (vp _ R) (lM _ (fun w s=>((s.dgx 6 R).e 2 [1,0])) ?_)
 refine cU (fs:=[]) (cs:=[(pt Y 0)]) 2 R (dO E) j9 R R (Z7_ok (bM a5 E)) R ?_
 rintro _
 refine cP ?_
 rcases bo i with a4 | a4
 refine aV ?_
 refine lW (dO E) (fB (a.Form==([]:aN)) R a4) (lO (iJ R E R) (lB R ?_))
 rcases bo (((Z||((a.Dims.length:Int)==0))&&(l||((a.Ints.length:Int)==0)))&&(i||(a.Form==([]:aN)))) with O | O
 refine lW (dO O) (vp _ R) (lM _ (fun w s=>((s.dgx 6 R).e 2 [1,0])) ?_)
 refine cU (fs:=[]) (cs:=[(pt Y 0)]) 2 R (dO O) j9 R R (Z7_ok (bM U O)) R ?_
 rintro _
 refine cP ?_
 rcases bo b with ag | ag
 refine bL ?_
 refine lW (dO O) (fB ((a.Data.length:Int)==0) R ag) (lO (iJ R O R) ?_)
 refine aZ ?_
 exact qj (tE 1 [])
 refine bL ?_
 refine lW (dO O) (fG R ag R) (lO (iJ R O R) ?_)
 refine aZ ?_
 exact qj (tE 1 [])
 refine dN ?_
 refine lO (ki (b||((a.Data.length:Int)==0)) R O) ?_
 refine aZ ?_
 exact qj (tE 1 [])
 refine aZ ?_
 refine lW (bW a4) (vz (.bool (a.Form==([]:aN))) (jU R R R)) (lW (dO E) (fG R a4 R) (lO (iJ R E R) (lB R ?_)))
 rcases bo (((Z||((a.Dims.length:Int)==0))&&(l||((a.Ints.length:Int)==0)))&&(i||(a.Form==([]:aN)))) with T | T
 refine lW (dO T) (vp _ R) (lM _ (fun w s=>((s.dgx 6 R).e 2 [1,0])) ?_)
 refine cU (fs:=[]) (cs:=[(pt Y 0)]) 2 R (dO T) j9 R R (Z7_ok (bM U T)) R ?_
 rintro _
 refine cP ?_
 rcases bo b with ai | ai
 refine bL ?_
 refine lW (dO T) (fB ((a.Data.length:Int)==0) R ai) (lO (iJ R T R) ?_)
 refine aZ ?_
 exact qj (tE 1 [])
 refine bL ?_
 refine lW (dO T) (fG R ai R) (lO (iJ R T R) ?_)
 refine aZ ?_
 exact qj (tE 1 [])
 refine dN ?_
 refine lO (ki (b||((a.Data.length:Int)==0)) R T) ?_
 refine aZ ?_
 exact qj (tE 1 [])
 refine eD ?_
 refine lO (ki (i||(a.Form==([]:aN))) R E) ?_
 refine dG ?_
 refine lO (ki (b||((a.Data.length:Int)==0)) R (aF E)) ?_
 refine aZ ?_
 exact qj (tE 1 [])
 refine dN ?_
 refine lO (ki (l||((a.Ints.length:Int)==0)) R j) ?_
 refine dN ?_
 refine lO (ki (i||(a.Form==([]:aN))) R (aF j)) ?_
 refine dG ?_
 refine lO (ki (b||((a.Data.length:Int)==0)) R (aF (aF j))) ?_
 refine aZ ?_
 exact qj (tE 1 [])
 rintro σ1
 refine aZ ?_
 cases hr
 exact qF () (tE 6 [])
theorem Zf_ok  {b:(List Int)}{r:Bool}(e:Zf b=some r) :
 FnOk Tryz.prog 145 [(.slice A2 N2 D2)] [aO kT3 (.slice A2 N2 D2) b] (fun (h:Unit)=>((.bool r),[])):=by
 unfold Zf at e
 refine aR Tryz.func145 R 27 R R fun C V=>?_
 refine cL 0 aA ?_
 rintro rfl
 let D:=RR kT3 A2 D2 b::V
 refine cN D ?_
 refine hG ?_
 refine bB (A:=(Unit)×(HH)) (fun a=>Zf_J1 b=some r) (fun a=>[(0,(s3 a.2))]) (fun a=>aO kT3 (s3 a.2) b::D) ?_ ?_
 refine dN ?_
 obtain ⟨T,F,q⟩:=bd e
 refine bD (A:=HH) F (fun s a=>[(0,(s3 a)),(3,(iv s.1)),(6,(s3 a)),(7,(il b)),(8,(iv s.2))]) (fun s a=>aO kT3 (s3 a) b::D) (A2,b.length,D2) (aS R) (fun w s=>(s.d 0 R)) ?_
 rintro ⟨I,i⟩ ⟨A10,N10,D10⟩ σ1 J e l
 dsimp only [Zf_L1] at e
 refine bK 0 aA (fun (G:N10=b.length)=>?_)
 subst G
 refine cB ?_
 split at e
 refine cB ?_
 obtain ⟨B,e⟩:=gd e
 refine aC (bE 0 aA (show 0<b.length by have:=B; omega) (fun j o16 O=>?_))
 subst O
 refine eD ?_
 refine cQ [(0,(sc (ad j o16) b D10)),(3,(iv I)),(5,(iv (ix b i))),(6,(sc (ad j o16) b D10)),(7,(il b)),(8,(iv i)),(17,(.bool ((decide ((ix b i)<1))||(decide ((ix b i)>4096)))))] (RR kT3 (ad j o16) D10 b::D) ?_ ?_
 refine bL ?_
 rcases bo (decide ((ix b i)<1)) with u | u
 refine bL ?_
 exact qj tI
 refine bL ?_
 exact qj tI
 rintro σ1
 refine cP ?_
 split at e
 refine dJ ?_
 cases e
 obtain rfl:=l _ R
 have e:=q
 refine aV ?_
 cases e
 exact qF () (tE 2 [])
 refine qv ?_
 split at e
 refine dG ?_
 cases e
 obtain rfl:=l _ R
 have e:=q
 refine aV ?_
 cases e
 exact qF () (tE 2 [])
 refine dN ?_
 cases e
 exact qA ((ad j o16),b.length,D10) tI
 refine aV ?_
 cases e
 obtain rfl:=l _ R
 have e:=q
 refine aZ ?_
 exact qI ((),(A10,b.length,D10)) e tI
 rintro ⟨_,⟨L,E,M⟩⟩ σ1 e
 dsimp only [Zf_J1] at e
 refine bK 0 aA (fun (G:E=b.length)=>?_)
 subst G
 refine dG ?_
 cases e
 exact qF () (tE 2 [])
theorem Zl_ok  {b:(List Int)}{r:Int}(e:Zl b=some r) :
 FnOk Tryz.prog 52 [(.slice A2 N2 D2)] [aO kT3 (.slice A2 N2 D2) b] (fun (h:Unit)=>((iv r),[])):=by
 unfold Zl at e
 refine aR Tryz.func52 R 17 R R fun C V=>?_
 refine cL 0 aA ?_
 rintro rfl
 let j:=RR kT3 A2 D2 b::V
 refine cN j ?_
 refine hG ?_
 refine bB (A:=(Int)×(Unit)) (fun a=>Zl_J1 a.1=some r) (fun a=>[(3,(iv a.1))]) (fun a=>j) ?_ ?_
 refine dN ?_
 obtain ⟨I,u,q⟩:=bd e
 refine bD (A:=Unit) u (fun s a=>[(3,(iv s.1)),(6,(sc A2 b D2)),(7,(il b)),(8,(iv s.2))]) (fun s a=>j) () (aS R) tI ?_
 rintro ⟨G,J⟩ _ σ1 B e l
 dsimp only [Zl_L1] at e
 refine cB ?_
 split at e
 refine cB ?_
 obtain ⟨i,e⟩:=gd e
 refine aC (bE 0 aA (show 0<b.length by have:=i; omega) (fun D o12 E=>?_))
 subst E
 refine qv ?_
 cases e
 exact qA () tI
 refine aV ?_
 cases e
 obtain rfl:=l _ R
 have e:=q
 refine aZ ?_
 exact qI (G,()) e tI
 rintro ⟨F,_⟩ σ1 e
 dsimp only [Zl_J1] at e
 refine eD ?_
 cases e
 exact qF () (tE 1 [])
theorem Z3d_ok  {p1:Int}{r:Bool}(b:Z3d p1=some r) :
 FnOk Tryz.prog 201 [(iv p1)] [] (fun (h:Unit)=>((.bool r),[])):=by
 unfold Z3d at b
 refine aR Tryz.func201 R 9 R R fun C V=>?_
 refine cN V ?_
 refine cB ?_
 refine cQ [(2,(.bool ((decide (p1≥0))&&(decide (p1<2147483647)))))] (V) ?_ ?_
 refine bL ?_
 rcases bo (decide (p1≥0)) with a | a
 refine cV ?_
 exact qj tI
 refine cV ?_
 exact qj tI
 rintro σ1
 refine aZ ?_
 cases b
 exact qF () tI
theorem Z1b_ok  {e:(List Int)}{r:Bool}(b:Z1b e=some r) :
 FnOk Tryz.prog 200 [(.slice A2 N2 D2)] [aO kT3 (.slice A2 N2 D2) e] (fun (h:Unit)=>((.bool r),[])):=by
 unfold Z1b at b
 refine aR Tryz.func200 R 15 R R fun C V=>?_
 refine cL 0 aA ?_
 rintro rfl
 let u:=RR kT3 A2 D2 e::V
 refine cN u ?_
 refine cB ?_
 refine bB (A:=(Unit)×(Unit)) (fun a=>Z1b_J1=some r) (fun a=>[]) (fun a=>u) ?_ ?_
 refine dN ?_
 obtain ⟨J,B,l⟩:=bd b
 refine bD (A:=Unit) B (fun s a=>[(5,(sc A2 e D2)),(6,(il e)),(7,(iv s))]) (fun s a=>u) () (aS R) tI ?_
 rintro I _ σ1 D b i
 dsimp only [Z1b_L1] at b
 refine cB ?_
 split at b
 refine cB ?_
 obtain ⟨j,b⟩:=gd b
 refine aC (bE 0 aA (show 0<e.length by have:=j; omega) (fun E o14 F=>?_))
 subst F
 refine cB ?_
 obtain ⟨G,q,b⟩:=bd b
 refine aZ ?_
 refine lC 0 B2 R (Z3d_ok q) R ?_
 rintro _
 refine aV ?_
 split at b
 refine dG ?_
 cases b
 obtain rfl:=i _ R
 have b:=l
 refine aV ?_
 cases b
 exact qF () (tE 1 [])
 refine dN ?_
 cases b
 exact qA () tI
 refine aV ?_
 cases b
 obtain rfl:=i _ R
 have b:=l
 refine aZ ?_
 exact dC ((),()) b trivial tI
 rintro ⟨_,_⟩ σ1 b
 dsimp only [Z1b_J1] at b
 refine cB ?_
 cases b
 exact qF () (tE 1 [])
theorem Z2w_ok  {t1:Tensor}{r:Bool}(i:Z2w t1=some r) :
 FnOk Tryz.prog 199 [(.agg [(.slice A2 N2 D2),(.slice A3 N3 D3)].toArray)] [aO kT3 (.slice A2 N2 D2) t1.Dims,aO kT3 (.slice A3 N3 D3) t1.Data] (fun (h:Unit)=>((.bool r),[])):=by
 unfold Z2w at i
 refine aR Tryz.func199 R 20 R R fun C V=>?_
 refine cL 0 aA ?_
 rintro rfl
 refine cL 1 aA ?_
 rintro rfl
 let B:=RR kT3 A2 D2 t1.Dims::RR kT3 A3 D3 t1.Data::V
 refine cN B ?_
 refine aZ ?_
 refine eT R fun G=>?_
 refine aZ ?_
 let e:=aK G [(sc A2 t1.Dims D2),(sc A3 t1.Data D3)] 77::B
 refine qN e ?_
 refine aZ ?_
 obtain ⟨u,j,i⟩:=bd i
 obtain ⟨F,q,i⟩:=bd i
 obtain ⟨I,l,i⟩:=bd i
 refine cQ [(2,(.bool ((u&&((t1.Data.length:Int)==F))&&I)))] (e) ?_ ?_
 rcases bo u with a | a
 rcases bo (u&&((t1.Data.length:Int)==F)) with b | b
 refine dP 18 [] bS fun E D=>?_
 refine iM 0 [] ?_
 refine d1 2 R (lM _ (fun w s=>(s.d 1 R)) ?_)
 refine lC 1 jK R (Zf_ok j) R ?_
 rintro _
 refine lN e ?_
 refine aB (aJ (sL []) ?_)
 refine tW 3 [] ?_
 refine d1 9 R (lM _ (fun w s=>(s.d 1 R)) ?_)
 refine b' 1 R (dO a) m9 R (Zl_ok (bM q a)) R ?_
 rintro _
 refine lN e ?_
 refine aB (aJ (sL []) ?_)
 refine kX 10 [] ?_
 refine d1 15 R (lM _ (fun w s=>(s.d 2 R)) ?_)
 refine b' 1 R (dO b) B3 R (Z1b_ok (bM l b)) R ?_
 rintro _
 refine lN e ?_
 refine aB (aJ (sL []) ?_)
 refine iM 16 [] ?_
 refine dD ?_
 exact qj tI
 refine dP 18 [] bS fun E D=>?_
 refine iM 0 [] ?_
 refine d1 2 R (lM _ (fun w s=>(s.d 1 R)) ?_)
 refine lC 1 jK R (Zf_ok j) R ?_
 rintro _
 refine lN e ?_
 refine aB (aJ (sL []) ?_)
 refine tW 3 [] ?_
 refine d1 9 R (lM _ (fun w s=>(s.d 1 R)) ?_)
 refine b' 1 R (dO a) m9 R (Zl_ok (bM q a)) R ?_
 rintro _
 refine lN e ?_
 refine aB (aJ (sL []) ?_)
 refine vR 10 [] ?_
 refine dD ?_
 exact qj tI
 refine dP 18 [] bS fun E D=>?_
 refine iM 0 [] ?_
 refine d1 2 R (lM _ (fun w s=>(s.d 1 R)) ?_)
 refine lC 1 jK R (Zf_ok j) R ?_
 rintro _
 refine lN e ?_
 refine aB (aJ (sL []) ?_)
 refine ym 3 [] ?_
 refine dD ?_
 exact qj tI
 rintro σ1
 refine aZ ?_
 cases i
 exact qF () (tE 3 [])
theorem Z1t_ok  {k1:leafKind}{b:Node}{a:(List (List Int))}{r:(List Int)×Bool}(q:Z1t k1 b a=some r) :
 FnOk Tryz.prog 197 [(.agg [(.bool k1.data)].toArray),(.agg [(iv b.Op),(.slice A3 N3 D3),(.slice A4 N4 D4),(.slice A5 N5 D5),(aG b.Form),(.slice A6 N6 D6)].toArray),(.slice A8 N8 D8)] [aO kT3 (.slice A3 N3 D3) b.Args,aO kT3 (.slice A4 N4 D4) b.Dims,aO kT3 (.slice A5 N5 D5) b.Ints,aO kT3 (.slice A6 N6 D6) b.Data,aO bF (.slice A8 N8 D8) a] (fun (h:HH)=>((.tuple [(s3 h),(.bool r.2)].toArray),[aO kT3 (s3 h) r.1])):=by
 unfold Z1t at q
 refine aR Tryz.func197 R 32 R R fun C V=>?_
 refine cL 0 aA ?_
 rintro rfl
 refine cL 1 aA ?_
 rintro rfl
 refine cL 2 aA ?_
 rintro rfl
 refine cL 3 aA ?_
 rintro rfl
 refine cL 4 aA ?_
 rintro rfl
 let I:=RR kT3 A3 D3 b.Args::RR kT3 A4 D4 b.Dims::RR kT3 A5 D5 b.Ints::RR kT3 A6 D6 b.Data::RR bF A8 D8 a::V
 refine cN I ?_
 refine aZ ?_
 refine eT R fun J=>?_
 refine eT R fun u=>?_
 refine aV ?_
 let F:=aK u [(iv b.Op),(sc A3 b.Args D3),(sc A4 b.Dims D4),(sc A5 b.Ints D5),(aG b.Form),(sc A6 b.Data D6)] 42::aK J [(.bool k1.data)] 137::I
 refine qN F ?_
 refine aV ?_
 obtain ⟨E,B,q⟩:=bd q
 obtain ⟨G,D,q⟩:=bd q
 refine cQ [(4,(pt u 0)),(29,(.bool ((((a.length:Int) != 0)||(!E))||(k1.data&&(!G)))))] (F) ?_ ?_
 refine cV ?_
 rcases bo ((a.length:Int) != 0) with j | j
 refine Cw ?_
 exact qj tI
 refine aZ ?_
 refine lM _ (fun w s=>(s.d 3 R)) ?_
 refine b' 1 R (bW j) jK R (Zf_ok (bM B (cZ j))) R ?_
 rintro _
 refine lN F ?_
 refine aV ?_
 rcases bo (((a.length:Int) != 0)||(!E)) with l | l
 refine lq ?_
 exact qj tI
 refine aV ?_
 rcases bo k1.data with i | i
 refine bL ?_
 refine lW (dO i) (vz (.agg [(sc A4 b.Dims D4),(sc A6 b.Data D6)].toArray) (bA hJ eG R R)) (lM _ (fun w s=>(((s.d 3 R).d 6 R).e 2 [1,0])) ?_)
 refine b' 2 R (dO i) B4 R (Z2w_ok (t1:=(⟨b.Dims,b.Data⟩:Tensor)) (bM D (ov (cZ l) i))) R ?_
 rintro _
 refine lN F ?_
 refine bL ?_
 exact qj tI
 refine dJ ?_
 exact qj tI
 rintro σ1
 refine cP ?_
 split at q
 refine dG ?_
 cases q
 exact kb (none,0,0) (fun w s=>((s.nilr kT3).e 8 [0]))
 refine jl ?_
 cases q
 exact kb (A4,b.Dims.length,D4) (tE 7 [3])
theorem Z2d_ok  {k1:pairKind}{i:Node}{b:(List (List Int))}{r:(List Int)×Bool}(l:Z2d k1 i b=some r) :
 FnOk Tryz.prog 202 [(.agg [(iv k1.op)].toArray),(.agg [(iv i.Op),(.slice A3 N3 D3),(.slice A4 N4 D4),(.slice A5 N5 D5),(aG i.Form),(.slice A6 N6 D6)].toArray),(.slice A8 N8 D8)] [aO kT3 (.slice A3 N3 D3) i.Args,aO kT3 (.slice A4 N4 D4) i.Dims,aO kT3 (.slice A5 N5 D5) i.Ints,aO kT3 (.slice A6 N6 D6) i.Data,aO bF (.slice A8 N8 D8) b] (fun (h:HH)=>((.tuple [(s3 h),(.bool r.2)].toArray),[aO kT3 (s3 h) r.1])):=by
 unfold Z2d at l
 refine aR Tryz.func202 R 24 R R fun C V=>?_
 refine cL 0 aA ?_
 rintro rfl
 refine cL 1 aA ?_
 rintro rfl
 refine cL 2 aA ?_
 rintro rfl
 refine cL 3 aA ?_
 rintro rfl
 refine cL 4 aA ?_
 rintro rfl
 let J:=RR kT3 A3 D3 i.Args::RR kT3 A4 D4 i.Dims::RR kT3 A5 D5 i.Ints::RR kT3 A6 D6 i.Data::RR bF A8 D8 b::V
 refine cN J ?_
 refine aZ ?_
 refine eT R fun T=>?_
 refine eT R fun F=>?_
 refine aV ?_
 let L:=aK F [(iv i.Op),(sc A3 i.Args D3),(sc A4 i.Dims D4),(sc A5 i.Ints D5),(aG i.Form),(sc A6 i.Data D6)] 42::aK T [(iv k1.op)] 139::J
 refine qN L ?_
 refine aV ?_
 obtain ⟨j,l⟩:=gd l
 obtain ⟨q,l⟩:=gd l
 obtain ⟨I,B,l⟩:=bd l
 refine cQ [(2,(sc A8 b D8)),(20,(.bool (((b.length:Int) != 2)||(!I))))] (L) ?_ ?_
 rcases bo ((b.length:Int) != 2) with a | a
 refine dP 13 [] bS fun ht Z=>?_
 refine nQ 0 [] ?_
 refine dD ?_
 exact qj tI
 refine bC 6 aA (show 0<b.length by have:=(j a); omega) (fun U o13 G=>?_)
 subst G
 refine dU (K:=bF) 6 (0:Int) dT23.dec R (j a).1 (j a).2 ?_
 rintro ⟨A14,D14⟩
 refine dU (K:=bF) 8 (1:Int) dT23.dec R (q a).1 (q a).2 ?_
 rintro ⟨M,O⟩
 refine dP 13 [] bS fun ht Z=>?_
 refine kX 0 [] ?_
 refine dW 5 R (bW a) (dV iW fK R R (j a)) (dW 6 R (bW a) (eZ (fo:=0) 2 cH R R R) (dW 7 R (bW a) (vS R) (dW 8 R (bW a) (dV iW fK R R (q a)) (dW 9 R (bW a) (eZ (fo:=0) 0 cH R R R) (d1 10 R (lM _ (fun w s=>(((s.d 3 R).d 2 R).e 6 [1,0,2,3,4,5])) ?_))))))
 refine b' 2 R (bW a) B5 R (Z18_ok (bM B (cZ a))) R ?_
 rintro _
 refine aB (aJ (sL []) ?_)
 refine iM 11 [] ?_
 refine dD ?_
 exact qj (tE 4 [])
 rintro σ1
 refine cP ?_
 split at l
 refine dG ?_
 cases l
 exact kb (none,0,0) (fun w s=>((s.nilr kT3).e 8 [0]))
 refine bL ?_
 obtain ⟨u,l⟩:=gd l
 refine aZ ?_
 refine bE 6 aA (show 0<b.length by have:=u; omega) (fun Y o23 G=>?_)
 subst G
 refine cP ?_
 refine fV (K:=bF) 6 (0:Int) dT23.dec R u.1 u.2 ?_
 rintro ⟨D,E⟩
 refine lO (eZ (fo:=0) 0 cH R R R) ?_
 refine cV ?_
 cases l
 exact kb (D,(ix b 0).length,E) (tE 9 [1])
theorem Z35_ok  {k1:soloKind}{b:Node}{a:(List (List Int))}{r:(List Int)×Bool}(j:Z35 k1 b a=some r) :
 FnOk Tryz.prog 205 [(.agg [(iv k1.op)].toArray),(.agg [(iv b.Op),(.slice A3 N3 D3),(.slice A4 N4 D4),(.slice A5 N5 D5),(aG b.Form),(.slice A6 N6 D6)].toArray),(.slice A8 N8 D8)] [aO kT3 (.slice A3 N3 D3) b.Args,aO kT3 (.slice A4 N4 D4) b.Dims,aO kT3 (.slice A5 N5 D5) b.Ints,aO kT3 (.slice A6 N6 D6) b.Data,aO bF (.slice A8 N8 D8) a] (fun (h:HH)=>((.tuple [(s3 h),(.bool r.2)].toArray),[aO kT3 (s3 h) r.1])):=by
 unfold Z35 at j
 refine aR Tryz.func205 R 14 R R fun C V=>?_
 refine cL 0 aA ?_
 rintro rfl
 refine cL 1 aA ?_
 rintro rfl
 refine cL 2 aA ?_
 rintro rfl
 refine cL 3 aA ?_
 rintro rfl
 refine cL 4 aA ?_
 rintro rfl
 let B:=RR kT3 A3 D3 b.Args::RR kT3 A4 D4 b.Dims::RR kT3 A5 D5 b.Ints::RR kT3 A6 D6 b.Data::RR bF A8 D8 a::V
 refine cN B ?_
 refine aZ ?_
 refine eT R fun E=>?_
 refine eT R fun u=>?_
 refine aV ?_
 let D:=aK u [(iv b.Op),(sc A3 b.Args D3),(sc A4 b.Dims D4),(sc A5 b.Ints D5),(aG b.Form),(sc A6 b.Data D6)] 42::aK E [(iv k1.op)] 140::B
 refine qN D ?_
 refine dG ?_
 split at j
 refine dG ?_
 cases j
 exact kb (none,0,0) (fun w s=>((s.nilr kT3).e 8 [0]))
 refine bL ?_
 obtain ⟨i,j⟩:=gd j
 refine aZ ?_
 refine bE 6 aA (show 0<a.length by have:=i; omega) (fun F o14 G=>?_)
 subst G
 refine cP ?_
 refine fV (K:=bF) 6 (0:Int) dT23.dec R i.1 i.2 ?_
 rintro ⟨l,q⟩
 refine lO (eZ (fo:=0) 0 cH R R R) ?_
 refine cV ?_
 cases j
 exact kb (l,(ix a 0).length,q) (tE 9 [1])
theorem Zp_ok  {b:(List Int)}{a:Int}{r:Bool}(j:Zp b a=some r) :
 FnOk Tryz.prog 147 [(.slice A2 N2 D2),(iv a)] [aO kT3 (.slice A2 N2 D2) b] (fun (h:Unit)=>((.bool r),[])):=by
 unfold Zp at j
 refine aR Tryz.func147 R 13 R R fun C V=>?_
 refine cL 0 aA ?_
 rintro rfl
 let i:=RR kT3 A2 D2 b::V
 refine cN i ?_
 refine cB ?_
 refine cQ [(4,(.bool ((decide (a≥0))&&(decide (a<(b.length:Int))))))] (i) ?_ ?_
 refine bL ?_
 rcases bo (decide (a≥0)) with e | e
 refine eD ?_
 exact qj tI
 refine eD ?_
 exact qj tI
 rintro σ1
 refine aZ ?_
 cases j
 exact qF () (tE 1 [])
theorem Z25_ok  {k1:topKind}{i:Node}{b:(List (List Int))}{r:(List Int)×Bool}(l:Z25 k1 i b=some r) :
 FnOk Tryz.prog 207 [(.agg [].toArray),(.agg [(iv i.Op),(.slice A3 N3 D3),(.slice A4 N4 D4),(.slice A5 N5 D5),(aG i.Form),(.slice A6 N6 D6)].toArray),(.slice A8 N8 D8)] [aO kT3 (.slice A3 N3 D3) i.Args,aO kT3 (.slice A4 N4 D4) i.Dims,aO kT3 (.slice A5 N5 D5) i.Ints,aO kT3 (.slice A6 N6 D6) i.Data,aO bF (.slice A8 N8 D8) b] (fun (h:HH)=>((.tuple [(s3 h),(.bool r.2)].toArray),[aO kT3 (s3 h) r.1])):=by
 unfold Z25 at l
 refine aR Tryz.func207 R 31 R R fun C V=>?_
 refine cL 0 aA ?_
 rintro rfl
 refine cL 1 aA ?_
 rintro rfl
 refine cL 2 aA ?_
 rintro rfl
 refine cL 3 aA ?_
 rintro rfl
 refine cL 4 aA ?_
 rintro rfl
 let L:=RR kT3 A3 D3 i.Args::RR kT3 A4 D4 i.Dims::RR kT3 A5 D5 i.Ints::RR kT3 A6 D6 i.Data::RR bF A8 D8 b::V
 refine cN L ?_
 refine aZ ?_
 refine eT R fun U=>?_
 refine eT R fun I=>?_
 refine aV ?_
 let M:=aK I [(iv i.Op),(sc A3 i.Args D3),(sc A4 i.Dims D4),(sc A5 i.Ints D5),(aG i.Form),(sc A6 i.Data D6)] 42::aK U [] 142::L
 refine qN M ?_
 refine aV ?_
 obtain ⟨j,l⟩:=gd l
 obtain ⟨q,l⟩:=gd l
 obtain ⟨J,E,l⟩:=bd l
 refine cQ [(2,(sc A8 b D8)),(27,(.bool ((((b.length:Int) != 1)||((i.Ints.length:Int) != 1))||(!J))))] (M) ?_ ?_
 rcases bo ((b.length:Int) != 1) with D | D
 refine dP 20 [] bS fun T O=>?_
 refine tY 0 [] ?_
 refine dD ?_
 exact qj tI
 rcases bo (((b.length:Int) != 1)||((i.Ints.length:Int) != 1)) with a | a
 refine dP 20 [] bS fun T O=>?_
 refine tY 0 [] ?_
 refine dD ?_
 exact qj tI
 refine bC 6 aA (show 0<b.length by have:=(j a); omega) (fun Y o13 B=>?_)
 subst B
 refine dU (K:=bF) 6 (0:Int) dT23.dec R (j a).1 (j a).2 ?_
 rintro ⟨A14,D14⟩
 refine bC 6 aA (show 0<i.Ints.length by have:=(q a); omega) (fun Z o17 B=>?_)
 subst B
 refine dP 20 [] bS fun T O=>?_
 refine tX 0 [] ?_
 refine dW 11 R (bW a) (dV iW fK R R (j a)) (dW 12 R (bW a) (eZ (fo:=0) 0 cH R R R) ?_)
 refine iM 13 [] ?_
 refine dW 15 R (bW a) (dV bH cO R R (q a)) (dW 16 R (bW a) (fQ 6 fC aA R (q a)) (d1 17 R (lM _ (fun w s=>(s.d 1 R)) ?_)))
 refine b' 1 R (bW a) hM R (Zp_ok (bM E (cZ a))) R ?_
 rintro _
 refine aB (aJ (sL []) ?_)
 refine iM 18 [] ?_
 refine dD ?_
 exact qj (tE 2 [])
 rintro σ1
 refine cP ?_
 split at l
 refine dG ?_
 cases l
 exact kb (none,0,0) (fun w s=>((s.nilr kT3).e 8 [0]))
 refine bL ?_
 obtain ⟨u,l⟩:=gd l
 refine aZ ?_
 refine bE 6 aA (show 0<b.length by have:=u; omega) (fun a0 o25 B=>?_)
 subst B
 refine cP ?_
 refine fV (K:=bF) 6 (0:Int) dT23.dec R u.1 u.2 ?_
 rintro ⟨F,G⟩
 refine lO (eZ (fo:=0) 0 cH R R R) ?_
 refine cV ?_
 cases l
 exact kb (F,(ix b 0).length,G) (tE 9 [1])
theorem Zg_ok  {O:aN}{mG:Int}{r:(List aN)×aN×Bool}(j:Zg O=some r) :
 FnOk Tryz.prog 212 [(aG O)] [gG mG] (fun (h:HH)=>((.tuple [(s3 h),(aG r.2.1),(.bool r.2.2)].toArray),[aO dX (s3 h) r.1])):=by
 unfold Zg at j
 refine aR Tryz.func212 R 93 R R fun C V=>?_
 let Y:=gG mG::V
 refine cN Y ?_
 refine aV ?_
 refine lO (vp (aG ([]:aN)) R) ?_
 refine bL ?_
 obtain ⟨b,an,j⟩:=bd j
 refine aC (lO (vp (aG O) R) (lM _ (fun w s=>(s.dgx 0 R)) ?_))
 refine lC 1 B7 R (Z3b_ok an) R ?_
 rintro _
 refine lN Y ?_
 refine lO (vT R) (lO (vp (aG b.1) R) (lO (vp (aG b.2.1) R) (lB R (lO (vp (aG b.1) R) (lO (vp (aG b.2.1) R) ?_)))))
 refine cV ?_
 refine cQ [(5,(aG b.1)),(6,(aG b.2.1)),(25,(.bool ((!b.2.2)||(decide ((b.2.1.length:Int)>6)))))] (Y) ?_ ?_
 refine bL ?_
 rcases bo (!b.2.2) with a1 | a1
 refine cV ?_
 exact qj tI
 refine lW (bW a1) (vp (aG b.2.1) R) (lW (bW a1) (vz (il b.2.1) (eC f' R)) ?_)
 refine aV ?_
 exact qj tI
 rintro σ1
 refine cP ?_
 split at j
 refine bL ?_
 refine lO (vp (aG ([]:aN)) R) ?_
 refine cV ?_
 cases j
 exact iS (none,0,0) (fun w s=>((s.nilr dX).e 2 [0]))
 refine bL ?_
 obtain ⟨u,ao,j⟩:=bd j
 refine aC (lO (vp (aG b.1) R) (lM _ (fun w s=>(s.dgx 0 R)) ?_))
 refine lC 1 Ba R (Z3c_ok ao) R ?_
 rintro ⟨A8,N8,D8⟩
 refine aM 0 aA ?_
 rintro rfl
 refine hG ?_
 split at j
 refine bL ?_
 refine lO (vp (aG ([]:aN)) R) ?_
 refine cV ?_
 cases j
 exact iS (none,0,0) (fun w s=>((s.nilr dX).e 3 [0]))
 refine bL ?_
 refine bB (A:=(Unit)×(HH)) (fun a=>Zg_J3 b u=some r) (fun a=>[(5,(aG b.1)),(6,(aG b.2.1)),(8,(s3 a.2))]) (fun a=>aO dX (s3 a.2) u::Y) ?_ ?_
 refine dN ?_
 obtain ⟨e1,ak,a3⟩:=bd j
 refine bD (A:=HH) ak (fun s a=>[(5,(aG b.1)),(6,(aG b.2.1)),(8,(s3 a)),(31,(s3 a)),(32,(il u)),(33,(iv s))]) (fun s a=>aO dX (s3 a) u::Y) (A8,u.length,D8) (aS R) tI ?_
 rintro B ⟨ab,ag,G⟩ σ1 a9 j a2
 dsimp only [Zg_L1] at j
 refine bK 0 aA (fun (hn:ag=u.length)=>?_)
 subst hn
 refine cB ?_
 split at j
 refine bL ?_
 refine bB (A:=(Unit)×(HH)) (fun a=>Zg_J2 B=some a9) (fun a=>[(5,(aG b.1)),(6,(aG b.2.1)),(8,(s3 a.2)),(31,(s3 a.2)),(32,(il u)),(33,(iv B))]) (fun a=>aO dX (s3 a.2) u::Y) ?_ ?_
 refine aZ ?_
 obtain ⟨Z,j⟩:=gd j
 refine aC (bE 0 aA (show 0<u.length by have:=Z; omega) (fun T o31 ha=>?_))
 subst ha
 refine cP ?_
 refine lO (vz (aG (ix u B)) (kn (K:=dX) (fo:=0) (pr:=fun x=>(aG x)) 0 B qh (dT9.leaf fun _ _=>R) aA R Z.1 Z.2)) (lO (vp (aG (ix u B)) R) ?_)
 refine cV ?_
 refine lO (vp (aG (ix u B)) R) (lO (vz (il (ix u B)) (eC f' R)) ?_)
 refine aV ?_
 split at j
 refine bL ?_
 refine lO (vp (aG ([]:aN)) R) ?_
 refine eD ?_
 cases j
 obtain rfl:=a2 _ R
 have j:=a3
 refine aV ?_
 cases j
 exact iS (none,0,0) (fun w s=>((s.nilr dX).e 3 [0]))
 refine dG ?_
 obtain ⟨e2,al,a6⟩:=bd j
 refine bD (A:=Unit) al (fun s a=>[(5,(aG b.1)),(6,(aG b.2.1)),(8,(sc (ad T o31) u G)),(10,(aG (ix u B))),(11,(iv s)),(31,(sc (ad T o31) u G)),(32,(il u)),(33,(iv B))]) (fun s a=>RR dX (ad T o31) G u::Y) () (aS R) tI ?_
 rintro J _ σ1 aq j a4
 dsimp only [Zg_L2] at j
 refine bL ?_
 refine lO (vp (aG (ix u B)) R) (lO (vz (il (ix u B)) (eC f' R)) ?_)
 refine aV ?_
 split at j
 refine cB ?_
 obtain ⟨U,j⟩:=gd j
 refine cQ [(5,(aG b.1)),(6,(aG b.2.1)),(8,(sc (ad T o31) u G)),(10,(aG (ix u B))),(11,(iv J)),(31,(sc (ad T o31) u G)),(32,(il u)),(33,(iv B)),(55,(.bool ((decide ((bt (ix u B) J)<97))||(decide ((bt (ix u B) J)>122)))))] (RR dX (ad T o31) G u::Y) ?_ ?_
 refine aC (lO (vp (aG (ix u B)) R) (lI R (lO (vz (.int .u8 (bt (ix u B) J)) (dB f' R R U.1 U.2)) (lO (vp (.bool (decide ((bt (ix u B) J)<97))) R) (lB R ?_)))))
 rcases bo (decide ((bt (ix u B) J)<97)) with I | I
 refine cB ?_
 exact qj tI
 refine lW (bW I) (vp (aG (ix u B)) R) (lW (bW I) (vI R) (lW (bW I) (vz (.int .u8 (bt (ix u B) J)) (dB f' R R U.1 U.2)) (lW (bW I) (vp (.bool (decide ((bt (ix u B) J)>122))) R) ?_)))
 refine aZ ?_
 exact qj tI
 rintro σ1
 refine cP ?_
 split at j
 refine bL ?_
 refine lO (vp (aG ([]:aN)) R) ?_
 refine cB ?_
 cases j
 obtain rfl:=a4 _ R
 have j:=a6
 refine bL ?_
 cases j
 obtain rfl:=a2 _ R
 have j:=a3
 refine aV ?_
 cases j
 exact iS (none,0,0) (fun w s=>((s.nilr dX).e 3 [0]))
 refine dG ?_
 cases j
 exact qA () tI
 refine aV ?_
 cases j
 obtain rfl:=a4 _ R
 have j:=a6
 refine aV ?_
 exact qI ((),((ad T o31),u.length,G)) j tI
 rintro ⟨_,⟨ac,ai,ae⟩⟩ σ1 j
 dsimp only [Zg_J2] at j
 refine bK 0 aA (fun (hn:ai=u.length)=>?_)
 subst hn
 refine bL ?_
 cases j
 exact qA (ac,u.length,ae) tI
 refine aV ?_
 cases j
 obtain rfl:=a2 _ R
 have j:=a3
 refine aZ ?_
 exact qI ((),(ab,u.length,G)) j tI
 rintro ⟨_,⟨L,aj,M⟩⟩ σ1 j
 dsimp only [Zg_J3] at j
 refine bK 0 aA (fun (hn:aj=u.length)=>?_)
 subst hn
 refine aH (bB (A:=(Unit)×(Unit)) (fun a=>Zg_J4 b u=some r) (fun a=>[(6,(aG b.2.1)),(8,(sc L u M))]) (fun a=>RR dX L M u::Y) ?_ ?_)
 refine cB ?_
 obtain ⟨e3,am,a7⟩:=bd j
 refine bD (A:=Unit) am (fun s a=>[(5,(aG b.1)),(6,(aG b.2.1)),(8,(sc L u M)),(12,(iv s))]) (fun s a=>RR dX L M u::Y) () (aS R) tI ?_
 rintro q _ σ1 ar j a5
 dsimp only [Zg_L3] at j
 refine bL ?_
 refine lO (vp (aG b.2.1) R) (lO (vz (il b.2.1) (eC f' R)) ?_)
 refine aV ?_
 split at j
 refine cB ?_
 obtain ⟨l,j⟩:=gd j
 obtain ⟨F,j⟩:=gd j
 obtain ⟨aa,a0,j⟩:=bd j
 obtain ⟨ap,a8,j⟩:=bd j
 refine cQ [(5,(aG b.1)),(6,(aG b.2.1)),(8,(sc L u M)),(12,(iv q)),(90,(.bool ((((decide ((bt b.2.1 q)<97))||(decide ((bt b.2.1 q)>122)))||(decide (aa≥0)))||(decide (ap<0)))))] (RR dX L M u::Y) ?_ ?_
 rcases bo (decide ((bt b.2.1 q)<97)) with D | D
 refine dP 28 [] bS fun ht hn=>?_
 refine dR 0 R (vp (aG b.2.1) R) (dR 1 R (vI R) (dR 2 R (vz (.int .u8 (bt b.2.1 q)) (dB f' R R l.1 l.2)) (dR 3 R (vp (.bool (decide ((bt b.2.1 q)<97))) R) ?_)))
 refine Aq 4 [] ?_
 refine dD ?_
 exact qj tI
 rcases bo ((decide ((bt b.2.1 q)<97))||(decide ((bt b.2.1 q)>122))) with i | i
 refine dP 28 [] bS fun ht hn=>?_
 refine dR 0 R (vp (aG b.2.1) R) (dR 1 R (vI R) (dR 2 R (vz (.int .u8 (bt b.2.1 q)) (dB f' R R l.1 l.2)) (dR 3 R (vp (.bool (decide ((bt b.2.1 q)<97))) R) (dR 4 R (vB R) (dW 5 R (bW D) (vp (aG b.2.1) R) (dW 6 R (bW D) (vI R) (dW 7 R (bW D) (vz (.int .u8 (bt b.2.1 q)) (dB f' R R l.1 l.2)) (dW 8 R (bW D) (vp (.bool (decide ((bt b.2.1 q)>122))) R) ?_))))))))
 refine Ap 9 [] ?_
 refine dD ?_
 exact qj tI
 rcases bo (((decide ((bt b.2.1 q)<97))||(decide ((bt b.2.1 q)>122)))||(decide (aa≥0))) with E | E
 refine dP 28 [] bS fun ht hn=>?_
 refine dR 0 R (vp (aG b.2.1) R) (dR 1 R (vI R) (dR 2 R (vz (.int .u8 (bt b.2.1 q)) (dB f' R R l.1 l.2)) (dR 3 R (vp (.bool (decide ((bt b.2.1 q)<97))) R) (dR 4 R (vB R) (dW 5 R (bW D) (vp (aG b.2.1) R) (dW 6 R (bW D) (vI R) (dW 7 R (bW D) (vz (.int .u8 (bt b.2.1 q)) (dB f' R R l.1 l.2)) (dW 8 R (bW D) (vp (.bool (decide ((bt b.2.1 q)>122))) R) ?_))))))))
 refine iM 9 [] ?_
 refine dW 11 R (bW i) (vp (aG b.2.1) R) (dW 12 R (bW i) (vI R) (dW 13 R (bW i) (vz (aG (sub b.2.1 (0:Int) q)) (iL (0:Int) q f' R R R (F i).1 (F i).2.1 (F i).2.2)) (dW 14 R (bW i) (vp (aG b.2.1) R) (dW 15 R (bW i) (vI R) (dW 16 R (bW i) (vz (.int .u8 (bt b.2.1 q)) (dB f' R R l.1 l.2)) (d1 17 R (b' 0 R (bW i) rQ R (Z22_ok (bM a0 (cZ i))) R ?_)))))))
 rintro _
 refine aB (aJ (sL []) ?_)
 refine pD 18 [] ?_
 refine dD ?_
 exact qj tI
 refine dP 28 [] bS fun ht hn=>?_
 refine dR 0 R (vp (aG b.2.1) R) (dR 1 R (vI R) (dR 2 R (vz (.int .u8 (bt b.2.1 q)) (dB f' R R l.1 l.2)) (dR 3 R (vp (.bool (decide ((bt b.2.1 q)<97))) R) (dR 4 R (vB R) (dW 5 R (bW D) (vp (aG b.2.1) R) (dW 6 R (bW D) (vI R) (dW 7 R (bW D) (vz (.int .u8 (bt b.2.1 q)) (dB f' R R l.1 l.2)) (dW 8 R (bW D) (vp (.bool (decide ((bt b.2.1 q)>122))) R) ?_))))))))
 refine iM 9 [] ?_
 refine dW 11 R (bW i) (vp (aG b.2.1) R) (dW 12 R (bW i) (vI R) (dW 13 R (bW i) (vz (aG (sub b.2.1 (0:Int) q)) (iL (0:Int) q f' R R R (F i).1 (F i).2.1 (F i).2.2)) (dW 14 R (bW i) (vp (aG b.2.1) R) (dW 15 R (bW i) (vI R) (dW 16 R (bW i) (vz (.int .u8 (bt b.2.1 q)) (dB f' R R l.1 l.2)) (d1 17 R (b' 0 R (bW i) rQ R (Z22_ok (bM a0 (cZ i))) R ?_)))))))
 rintro _
 refine aB (aJ (sL []) ?_)
 refine j6 18 [] ?_
 refine dW 21 R (bW E) (vp (aG b.1) R) (dW 22 R (bW E) (vp (aG b.2.1) R) (dW 23 R (bW E) (vI R) (dW 24 R (bW E) (vz (.int .u8 (bt b.2.1 q)) (dB f' R R l.1 l.2)) (d1 25 R (b' 0 R (bW E) rQ R (Z22_ok (bM a8 (cZ E))) R ?_)))))
 rintro _
 refine aB (aJ (sL []) ?_)
 refine iM 26 [] ?_
 refine dD ?_
 exact qj tI
 rintro σ1
 refine cP ?_
 split at j
 refine bL ?_
 refine lO (vp (aG ([]:aN)) R) ?_
 refine cB ?_
 cases j
 obtain rfl:=a5 _ R
 have j:=a7
 refine aV ?_
 cases j
 exact iS (none,0,0) (fun w s=>((s.nilr dX).e 3 [0]))
 refine dG ?_
 cases j
 exact qA () tI
 refine aV ?_
 cases j
 obtain rfl:=a5 _ R
 have j:=a7
 refine aZ ?_
 exact qI ((),()) j tI
 rintro ⟨_,_⟩ σ1 j
 dsimp only [Zg_J4] at j
 refine aV ?_
 refine lO (vp (aG b.2.1) R) (lS R (lO (vp (aG b.2.1) R) ?_))
 refine bL ?_
 cases j
 exact iS (L,u.length,M) (tE 2 [0])
theorem Z0c_ok  {b:(List Int)}{r:(List Int)}(e:Z0c b=some r) :
 FnOk Tryz.prog 168 [(.slice A2 N2 D2)] [aO kT3 (.slice A2 N2 D2) b] (fun (h:HH)=>((s3 h),[ow kT3 3 (s3 h) r])):=by
 unfold Z0c at e
 refine aR Tryz.func168 R 32 R R fun C V=>?_
 refine cL 0 aA ?_
 rintro rfl
 let G:=RR kT3 A2 D2 b::V
 refine cN G ?_
 refine cB ?_
 obtain ⟨q,e⟩:=gd e
 refine aV ?_
 refine fW (K:=kT3) (m:=(b.length:Int)) (z:=(0:Int)) R R bH cO kE (Zr.zk zT3 gN) (by decide) R R q.1 q.2.1 q.2.2 (fun A4 D4=>(lS R (aB (aE (aH (aC (lI R (aB (aE (aH (bB (A:=((List Int))×(Unit)) (fun a=>Z0c_J3 a.1=some r) (fun a=>[(3,(sc A4 (List.replicate (b.length:Int).toNat (0:Int)) D4))]) (fun a=>ow kT3 3 (.slice A4 (List.replicate (b.length:Int).toNat (0:Int)).length D4) a.1::G) ?_ ?_)))))))))))
 refine dG ?_
 obtain ⟨e1,M,L⟩:=bd e
 refine bD (A:=Unit) M (fun s a=>[(0,(sc A2 b D2)),(3,(sc A4 (List.replicate (b.length:Int).toNat (0:Int)) D4)),(4,(iv s.2.1)),(5,(iv s.2.2))]) (fun s a=>ow kT3 3 (.slice A4 (List.replicate (b.length:Int).toNat (0:Int)).length D4) s.1::G) () (aS R) tI ?_
 rintro ⟨u,j,l⟩ _ σ1 F e J
 dsimp only [Z0c_L1] at e
 refine eD ?_
 split at e
 refine cB ?_
 refine bB (A:=((List Int))×(Unit)) (fun a=>Z0c_J2 b j l a.1=some F) (fun a=>[(0,(sc A2 b D2)),(3,(sc A4 (List.replicate (b.length:Int).toNat (0:Int)) D4)),(4,(iv j)),(5,(iv l))]) (fun a=>ow kT3 3 (.slice A4 (List.replicate (b.length:Int).toNat (0:Int)).length D4) a.1::G) ?_ ?_
 refine cP ?_
 obtain ⟨D,e⟩:=gd e
 refine aV ?_
 refine bE 1 aA (show 0<b.length by have:=D; omega) (fun O o25 B=>?_)
 subst B
 refine cV ?_
 split at e
 refine cP ?_
 obtain ⟨i,e⟩:=gd e
 refine bL ?_
 refine bE 0 aD (show 0<(List.replicate (b.length:Int).toNat (0:Int)).length by have:=i; omega) (fun T o29 B=>?_)
 subst B
 refine cP ?_
 refine eO (K:=kT3) (x':=j) 0 l R R cO R R i.1 i.2 ?_ ?_
 exact fun I h s=>(gM).put I h () j s
 refine cP ?_
 exact qI ((u.set l.toNat j),()) e tI
 refine aZ ?_
 exact qI (u,()) e tI
 rintro ⟨Y,_⟩ σ1 e
 dsimp only [Z0c_J2] at e
 obtain ⟨E,e⟩:=gd e
 refine bL ?_
 refine bE 1 aA (show 0<b.length by have:=E; omega) (fun U o33 B=>?_)
 subst B
 refine jl ?_
 cases e
 exact qA () tI
 refine aV ?_
 cases e
 obtain rfl:=J _ R
 have e:=L
 refine aZ ?_
 exact qI (u,()) e tI
 rintro ⟨Z,_⟩ σ1 e
 dsimp only [Z0c_J3] at e
 refine eD ?_
 cases e
 exact qF (A4,(List.replicate (b.length:Int).toNat (0:Int)).length,D4) (tE 2 [0])
theorem Zo_ok  {f1:form}{b:aN}{e:(List Int)}{r:(List Int)}(i:Zo f1 b e=some r) :
 FnOk Tryz.prog 214 [(.agg [(.slice A2 N2 D2),(aG f1.out_),(aG f1.order),(.slice A3 N3 D3),(.slice A4 N4 D4),(.slice A5 N5 D5),(.slice A6 N6 D6)].toArray),(aG b),(.slice A9 N9 D9)] [aO dX (.slice A2 N2 D2) f1.groups,aO kT3 (.slice A3 N3 D3) f1.loops,aO kT3 (.slice A4 N4 D4) f1.dims,aO bF (.slice A5 N5 D5) f1.steps,aO kT3 (.slice A6 N6 D6) f1.store,aO kT3 (.slice A9 N9 D9) e] (fun (h:HH)=>((s3 h),[ow kT3 3 (s3 h) r])):=by
 unfold Zo at i
 refine aR Tryz.func214 R 45 R R fun C V=>?_
 refine cL 0 aA ?_
 rintro rfl
 refine cL 1 aA ?_
 rintro rfl
 refine cL 2 aA ?_
 rintro rfl
 refine cL 3 aA ?_
 rintro rfl
 refine cL 4 aA ?_
 rintro rfl
 refine cL 5 aA ?_
 rintro rfl
 let W0:=RR dX A2 D2 f1.groups::RR kT3 A3 D3 f1.loops::RR kT3 A4 D4 f1.dims::RR bF A5 D5 f1.steps::RR kT3 A6 D6 f1.store::RR kT3 A9 D9 e::V
 refine cN W0 ?_
 refine aZ ?_
 refine eT R fun B=>?_
 refine aZ ?_
 let G:=aK B [(sc A2 f1.groups D2),(aG f1.out_),(aG f1.order),(sc A3 f1.loops D3),(sc A4 f1.dims D4),(sc A5 f1.steps D5),(sc A6 f1.store D6)] 211::W0
 refine qN G ?_
 refine aZ ?_
 obtain ⟨D,i⟩:=gd i
 refine aV ?_
 refine lO (vz (il f1.order) (eC f' R)) (fW (K:=kT3) (m:=(f1.order.length:Int)) (z:=(0:Int)) R R bH cO kE (Zr.zk zT3 gN) (by decide) R R D.1 D.2.1 D.2.2 (fun A12 D12=>(lS R (aB (aE (aH (bB (A:=((List Int))×(Unit)) (fun a=>Zo_J7 a.1=some r) (fun a=>[(7,(sc A12 (List.replicate (f1.order.length:Int).toNat (0:Int)) D12))]) (fun a=>ow kT3 3 (.slice A12 (List.replicate (f1.order.length:Int).toNat (0:Int)).length D12) a.1::G) ?_ ?_)))))))
 refine dN ?_
 obtain ⟨e1,a1,Z⟩:=bd i
 refine bD (A:=Unit) a1 (fun s a=>[(1,(aG b)),(2,(sc A9 e D9)),(3,(pt B 0)),(7,(sc A12 (List.replicate (f1.order.length:Int).toNat (0:Int)) D12)),(15,(il (List.replicate (f1.order.length:Int).toNat (0:Int)))),(16,(iv s.2))]) (fun s a=>ow kT3 3 (.slice A12 (List.replicate (f1.order.length:Int).toNat (0:Int)).length D12) s.1::G) () (aS R) tI ?_
 rintro ⟨a3,j⟩ _ σ1 L i U
 dsimp only [Zo_L1] at i
 refine cB ?_
 split at i
 refine bL ?_
 refine bB (A:=((List Int))×(Unit)) (fun a=>Zo_J6 j a.1=some L) (fun a=>[(1,(aG b)),(2,(sc A9 e D9)),(3,(pt B 0)),(7,(sc A12 (List.replicate (f1.order.length:Int).toNat (0:Int)) D12)),(15,(il (List.replicate (f1.order.length:Int).toNat (0:Int)))),(16,(iv j))]) (fun a=>ow kT3 3 (.slice A12 (List.replicate (f1.order.length:Int).toNat (0:Int)).length D12) a.1::G) ?_ ?_
 refine lq ?_
 obtain ⟨e2,a2,a0⟩:=bd i
 refine bD (A:=Unit) a2 (fun s a=>[(1,(aG b)),(2,(sc A9 e D9)),(3,(pt B 0)),(7,(sc A12 (List.replicate (f1.order.length:Int).toNat (0:Int)) D12)),(8,(iv j)),(9,(iv s.2)),(15,(il (List.replicate (f1.order.length:Int).toNat (0:Int)))),(16,(iv j))]) (fun s a=>ow kT3 3 (.slice A12 (List.replicate (f1.order.length:Int).toNat (0:Int)).length D12) s.1::G) () (aS R) tI ?_
 rintro ⟨q,l⟩ _ σ1 M i Y
 dsimp only [Zo_L2] at i
 refine bL ?_
 refine lO (vp (aG b) R) (lO (vz (il b) (eC f' R)) ?_)
 refine aV ?_
 split at i
 refine bL ?_
 refine bB (A:=((List Int))×(Unit)) (fun a=>Zo_J5 l a.1=some M) (fun a=>[(1,(aG b)),(2,(sc A9 e D9)),(3,(pt B 0)),(7,(sc A12 (List.replicate (f1.order.length:Int).toNat (0:Int)) D12)),(8,(iv j)),(9,(iv l)),(15,(il (List.replicate (f1.order.length:Int).toNat (0:Int)))),(16,(iv j))]) (fun a=>ow kT3 3 (.slice A12 (List.replicate (f1.order.length:Int).toNat (0:Int)).length D12) a.1::G) ?_ ?_
 refine aZ ?_
 obtain ⟨E,i⟩:=gd i
 obtain ⟨F,i⟩:=gd i
 refine dP 8 [] bS fun ht hn=>?_
 refine dR 0 R (vp (aG b) R) (dR 1 R (vI R) (dR 2 R (vz (.int .u8 (bt b l)) (dB f' R R E.1 E.2)) ?_))
 refine j6 3 [] ?_
 refine dR 6 R (vz (.int .u8 (bt f1.order j)) (dB f' R R F.1 F.2)) (dR 7 R (vp (.bool ((bt b l)==(bt f1.order j))) R) (dD (aE ?_)))
 split at i
 refine cP ?_
 obtain ⟨u,i⟩:=gd i
 obtain ⟨J,i⟩:=gd i
 refine bC 0 aD (show 0<(List.replicate (f1.order.length:Int).toNat (0:Int)).length by have:=u; omega) (fun O o69 T=>?_)
 subst T
 refine bC 7 aA (show 0<e.length by have:=J; omega) (fun a4 o72 T=>?_)
 subst T
 refine dP 11 [0] bS fun ht hn=>?_
 refine j6 0 [0] ?_
 refine qg 4 [0] ?_
 refine d1 3 R (lO (fQ 0 fC aD R u) (aB (aJ (sL [0]) ?_)))
 refine iM 8 [0] ?_
 refine d1 10 R (lN (ow kT3 3 (.slice (ad O o69) (List.replicate (f1.order.length:Int).toNat (0:Int)).length D12) q::G) ?_)
 refine eO (K:=kT3) (x':=(aI ((ix q j)+(ix e l)))) 0 j R R cO R R u.1 u.2 ?_ ?_
 exact fun I h s=>(gM).put I h () (aI ((ix q j)+(ix e l))) s
 refine aB (aJ (sL [0]) (dD (cD ?_)))
 exact qI ((q.set j.toNat (aI ((ix q j)+(ix e l)))),()) i tI
 refine aV ?_
 exact qI (q,()) i tI
 rintro ⟨a5,_⟩ σ1 i
 dsimp only [Zo_J5] at i
 refine cV ?_
 cases i
 exact qA () tI
 refine aV ?_
 cases i
 obtain rfl:=Y _ R
 have i:=a0
 refine aV ?_
 exact qI (q,()) i tI
 rintro ⟨a6,_⟩ σ1 i
 dsimp only [Zo_J6] at i
 refine bL ?_
 cases i
 exact qA () tI
 refine aV ?_
 cases i
 obtain rfl:=U _ R
 have i:=Z
 refine aZ ?_
 exact qI (a3,()) i tI
 rintro ⟨a7,_⟩ σ1 i
 dsimp only [Zo_J7] at i
 refine eD ?_
 cases i
 exact qF (A12,(List.replicate (f1.order.length:Int).toNat (0:Int)).length,D12) (tE 8 [0])
theorem Z0_ok  {ba:aN}{b:(List (List Int))}{mG:Int}{r:form×Bool}(j:Z0 ba b=some r) :
 FnOk Tryz.prog 211 [(aG ba),(.slice A3 N3 D3)] [aO bF (.slice A3 N3 D3) b,gG mG] (fun (h:HH×HH×HH×HH×HH)=>((.tuple [(.agg [(.slice h.1.1 h.1.2.1 h.1.2.2),(aG r.1.out_),(aG r.1.order),(.slice h.2.1.1 h.2.1.2.1 h.2.1.2.2),(.slice h.2.2.1.1 h.2.2.1.2.1 h.2.2.1.2.2),(.slice h.2.2.2.1.1 h.2.2.2.1.2.1 h.2.2.2.1.2.2),(.slice h.2.2.2.2.1 h.2.2.2.2.2.1 h.2.2.2.2.2.2)].toArray),(.bool r.2)].toArray),[aO dX (.slice h.1.1 h.1.2.1 h.1.2.2) r.1.groups,aO kT3 (.slice h.2.1.1 h.2.1.2.1 h.2.1.2.2) r.1.loops,ow kT3 3 (.slice h.2.2.1.1 h.2.2.1.2.1 h.2.2.1.2.2) r.1.dims,ow bF 23 (.slice h.2.2.2.1.1 h.2.2.2.1.2.1 h.2.2.2.1.2.2) r.1.steps,ow kT3 3 (.slice h.2.2.2.2.1 h.2.2.2.2.2.1 h.2.2.2.2.2.2) r.1.store])):=by
 unfold Z0 at j
 refine aR Tryz.func211 R 179 R R fun C V=>?_
 refine cN (_::_::V) ?_
 refine cL 0 aA ?_
 rintro rfl
 let W0:List HP:=RR bF A3 D3 b::gG mG::V
 refine cN W0 ?_
 refine aH (aC (bG R R ly (fun b4=>(lB R (aB (aE (aH ?_)))))))
 obtain ⟨i,e9,j⟩:=bd j
 refine aC (lO (vp (aG ba) R) (lM (gG mG::_::W0) (fun w s=>(s.dgx 2 R)) ?_))
 refine lC 1 Bc R (Zg_ok e9) R ?_
 rintro ⟨A7,N7,D7⟩
 refine lN (aO dX (.slice A7 N7 D7) i.1::_::W0) ?_
 refine aM 0 aA ?_
 rintro rfl
 refine lO (vT R) (lS R (lO (vp (aG i.2.1) R) (lB R (lS R (lO (vp (aG i.2.1) R) (lB R (aB (aE (aH (aH (cQ [(1,(sc A3 b D3)),(4,(pt b4 0)),(6,(sc A7 i.1 D7)),(7,(aG i.2.1)),(34,(.bool ((!i.2.2)||((i.1.length:Int) != (b.length:Int)))))] (aK b4 [(.slice none 0 0),(aG ([]:aN)),(aG ([]:aN)),(.slice none 0 0),(.slice none 0 0),(.slice none 0 0),(.slice none 0 0)] 211::RR dX A7 D7 i.1::W0) ?_ ?_)))))))))))
 refine aC (lB R (lO (ne R) (lB R ?_)))
 rcases bo (!i.2.2) with ab | ab
 refine lf (cX ab) (lf (cX ab) (lf (cX ab) (lf (cX ab) (lf (cX ab) (lO (fB ((i.1.length:Int) != (b.length:Int)) R ab) (aB ?_))))))
 exact qJ (fun w s=>(s.e 2 [1,0]))
 refine lW (bW ab) (vS R) (lW (bW ab) (eN j8 R) (lW (bW ab) (vS R) (lW (bW ab) (eN iW R) (lW (bW ab) (vt R R) (lO (fG R ab R) (aB ?_))))))
 exact qJ (fun w s=>(s.e 2 [1,0]))
 rintro σ1
 refine aE ?_
 rcases cF j with ⟨ci,j⟩|⟨ci,j⟩
 refine bJ R ci (aH (aC (lO (vz (.agg [(.slice none 0 0),(aG ([]:aN)),(aG ([]:aN)),(.slice none 0 0),(.slice none 0 0),(.slice none 0 0),(.slice none 0 0)].toArray) (bA o3 ly R R)) (aL 0 R R hN R R R R R R (lB R (aB (aE (bY (bZ ?_)))))))))
 obtain rfl:=so j
 exact dL (vs:=[(.agg [(.slice none 0 0),(aG ([]:aN)),(aG ([]:aN)),(.slice none 0 0),(.slice none 0 0),(.slice none 0 0),(.slice none 0 0)].toArray),(.bool false)]) (.inl R) ((none,0,0),(none,0,0),(none,0,0),(none,0,0),(none,0,0)) R ⟨⟨0,b4,_,_,R,R,.inl ⟨kP,hN,R⟩⟩,R,trivial⟩ R (fun w s=>((((((s.nilr dX).nilr kT3).nilo kT3 3).nilo bF 23).nilo kT3 3).e 9 [4,3,2,1,0]))
 refine aY R ci (bQ (aE (aH (aC (lS R (lO (vp (aG i.2.1) R) (lO (vp (aG i.2.1) R) (lO (vz (.agg [(sc A7 i.1 D7),(aG i.2.1),(aG i.2.1),(.slice none 0 0),(.slice none 0 0),(.slice none 0 0),(.slice none 0 0)].toArray) (bA o3 ly R R)) (bG R R ly (fun Y=>(aL 0 R R hN R R R R R R (lN (aK Y [(sc A7 i.1 D7),(aG i.2.1),(aG i.2.1),(.slice none 0 0),(.slice none 0 0),(.slice none 0 0),(.slice none 0 0)] 211::_::_::W0) ?_))))))))))))
 refine aB (aE (aH (aC (lO (vz (.agg [(iv 0),(iv 0),(iv 0),(iv 0),(iv 0),(iv 0),(iv 0),(iv 0),(iv 0),(iv 0),(iv 0),(iv 0),(iv 0),(iv 0),(iv 0),(iv 0),(iv 0),(iv 0),(iv 0),(iv 0),(iv 0),(iv 0),(iv 0),(iv 0),(iv 0),(iv 0)].toArray) (yb u9 xx cO)) (bG R R xx (fun a0=>(aL 0 R R xy R R R R R R (aB (qM (ow kT3 214 (.slice (ad a0 0) 26 26) (List.replicate 26 (0:Int))::_::_::_::W0) (fun w s=>s.b2o 0 (List.replicate 26 (0:Int)) R R R R) ?_)))))))))
 refine aE (aH (bB (A:=(aN×(List Int))×(HH×HH)) (fun a=>Z0_J7 b i a.1.1 a.1.2=some r) (fun a=>[(1,(.slice a.2.1.1 a.2.1.2.1 a.2.1.2.2)),(4,(pt b4 0)),(6,(.slice a.2.2.1 a.2.2.2.1 a.2.2.2.2)),(7,(aG i.2.1)),(9,(pt Y 0)),(10,(pt a0 0))]) (fun a=>aO bF (.slice a.2.1.1 a.2.1.2.1 a.2.1.2.2) b::aK b4 [(.slice none 0 0),(aG ([]:aN)),(aG ([]:aN)),(.slice none 0 0),(.slice none 0 0),(.slice none 0 0),(.slice none 0 0)] 211::aO dX (.slice a.2.2.1 a.2.2.2.1 a.2.2.2.2) i.1::aK Y [(.slice a.2.2.1 a.2.2.2.1 a.2.2.2.2),(aG i.2.1),(aG a.1.1),(.slice none 0 0),(.slice none 0 0),(.slice none 0 0),(.slice none 0 0)] 211::ow kT3 214 (.slice (ad a0 0) 26 26) a.1.2::W0) ?_ ?_))
 refine aH (aC (lS R (lO (eN j8 R) (lI R (aB (aE (bV ?_)))))))
 obtain ⟨e1,e5,co⟩:=bd j
 refine bD (A:=HH×HH) e5 (fun s a=>[(1,(.slice a.1.1 a.1.2.1 a.1.2.2)),(4,(pt b4 0)),(6,(.slice a.2.1 a.2.2.1 a.2.2.2)),(7,(aG i.2.1)),(9,(pt Y 0)),(10,(pt a0 0)),(41,(.slice a.2.1 a.2.2.1 a.2.2.2)),(42,(il i.1)),(43,(iv s.2.2))]) (fun s a=>aO bF (.slice a.1.1 a.1.2.1 a.1.2.2) b::aK b4 [(.slice none 0 0),(aG ([]:aN)),(aG ([]:aN)),(.slice none 0 0),(.slice none 0 0),(.slice none 0 0),(.slice none 0 0)] 211::aO dX (.slice a.2.1 a.2.2.1 a.2.2.2) i.1::aK Y [(.slice a.2.1 a.2.2.1 a.2.2.2),(aG i.2.1),(aG s.1),(.slice none 0 0),(.slice none 0 0),(.slice none 0 0),(.slice none 0 0)] 211::ow kT3 214 (.slice (ad a0 0) 26 26) s.2.1::W0) ((A3,b.length,D3),(A7,i.1.length,D7)) (aS R) (fun w s=>((s.d 4 R).e 5 [0,3,4,2,1])) ?_
 rintro ⟨ch,aw,l⟩ ⟨⟨du,dx,aq⟩,⟨dw,dy,a2⟩⟩ σ1 c3 j cj
 replace j:Z0_L1 b i ch aw l=some c3:=j
 unfold Z0_L1 at j
 refine bK 0 aA (fun (hn:dx=b.length)=>?_)
 subst hn
 refine bK 2 aA (fun (hn:dy=i.1.length)=>?_)
 subst hn
 refine aH (aC (lO (jG R R) (aB (aE (aH ?_)))))
 rcases cF j with ⟨bu,j⟩|⟨bu,j⟩
 refine bJ R bu (bQ (aE (aH (bB (A:=(aN×(List Int))×(HH×HH)) (fun a=>Z0_J6 l a.1.1 a.1.2=some c3) (fun a=>[(1,(.slice a.2.1.1 a.2.1.2.1 a.2.1.2.2)),(4,(pt b4 0)),(6,(.slice a.2.2.1 a.2.2.2.1 a.2.2.2.2)),(7,(aG i.2.1)),(9,(pt Y 0)),(10,(pt a0 0)),(41,(.slice a.2.2.1 a.2.2.2.1 a.2.2.2.2)),(42,(il i.1)),(43,(iv l))]) (fun a=>aO bF (.slice a.2.1.1 a.2.1.2.1 a.2.1.2.2) b::aK b4 [(.slice none 0 0),(aG ([]:aN)),(aG ([]:aN)),(.slice none 0 0),(.slice none 0 0),(.slice none 0 0),(.slice none 0 0)] 211::aO dX (.slice a.2.2.1 a.2.2.2.1 a.2.2.2.2) i.1::aK Y [(.slice a.2.2.1 a.2.2.2.1 a.2.2.2.2),(aG i.2.1),(aG a.1.1),(.slice none 0 0),(.slice none 0 0),(.slice none 0 0),(.slice none 0 0)] 211::ow kT3 214 (.slice (ad a0 0) 26 26) a.1.2::W0) ?_ ?_))))
 refine bV (aH ?_)
 obtain ⟨bh,j⟩:=gd j
 refine aC (lI R (bE 2 aA (show 0<i.1.length by have:=bh; omega) (fun a5 o83 ha=>?_)))
 subst ha
 refine lO (dV j8 pG R R bh) (lO (vz (aG (ix i.1 l)) (kn (K:=dX) (fo:=0) (pr:=fun x=>(aG x)) 2 l qh (dT9.leaf fun _ _=>R) aA R bh.1 bh.2)) (lI R (lO (vp (aG (ix i.1 l)) R) (aB (aE (aH (aH ?_)))))))
 obtain ⟨a7,j⟩:=gd j
 refine aC (lO (vp (aG (ix i.1 l)) R) (lO (vz (il (ix i.1 l)) (eC f' R)) (lS R (lI R (bE 0 aA (show 0<b.length by have:=a7; omega) (fun ai o86 ha=>?_))))))
 subst ha
 refine lO (dV iW fK R R a7) (fV (K:=bF) 0 l dT23.dec R a7.1 a7.2 ?_)
 rintro ⟨d0,d6⟩
 refine lN (cl ai (o86+l.toNat*1) [(sc d0 (ix b l) d6)]::RR kT3 d0 d6 (ix b l)::RR bF (ad ai o86) aq b::_::RR dX (ad a5 o83) a2 i.1::aK Y [(sc (ad a5 o83) i.1 a2),(aG i.2.1),(aG ch),(.slice none 0 0),(.slice none 0 0),(.slice none 0 0),(.slice none 0 0)] 211::ow kT3 214 (.slice (ad a0 0) 26 26) aw::W0) ?_
 refine lO (eZ (fo:=0) 0 cH R R R) (lO (eN bH R) (lO (vt R R) (aB (aE ?_))))
 rcases cF j with ⟨bv,j⟩|⟨bv,j⟩
 refine bJ R bv (aH (aC (lO (vz (.agg [(.slice none 0 0),(aG ([]:aN)),(aG ([]:aN)),(.slice none 0 0),(.slice none 0 0),(.slice none 0 0),(.slice none 0 0)].toArray) (bA o3 ly R R)) (aL 3 R R hN R R R R R R (lB R (aB (aE (bY (bZ (cG (bZ ?_)))))))))))
 obtain rfl:=so j
 obtain rfl:=cj _ R
 have j:=co
 refine bZ (cG (bZ ?_))
 obtain rfl:=so j
 exact dL (vs:=[(.agg [(.slice none 0 0),(aG ([]:aN)),(aG ([]:aN)),(.slice none 0 0),(.slice none 0 0),(.slice none 0 0),(.slice none 0 0)].toArray),(.bool false)]) (.inl R) ((none,0,0),(none,0,0),(none,0,0),(none,0,0),(none,0,0)) R ⟨⟨3,b4,_,_,R,R,.inl ⟨kP,hN,R⟩⟩,R,trivial⟩ R (fun w s=>((((((s.nilr dX).nilr kT3).nilo kT3 3).nilo bF 23).nilo kT3 3).e 14 [4,3,2,1,0]))
 refine aY R bv (bQ (aE (aH (aC (lI R (aB (aE (bV ?_))))))))
 obtain ⟨e2,e6,dq⟩:=bd j
 refine bD (A:=Unit) e6 (fun s a=>[(1,(sc (ad ai o86) b aq)),(4,(pt b4 0)),(6,(sc (ad a5 o83) i.1 a2)),(7,(aG i.2.1)),(9,(pt Y 0)),(10,(pt a0 0)),(11,(iv l)),(12,(aG (ix i.1 l))),(13,(iv s.2.2)),(41,(sc (ad a5 o83) i.1 a2)),(42,(il i.1)),(43,(iv l))]) (fun s a=>RR bF (ad ai o86) aq b::aK b4 [(.slice none 0 0),(aG ([]:aN)),(aG ([]:aN)),(.slice none 0 0),(.slice none 0 0),(.slice none 0 0),(.slice none 0 0)] 211::RR dX (ad a5 o83) a2 i.1::aK Y [(sc (ad a5 o83) i.1 a2),(aG i.2.1),(aG s.1),(.slice none 0 0),(.slice none 0 0),(.slice none 0 0),(.slice none 0 0)] 211::ow kT3 214 (.slice (ad a0 0) 26 26) s.2.1::W0) () (aS R) (fun w s=>(s.f 7 [2,5])) ?_
 rintro ⟨ag,Z,E⟩ _ σ1 c4 j dm
 replace j:Z0_L2 b i l ag Z E=some c4:=j
 unfold Z0_L2 at j
 refine aH (aH (aC (lI R (lO (vp (aG (ix i.1 l)) R) (lO (vz (il (ix i.1 l)) (eC f' R)) (lO (jG R R) (aB (aE ?_))))))))
 rcases cF j with ⟨ax,j⟩|⟨ax,j⟩
 refine bJ R ax (bQ (aE (aH (bB (A:=(aN×(List Int))×(Unit)) (fun a=>Z0_J5 E a.1.1 a.1.2=some c4) (fun a=>[(1,(sc (ad ai o86) b aq)),(4,(pt b4 0)),(6,(sc (ad a5 o83) i.1 a2)),(7,(aG i.2.1)),(9,(pt Y 0)),(10,(pt a0 0)),(11,(iv l)),(12,(aG (ix i.1 l))),(13,(iv E)),(41,(sc (ad a5 o83) i.1 a2)),(42,(il i.1)),(43,(iv l))]) (fun a=>RR bF (ad ai o86) aq b::aK b4 [(.slice none 0 0),(aG ([]:aN)),(aG ([]:aN)),(.slice none 0 0),(.slice none 0 0),(.slice none 0 0),(.slice none 0 0)] 211::RR dX (ad a5 o83) a2 i.1::aK Y [(sc (ad a5 o83) i.1 a2),(aG i.2.1),(aG a.1.1),(.slice none 0 0),(.slice none 0 0),(.slice none 0 0),(.slice none 0 0)] 211::ow kT3 214 (.slice (ad a0 0) 26 26) a.1.2::W0) ?_ ?_))))
 refine bV (aH ?_)
 obtain ⟨ar,j⟩:=gd j
 obtain ⟨ac,j⟩:=gd j
 refine aC (lO (vp (aG (ix i.1 l)) R) (lI R (lO (vz (.int .u8 (bt (ix i.1 l) E)) (dB f' R R ar.1 ar.2)) (lO (vp (.int .u8 (IntKind.wrap .u8 ((bt (ix i.1 l) E) - (97:Int)))) R) (lO (vz (.pointer (some ⟨a0,0+(IntKind.wrap .u8 ((bt (ix i.1 l) E) - (97:Int))).toNat*1,none⟩)) (tQ u9 cO R R ac)) (lP R (aB (aE (aH (aH ?_))))))))))
 obtain ⟨b5,j⟩:=gd j
 refine cQ [(1,(sc (ad ai o86) b aq)),(4,(pt b4 0)),(6,(sc (ad a5 o83) i.1 a2)),(7,(aG i.2.1)),(9,(pt Y 0)),(10,(pt a0 0)),(11,(iv l)),(12,(aG (ix i.1 l))),(13,(iv E)),(14,(.pointer (some ⟨a0,0+(IntKind.wrap .u8 ((bt (ix i.1 l) E) - (97:Int))).toNat*1,none⟩))),(41,(sc (ad a5 o83) i.1 a2)),(42,(il i.1)),(43,(iv l)),(84,(.bool (((ix Z (IntKind.wrap .u8 ((bt (ix i.1 l) E) - (97:Int)))) != (0:Int))&&((ix Z (IntKind.wrap .u8 ((bt (ix i.1 l) E) - (97:Int)))) != (ix (ix b l) E)))))] (RR bF (ad ai o86) aq b::aK b4 [(.slice none 0 0),(aG ([]:aN)),(aG ([]:aN)),(.slice none 0 0),(.slice none 0 0),(.slice none 0 0),(.slice none 0 0)] 211::RR dX (ad a5 o83) a2 i.1::aK Y [(sc (ad a5 o83) i.1 a2),(aG i.2.1),(aG ag),(.slice none 0 0),(.slice none 0 0),(.slice none 0 0),(.slice none 0 0)] 211::ow kT3 214 (.slice (ad a0 0) 26 26) Z::W0) ?_ ?_
 rcases bo ((ix Z (IntKind.wrap .u8 ((bt (ix i.1 l) E) - (97:Int)))) != (0:Int)) with q | q
 refine dU (K:=bF) 0 l dT23.dec R a7.1 a7.2 ?_
 rintro ⟨c6,ca⟩
 refine cN (cl ai (o86+l.toNat*1) [(sc c6 (ix b l) ca)]::RR kT3 c6 ca (ix b l)::_::_::_::aK Y [(sc (ad a5 o83) i.1 a2),(aG i.2.1),(aG ag),(.slice none 0 0),(.slice none 0 0),(.slice none 0 0),(.slice none 0 0)] 211::ow kT3 214 (.slice (ad a0 0) 26 26) Z::W0) ?_
 refine bC 1 aA (show 0<(ix b l).length by have:=(b5 q); omega) (fun ea o120 ha=>?_)
 subst ha
 refine dP 17 [] bS (fun ht hn=>(dR 0 R (vP R) (dR 1 R (vP R) (dR 2 R (fQ 6 fC aD R ac) (dR 3 R (vt R R) (dR 4 R (vB R) (dW 5 R (dO q) (vP R) (dW 6 R (dO q) (vP R) (dW 7 R (dO q) (fQ 6 fC aD R ac) (dW 8 R (dO q) (vS R) (dW 9 R (dO q) (vI R) (dW 10 R (dO q) (dV iW fK R R a7) (dW 11 R (dO q) (eZ (fo:=0) 0 cH R R R) (dW 12 R (dO q) (vI R) (dW 13 R (dO q) (dV bH cO R R (b5 q)) (dW 14 R (dO q) (fQ 1 fC aA R (b5 q)) (dW 15 R (dO q) (vt R R) (dR 16 R (iJ R q R) (dD ?_)))))))))))))))))))
 exact qJ (fun w s=>(s.f 7 [2,5]))
 refine dP 17 [] bS (fun ht hn=>(dR 0 R (vP R) (dR 1 R (vP R) (dR 2 R (fQ 4 fC aD R ac) (dR 3 R (vt R R) (dR 4 R (vB R) (dF 5 R (jh q) (dF 6 R (jh q) (dF 7 R (jh q) (dF 8 R (jh q) (dF 9 R (jh q) (dF 10 R (jh q) (dF 11 R (jh q) (dF 12 R (jh q) (dF 13 R (jh q) (dF 14 R (jh q) (dF 15 R (jh q) (dR 16 R (ki ((ix Z (IntKind.wrap .u8 ((bt (ix i.1 l) E) - (97:Int)))) != (ix (ix b l) E)) R q) (dD ?_)))))))))))))))))))
 exact qJ (fun w s=>s)
 rintro σ1
 refine aE ?_
 rcases cF j with ⟨ay,j⟩|⟨ay,j⟩
 refine bJ R ay (aH (aC (lO (vz (.agg [(.slice none 0 0),(aG ([]:aN)),(aG ([]:aN)),(.slice none 0 0),(.slice none 0 0),(.slice none 0 0),(.slice none 0 0)].toArray) (bA o3 ly R R)) (aL 1 R R hN R R R R R R (lN (_::_::_::_::_::W0) ?_)))))
 refine lB R (aB (aE (bY (bZ (cG (bZ ?_))))))
 obtain rfl:=so j
 obtain rfl:=dm _ R
 have j:=dq
 refine bZ (cG (cG (bZ ?_)))
 obtain rfl:=so j
 obtain rfl:=cj _ R
 have j:=co
 refine bZ (cG (bZ ?_))
 obtain rfl:=so j
 exact dL (vs:=[(.agg [(.slice none 0 0),(aG ([]:aN)),(aG ([]:aN)),(.slice none 0 0),(.slice none 0 0),(.slice none 0 0),(.slice none 0 0)].toArray),(.bool false)]) (.inl R) ((none,0,0),(none,0,0),(none,0,0),(none,0,0),(none,0,0)) R ⟨⟨1,b4,_,_,R,R,.inl ⟨kP,hN,R⟩⟩,R,trivial⟩ R (fun w s=>((((((s.nilr dX).nilr kT3).nilo kT3 3).nilo bF 23).nilo kT3 3).e 12 [4,3,2,1,0]))
 refine aY R ay (bQ (aE (aH ?_)))
 obtain ⟨b6,j⟩:=gd j
 refine aC (lP R (lS R (lI R (lO (dV iW fK R R a7) (fV (K:=bF) 0 l dT23.dec R a7.1 a7.2 ?_)))))
 rintro ⟨c7,be⟩
 refine lN (cl ai (o86+l.toNat*1) [(sc c7 (ix b l) be)]::RR kT3 c7 be (ix b l)::_::_::_::_::_::W0) ?_
 refine lO (eZ (fo:=0) 0 cH R R R) (lI R (bE 1 aA (show 0<(ix b l).length by have:=b6; omega) (fun cf o126 ha=>?_)))
 subst ha
 refine lO (dV bH cO R R b6) (lO (fQ 1 fC aA R b6) (lP R (lM (ow _ _ _ _::cl ai (o86+l.toNat*1) [(sc (ad cf o126) (ix b l) be)]::RR kT3 (ad cf o126) be (ix b l)::aO _ _ _::aK _ _ _::aO _ _ _::aK _ _ _::W0) (fun w s=>(s.f 7 [6,1,0,6])) ?_)))
 refine eO (K:=kT3) (x':=(ix (ix b l) E)) 0 (IntKind.wrap .u8 ((bt (ix i.1 l) E) - (97:Int))) R R cO R R ac.1 ac.2 ?_ ?_
 exact fun I h s=>(gM).put I h () (ix (ix b l) E) s
 refine lN (ow kT3 214 (.slice (ad a0 0) 26 26) (Z.set (IntKind.wrap .u8 ((bt (ix i.1 l) E) - (97:Int))).toNat (ix (ix b l) E))::_::_::_::_::_::_::W0) ?_
 refine aB ?_
 obtain ⟨c0,b9,j⟩:=bd j
 replace b9:=Option.some.inj b9
 refine qM (ow kT3 214 (.slice (ad a0 0) 26 26) c0::_::_::_::_::_::_::W0) (fun w s=>by rw [← b9]; exact s) ?_
 refine aE (aH ?_)
 obtain ⟨eb,cp,j⟩:=bd j
 refine dP 7 [] bS (fun ht hn=>(dR 0 R (eW 2 kF R) (dR 1 R (eS 6 qh R R R) (dR 2 R (vp (aG (ix i.1 l)) R) (dR 3 R (vI R) (dR 4 R (vz (.int .u8 (bt (ix i.1 l) E)) (dB f' R R ar.1 ar.2)) (d1 5 R (lC 0 rQ R (Z22_ok cp) R ?_))))))))
 rintro _
 refine aB (aJ (sL []) (dR 6 R (jG R R) (dD (aE ?_))))
 rcases cF j with ⟨az,j⟩|⟨az,j⟩
 refine bJ R az ?_
 obtain ⟨b7,j⟩:=gd j
 obtain ⟨ck,j⟩:=gd j
 refine dP 10 [6] bS (fun ht hn=>(dR 0 R (eW 2 kF R) (hS:=(sL [6])) (dR 2 R (vp (aG (ix i.1 l)) R) (hS:=(sL [6])) (dR 3 R (vI R) (hS:=(sL [6])) (dR 4 R (vI R) (hS:=(sL [6])) (dR 5 R (iE R R) (hS:=(sL [6])) (dR 6 R (vz (aG (sub (ix i.1 l) E (aI (E+(1:Int))))) (iL E (aI (E+(1:Int))) f' R R R b7.1 b7.2.1 b7.2.2)) (hS:=(sL [6])) (d1 1 R (lO (eS 6 qh R R R) (aB (aJ (sL [6]) (dR 7 R (vz (aG (ag++(sub (ix i.1 l) E (aI (E+(1:Int)))))) (om R R ck)) (hS:=(sL [6])) (dR 8 R (eW 2 kF R) (hS:=(sL [6])) (d1 9 R (dI 6 R R pG R R R R R (lN (_::_::_::_::_::_::aK Y [(sc (ad a5 o83) i.1 a2),(aG i.2.1),(aG (ag++(sub (ix i.1 l) E (aI (E+(1:Int)))))),(.slice none 0 0),(.slice none 0 0),(.slice none 0 0),(.slice none 0 0)] 211::W0) ?_))))))))))))))))
 refine aB (aJ (sL [6]) (dD (cD ?_)))
 exact qI (((ag++(sub (ix i.1 l) E (aI (E+(1:Int))))),c0),()) j (fun w s=>(s.f 7 [3,4,0,1]))
 refine aY R az (bQ (cD ?_))
 exact qI ((ag,c0),()) j (fun w s=>(s.f 7 [3,4,0,1]))
 rintro ⟨⟨dk,c1⟩,_⟩ σ1 j
 replace j:Z0_J5 E dk c1=some c4:=j
 unfold Z0_J5 at j
 refine aC (lI R (lO (iE R R) (lI R (aB ?_))))
 obtain rfl:=so j
 exact qA () (fun w s=>s)
 refine aY R ax (eA (cE ?_))
 obtain rfl:=so j
 obtain rfl:=dm _ R
 have j:=dq
 refine cE (dH (cD ?_))
 exact qI ((ag,Z),(((ad ai o86),b.length,aq),((ad a5 o83),i.1.length,a2))) j (fun w s=>s)
 rintro ⟨⟨dl,c2⟩,⟨⟨cw,d7,d2⟩,⟨cx,d8,d3⟩⟩⟩ σ1 j
 replace j:Z0_J6 l dl c2=some c3:=j
 unfold Z0_J6 at j
 refine bK 0 aA (fun (hn:d7=b.length)=>?_)
 subst hn
 refine bK 2 aA (fun (hn:d8=i.1.length)=>?_)
 subst hn
 refine aC (lO (iE R R) (lI R (aB ?_)))
 obtain rfl:=so j
 exact qA ((cw,b.length,d2),(cx,i.1.length,d3)) (fun w s=>s)
 refine aY R bu (eA (cE ?_))
 obtain rfl:=so j
 obtain rfl:=cj _ R
 have j:=co
 refine cE (dH ?_)
 exact qI ((ch,aw),((du,b.length,aq),(dw,i.1.length,a2))) j (fun w s=>s)
 rintro ⟨⟨u,O⟩,⟨⟨aj,d9,ae⟩,⟨J,da,D⟩⟩⟩ σ1 j
 replace j:Z0_J7 b i u O=some r:=j
 unfold Z0_J7 at j
 refine bK 0 aA (fun (hn:d9=b.length)=>?_)
 subst hn
 refine bK 2 aA (fun (hn:da=i.1.length)=>?_)
 subst hn
 refine aH (aC (lI R (aB (aE (aH (bB (A:=((List Int))×(HH)) (fun a=>Z0_J8 b i u a.1=some r) (fun a=>[(1,(sc aj b ae)),(4,(pt b4 0)),(6,(sc J i.1 D)),(7,(aG i.2.1)),(9,(pt Y 0))]) (fun a=>RR bF aj ae b::aK b4 [(.slice none 0 0),(aG ([]:aN)),(aG ([]:aN)),(.slice none 0 0),(.slice none 0 0),(.slice none 0 0),(.slice none 0 0)] 211::RR dX J D i.1::aK Y [(sc J i.1 D),(aG i.2.1),(aG u),(.slice a.2.1 a.2.2.1 a.2.2.2),(.slice none 0 0),(.slice none 0 0),(.slice none 0 0)] 211::ow kT3 3 (.slice a.2.1 a.2.2.1 a.2.2.2) a.1::W0) ?_ ?_))))))
 refine aH (aC (lI R (aB (aE (bV ?_)))))
 obtain ⟨e3,e7,dr⟩:=bd j
 refine bD (A:=HH) e7 (fun s a=>[(1,(sc aj b ae)),(4,(pt b4 0)),(6,(sc J i.1 D)),(7,(aG i.2.1)),(9,(pt Y 0)),(10,(pt a0 0)),(15,(iv s.2.1)),(16,(iv s.2.2))]) (fun s a=>RR bF aj ae b::aK b4 [(.slice none 0 0),(aG ([]:aN)),(aG ([]:aN)),(.slice none 0 0),(.slice none 0 0),(.slice none 0 0),(.slice none 0 0)] 211::RR dX J D i.1::aK Y [(sc J i.1 D),(aG i.2.1),(aG u),(.slice a.1 a.2.1 a.2.2),(.slice none 0 0),(.slice none 0 0),(.slice none 0 0)] 211::ow kT3 3 (.slice a.1 a.2.1 a.2.2) s.1::ow kT3 214 (.slice (ad a0 0) 26 26) O::W0) (none,0,0) (aS R) (fun w s=>((s.nilo kT3 3).e 6 [1,2,3,4,0,5])) ?_
 rintro ⟨a8,c5,a6⟩ ⟨bk,db,bp⟩ σ1 ds j dn
 replace j:Z0_L3 u O a8 c5 a6=some ds:=j
 unfold Z0_L3 at j
 refine bK 4 aD (fun (hn:db=a8.length)=>?_)
 subst hn
 refine aH (aH (aC (lI R (lO (eW 2 kF R) (lO (eS 3 qh R R R) (lO (vz (il u) (eC f' R)) (lO (jG R R) (aB (aE ?_)))))))))
 rcases cF j with ⟨b0,j⟩|⟨b0,j⟩
 refine bJ R b0 (bQ (aE (aH (bV (aH ?_)))))
 obtain ⟨bw,j⟩:=gd j
 obtain ⟨bz,j⟩:=gd j
 refine aC (lO (eW 2 kF R) (lO (eS 3 qh R R R) (lI R (lO (vz (.int .u8 (bt u a6)) (dB f' R R bw.1 bw.2)) (lO (vp (.int .u8 (IntKind.wrap .u8 ((bt u a6) - (97:Int)))) R) (lO (vz (.pointer (some ⟨a0,0+(IntKind.wrap .u8 ((bt u a6) - (97:Int))).toNat*1,none⟩)) (tQ u9 cO R R bz)) (lO (fQ 5 fC aD R bz) (lI R (aB (aE (aH ?_)))))))))))
 obtain ⟨cm,j⟩:=gd j
 refine aC (lO (eW 3 mN R) (lO (eS 3 cH R R R) (lI R (bO (K:=kT3) (xs:=([(ix O (IntKind.wrap .u8 ((bt u a6) - (97:Int))))]:List Int)) (vs:=[(iv (ix O (IntKind.wrap .u8 ((bt u a6) - (97:Int)))))]) 0 R R bH cO gN R R R R R R ?_ R (fun cy d4=>?_)))))
 exact fun I h s=>(gM).list [((),(ix O (IntKind.wrap .u8 ((bt u a6) - (97:Int)))))] I h s
 refine lN (OO kT3 3 cy d4 ([(ix O (IntKind.wrap .u8 ((bt u a6) - (97:Int))))]:List Int)::RR bF aj ae b::_::RR dX J D i.1::aK Y [(sc J i.1 D),(aG i.2.1),(aG u),(sc bk a8 bp),(.slice none 0 0),(.slice none 0 0),(.slice none 0 0)] 211::OO kT3 3 bk bp a8::ow kT3 214 (.slice (ad a0 0) 26 26) O::W0) ?_
 refine lM (ow _ _ _ _::ow _ _ _ _::aO _ _ _::aK _ _ _::aO _ _ _::aK _ _ _::ow _ _ _ _::W0) (fun w s=>(s.f 7 [5,1,0,5,6,1])) ?_
 refine eU (K:=kT3) 17592186044416 R R bH cO kE (Zr.zk zT3 gN) R R R R R R eB cm (fun bl bq=>(lN (OO kT3 3 bl bq (a8++([(ix O (IntKind.wrap .u8 ((bt u a6) - (97:Int))))]:List Int))::_::_::_::_::_::W0) ?_))
 refine lO (eW 3 mN R) (dI 4 R R fK R R R R R (lN (_::_::_::_::aK Y [(sc J i.1 D),(aG i.2.1),(aG u),(sc bl (a8++([(ix O (IntKind.wrap .u8 ((bt u a6) - (97:Int))))]:List Int)) bq),(.slice none 0 0),(.slice none 0 0),(.slice none 0 0)] 211::_::W0) ?_))
 refine aB (aE (aH (aC (lI R (lI R (lO (rJ R R) (lI R (aB (aE (aH (aC (lI R (lO (tj R R) (aB (aE ?_)))))))))))))))
 rcases cF j with ⟨b1,j⟩|⟨b1,j⟩
 refine bJ R b1 (aH (aC (lO (vz (.agg [(.slice none 0 0),(aG ([]:aN)),(aG ([]:aN)),(.slice none 0 0),(.slice none 0 0),(.slice none 0 0),(.slice none 0 0)].toArray) (bA o3 ly R R)) (aL 2 R R hN R R R R R R (lB R (aB (aE (bY (cG (bZ ?_))))))))))
 obtain rfl:=so j
 obtain rfl:=dn _ R
 have j:=dr
 refine bZ (cG (bZ ?_))
 obtain rfl:=so j
 exact dL (vs:=[(.agg [(.slice none 0 0),(aG ([]:aN)),(aG ([]:aN)),(.slice none 0 0),(.slice none 0 0),(.slice none 0 0),(.slice none 0 0)].toArray),(.bool false)]) (.inl R) ((none,0,0),(none,0,0),(none,0,0),(none,0,0),(none,0,0)) R ⟨⟨2,b4,_,_,R,R,.inl ⟨kP,hN,R⟩⟩,R,trivial⟩ R (fun w s=>((((((s.nilr dX).nilr kT3).nilo kT3 3).nilo bF 23).nilo kT3 3).e 13 [4,3,2,1,0]))
 refine aY R b1 (bQ (cD (aE (aC (lI R (lO (iE R R) (lI R (aB ?_))))))))
 obtain rfl:=so j
 exact qA (bl,(a8++([(ix O (IntKind.wrap .u8 ((bt u a6) - (97:Int))))]:List Int)).length,bq) (fun w s=>(s.e 6 [1,2,3,4,0,5]))
 refine aY R b0 (eA (cE ?_))
 obtain rfl:=so j
 obtain rfl:=dn _ R
 have j:=dr
 refine cE (dH ?_)
 exact qI (a8,(bk,a8.length,bp)) j (fun w s=>(s.f 6 [0,5]))
 rintro ⟨G,⟨T,dc,U⟩⟩ σ1 j
 replace j:Z0_J8 b i u G=some r:=j
 unfold Z0_J8 at j
 refine bK 4 aD (fun (hn:dc=G.length)=>?_)
 subst hn
 refine aH ?_
 obtain ⟨b8,j⟩:=gd j
 obtain ⟨F,cq,j⟩:=bd j
 refine aC (lO (eW 3 mN R) (lO (eS 3 cH R R R) (lO (vp (aG i.2.1) R) (lO (vz (il i.2.1) (eC f' R)) (ji (fun w s=>s.shr 4 R) (gP (K:=kT3) (0:Int) (i.2.1.length:Int) 0 R R bH cO R R R R b8.1 b8.2.1 b8.2.2 (fun c8 cb=>(lM (RR kT3 c8 cb (sub G (0:Int) (i.2.1.length:Int))::RR kT3 c8 cb (sub G (0:Int) (i.2.1.length:Int))::RR kT3 T U G::_::_::_::aK Y [(sc J i.1 D),(aG i.2.1),(aG u),(sc T G U),(.slice none 0 0),(.slice none 0 0),(.slice none 0 0)] 211::W0) (fun w s=>(s.d 0 R)) ?_))))))))
 refine lC 1 gV R (Zt_ok cq) R ?_
 rintro ⟨L,dd,M⟩
 refine lN (ow kT3 3 (.slice L dd M) F::_::_::_::_::_::_::W0) ?_
 refine aM 0 aD ?_
 rintro rfl
 refine lO (eW 4 mO R) (dI 6 R R fK R R R R R (lN (_::_::_::_::_::_::aK Y [(sc J i.1 D),(aG i.2.1),(aG u),(sc T G U),(sc L F M),(.slice none 0 0),(.slice none 0 0)] 211::W0) ?_))
 refine aB (aE (aH (aH ?_)))
 obtain ⟨ec,cr,j⟩:=bd j
 refine aC (lO (eW 4 mO R) (lO (eS 6 cH R R R) (lC 1 jK R (FnOk.lends (A':=[OO kT3 3 L M F]) (A:=[RR kT3 L M F]) (B:=[]) (Zf_ok cr) ⟨aU,trivial⟩ (fun _=>trivial)) R ?_)))
 rintro _
 refine lO (ne R) (aB (aE ?_))
 rcases cF j with ⟨b2,j⟩|⟨b2,j⟩
 refine bJ R b2 (aH (aC (lO (vz (.agg [(.slice none 0 0),(aG ([]:aN)),(aG ([]:aN)),(.slice none 0 0),(.slice none 0 0),(.slice none 0 0),(.slice none 0 0)].toArray) (bA o3 ly R R)) (aL 4 R R hN R R R R R R (lB R (aB (aE (bY (bZ ?_)))))))))
 obtain rfl:=so j
 exact dL (vs:=[(.agg [(.slice none 0 0),(aG ([]:aN)),(aG ([]:aN)),(.slice none 0 0),(.slice none 0 0),(.slice none 0 0),(.slice none 0 0)].toArray),(.bool false)]) (.inl R) ((none,0,0),(none,0,0),(none,0,0),(none,0,0),(none,0,0)) R ⟨⟨4,b4,_,_,R,R,.inl ⟨kP,hN,R⟩⟩,R,trivial⟩ R (fun w s=>((((((s.nilr dX).nilr kT3).nilo kT3 3).nilo bF 23).nilo kT3 3).e 14 [4,3,2,1,0]))
 refine aY R b2 (bQ (aE (aH (bB (A:=((List (List Int)))×(HH)) (fun a=>Z0_J9 i u G F a.1=some r) (fun a=>[(4,(pt b4 0)),(7,(aG i.2.1)),(9,(pt Y 0))]) (fun a=>aK b4 [(.slice none 0 0),(aG ([]:aN)),(aG ([]:aN)),(.slice none 0 0),(.slice none 0 0),(.slice none 0 0),(.slice none 0 0)] 211::aK Y [(sc J i.1 D),(aG i.2.1),(aG u),(sc T G U),(sc L F M),(.slice a.2.1 a.2.2.1 a.2.2.2),(.slice none 0 0)] 211::RR dX J D i.1::RR kT3 T U G::OO kT3 3 L M F::ow bF 23 (.slice a.2.1 a.2.2.1 a.2.2.2) a.1::W0) ?_ ?_))))
 refine aH (aC (lS R (lO (eN j8 R) (lI R (aB (aE (bV ?_)))))))
 obtain ⟨e4,e8,e0⟩:=bd j
 refine bD (A:=HH) e8 (fun s a=>[(1,(sc aj b ae)),(4,(pt b4 0)),(7,(aG i.2.1)),(9,(pt Y 0)),(150,(sc J i.1 D)),(151,(il i.1)),(152,(iv s.2))]) (fun s a=>RR bF aj ae b::aK b4 [(.slice none 0 0),(aG ([]:aN)),(aG ([]:aN)),(.slice none 0 0),(.slice none 0 0),(.slice none 0 0),(.slice none 0 0)] 211::aK Y [(sc J i.1 D),(aG i.2.1),(aG u),(sc T G U),(sc L F M),(.slice a.1 a.2.1 a.2.2),(.slice none 0 0)] 211::RR dX J D i.1::RR kT3 T U G::OO kT3 3 L M F::ow bF 23 (.slice a.1 a.2.1 a.2.2) s.1::W0) (none,0,0) (aS R) (fun w s=>((s.nilo bF 23).e 8 [4,5,7,6,3,1,0])) ?_
 rintro ⟨a1,aa⟩ ⟨ak,de,al⟩ σ1 dt j dz
 replace j:Z0_L4 b i u G F a1 aa=some dt:=j
 unfold Z0_L4 at j
 refine bK 6 aD (fun (hn:de=a1.length)=>?_)
 subst hn
 refine aH (aC (lO (jG R R) (aB (aE (aH ?_)))))
 rcases cF j with ⟨b3,j⟩|⟨b3,j⟩
 refine bJ R b3 (bQ (aE (aH (bV (aH ?_)))))
 obtain ⟨au,j⟩:=gd j
 refine aC (lI R (bE 3 aA (show 0<i.1.length by have:=au; omega) (fun ao o207 ha=>?_)))
 subst ha
 refine lO (dV j8 pG R R au) (lO (vz (aG (ix i.1 aa)) (kn (K:=dX) (fo:=0) (pr:=fun x=>(aG x)) 3 aa qh (dT9.leaf fun _ _=>R) aA R au.1 au.2)) (lI R (lO (vp (aG (ix i.1 aa)) R) (aB (aE ?_)))))
 obtain ⟨av,j⟩:=gd j
 obtain ⟨bi,cs,j⟩:=bd j
 obtain ⟨a9,ct,j⟩:=bd j
 obtain ⟨cn,j⟩:=gd j
 refine bC 0 aA (show 0<b.length by have:=av; omega) (fun cg o210 ha=>?_)
 subst ha
 refine dU (K:=bF) 0 aa dT23.dec R av.1 av.2 ?_
 rintro ⟨c9,cc⟩
 refine cN (cl cg (o210+aa.toNat*1) [(sc c9 (ix b aa) cc)]::RR kT3 c9 cc (ix b aa)::RR bF (ad cg o210) ae b::_::aK Y [(sc (ad ao o207) i.1 D),(aG i.2.1),(aG u),(sc T G U),(sc L F M),(sc ak a1 al),(.slice none 0 0)] 211::RR dX (ad ao o207) D i.1::_::_::OO bF 23 ak al a1::W0) ?_
 refine dP 11 [] bS (fun ht hn=>(dR 0 R (eW 5 oI R) (dR 1 R (eS 4 Bd R R R) (dR 2 R (vz (.agg [(sc (ad ao o207) i.1 D),(aG i.2.1),(aG u),(sc T G U),(sc L F M),(sc ak a1 al),(.slice none 0 0)].toArray) (dA 4 kP hN R R R R)) (dR 3 R (vp (aG (ix i.1 aa)) R) (dR 4 R (vS R) (dR 5 R (vI R) (dR 6 R (dV iW fK R R av) (dR 7 R (eZ (fo:=0) 0 cH R R R) (d1 8 R (lM (_::_::_::_::_::_::_::_::_::_::W0) (fun w s=>(s.d 1 R)) ?_)))))))))))
 refine lC 1 ua R (Z0c_ok cs) R ?_
 rintro ⟨bb,df,bf⟩
 refine lN (ow kT3 3 (.slice bb df bf) bi::_::_::_::_::_::_::_::_::_::W0) ?_
 refine aM 0 aD ?_
 rintro rfl
 refine aB (aJ (sL [0]) (d1 9 R (lM (ow _ _ _ _::ow _ _ _ _::ow _ _ _ _::aO _ _ _::aO _ _ _::aO kT3 (.slice none 0 0) ([]:List Int)::cl _ _ _::aO _ _ _::aO _ _ _::aK _ _ _::aK _ _ _::aO _ _ _::aO _ _ _::W0) (fun w s=>((((s.d 6 R).d 8 R).nilr kT3).f 13 [11,2,3,1,2,1,1,1,0,1,4,7])) ?_)))
 refine lC 6 xz R (FnOk.lends (A':=[OO kT3 3 L M F,OO bF 23 ak al a1,OO kT3 3 bb bf bi]) (A:=[RR kT3 L M F,RR bF ak al a1,RR kT3 bb bf bi]) (B:=[RR dX (ad ao o207) D i.1,RR kT3 T U G,aO kT3 (.slice none 0 0) ([]:List Int)]) (FnOk.perm (Zo_ok (f1:=(⟨i.1,i.2.1,u,G,F,a1,([]:List Int)⟩:form)) ct) (Pre':=[RR kT3 L M F,RR bF ak al a1,RR kT3 bb bf bi,RR dX (ad ao o207) D i.1,RR kT3 T U G,aO kT3 (.slice none 0 0) ([]:List Int)]) (fun _ _ _ s=>(s.e 6 [3,4,0,1,5,2]))) ⟨aU,aU,aU,trivial⟩ (fun _=>⟨(bN jw),trivial⟩)) R ?_
 rintro ⟨bm,dg,br⟩
 refine lN (_::_::_::ow kT3 3 (.slice bm dg br) a9::_::_::_::_::_::_::_::W0) ?_
 refine aM 3 aD ?_
 rintro rfl
 refine aB (aJ (fun w s=>(s.f 11 [4,7,0,2])) (d1 10 R (lM (ow _ _ _ _::ow _ _ _ _::ow _ _ _ _::ow _ _ _ _::cl _ _ _::aO _ _ _::aO _ _ _::aK _ _ _::aK _ _ _::aO _ _ _::aO _ _ _::W0) (fun w s=>(s.f 11 [3,1,0,3,4,7])) ?_)))
 refine bO (K:=bF) (xs:=([a9]:List (List Int))) (vs:=[(sc bm a9 br)]) 1 R R iW fK lv R R R R R R ?_ R (fun cz d5=>?_)
 exact fun I h s=>(nh).list [((sc bm a9 br),a9)] I h s
 refine lN (OO bF 23 cz d5 ([a9]:List (List Int))::_::_::_::_::_::_::_::_::_::_::W0) ?_
 refine aB (aJ (fun w s=>(s.f 11 [4,7,1,2])) (d1 11 R (lM (ow _ _ _ _::ow _ _ _ _::ow _ _ _ _::ow _ _ _ _::cl _ _ _::aO _ _ _::aO _ _ _::aK _ _ _::aK _ _ _::aO _ _ _::aO _ _ _::W0) (fun w s=>(s.f 11 [2,1,0,2,3,8])) ?_)))
 refine eU (K:=bF) 5864062014805 R R iW fK u6 (Zr.zk zT23 lv) R R R R R R eB cn (fun bn bs=>(lN (OO bF 23 bn bs (a1++([a9]:List (List Int)))::_::_::_::_::_::_::_::_::_::W0) ?_))
 refine aB (qE (d1 12 R (lO (eW 5 oI R) (aB (qE (d1 13 R (dI 7 R R Be R R R R R (lN (_::_::_::_::_::_::_::aK Y [(sc (ad ao o207) i.1 D),(aG i.2.1),(aG u),(sc T G U),(sc L F M),(sc bn (a1++([a9]:List (List Int))) bs),(.slice none 0 0)] 211::_::_::W0) ?_))))))))
 refine aB (qE (dD (cD (aE (aC (lO (iE R R) (lI R (aB ?_))))))))
 obtain rfl:=so j
 exact qA (bn,(a1++([a9]:List (List Int))).length,bs) (fun w s=>(s.f 10 [5,5,1,1,0,1]))
 refine aY R b3 (eA (cE ?_))
 obtain rfl:=so j
 obtain rfl:=dz _ R
 have j:=e0
 refine cE (dH ?_)
 exact qI (a1,(ak,a1.length,al)) j (fun w s=>(s.f 7 [1,6]))
 rintro ⟨f224,⟨a3,dh,a4⟩⟩ σ1 j
 replace j:Z0_J9 i u G F f224=some r:=j
 unfold Z0_J9 at j
 refine bK 5 aD (fun (hn:dh=f224.length)=>?_)
 subst hn
 refine aH ?_
 obtain ⟨bj,cu,j⟩:=bd j
 obtain ⟨ap,cv,j⟩:=bd j
 refine dP 7 [] bS (fun ht hn=>(dR 0 R (vz (.agg [(sc J i.1 D),(aG i.2.1),(aG u),(sc T G U),(sc L F M),(sc a3 f224 a4),(.slice none 0 0)].toArray) (dA 1 kP hN R R R R)) (dR 1 R (vp (aG i.2.1) R) (dR 2 R (eW 4 mO R) (dR 3 R (eS 1 cH R R R) (d1 4 R (lM (ow _ _ _ _::aK _ _ _::aK Y [(sc J i.1 D),(aG i.2.1),(aG u),(sc T G U),(sc L F M),(sc a3 f224 a4),(.slice none 0 0)] 211::RR dX J D i.1::aO _ _ _::OO bF 23 a3 a4 f224::W0) (fun w s=>(s.e 6 [4,0,1,2,3,5])) ?_)))))))
 refine lC 1 ua R (FnOk.lends (A':=[OO kT3 3 L M F]) (A:=[RR kT3 L M F]) (B:=[]) (Z0c_ok cu) ⟨aU,trivial⟩ (fun _=>⟨(bN jw),trivial⟩)) R ?_
 rintro ⟨bc,di,bg⟩
 refine lN (_::ow kT3 3 (.slice bc di bg) bj::_::_::_::_::_::W0) ?_
 refine aM 1 aD ?_
 rintro rfl
 refine aB (aJ (fun w s=>(s.e 7 [2,3,4,5,0,6])) (d1 5 R (lM (ow _ _ _ _::ow _ _ _ _::ow _ _ _ _::aO _ _ _::aO _ _ _::aO kT3 (.slice none 0 0) ([]:List Int)::aK _ _ _::aK _ _ _::aO _ _ _::aO _ _ _::W0) (fun w s=>((((s.d 4 R).d 6 R).nilr kT3).e 10 [3,9,4,2,1,0,5,6,7,8])) ?_)))
 refine lC 6 xz R (FnOk.lends (A':=[OO kT3 3 L M F,OO bF 23 a3 a4 f224,OO kT3 3 bc bg bj]) (A:=[RR kT3 L M F,RR bF a3 a4 f224,RR kT3 bc bg bj]) (B:=[RR dX J D i.1,RR kT3 T U G,aO kT3 (.slice none 0 0) ([]:List Int)]) (FnOk.perm (Zo_ok (f1:=(⟨i.1,i.2.1,u,G,F,f224,([]:List Int)⟩:form)) cv) (Pre':=[RR kT3 L M F,RR bF a3 a4 f224,RR kT3 bc bg bj,RR dX J D i.1,RR kT3 T U G,aO kT3 (.slice none 0 0) ([]:List Int)]) (fun _ _ _ s=>(s.e 6 [3,4,0,1,5,2]))) ⟨aU,aU,aU,trivial⟩ (fun _=>⟨(bN jw),trivial⟩)) R ?_
 rintro ⟨am,dj,an⟩
 refine lN (_::_::_::ow kT3 3 (.slice am dj an) ap::_::_::_::_::W0) ?_
 refine aM 3 aD ?_
 rintro rfl
 refine aB (aJ (fun w s=>(s.f 8 [4,4,0,2])) (dR 6 R (eW 6 rR R) (hS:=(fun w s=>(s.f 8 [4,4,0,2]))) (d1 7 R (dI 5 R R fK R R R R R (lN (_::_::_::_::_::aK Y [(sc J i.1 D),(aG i.2.1),(aG u),(sc T G U),(sc L F M),(sc a3 f224 a4),(sc am ap an)] 211::_::_::W0) ?_)))))
 refine aB (qE (dD (aE (aH (aC (lO (vz (.agg [(sc J i.1 D),(aG i.2.1),(aG u),(sc T G U),(sc L F M),(sc a3 f224 a4),(sc am ap an)].toArray) (dA 5 kP hN R R R R)) (aL 4 R R hN R R R R R R (lN (_::_::_::_::aK b4 [(sc J i.1 D),(aG i.2.1),(aG u),(sc T G U),(sc L F M),(sc a3 f224 a4),(sc am ap an)] 211::_::_::_::W0) ?_))))))))
 refine lB R (aB (aE (bY ?_)))
 obtain rfl:=so j
 exact dL (vs:=[(.agg [(sc J i.1 D),(aG i.2.1),(aG u),(sc T G U),(sc L F M),(sc a3 f224 a4),(sc am ap an)].toArray),(.bool true)]) (.inl R) ((J,i.1.length,D),(T,G.length,U),(L,F.length,M),(a3,f224.length,a4),(am,ap.length,an)) R ⟨⟨4,b4,_,_,R,R,.inl ⟨kP,hN,R⟩⟩,R,trivial⟩ R (fun w s=>(s.e 10 [6,7,0,1,3]))
end Go.Proofs.YtoffdamdpmeoiaaGreatDoor
