import Derived.Test.YtmpnollfdpdipaaGreatGkF
import Derived.Test.YtmpnollfdpdipaaGreatGkW1
set_option linter.unusedVariables false
set_option maxRecDepth 20000
namespace Go.Proofs.YtmpnollfdpdipaaGreat
open Go Go.Pg
variable {A2 A3 A4 A5 A6 A8 A9:Option Addr}{D2 D3 D4 D5 D6 D8 D9 N2 N3 N4 N5 N6 N8 N9:Nat}
theorem Z3a_ok  {a:Int}{b:Int}{r:Int×Int}(j:Z3a a b=some r) :
 FnOk Tryz.prog 126 [(iv a),(iv b),(.func (.func 127) [].toArray [].toArray)] [] (fun (h:Nat×Nat×Nat)=>((.func (.func 149) [].toArray [(pt h.1 0),(pt h.2.1 0),(pt h.2.2 0)].toArray),[aJ h.1 [(iv r.1)] 3,aJ h.2.1 [(iv r.2)] 3,aJ h.2.2 [(.func (.func 127) [].toArray [].toArray)] 150])):=by
 unfold Z3a at j
 refine aQ Tryz.func126 R 8 R R fun C V=>?_
 refine cN V ?_
 refine aU ?_
 refine eY (cs:=[(iv a)]) R R R (fun i=>(eY (cs:=[(iv b)]) R R R (fun e=>(eY (cs:=[(.func (.func 127) [].toArray [].toArray)]) R R R (fun g=>(lO (vp _ R) (aC ?_)))))))
 let l:=aJ g [(.func (.func 127) [].toArray [].toArray)] 150::aJ e [(iv b)] 3::aJ i [(iv a)] 3::V
 refine qN l ?_
 refine aP ?_
 refine lO (vp (.func (.func 149) [].toArray [(pt i 0),(pt e 0),(pt g 0)].toArray) R) (lO (vp _ R) ?_)
 refine aP ?_
 cases j
 exact qF (i,e,g) (tE 3 [2,1,0])
theorem Z3b_ok  {a:Int}{b:Int}{r:Int×Int}(j:Z3b a b=some r) :
 FnOk Tryz.prog 126 [(iv a),(iv b),(.func (.func 129) [].toArray [].toArray)] [] (fun (h:Nat×Nat×Nat)=>((.func (.func 149) [].toArray [(pt h.1 0),(pt h.2.1 0),(pt h.2.2 0)].toArray),[aJ h.1 [(iv r.1)] 3,aJ h.2.1 [(iv r.2)] 3,aJ h.2.2 [(.func (.func 129) [].toArray [].toArray)] 150])):=by
 unfold Z3b at j
 refine aQ Tryz.func126 R 8 R R fun C V=>?_
 refine cN V ?_
 refine aU ?_
 refine eY (cs:=[(iv a)]) R R R (fun i=>(eY (cs:=[(iv b)]) R R R (fun e=>(eY (cs:=[(.func (.func 129) [].toArray [].toArray)]) R R R (fun g=>(lO (vp _ R) (aC ?_)))))))
 let l:=aJ g [(.func (.func 129) [].toArray [].toArray)] 150::aJ e [(iv b)] 3::aJ i [(iv a)] 3::V
 refine qN l ?_
 refine aP ?_
 refine lO (vp (.func (.func 149) [].toArray [(pt i 0),(pt e 0),(pt g 0)].toArray) R) (lO (vp _ R) ?_)
 refine aP ?_
 cases j
 exact qF (i,e,g) (tE 3 [2,1,0])
theorem Z3c_ok  {a:Int}{b:Int}{r:Int×Int}(j:Z3c a b=some r) :
 FnOk Tryz.prog 126 [(iv a),(iv b),(.func (.func 131) [].toArray [].toArray)] [] (fun (h:Nat×Nat×Nat)=>((.func (.func 149) [].toArray [(pt h.1 0),(pt h.2.1 0),(pt h.2.2 0)].toArray),[aJ h.1 [(iv r.1)] 3,aJ h.2.1 [(iv r.2)] 3,aJ h.2.2 [(.func (.func 131) [].toArray [].toArray)] 150])):=by
 unfold Z3c at j
 refine aQ Tryz.func126 R 8 R R fun C V=>?_
 refine cN V ?_
 refine aU ?_
 refine eY (cs:=[(iv a)]) R R R (fun i=>(eY (cs:=[(iv b)]) R R R (fun e=>(eY (cs:=[(.func (.func 131) [].toArray [].toArray)]) R R R (fun g=>(lO (vp _ R) (aC ?_)))))))
 let l:=aJ g [(.func (.func 131) [].toArray [].toArray)] 150::aJ e [(iv b)] 3::aJ i [(iv a)] 3::V
 refine qN l ?_
 refine aP ?_
 refine lO (vp (.func (.func 149) [].toArray [(pt i 0),(pt e 0),(pt g 0)].toArray) R) (lO (vp _ R) ?_)
 refine aP ?_
 cases j
 exact qF (i,e,g) (tE 3 [2,1,0])
theorem Z3d_ok  {a:Int}{b:Int}{r:Int×Int}(j:Z3d a b=some r) :
 FnOk Tryz.prog 126 [(iv a),(iv b),(.func (.func 133) [].toArray [].toArray)] [] (fun (h:Nat×Nat×Nat)=>((.func (.func 149) [].toArray [(pt h.1 0),(pt h.2.1 0),(pt h.2.2 0)].toArray),[aJ h.1 [(iv r.1)] 3,aJ h.2.1 [(iv r.2)] 3,aJ h.2.2 [(.func (.func 133) [].toArray [].toArray)] 150])):=by
 unfold Z3d at j
 refine aQ Tryz.func126 R 8 R R fun C V=>?_
 refine cN V ?_
 refine aU ?_
 refine eY (cs:=[(iv a)]) R R R (fun i=>(eY (cs:=[(iv b)]) R R R (fun e=>(eY (cs:=[(.func (.func 133) [].toArray [].toArray)]) R R R (fun g=>(lO (vp _ R) (aC ?_)))))))
 let l:=aJ g [(.func (.func 133) [].toArray [].toArray)] 150::aJ e [(iv b)] 3::aJ i [(iv a)] 3::V
 refine qN l ?_
 refine aP ?_
 refine lO (vp (.func (.func 149) [].toArray [(pt i 0),(pt e 0),(pt g 0)].toArray) R) (lO (vp _ R) ?_)
 refine aP ?_
 cases j
 exact qF (i,e,g) (tE 3 [2,1,0])
theorem Zv_ok  {e:Int}{r:kindOfR}(b:Zv e=some r) :
 FnOk Tryz.prog 96 [(iv e)] [] (fun (h:Nat×Nat×Nat)=>((cU r (h.1,h.2.1,h.2.2)),[eS r (h.1,h.2.1,h.2.2)])):=by
 unfold Zv at b
 refine aQ Tryz.func96 R 72 R R fun C V=>?_
 refine cN V ?_
 refine aU ?_
 refine lO (vp _ R) ?_
 refine nv ?_
 split at b
 refine aP ?_
 refine lO (vz (.agg [(.bool false)].toArray) (aV vv vw R R)) (lO (vz (.iface 136 (.agg [(.bool false)].toArray)) (i' vx R)) (lO (vp _ R) ?_))
 refine b' ?_
 cases b
 exact qF (0,0,0) (fun w s=>St.pack (A:=[]) s)
 refine dH ?_
 split at b
 refine aP ?_
 refine lO (vz (.agg [(.bool true)].toArray) (aV vv vw R R)) (lO (vz (.iface 136 (.agg [(.bool true)].toArray)) (i' vx R)) (lO (vp _ R) ?_))
 refine b' ?_
 cases b
 exact qF (0,0,0) (fun w s=>St.pack (A:=[]) s)
 refine aU ?_
 refine bB (A:=(Bool)×(Unit)) (fun a=>Zv_J1 e a.1=some r) (fun a=>[(0,(iv e)),(3,(iv e)),(12,(.bool a.1))]) (fun a=>V) ?_ ?_
 refine bS ?_
 split at b
 refine aU ?_
 exact qI ((e==3),()) b tI
 refine dH ?_
 split at b
 refine aU ?_
 exact qI ((e==4),()) b tI
 refine b' ?_
 exact qI ((e==5),()) b tI
 rintro ⟨x6,_⟩ σ1 b
 dsimp only [Zv_J1] at b
 split at b
 refine bS ?_
 refine lO (vz (.agg [(iv (aH ((aH (e - 3))+1)))].toArray) (aV yB yC R R)) (lO (vz (.iface 138 (.agg [(iv (aH ((aH (e - 3))+1)))].toArray)) (i' yD R)) (lO (vp _ R) ?_))
 refine b' ?_
 cases b
 exact qF (0,0,0) (fun w s=>St.pack (A:=[]) s)
 refine aU ?_
 refine bB (A:=(Bool)×(Unit)) (fun a=>Zv_J2 e a.1=some r) (fun a=>[(0,(iv e)),(3,(iv e)),(21,(.bool a.1))]) (fun a=>V) ?_ ?_
 refine bS ?_
 split at b
 refine aU ?_
 exact qI ((e==6),()) b tI
 refine dH ?_
 split at b
 refine aU ?_
 exact qI ((e==7),()) b tI
 refine dH ?_
 split at b
 refine aU ?_
 exact qI ((e==8),()) b tI
 refine b' ?_
 exact qI ((e==9),()) b tI
 rintro ⟨a0,_⟩ σ1 b
 dsimp only [Zv_J2] at b
 split at b
 refine bS ?_
 refine lO (vz (.agg [(iv (aH ((aH (e - 6))+1)))].toArray) (aV yE yF R R)) (lO (vz (.iface 139 (.agg [(iv (aH ((aH (e - 6))+1)))].toArray)) (i' yG R)) (lO (vp _ R) ?_))
 refine b' ?_
 cases b
 exact qF (0,0,0) (fun w s=>St.pack (A:=[]) s)
 refine dH ?_
 split at b
 refine aP ?_
 refine lO (vz (.agg [].toArray) (aV yH yI R R)) (lO (vz (.iface 141 (.agg [].toArray)) (i' yJ R)) (lO (vp _ R) ?_))
 refine b' ?_
 cases b
 exact qF (0,0,0) (fun w s=>St.pack (A:=[]) s)
 refine dH ?_
 split at b
 refine aP ?_
 refine lO (vz (.agg [].toArray) (aV yK yL R R)) (lO (vz (.iface 142 (.agg [].toArray)) (i' yM R)) (lO (vp _ R) ?_))
 refine b' ?_
 cases b
 exact qF (0,0,0) (fun w s=>St.pack (A:=[]) s)
 refine dH ?_
 split at b
 refine aP ?_
 refine lO (vz (.agg [(aD gP),(.func (.func 124) [].toArray [].toArray)].toArray) (aV ms mt R R)) (lO (vz (.iface 145 (.agg [(aD gP),(.func (.func 124) [].toArray [].toArray)].toArray)) (i' mu R)) (lO (vp _ R) ?_))
 refine b' ?_
 cases b
 exact qF (0,0,0) (fun w s=>St.pack (A:=[]) s)
 refine dH ?_
 split at b
 refine aP ?_
 refine lO (vz (.agg [(aD gP),(.func (.func 125) [].toArray [].toArray)].toArray) (aV ms mt R R)) (lO (vz (.iface 145 (.agg [(aD gP),(.func (.func 125) [].toArray [].toArray)].toArray)) (i' mu R)) (lO (vp _ R) ?_))
 refine b' ?_
 cases b
 exact qF (0,0,0) (fun w s=>St.pack (A:=[]) s)
 refine aU ?_
 refine bB (A:=(Bool)×(Unit)) (fun a=>Zv_J3 e a.1=some r) (fun a=>[(3,(iv e)),(47,(.bool a.1))]) (fun a=>V) ?_ ?_
 refine bS ?_
 split at b
 refine aU ?_
 exact qI ((e==14),()) b tI
 refine b' ?_
 exact qI ((e==18),()) b tI
 rintro ⟨Z,_⟩ σ1 b
 dsimp only [Zv_J3] at b
 split at b
 refine aP ?_
 refine lO (vz (.agg [(aD eP),(.func (.func 124) [].toArray [].toArray)].toArray) (aV ms mt R R)) (lO (vz (.iface 145 (.agg [(aD eP),(.func (.func 124) [].toArray [].toArray)].toArray)) (i' mu R)) (lO (vp _ R) ?_))
 refine b' ?_
 cases b
 exact qF (0,0,0) (fun w s=>St.pack (A:=[]) s)
 refine dH ?_
 split at b
 refine aU ?_
 obtain ⟨T,J,b⟩:=bd b
 refine aE (lC 0 pW R (Z3a_ok J) R ?_)
 rintro ⟨i,D,F⟩
 refine lO (vz (.agg [(aD eP),(.func (.func 149) [].toArray [(pt i 0),(pt D 0),(pt F 0)].toArray)].toArray) (aV ms mt R R)) (lO (vz (.iface 145 (.agg [(aD eP),(.func (.func 149) [].toArray [(pt i 0),(pt D 0),(pt F 0)].toArray)].toArray)) (i' mu R)) (lO (vp _ R) ?_))
 refine b' ?_
 cases b
 exact qF (i,D,F) (fun w s=>St.pack (A:=[aJ i [(iv T.1)] 3,aJ D [(iv T.2)] 3,aJ F [(.func (.func 127) [].toArray [].toArray)] 150]) s)
 refine dH ?_
 split at b
 refine aU ?_
 obtain ⟨O,I,b⟩:=bd b
 refine aE (lC 0 pW R (Z3b_ok I) R ?_)
 rintro ⟨m,G,j⟩
 refine lO (vz (.agg [(aD eP),(.func (.func 149) [].toArray [(pt m 0),(pt G 0),(pt j 0)].toArray)].toArray) (aV ms mt R R)) (lO (vz (.iface 145 (.agg [(aD eP),(.func (.func 149) [].toArray [(pt m 0),(pt G 0),(pt j 0)].toArray)].toArray)) (i' mu R)) (lO (vp _ R) ?_))
 refine b' ?_
 cases b
 exact qF (m,G,j) (fun w s=>St.pack (A:=[aJ m [(iv O.1)] 3,aJ G [(iv O.2)] 3,aJ j [(.func (.func 129) [].toArray [].toArray)] 150]) s)
 refine dH ?_
 split at b
 refine aU ?_
 obtain ⟨Y,L,b⟩:=bd b
 refine aE (lC 0 pW R (Z3c_ok L) R ?_)
 rintro ⟨g,B,E⟩
 refine lO (vz (.agg [(aD eP),(.func (.func 149) [].toArray [(pt g 0),(pt B 0),(pt E 0)].toArray)].toArray) (aV ms mt R R)) (lO (vz (.iface 145 (.agg [(aD eP),(.func (.func 149) [].toArray [(pt g 0),(pt B 0),(pt E 0)].toArray)].toArray)) (i' mu R)) (lO (vp _ R) ?_))
 refine b' ?_
 cases b
 exact qF (g,B,E) (fun w s=>St.pack (A:=[aJ g [(iv Y.1)] 3,aJ B [(iv Y.2)] 3,aJ E [(.func (.func 131) [].toArray [].toArray)] 150]) s)
 refine dH ?_
 split at b
 refine aU ?_
 obtain ⟨U,M,b⟩:=bd b
 refine aE (lC 0 pW R (Z3d_ok M) R ?_)
 rintro ⟨l,u,q⟩
 refine lO (vz (.agg [(aD eP),(.func (.func 149) [].toArray [(pt l 0),(pt u 0),(pt q 0)].toArray)].toArray) (aV ms mt R R)) (lO (vz (.iface 145 (.agg [(aD eP),(.func (.func 149) [].toArray [(pt l 0),(pt u 0),(pt q 0)].toArray)].toArray)) (i' mu R)) (lO (vp _ R) ?_))
 refine b' ?_
 cases b
 exact qF (l,u,q) (fun w s=>St.pack (A:=[aJ l [(iv U.1)] 3,aJ u [(iv U.2)] 3,aJ q [(.func (.func 133) [].toArray [].toArray)] 150]) s)
 refine bS ?_
 refine lO (vp _ R) ?_
 refine aP ?_
 cases b
 exact qF (0,0,0) (fun w s=>St.pack (A:=[]) s)
theorem Z3f_ok  {k1:leafKind}{r:aM}(a:Z3f k1=some r) :
 FnOk Tryz.prog 193 [(.agg [(.bool k1.data)].toArray)] [] (fun (h:Unit)=>((aD r),[])):=by
 unfold Z3f at a
 refine aQ Tryz.func193 R 5 R R fun C V=>?_
 refine cN V ?_
 refine aU ?_
 refine eG R fun b=>?_
 refine lO (vp (aD ([]:aM)) R) (aC ?_)
 let e:=aJ b [(.bool k1.data)] 136::V
 refine qN e ?_
 refine cV ?_
 split at a
 refine aP ?_
 refine lO (vp (aD oh) R) ?_
 refine bG ?_
 cases a
 exact qF () (tE 1 [])
 refine b' ?_
 refine lO (vp (aD gP) R) ?_
 refine aP ?_
 cases a
 exact qF () (tE 1 [])
theorem Z3g_ok  {k1:pairKind}{r:aM}(a:Z3g k1=some r) :
 FnOk Tryz.prog 198 [(.agg [(iv k1.op)].toArray)] [] (fun (h:Unit)=>((aD r),[])):=by
 unfold Z3g at a
 refine aQ Tryz.func198 R 3 R R fun C V=>?_
 refine cN V ?_
 refine aU ?_
 refine eG R fun b=>?_
 refine lO (vp (aD ([]:aM)) R) (aC ?_)
 let e:=aJ b [(iv k1.op)] 138::V
 refine qN e ?_
 refine aP ?_
 refine lO (vp (aD ([]:aM)) R) ?_
 refine aP ?_
 cases a
 exact qF () (tE 1 [])
theorem Z3n_ok  {k1:soloKind}{r:aM}(a:Z3n k1=some r) :
 FnOk Tryz.prog 201 [(.agg [(iv k1.op)].toArray)] [] (fun (h:Unit)=>((aD r),[])):=by
 unfold Z3n at a
 refine aQ Tryz.func201 R 3 R R fun C V=>?_
 refine cN V ?_
 refine aU ?_
 refine eG R fun b=>?_
 refine lO (vp (aD ([]:aM)) R) (aC ?_)
 let e:=aJ b [(iv k1.op)] 139::V
 refine qN e ?_
 refine aP ?_
 refine lO (vp (aD ([]:aM)) R) ?_
 refine aP ?_
 cases a
 exact qF () (tE 1 [])
theorem Z3o_ok  {k1:topKind}{r:aM}(a:Z3o k1=some r) :
 FnOk Tryz.prog 203 [(.agg [].toArray)] [] (fun (h:Unit)=>((aD r),[])):=by
 unfold Z3o at a
 refine aQ Tryz.func203 R 3 R R fun C V=>?_
 refine cN V ?_
 refine aU ?_
 refine eG R fun b=>?_
 refine lO (vp (aD ([]:aM)) R) (aC ?_)
 let e:=aJ b [] 141::V
 refine qN e ?_
 refine aP ?_
 refine lO (vp (aD eP) R) ?_
 refine aP ?_
 cases a
 exact qF () (tE 1 [])
theorem Z3e_ok  {k1:formKind}{r:aM}(a:Z3e k1=some r) :
 FnOk Tryz.prog 205 [(.agg [].toArray)] [] (fun (h:Unit)=>((aD r),[])):=by
 unfold Z3e at a
 refine aQ Tryz.func205 R 3 R R fun C V=>?_
 refine cN V ?_
 refine aU ?_
 refine eG R fun b=>?_
 refine lO (vp (aD ([]:aM)) R) (aC ?_)
 let e:=aJ b [] 142::V
 refine qN e ?_
 refine aP ?_
 refine lO (vp (aD k8) R) ?_
 refine aP ?_
 cases a
 exact qF () (tE 1 [])
theorem Z3l_ok  {k1:shiftKind}{r:aM}(a:Z3l k1=some r) :
 FnOk Tryz.prog 221 [(.agg [(aD k1.use),(.func (.func 124) [].toArray [].toArray)].toArray)] [] (fun (h:Unit)=>((aD r),[])):=by
 unfold Z3l at a
 refine aQ Tryz.func221 R 5 R R fun C V=>?_
 refine cN V ?_
 refine aU ?_
 refine eG R fun b=>?_
 refine lO (vp (aD ([]:aM)) R) (aC ?_)
 let e:=aJ b [(aD k1.use),(.func (.func 124) [].toArray [].toArray)] 145::V
 refine qN e ?_
 refine b' ?_
 refine lO (vp (aD k1.use) R) ?_
 refine aP ?_
 cases a
 exact qF () (tE 1 [])
theorem Z3m_ok  {k1:shiftKind}{r:aM}(a:Z3m k1=some r) :
 FnOk Tryz.prog 221 [(.agg [(aD k1.use),(.func (.func 125) [].toArray [].toArray)].toArray)] [] (fun (h:Unit)=>((aD r),[])):=by
 unfold Z3m at a
 refine aQ Tryz.func221 R 5 R R fun C V=>?_
 refine cN V ?_
 refine aU ?_
 refine eG R fun b=>?_
 refine lO (vp (aD ([]:aM)) R) (aC ?_)
 let e:=aJ b [(aD k1.use),(.func (.func 125) [].toArray [].toArray)] 145::V
 refine qN e ?_
 refine b' ?_
 refine lO (vp (aD k1.use) R) ?_
 refine aP ?_
 cases a
 exact qF () (tE 1 [])
theorem Z3h_ok  {k1:shiftKind}{g:Int}{i:Int}{b:Nat}{e:Nat}{a:Nat}{r:aM}(j:Z3h k1 g i=some r) :
 FnOk Tryz.prog 221 [(.agg [(aD k1.use),(.func (.func 149) [].toArray [(pt b 0),(pt e 0),(pt a 0)].toArray)].toArray)] [aJ b [(iv g)] 3,aJ e [(iv i)] 3,aJ a [(.func (.func 127) [].toArray [].toArray)] 150] (fun (h:Unit)=>((aD r),[aJ b [(iv g)] 3,aJ e [(iv i)] 3,aJ a [(.func (.func 127) [].toArray [].toArray)] 150])):=by
 unfold Z3h at j
 refine aQ Tryz.func221 R 5 R R fun C V=>?_
 refine aU ?_
 refine eG R fun m=>?_
 refine lO (vp (aD ([]:aM)) R) (aC ?_)
 let l:=aJ m [(aD k1.use),(.func (.func 149) [].toArray [(pt b 0),(pt e 0),(pt a 0)].toArray)] 145::aJ b [(iv g)] 3::aJ e [(iv i)] 3::aJ a [(.func (.func 127) [].toArray [].toArray)] 150::V
 refine qN l ?_
 refine b' ?_
 refine lO (vp (aD k1.use) R) ?_
 refine aP ?_
 cases j
 exact qF () (fun w s=>(s.f 4 [1,3]))
theorem Z3i_ok  {k1:shiftKind}{g:Int}{i:Int}{b:Nat}{e:Nat}{a:Nat}{r:aM}(j:Z3i k1 g i=some r) :
 FnOk Tryz.prog 221 [(.agg [(aD k1.use),(.func (.func 149) [].toArray [(pt b 0),(pt e 0),(pt a 0)].toArray)].toArray)] [aJ b [(iv g)] 3,aJ e [(iv i)] 3,aJ a [(.func (.func 129) [].toArray [].toArray)] 150] (fun (h:Unit)=>((aD r),[aJ b [(iv g)] 3,aJ e [(iv i)] 3,aJ a [(.func (.func 129) [].toArray [].toArray)] 150])):=by
 unfold Z3i at j
 refine aQ Tryz.func221 R 5 R R fun C V=>?_
 refine aU ?_
 refine eG R fun m=>?_
 refine lO (vp (aD ([]:aM)) R) (aC ?_)
 let l:=aJ m [(aD k1.use),(.func (.func 149) [].toArray [(pt b 0),(pt e 0),(pt a 0)].toArray)] 145::aJ b [(iv g)] 3::aJ e [(iv i)] 3::aJ a [(.func (.func 129) [].toArray [].toArray)] 150::V
 refine qN l ?_
 refine b' ?_
 refine lO (vp (aD k1.use) R) ?_
 refine aP ?_
 cases j
 exact qF () (fun w s=>(s.f 4 [1,3]))
theorem Z3j_ok  {k1:shiftKind}{g:Int}{i:Int}{b:Nat}{e:Nat}{a:Nat}{r:aM}(j:Z3j k1 g i=some r) :
 FnOk Tryz.prog 221 [(.agg [(aD k1.use),(.func (.func 149) [].toArray [(pt b 0),(pt e 0),(pt a 0)].toArray)].toArray)] [aJ b [(iv g)] 3,aJ e [(iv i)] 3,aJ a [(.func (.func 131) [].toArray [].toArray)] 150] (fun (h:Unit)=>((aD r),[aJ b [(iv g)] 3,aJ e [(iv i)] 3,aJ a [(.func (.func 131) [].toArray [].toArray)] 150])):=by
 unfold Z3j at j
 refine aQ Tryz.func221 R 5 R R fun C V=>?_
 refine aU ?_
 refine eG R fun m=>?_
 refine lO (vp (aD ([]:aM)) R) (aC ?_)
 let l:=aJ m [(aD k1.use),(.func (.func 149) [].toArray [(pt b 0),(pt e 0),(pt a 0)].toArray)] 145::aJ b [(iv g)] 3::aJ e [(iv i)] 3::aJ a [(.func (.func 131) [].toArray [].toArray)] 150::V
 refine qN l ?_
 refine b' ?_
 refine lO (vp (aD k1.use) R) ?_
 refine aP ?_
 cases j
 exact qF () (fun w s=>(s.f 4 [1,3]))
theorem Z3k_ok  {k1:shiftKind}{g:Int}{i:Int}{b:Nat}{e:Nat}{a:Nat}{r:aM}(j:Z3k k1 g i=some r) :
 FnOk Tryz.prog 221 [(.agg [(aD k1.use),(.func (.func 149) [].toArray [(pt b 0),(pt e 0),(pt a 0)].toArray)].toArray)] [aJ b [(iv g)] 3,aJ e [(iv i)] 3,aJ a [(.func (.func 133) [].toArray [].toArray)] 150] (fun (h:Unit)=>((aD r),[aJ b [(iv g)] 3,aJ e [(iv i)] 3,aJ a [(.func (.func 133) [].toArray [].toArray)] 150])):=by
 unfold Z3k at j
 refine aQ Tryz.func221 R 5 R R fun C V=>?_
 refine aU ?_
 refine eG R fun m=>?_
 refine lO (vp (aD ([]:aM)) R) (aC ?_)
 let l:=aJ m [(aD k1.use),(.func (.func 149) [].toArray [(pt b 0),(pt e 0),(pt a 0)].toArray)] 145::aJ b [(iv g)] 3::aJ e [(iv i)] 3::aJ a [(.func (.func 133) [].toArray [].toArray)] 150::V
 refine qN l ?_
 refine b' ?_
 refine lO (vp (aD k1.use) R) ?_
 refine aP ?_
 cases j
 exact qF () (fun w s=>(s.f 4 [1,3]))
theorem jx  {r:kindOfR}{b h1 h2:Nat}{q:aM}(a:fM r=some q) :
 InvOk Tryz.prog (cU r (b,h1,h2)) "loop.example/g00033/impl.uses" [] [eS r (b,h1,h2)] (fun (h:Unit)=>((aD q),[eS r (b,h1,h2)])):=by
 unfold fM at a
 rcases cK a with ⟨L,a⟩|⟨L,a⟩
 ·cases a
 rcases cK a with ⟨G,a⟩|⟨G,a⟩
 ·obtain ⟨t,l,e,g,i⟩:=r
  obtain rfl:=Nat.eq_of_beq_eq_true G
  exact InvOk.mk (p0 _) (((Z3f_ok a).perm (Pre':=[pk []]) (fun _ _ _ s=>St.unpack (A:=[]) s)).post id (fun _=>rfl) (fun _ _ _ _ s=>St.pack (A:=[]) (s)))
 rcases cK a with ⟨I,a⟩|⟨I,a⟩
 ·obtain ⟨t,l,e,g,i⟩:=r
  obtain rfl:=Nat.eq_of_beq_eq_true I
  exact InvOk.mk (p6 _) (((Z3g_ok a).perm (Pre':=[pk []]) (fun _ _ _ s=>St.unpack (A:=[]) s)).post id (fun _=>rfl) (fun _ _ _ _ s=>St.pack (A:=[]) (s)))
 rcases cK a with ⟨u,a⟩|⟨u,a⟩
 ·obtain ⟨t,l,e,g,i⟩:=r
  obtain rfl:=Nat.eq_of_beq_eq_true u
  exact InvOk.mk (p7 _) (((Z3n_ok a).perm (Pre':=[pk []]) (fun _ _ _ s=>St.unpack (A:=[]) s)).post id (fun _=>rfl) (fun _ _ _ _ s=>St.pack (A:=[]) (s)))
 rcases cK a with ⟨D,a⟩|⟨D,a⟩
 ·obtain ⟨t,l,e,g,i⟩:=r
  obtain rfl:=Nat.eq_of_beq_eq_true D
  exact InvOk.mk (p8 _) (((Z3o_ok (k1:=⟨⟩) a).perm (Pre':=[pk []]) (fun _ _ _ s=>St.unpack (A:=[]) s)).post id (fun _=>rfl) (fun _ _ _ _ s=>St.pack (A:=[]) (s)))
 rcases cK a with ⟨B,a⟩|⟨B,a⟩
 ·obtain ⟨t,l,e,g,i⟩:=r
  obtain rfl:=Nat.eq_of_beq_eq_true B
  exact InvOk.mk (p9 _) (((Z3e_ok (k1:=⟨⟩) a).perm (Pre':=[pk []]) (fun _ _ _ s=>St.unpack (A:=[]) s)).post id (fun _=>rfl) (fun _ _ _ _ s=>St.pack (A:=[]) (s)))
 rcases cK a with ⟨E,a⟩|⟨E,a⟩
 ·obtain ⟨t,l,e,g,i⟩:=r
  obtain rfl:=Nat.eq_of_beq_eq_true E
  exact InvOk.mk (gR _) (((Z3l_ok a).perm (Pre':=[pk []]) (fun _ _ _ s=>St.unpack (A:=[]) s)).post id (fun _=>rfl) (fun _ _ _ _ s=>St.pack (A:=[]) (s)))
 rcases cK a with ⟨F,a⟩|⟨F,a⟩
 ·obtain ⟨t,l,e,g,i⟩:=r
  obtain rfl:=Nat.eq_of_beq_eq_true F
  exact InvOk.mk (gR _) (((Z3m_ok a).perm (Pre':=[pk []]) (fun _ _ _ s=>St.unpack (A:=[]) s)).post id (fun _=>rfl) (fun _ _ _ _ s=>St.pack (A:=[]) (s)))
 rcases cK a with ⟨m,a⟩|⟨m,a⟩
 ·obtain ⟨t,l,e,g,i⟩:=r
  obtain rfl:=Nat.eq_of_beq_eq_true m
  exact InvOk.mk (gR _) (((Z3h_ok a).perm (Pre':=[pk [aJ b [(iv e)] 3,aJ h1 [(iv g)] 3,aJ h2 [(.func (.func 127) [].toArray [].toArray)] 150]]) (fun _ _ _ s=>St.unpack (A:=[aJ b [(iv e)] 3,aJ h1 [(iv g)] 3,aJ h2 [(.func (.func 127) [].toArray [].toArray)] 150]) s)).post id (fun _=>rfl) (fun _ _ _ _ s=>St.pack (A:=[aJ b [(iv e)] 3,aJ h1 [(iv g)] 3,aJ h2 [(.func (.func 127) [].toArray [].toArray)] 150]) (s)))
 rcases cK a with ⟨J,a⟩|⟨J,a⟩
 ·obtain ⟨t,l,e,g,i⟩:=r
  obtain rfl:=Nat.eq_of_beq_eq_true J
  exact InvOk.mk (gR _) (((Z3i_ok a).perm (Pre':=[pk [aJ b [(iv e)] 3,aJ h1 [(iv g)] 3,aJ h2 [(.func (.func 129) [].toArray [].toArray)] 150]]) (fun _ _ _ s=>St.unpack (A:=[aJ b [(iv e)] 3,aJ h1 [(iv g)] 3,aJ h2 [(.func (.func 129) [].toArray [].toArray)] 150]) s)).post id (fun _=>rfl) (fun _ _ _ _ s=>St.pack (A:=[aJ b [(iv e)] 3,aJ h1 [(iv g)] 3,aJ h2 [(.func (.func 129) [].toArray [].toArray)] 150]) (s)))
 rcases cK a with ⟨j,a⟩|⟨j,a⟩
 ·obtain ⟨t,l,e,g,i⟩:=r
  obtain rfl:=Nat.eq_of_beq_eq_true j
  exact InvOk.mk (gR _) (((Z3j_ok a).perm (Pre':=[pk [aJ b [(iv e)] 3,aJ h1 [(iv g)] 3,aJ h2 [(.func (.func 131) [].toArray [].toArray)] 150]]) (fun _ _ _ s=>St.unpack (A:=[aJ b [(iv e)] 3,aJ h1 [(iv g)] 3,aJ h2 [(.func (.func 131) [].toArray [].toArray)] 150]) s)).post id (fun _=>rfl) (fun _ _ _ _ s=>St.pack (A:=[aJ b [(iv e)] 3,aJ h1 [(iv g)] 3,aJ h2 [(.func (.func 131) [].toArray [].toArray)] 150]) (s)))
 have O:cU r (b,h1,h2)=(.iface 145 (.agg [(aD r.s0),(.func (.func 149) [].toArray [(pt b 0),(pt h1 0),(pt h2 0)].toArray)].toArray)):=by simp only [cU,L,G,I,u,D,B,E,F,m,J,j,cond_false]
 have M:eS r (b,h1,h2)=pk [aJ b [(iv r.i0)] 3,aJ h1 [(iv r.i1)] 3,aJ h2 [(.func (.func 133) [].toArray [].toArray)] 150]:=by simp only [eS,L,G,I,u,D,B,E,F,m,J,j,cond_false]
 rw [O,M]
 exact InvOk.mk (gR _) (((Z3k_ok a).perm (Pre':=[pk [aJ b [(iv r.i0)] 3,aJ h1 [(iv r.i1)] 3,aJ h2 [(.func (.func 133) [].toArray [].toArray)] 150]]) (fun _ _ _ s=>St.unpack (A:=[aJ b [(iv r.i0)] 3,aJ h1 [(iv r.i1)] 3,aJ h2 [(.func (.func 133) [].toArray [].toArray)] 150]) s)).post id (fun _=>rfl) (fun _ _ _ _ s=>St.pack (A:=[aJ b [(iv r.i0)] 3,aJ h1 [(iv r.i1)] 3,aJ h2 [(.func (.func 133) [].toArray [].toArray)] 150]) (s)))
theorem Z6_ok  {i:aM}{e:aM}{mG:Int}{b:Nat}{r:Bool}(a:Z6 i e=some r) :
 FnOk Tryz.prog 135 [(aD i),(pt b 0)] [aJ b [(aD e)] 9,gl 0 mG] (fun (h:Unit)=>((.bool r),[aJ b [(aD e)] 9])):=by
 unfold Z6 at a
 refine aQ Tryz.func135 R 7 R R fun C V=>?_
 let l:=gl 0 mG::V
 refine bG ?_
 let j:=aJ b [(aD e)] 9::l
 refine qN j ?_
 refine aU ?_
 obtain ⟨m,g,a⟩:=bd a
 refine aU ?_
 refine lO (vp (aD i) R) (lM _ (fun w s=>(s.dg 1 R)) ?_)
 refine lC 1 yN R (Z3q_ok g) R ?_
 rintro _
 refine lN j ?_
 refine bG ?_
 cases a
 exact qF () (tE 2 [0])
theorem Z1v_ok  {a:Node}{Y:aM}{mG:Int}{r:Bool}(hr:Z1v a Y=some r) :
 FnOk Tryz.prog 97 [(.agg [(iv a.Op),(.slice A2 N2 D2),(.slice A3 N3 D3),(.slice A4 N4 D4),(aD a.Form),(.slice A5 N5 D5)].toArray),(aD Y)] [aO kT3 (.slice A2 N2 D2) a.Args,aO kT3 (.slice A3 N3 D3) a.Dims,aO kT3 (.slice A4 N4 D4) a.Ints,aO kT3 (.slice A5 N5 D5) a.Data,gl 0 mG] (fun (h:Unit)=>((.bool r),[])):=by
 unfold Z1v at hr
 refine aQ Tryz.func97 R 44 R R fun C V=>?_
 refine cL 0 aA ?_
 rintro rfl
 refine cL 1 aA ?_
 rintro rfl
 refine cL 2 aA ?_
 rintro rfl
 refine cL 3 aA ?_
 rintro rfl
 let W0:=RR kT3 A2 D2 a.Args::RR kT3 A3 D3 a.Dims::RR kT3 A4 D4 a.Ints::RR kT3 A5 D5 a.Data::gl 0 mG::V
 refine cN W0 ?_
 refine aU ?_
 refine eG R fun b7=>?_
 refine eY (cs:=[(aD Y)]) R R R (fun T=>(lB R (aC ?_)))
 let W1:=aJ b7 [(iv a.Op),(sc A2 a.Args D2),(sc A3 a.Dims D3),(sc A4 a.Ints D4),(aD a.Form),(sc A5 a.Data D5)] 54::W0
 refine aP ?_
 refine lO (vp (.func (.func 135) [].toArray [(pt T 0)].toArray) R) (lO (vp _ R) ?_)
 refine aP ?_
 obtain ⟨U,ah,hr⟩:=bd hr
 obtain ⟨j,ag,hr⟩:=bd hr
 obtain ⟨g,a2,hr⟩:=bd hr
 obtain ⟨b,O,hr⟩:=bd hr
 refine cQ [(4,(.bool ((((U||((a.Dims.length:Int)==0))&&(j||((a.Ints.length:Int)==0)))&&(g||(a.Form==([]:aM))))&&(b||((a.Data.length:Int)==0)))))] (W1) ?_ ?_
 refine aE (lO (vp _ R) (lM _ (fun w s=>((s.dg 6 R).e 2 [1,0])) ?_))
 refine cB (fs:=[]) (cs:=[(pt T 0)]) 2 R R iI R R (Z6_ok ah) R ?_
 rintro _
 refine bR ?_
 rcases bo U with m | m
 refine bG ?_
 refine lO (fC ((a.Dims.length:Int)==0) R m) (lB R (lW (eB (oT m)) (vp _ R) (lM _ (fun w s=>((s.dg 6 R).e 2 [1,0])) ?_)))
 refine cB (fs:=[]) (cs:=[(pt T 0)]) 2 R (eB (oT m)) iI R R (Z6_ok (bJ ag (oT m))) R ?_
 rintro _
 refine bR ?_
 rcases bo j with a6 | a6
 refine bG ?_
 refine lW (eB (oT m)) (fC ((a.Ints.length:Int)==0) R a6) (lO (iX R (oT m) R) (lB R ?_))
 rcases bo ((U||((a.Dims.length:Int)==0))&&(j||((a.Ints.length:Int)==0))) with q | q
 refine lW (eB q) (vp _ R) (lM _ (fun w s=>((s.dg 6 R).e 2 [1,0])) ?_)
 refine cB (fs:=[]) (cs:=[(pt T 0)]) 2 R (eB q) iI R R (Z6_ok (bJ a2 q)) R ?_
 rintro _
 refine bR ?_
 rcases bo g with Z | Z
 refine aP ?_
 refine lW (eB q) (fC (a.Form==([]:aM)) R Z) (lO (iX R q R) (lB R ?_))
 rcases bo (((U||((a.Dims.length:Int)==0))&&(j||((a.Ints.length:Int)==0)))&&(g||(a.Form==([]:aM)))) with I | I
 refine lW (eB I) (vp _ R) (lM _ (fun w s=>((s.dg 6 R).e 2 [1,0])) ?_)
 refine cB (fs:=[]) (cs:=[(pt T 0)]) 2 R (eB I) iI R R (Z6_ok (bJ O I)) R ?_
 rintro _
 refine bR ?_
 rcases bo b with a4 | a4
 refine bG ?_
 refine lW (eB I) (fC ((a.Data.length:Int)==0) R a4) (lO (iX R I R) ?_)
 refine aU ?_
 exact qj (tE 1 [])
 refine bG ?_
 refine lW (eB I) (fR R a4 R) (lO (iX R I R) ?_)
 refine aU ?_
 exact qj (tE 1 [])
 refine cV ?_
 refine lO (kc (b||((a.Data.length:Int)==0)) R I) ?_
 refine aU ?_
 exact qj (tE 1 [])
 refine aU ?_
 refine lW (bY Z) (vz (.bool (a.Form==([]:aM))) (jd R R R)) (lW (eB q) (fR R Z R) (lO (iX R q R) (lB R ?_)))
 rcases bo (((U||((a.Dims.length:Int)==0))&&(j||((a.Ints.length:Int)==0)))&&(g||(a.Form==([]:aM)))) with E | E
 refine lW (eB E) (vp _ R) (lM _ (fun w s=>((s.dg 6 R).e 2 [1,0])) ?_)
 refine cB (fs:=[]) (cs:=[(pt T 0)]) 2 R (eB E) iI R R (Z6_ok (bJ O E)) R ?_
 rintro _
 refine bR ?_
 rcases bo b with ab | ab
 refine bG ?_
 refine lW (eB E) (fC ((a.Data.length:Int)==0) R ab) (lO (iX R E R) ?_)
 refine aU ?_
 exact qj (tE 1 [])
 refine bG ?_
 refine lW (eB E) (fR R ab R) (lO (iX R E R) ?_)
 refine aU ?_
 exact qj (tE 1 [])
 refine cV ?_
 refine lO (kc (b||((a.Data.length:Int)==0)) R E) ?_
 refine aU ?_
 exact qj (tE 1 [])
 refine dH ?_
 refine lO (kc (g||(a.Form==([]:aM))) R q) ?_
 refine cP ?_
 refine lO (kc (b||((a.Data.length:Int)==0)) R (aF q)) ?_
 refine aU ?_
 exact qj (tE 1 [])
 refine bG ?_
 refine lW (eB (oT m)) (fR R a6 R) (lO (iX R (oT m) R) (lB R ?_))
 rcases bo ((U||((a.Dims.length:Int)==0))&&(j||((a.Ints.length:Int)==0))) with l | l
 refine lW (eB l) (vp _ R) (lM _ (fun w s=>((s.dg 6 R).e 2 [1,0])) ?_)
 refine cB (fs:=[]) (cs:=[(pt T 0)]) 2 R (eB l) iI R R (Z6_ok (bJ a2 l)) R ?_
 rintro _
 refine bR ?_
 rcases bo g with a0 | a0
 refine aP ?_
 refine lW (eB l) (fC (a.Form==([]:aM)) R a0) (lO (iX R l R) (lB R ?_))
 rcases bo (((U||((a.Dims.length:Int)==0))&&(j||((a.Ints.length:Int)==0)))&&(g||(a.Form==([]:aM)))) with G | G
 refine lW (eB G) (vp _ R) (lM _ (fun w s=>((s.dg 6 R).e 2 [1,0])) ?_)
 refine cB (fs:=[]) (cs:=[(pt T 0)]) 2 R (eB G) iI R R (Z6_ok (bJ O G)) R ?_
 rintro _
 refine bR ?_
 rcases bo b with a7 | a7
 refine bG ?_
 refine lW (eB G) (fC ((a.Data.length:Int)==0) R a7) (lO (iX R G R) ?_)
 refine aU ?_
 exact qj (tE 1 [])
 refine bG ?_
 refine lW (eB G) (fR R a7 R) (lO (iX R G R) ?_)
 refine aU ?_
 exact qj (tE 1 [])
 refine cV ?_
 refine lO (kc (b||((a.Data.length:Int)==0)) R G) ?_
 refine aU ?_
 exact qj (tE 1 [])
 refine aU ?_
 refine lW (bY a0) (vz (.bool (a.Form==([]:aM))) (jd R R R)) (lW (eB l) (fR R a0 R) (lO (iX R l R) (lB R ?_)))
 rcases bo (((U||((a.Dims.length:Int)==0))&&(j||((a.Ints.length:Int)==0)))&&(g||(a.Form==([]:aM)))) with D | D
 refine lW (eB D) (vp _ R) (lM _ (fun w s=>((s.dg 6 R).e 2 [1,0])) ?_)
 refine cB (fs:=[]) (cs:=[(pt T 0)]) 2 R (eB D) iI R R (Z6_ok (bJ O D)) R ?_
 rintro _
 refine bR ?_
 rcases bo b with ac | ac
 refine bG ?_
 refine lW (eB D) (fC ((a.Data.length:Int)==0) R ac) (lO (iX R D R) ?_)
 refine aU ?_
 exact qj (tE 1 [])
 refine bG ?_
 refine lW (eB D) (fR R ac R) (lO (iX R D R) ?_)
 refine aU ?_
 exact qj (tE 1 [])
 refine cV ?_
 refine lO (kc (b||((a.Data.length:Int)==0)) R D) ?_
 refine aU ?_
 exact qj (tE 1 [])
 refine dH ?_
 refine lO (kc (g||(a.Form==([]:aM))) R l) ?_
 refine cP ?_
 refine lO (kc (b||((a.Data.length:Int)==0)) R (aF l)) ?_
 refine aU ?_
 exact qj (tE 1 [])
 refine bG ?_
 refine lO (fR R m R) (lB R ?_)
 rcases bo (U||((a.Dims.length:Int)==0)) with i | i
 refine lW (eB i) (vp _ R) (lM _ (fun w s=>((s.dg 6 R).e 2 [1,0])) ?_)
 refine cB (fs:=[]) (cs:=[(pt T 0)]) 2 R (eB i) iI R R (Z6_ok (bJ ag i)) R ?_
 rintro _
 refine bR ?_
 rcases bo j with aa | aa
 refine bG ?_
 refine lW (eB i) (fC ((a.Ints.length:Int)==0) R aa) (lO (iX R i R) (lB R ?_))
 rcases bo ((U||((a.Dims.length:Int)==0))&&(j||((a.Ints.length:Int)==0))) with u | u
 refine lW (eB u) (vp _ R) (lM _ (fun w s=>((s.dg 6 R).e 2 [1,0])) ?_)
 refine cB (fs:=[]) (cs:=[(pt T 0)]) 2 R (eB u) iI R R (Z6_ok (bJ a2 u)) R ?_
 rintro _
 refine bR ?_
 rcases bo g with a1 | a1
 refine aP ?_
 refine lW (eB u) (fC (a.Form==([]:aM)) R a1) (lO (iX R u R) (lB R ?_))
 rcases bo (((U||((a.Dims.length:Int)==0))&&(j||((a.Ints.length:Int)==0)))&&(g||(a.Form==([]:aM)))) with F | F
 refine lW (eB F) (vp _ R) (lM _ (fun w s=>((s.dg 6 R).e 2 [1,0])) ?_)
 refine cB (fs:=[]) (cs:=[(pt T 0)]) 2 R (eB F) iI R R (Z6_ok (bJ O F)) R ?_
 rintro _
 refine bR ?_
 rcases bo b with a5 | a5
 refine bG ?_
 refine lW (eB F) (fC ((a.Data.length:Int)==0) R a5) (lO (iX R F R) ?_)
 refine aU ?_
 exact qj (tE 1 [])
 refine bG ?_
 refine lW (eB F) (fR R a5 R) (lO (iX R F R) ?_)
 refine aU ?_
 exact qj (tE 1 [])
 refine cV ?_
 refine lO (kc (b||((a.Data.length:Int)==0)) R F) ?_
 refine aU ?_
 exact qj (tE 1 [])
 refine aU ?_
 refine lW (bY a1) (vz (.bool (a.Form==([]:aM))) (jd R R R)) (lW (eB u) (fR R a1 R) (lO (iX R u R) (lB R ?_)))
 rcases bo (((U||((a.Dims.length:Int)==0))&&(j||((a.Ints.length:Int)==0)))&&(g||(a.Form==([]:aM)))) with J | J
 refine lW (eB J) (vp _ R) (lM _ (fun w s=>((s.dg 6 R).e 2 [1,0])) ?_)
 refine cB (fs:=[]) (cs:=[(pt T 0)]) 2 R (eB J) iI R R (Z6_ok (bJ O J)) R ?_
 rintro _
 refine bR ?_
 rcases bo b with a9 | a9
 refine bG ?_
 refine lW (eB J) (fC ((a.Data.length:Int)==0) R a9) (lO (iX R J R) ?_)
 refine aU ?_
 exact qj (tE 1 [])
 refine bG ?_
 refine lW (eB J) (fR R a9 R) (lO (iX R J R) ?_)
 refine aU ?_
 exact qj (tE 1 [])
 refine cV ?_
 refine lO (kc (b||((a.Data.length:Int)==0)) R J) ?_
 refine aU ?_
 exact qj (tE 1 [])
 refine dH ?_
 refine lO (kc (g||(a.Form==([]:aM))) R u) ?_
 refine cP ?_
 refine lO (kc (b||((a.Data.length:Int)==0)) R (aF u)) ?_
 refine aU ?_
 exact qj (tE 1 [])
 refine bG ?_
 refine lW (eB i) (fR R aa R) (lO (iX R i R) (lB R ?_))
 rcases bo ((U||((a.Dims.length:Int)==0))&&(j||((a.Ints.length:Int)==0))) with B | B
 refine lW (eB B) (vp _ R) (lM _ (fun w s=>((s.dg 6 R).e 2 [1,0])) ?_)
 refine cB (fs:=[]) (cs:=[(pt T 0)]) 2 R (eB B) iI R R (Z6_ok (bJ a2 B)) R ?_
 rintro _
 refine bR ?_
 rcases bo g with a3 | a3
 refine aP ?_
 refine lW (eB B) (fC (a.Form==([]:aM)) R a3) (lO (iX R B R) (lB R ?_))
 rcases bo (((U||((a.Dims.length:Int)==0))&&(j||((a.Ints.length:Int)==0)))&&(g||(a.Form==([]:aM)))) with L | L
 refine lW (eB L) (vp _ R) (lM _ (fun w s=>((s.dg 6 R).e 2 [1,0])) ?_)
 refine cB (fs:=[]) (cs:=[(pt T 0)]) 2 R (eB L) iI R R (Z6_ok (bJ O L)) R ?_
 rintro _
 refine bR ?_
 rcases bo b with ae | ae
 refine bG ?_
 refine lW (eB L) (fC ((a.Data.length:Int)==0) R ae) (lO (iX R L R) ?_)
 refine aU ?_
 exact qj (tE 1 [])
 refine bG ?_
 refine lW (eB L) (fR R ae R) (lO (iX R L R) ?_)
 refine aU ?_
 exact qj (tE 1 [])
 refine cV ?_
 refine lO (kc (b||((a.Data.length:Int)==0)) R L) ?_
 refine aU ?_
 exact qj (tE 1 [])
 refine aU ?_
 refine lW (bY a3) (vz (.bool (a.Form==([]:aM))) (jd R R R)) (lW (eB B) (fR R a3 R) (lO (iX R B R) (lB R ?_)))
 rcases bo (((U||((a.Dims.length:Int)==0))&&(j||((a.Ints.length:Int)==0)))&&(g||(a.Form==([]:aM)))) with M | M
 refine lW (eB M) (vp _ R) (lM _ (fun w s=>((s.dg 6 R).e 2 [1,0])) ?_)
 refine cB (fs:=[]) (cs:=[(pt T 0)]) 2 R (eB M) iI R R (Z6_ok (bJ O M)) R ?_
 rintro _
 refine bR ?_
 rcases bo b with a8 | a8
 refine bG ?_
 refine lW (eB M) (fC ((a.Data.length:Int)==0) R a8) (lO (iX R M R) ?_)
 refine aU ?_
 exact qj (tE 1 [])
 refine bG ?_
 refine lW (eB M) (fR R a8 R) (lO (iX R M R) ?_)
 refine aU ?_
 exact qj (tE 1 [])
 refine cV ?_
 refine lO (kc (b||((a.Data.length:Int)==0)) R M) ?_
 refine aU ?_
 exact qj (tE 1 [])
 refine dH ?_
 refine lO (kc (g||(a.Form==([]:aM))) R B) ?_
 refine cP ?_
 refine lO (kc (b||((a.Data.length:Int)==0)) R (aF B)) ?_
 refine aU ?_
 exact qj (tE 1 [])
 refine cV ?_
 refine lO (kc (j||((a.Ints.length:Int)==0)) R i) ?_
 refine cV ?_
 refine lO (kc (g||(a.Form==([]:aM))) R (aF i)) ?_
 refine cP ?_
 refine lO (kc (b||((a.Data.length:Int)==0)) R (aF (aF i))) ?_
 refine aU ?_
 exact qj (tE 1 [])
 rintro σ1
 refine aU ?_
 cases hr
 exact qF () (tE 6 [])
theorem Zb_ok  {b:(List Int)}{r:Bool}(e:Zb b=some r) :
 FnOk Tryz.prog 147 [(.slice A2 N2 D2)] [aO kT3 (.slice A2 N2 D2) b] (fun (h:Unit)=>((.bool r),[])):=by
 unfold Zb at e
 refine aQ Tryz.func147 R 27 R R fun C V=>?_
 refine cL 0 aA ?_
 rintro rfl
 let u:=RR kT3 A2 D2 b::V
 refine cN u ?_
 refine iu ?_
 refine bB (A:=(Unit)×(HH)) (fun a=>Zb_J1 b=some r) (fun a=>[(0,(s3 a.2))]) (fun a=>aO kT3 (s3 a.2) b::u) ?_ ?_
 refine cV ?_
 obtain ⟨M,E,l⟩:=bd e
 refine bC (A:=HH) E (fun s a=>[(0,(s3 a)),(3,(iv s.1)),(6,(s3 a)),(7,(il b)),(8,(iv s.2))]) (fun s a=>aO kT3 (s3 a) b::u) (A2,b.length,D2) (aS R) (fun w s=>(s.d 0 R)) ?_
 rintro ⟨F,g⟩ ⟨A10,N10,D10⟩ σ1 G e j
 dsimp only [Zb_L1] at e
 refine bI 0 aA (fun (B:N10=b.length)=>?_)
 subst B
 refine bS ?_
 split at e
 refine bS ?_
 obtain ⟨q,e⟩:=gd e
 refine aE (bD 0 aA (show 0<b.length by have:=q; omega) (fun i o16 I=>?_))
 subst I
 refine dH ?_
 refine cQ [(0,(sc (ad i o16) b D10)),(3,(iv F)),(5,(iv (ix b g))),(6,(sc (ad i o16) b D10)),(7,(il b)),(8,(iv g)),(17,(.bool ((decide ((ix b g)<1))||(decide ((ix b g)>4096)))))] (RR kT3 (ad i o16) D10 b::u) ?_ ?_
 refine bG ?_
 rcases bo (decide ((ix b g)<1)) with m | m
 refine bG ?_
 exact qj tI
 refine bG ?_
 exact qj tI
 rintro σ1
 refine bR ?_
 split at e
 refine cT ?_
 cases e
 obtain rfl:=j _ R
 have e:=l
 refine aP ?_
 cases e
 exact qF () (tE 2 [])
 refine qG ?_
 split at e
 refine cP ?_
 cases e
 obtain rfl:=j _ R
 have e:=l
 refine aP ?_
 cases e
 exact qF () (tE 2 [])
 refine cV ?_
 cases e
 exact qA ((ad i o16),b.length,D10) tI
 refine aP ?_
 cases e
 obtain rfl:=j _ R
 have e:=l
 refine aU ?_
 exact qI ((),(A10,b.length,D10)) e tI
 rintro ⟨_,⟨J,D,L⟩⟩ σ1 e
 dsimp only [Zb_J1] at e
 refine bI 0 aA (fun (B:D=b.length)=>?_)
 subst B
 refine cP ?_
 cases e
 exact qF () (tE 2 [])
theorem Zl_ok  {b:(List Int)}{r:Int}(e:Zl b=some r) :
 FnOk Tryz.prog 148 [(.slice A2 N2 D2)] [aO kT3 (.slice A2 N2 D2) b] (fun (h:Unit)=>((iv r),[])):=by
 unfold Zl at e
 refine aQ Tryz.func148 R 17 R R fun C V=>?_
 refine cL 0 aA ?_
 rintro rfl
 let i:=RR kT3 A2 D2 b::V
 refine cN i ?_
 refine iu ?_
 refine bB (A:=(Int)×(Unit)) (fun a=>Zl_J1 a.1=some r) (fun a=>[(3,(iv a.1))]) (fun a=>i) ?_ ?_
 refine cV ?_
 obtain ⟨F,m,l⟩:=bd e
 refine bC (A:=Unit) m (fun s a=>[(3,(iv s.1)),(6,(sc A2 b D2)),(7,(il b)),(8,(iv s.2))]) (fun s a=>i) () (aS R) tI ?_
 rintro ⟨D,G⟩ _ σ1 q e j
 dsimp only [Zl_L1] at e
 refine bS ?_
 split at e
 refine bS ?_
 obtain ⟨g,e⟩:=gd e
 refine aE (bD 0 aA (show 0<b.length by have:=g; omega) (fun E o12 B=>?_))
 subst B
 refine qG ?_
 cases e
 exact qA () tI
 refine aP ?_
 cases e
 obtain rfl:=j _ R
 have e:=l
 refine aU ?_
 exact qI (D,()) e tI
 rintro ⟨u,_⟩ σ1 e
 dsimp only [Zl_J1] at e
 refine dH ?_
 cases e
 exact qF () (tE 1 [])
theorem Z32_ok  {p1:Int}{r:Bool}(b:Z32 p1=some r) :
 FnOk Tryz.prog 196 [(iv p1)] [] (fun (h:Unit)=>((.bool r),[])):=by
 unfold Z32 at b
 refine aQ Tryz.func196 R 9 R R fun C V=>?_
 refine cN V ?_
 refine bS ?_
 refine cQ [(2,(.bool ((decide (p1≥0))&&(decide (p1<2147483647)))))] (V) ?_ ?_
 refine bG ?_
 rcases bo (decide (p1≥0)) with a | a
 refine b' ?_
 exact qj tI
 refine b' ?_
 exact qj tI
 rintro σ1
 refine aU ?_
 cases b
 exact qF () tI
theorem Z14_ok  {e:(List Int)}{r:Bool}(b:Z14 e=some r) :
 FnOk Tryz.prog 195 [(.slice A2 N2 D2)] [aO kT3 (.slice A2 N2 D2) e] (fun (h:Unit)=>((.bool r),[])):=by
 unfold Z14 at b
 refine aQ Tryz.func195 R 15 R R fun C V=>?_
 refine cL 0 aA ?_
 rintro rfl
 let m:=RR kT3 A2 D2 e::V
 refine cN m ?_
 refine bS ?_
 refine bB (A:=(Unit)×(Unit)) (fun a=>Z14_J1=some r) (fun a=>[]) (fun a=>m) ?_ ?_
 refine cV ?_
 obtain ⟨G,q,l⟩:=bd b
 refine bC (A:=Unit) q (fun s a=>[(5,(sc A2 e D2)),(6,(il e)),(7,(iv s))]) (fun s a=>m) () (aS R) tI ?_
 rintro F _ σ1 u b j
 dsimp only [Z14_L1] at b
 refine bS ?_
 split at b
 refine bS ?_
 obtain ⟨i,b⟩:=gd b
 refine aE (bD 0 aA (show 0<e.length by have:=i; omega) (fun E o14 D=>?_))
 subst D
 refine bS ?_
 obtain ⟨B,g,b⟩:=bd b
 refine aU ?_
 refine lC 0 yP R (Z32_ok g) R ?_
 rintro _
 refine aP ?_
 split at b
 refine cP ?_
 cases b
 obtain rfl:=j _ R
 have b:=l
 refine aP ?_
 cases b
 exact qF () (tE 1 [])
 refine cV ?_
 cases b
 exact qA () tI
 refine aP ?_
 cases b
 obtain rfl:=j _ R
 have b:=l
 refine aU ?_
 exact cJ ((),()) b trivial tI
 rintro ⟨_,_⟩ σ1 b
 dsimp only [Z14_J1] at b
 refine bS ?_
 cases b
 exact qF () (tE 1 [])
theorem Z2l_ok  {t1:Tensor}{r:Bool}(e:Z2l t1=some r) :
 FnOk Tryz.prog 194 [(.agg [(.slice A2 N2 D2),(.slice A3 N3 D3)].toArray)] [aO kT3 (.slice A2 N2 D2) t1.Dims,aO kT3 (.slice A3 N3 D3) t1.Data] (fun (h:Unit)=>((.bool r),[])):=by
 unfold Z2l at e
 refine aQ Tryz.func194 R 20 R R fun C V=>?_
 refine cL 0 aA ?_
 rintro rfl
 refine cL 1 aA ?_
 rintro rfl
 let q:=RR kT3 A2 D2 t1.Dims::RR kT3 A3 D3 t1.Data::V
 refine cN q ?_
 refine aU ?_
 refine eG R fun F=>?_
 refine aU ?_
 let g:=aJ F [(sc A2 t1.Dims D2),(sc A3 t1.Data D3)] 58::q
 refine qN g ?_
 refine aU ?_
 obtain ⟨m,i,e⟩:=bd e
 obtain ⟨u,j,e⟩:=bd e
 obtain ⟨E,l,e⟩:=bd e
 refine cQ [(2,(.bool ((m&&((t1.Data.length:Int)==u))&&E)))] (g) ?_ ?_
 rcases bo m with a | a
 rcases bo (m&&((t1.Data.length:Int)==u)) with b | b
 refine dC 18 [] bO fun D B=>?_
 refine gO 0 [] ?_
 refine d1 2 R (lM _ (fun w s=>(s.d 1 R)) ?_)
 refine lC 1 j2 R (Zb_ok i) R ?_
 rintro _
 refine lN g ?_
 refine aC (aG (sL []) ?_)
 refine r' 3 [] ?_
 refine d1 9 R (lM _ (fun w s=>(s.d 1 R)) ?_)
 refine bW 1 R (eB a) jw R (Zl_ok (bJ j a)) R ?_
 rintro _
 refine lN g ?_
 refine aC (aG (sL []) ?_)
 refine kh 10 [] ?_
 refine d1 15 R (lM _ (fun w s=>(s.d 2 R)) ?_)
 refine bW 1 R (eB b) yQ R (Z14_ok (bJ l b)) R ?_
 rintro _
 refine lN g ?_
 refine aC (aG (sL []) ?_)
 refine gO 16 [] ?_
 refine dD ?_
 exact qj tI
 refine dC 18 [] bO fun D B=>?_
 refine gO 0 [] ?_
 refine d1 2 R (lM _ (fun w s=>(s.d 1 R)) ?_)
 refine lC 1 j2 R (Zb_ok i) R ?_
 rintro _
 refine lN g ?_
 refine aC (aG (sL []) ?_)
 refine r' 3 [] ?_
 refine d1 9 R (lM _ (fun w s=>(s.d 1 R)) ?_)
 refine bW 1 R (eB a) jw R (Zl_ok (bJ j a)) R ?_
 rintro _
 refine lN g ?_
 refine aC (aG (sL []) ?_)
 refine ua 10 [] ?_
 refine dD ?_
 exact qj tI
 refine dC 18 [] bO fun D B=>?_
 refine gO 0 [] ?_
 refine d1 2 R (lM _ (fun w s=>(s.d 1 R)) ?_)
 refine lC 1 j2 R (Zb_ok i) R ?_
 rintro _
 refine lN g ?_
 refine aC (aG (sL []) ?_)
 refine ws 3 [] ?_
 refine dD ?_
 exact qj tI
 rintro σ1
 refine aU ?_
 cases e
 exact qF () (tE 3 [])
theorem Z1k_ok  {k1:leafKind}{b:Node}{a:(List (List Int))}{r:(List Int)×Bool}(j:Z1k k1 b a=some r) :
 FnOk Tryz.prog 192 [(.agg [(.bool k1.data)].toArray),(.agg [(iv b.Op),(.slice A3 N3 D3),(.slice A4 N4 D4),(.slice A5 N5 D5),(aD b.Form),(.slice A6 N6 D6)].toArray),(.slice A8 N8 D8)] [aO kT3 (.slice A3 N3 D3) b.Args,aO kT3 (.slice A4 N4 D4) b.Dims,aO kT3 (.slice A5 N5 D5) b.Ints,aO kT3 (.slice A6 N6 D6) b.Data,aO kT23 (.slice A8 N8 D8) a] (fun (h:HH)=>((.tuple [(s3 h),(.bool r.2)].toArray),[aO kT3 (s3 h) r.1])):=by
 unfold Z1k at j
 refine aQ Tryz.func192 R 32 R R fun C V=>?_
 refine cL 0 aA ?_
 rintro rfl
 refine cL 1 aA ?_
 rintro rfl
 refine cL 2 aA ?_
 rintro rfl
 refine cL 3 aA ?_
 rintro rfl
 refine cL 4 aA ?_
 rintro rfl
 let F:=RR kT3 A3 D3 b.Args::RR kT3 A4 D4 b.Dims::RR kT3 A5 D5 b.Ints::RR kT3 A6 D6 b.Data::RR kT23 A8 D8 a::V
 refine cN F ?_
 refine aU ?_
 refine eG R fun G=>?_
 refine eG R fun u=>?_
 refine aP ?_
 let D:=aJ u [(iv b.Op),(sc A3 b.Args D3),(sc A4 b.Dims D4),(sc A5 b.Ints D5),(aD b.Form),(sc A6 b.Data D6)] 54::aJ G [(.bool k1.data)] 136::F
 refine qN D ?_
 refine aP ?_
 obtain ⟨q,m,j⟩:=bd j
 obtain ⟨E,B,j⟩:=bd j
 refine cQ [(4,(pt u 0)),(29,(.bool ((((a.length:Int) != 0)||(!q))||(k1.data&&(!E)))))] (D) ?_ ?_
 refine b' ?_
 rcases bo ((a.length:Int) != 0) with i | i
 refine Am ?_
 exact qj tI
 refine aU ?_
 refine lM _ (fun w s=>(s.d 3 R)) ?_
 refine bW 1 R (bY i) j2 R (Zb_ok (bJ m (cO i))) R ?_
 rintro _
 refine lN D ?_
 refine aP ?_
 rcases bo (((a.length:Int) != 0)||(!q)) with l | l
 refine mq ?_
 exact qj tI
 refine aP ?_
 rcases bo k1.data with g | g
 refine bG ?_
 refine lW (eB g) (vz (.agg [(sc A4 b.Dims D4),(sc A6 b.Data D6)].toArray) (aV gK dP R R)) (lM _ (fun w s=>(((s.d 3 R).d 6 R).e 2 [1,0])) ?_)
 refine bW 2 R (eB g) yR R (Z2l_ok (t1:=(⟨b.Dims,b.Data⟩:Tensor)) (bJ B (wc (cO l) g))) R ?_
 rintro _
 refine lN D ?_
 refine bG ?_
 exact qj tI
 refine cT ?_
 exact qj tI
 rintro σ1
 refine bR ?_
 split at j
 refine cP ?_
 cases j
 exact jC (none,0,0) (fun w s=>((s.nilr kT3).e 8 [0]))
 refine iG ?_
 cases j
 exact jC (A4,b.Dims.length,D4) (tE 7 [3])
theorem Z23_ok  {k1:pairKind}{g:Node}{b:(List (List Int))}{r:(List Int)×Bool}(j:Z23 k1 g b=some r) :
 FnOk Tryz.prog 197 [(.agg [(iv k1.op)].toArray),(.agg [(iv g.Op),(.slice A3 N3 D3),(.slice A4 N4 D4),(.slice A5 N5 D5),(aD g.Form),(.slice A6 N6 D6)].toArray),(.slice A8 N8 D8)] [aO kT3 (.slice A3 N3 D3) g.Args,aO kT3 (.slice A4 N4 D4) g.Dims,aO kT3 (.slice A5 N5 D5) g.Ints,aO kT3 (.slice A6 N6 D6) g.Data,aO kT23 (.slice A8 N8 D8) b] (fun (h:HH)=>((.tuple [(s3 h),(.bool r.2)].toArray),[aO kT3 (s3 h) r.1])):=by
 unfold Z23 at j
 refine aQ Tryz.func197 R 24 R R fun C V=>?_
 refine cL 0 aA ?_
 rintro rfl
 refine cL 1 aA ?_
 rintro rfl
 refine cL 2 aA ?_
 rintro rfl
 refine cL 3 aA ?_
 rintro rfl
 refine cL 4 aA ?_
 rintro rfl
 let G:=RR kT3 A3 D3 g.Args::RR kT3 A4 D4 g.Dims::RR kT3 A5 D5 g.Ints::RR kT3 A6 D6 g.Data::RR kT23 A8 D8 b::V
 refine cN G ?_
 refine aU ?_
 refine eG R fun M=>?_
 refine eG R fun E=>?_
 refine aP ?_
 let I:=aJ E [(iv g.Op),(sc A3 g.Args D3),(sc A4 g.Dims D4),(sc A5 g.Ints D5),(aD g.Form),(sc A6 g.Data D6)] 54::aJ M [(iv k1.op)] 138::G
 refine qN I ?_
 refine aP ?_
 obtain ⟨i,j⟩:=gd j
 obtain ⟨l,j⟩:=gd j
 obtain ⟨F,q,j⟩:=bd j
 refine cQ [(2,(sc A8 b D8)),(20,(.bool (((b.length:Int) != 2)||(!F))))] (I) ?_ ?_
 rcases bo ((b.length:Int) != 2) with a | a
 refine dC 13 [] bO fun Y U=>?_
 refine mr 0 [] ?_
 refine dD ?_
 exact qj tI
 refine aZ 6 aA (show 0<b.length by have:=(i a); omega) (fun L o13 B=>?_)
 subst B
 refine dB (K:=kT23) 6 (0:Int) dT23.dec R (i a).1 (i a).2 ?_
 rintro ⟨A14,D14⟩
 refine dB (K:=kT23) 8 (1:Int) dT23.dec R (l a).1 (l a).2 ?_
 rintro ⟨O,T⟩
 refine dC 13 [] bO fun Y U=>?_
 refine kh 0 [] ?_
 refine dW 5 R (bY a) (eN ji eZ R R (i a)) (dW 6 R (bY a) (eA (fo:=0) 2 cH R R R) (dW 7 R (bY a) (vS R) (dW 8 R (bY a) (eN ji eZ R R (l a)) (dW 9 R (bY a) (eA (fo:=0) 0 cH R R R) (d1 10 R (lM _ (fun w s=>(((s.d 3 R).d 2 R).e 6 [1,0,2,3,4,5])) ?_))))))
 refine bW 2 R (bY a) yS R (Z11_ok (bJ q (cO a))) R ?_
 rintro _
 refine aC (aG (sL []) ?_)
 refine gO 11 [] ?_
 refine dD ?_
 exact qj (tE 4 [])
 rintro σ1
 refine bR ?_
 split at j
 refine cP ?_
 cases j
 exact jC (none,0,0) (fun w s=>((s.nilr kT3).e 8 [0]))
 refine bG ?_
 obtain ⟨m,j⟩:=gd j
 refine aU ?_
 refine bD 6 aA (show 0<b.length by have:=m; omega) (fun J o23 B=>?_)
 subst B
 refine bR ?_
 refine gN (K:=kT23) 6 (0:Int) dT23.dec R m.1 m.2 ?_
 rintro ⟨D,u⟩
 refine lO (eA (fo:=0) 0 cH R R R) ?_
 refine b' ?_
 cases j
 exact jC (D,(ix b 0).length,u) (tE 9 [1])
theorem Z2u_ok  {k1:soloKind}{b:Node}{a:(List (List Int))}{r:(List Int)×Bool}(i:Z2u k1 b a=some r) :
 FnOk Tryz.prog 200 [(.agg [(iv k1.op)].toArray),(.agg [(iv b.Op),(.slice A3 N3 D3),(.slice A4 N4 D4),(.slice A5 N5 D5),(aD b.Form),(.slice A6 N6 D6)].toArray),(.slice A8 N8 D8)] [aO kT3 (.slice A3 N3 D3) b.Args,aO kT3 (.slice A4 N4 D4) b.Dims,aO kT3 (.slice A5 N5 D5) b.Ints,aO kT3 (.slice A6 N6 D6) b.Data,aO kT23 (.slice A8 N8 D8) a] (fun (h:HH)=>((.tuple [(s3 h),(.bool r.2)].toArray),[aO kT3 (s3 h) r.1])):=by
 unfold Z2u at i
 refine aQ Tryz.func200 R 14 R R fun C V=>?_
 refine cL 0 aA ?_
 rintro rfl
 refine cL 1 aA ?_
 rintro rfl
 refine cL 2 aA ?_
 rintro rfl
 refine cL 3 aA ?_
 rintro rfl
 refine cL 4 aA ?_
 rintro rfl
 let q:=RR kT3 A3 D3 b.Args::RR kT3 A4 D4 b.Dims::RR kT3 A5 D5 b.Ints::RR kT3 A6 D6 b.Data::RR kT23 A8 D8 a::V
 refine cN q ?_
 refine aU ?_
 refine eG R fun u=>?_
 refine eG R fun m=>?_
 refine aP ?_
 let D:=aJ m [(iv b.Op),(sc A3 b.Args D3),(sc A4 b.Dims D4),(sc A5 b.Ints D5),(aD b.Form),(sc A6 b.Data D6)] 54::aJ u [(iv k1.op)] 139::q
 refine qN D ?_
 refine cP ?_
 split at i
 refine cP ?_
 cases i
 exact jC (none,0,0) (fun w s=>((s.nilr kT3).e 8 [0]))
 refine bG ?_
 obtain ⟨g,i⟩:=gd i
 refine aU ?_
 refine bD 6 aA (show 0<a.length by have:=g; omega) (fun E o14 B=>?_)
 subst B
 refine bR ?_
 refine gN (K:=kT23) 6 (0:Int) dT23.dec R g.1 g.2 ?_
 rintro ⟨l,j⟩
 refine lO (eA (fo:=0) 0 cH R R R) ?_
 refine b' ?_
 cases i
 exact jC (l,(ix a 0).length,j) (tE 9 [1])
theorem Zk_ok  {b:(List Int)}{a:Int}{r:Bool}(g:Zk b a=some r) :
 FnOk Tryz.prog 150 [(.slice A2 N2 D2),(iv a)] [aO kT3 (.slice A2 N2 D2) b] (fun (h:Unit)=>((.bool r),[])):=by
 unfold Zk at g
 refine aQ Tryz.func150 R 13 R R fun C V=>?_
 refine cL 0 aA ?_
 rintro rfl
 let i:=RR kT3 A2 D2 b::V
 refine cN i ?_
 refine bS ?_
 refine cQ [(4,(.bool ((decide (a≥0))&&(decide (a<(b.length:Int))))))] (i) ?_ ?_
 refine bG ?_
 rcases bo (decide (a≥0)) with e | e
 refine dH ?_
 exact qj tI
 refine dH ?_
 exact qj tI
 rintro σ1
 refine aU ?_
 cases g
 exact qF () (tE 1 [])
theorem Z1w_ok  {k1:topKind}{g:Node}{b:(List (List Int))}{r:(List Int)×Bool}(j:Z1w k1 g b=some r) :
 FnOk Tryz.prog 202 [(.agg [].toArray),(.agg [(iv g.Op),(.slice A3 N3 D3),(.slice A4 N4 D4),(.slice A5 N5 D5),(aD g.Form),(.slice A6 N6 D6)].toArray),(.slice A8 N8 D8)] [aO kT3 (.slice A3 N3 D3) g.Args,aO kT3 (.slice A4 N4 D4) g.Dims,aO kT3 (.slice A5 N5 D5) g.Ints,aO kT3 (.slice A6 N6 D6) g.Data,aO kT23 (.slice A8 N8 D8) b] (fun (h:HH)=>((.tuple [(s3 h),(.bool r.2)].toArray),[aO kT3 (s3 h) r.1])):=by
 unfold Z1w at j
 refine aQ Tryz.func202 R 31 R R fun C V=>?_
 refine cL 0 aA ?_
 rintro rfl
 refine cL 1 aA ?_
 rintro rfl
 refine cL 2 aA ?_
 rintro rfl
 refine cL 3 aA ?_
 rintro rfl
 refine cL 4 aA ?_
 rintro rfl
 let I:=RR kT3 A3 D3 g.Args::RR kT3 A4 D4 g.Dims::RR kT3 A5 D5 g.Ints::RR kT3 A6 D6 g.Data::RR kT23 A8 D8 b::V
 refine cN I ?_
 refine aU ?_
 refine eG R fun T=>?_
 refine eG R fun G=>?_
 refine aP ?_
 let M:=aJ G [(iv g.Op),(sc A3 g.Args D3),(sc A4 g.Dims D4),(sc A5 g.Ints D5),(aD g.Form),(sc A6 g.Data D6)] 54::aJ T [] 141::I
 refine qN M ?_
 refine aP ?_
 obtain ⟨i,j⟩:=gd j
 obtain ⟨m,j⟩:=gd j
 obtain ⟨D,q,j⟩:=bd j
 refine cQ [(2,(sc A8 b D8)),(27,(.bool ((((b.length:Int) != 1)||((g.Ints.length:Int) != 1))||(!D))))] (M) ?_ ?_
 rcases bo ((b.length:Int) != 1) with u | u
 refine dC 20 [] bO fun L J=>?_
 refine s7 0 [] ?_
 refine dD ?_
 exact qj tI
 rcases bo (((b.length:Int) != 1)||((g.Ints.length:Int) != 1)) with a | a
 refine dC 20 [] bO fun L J=>?_
 refine s7 0 [] ?_
 refine dD ?_
 exact qj tI
 refine aZ 6 aA (show 0<b.length by have:=(i a); omega) (fun O o13 B=>?_)
 subst B
 refine dB (K:=kT23) 6 (0:Int) dT23.dec R (i a).1 (i a).2 ?_
 rintro ⟨A14,D14⟩
 refine aZ 6 aA (show 0<g.Ints.length by have:=(m a); omega) (fun Y o17 B=>?_)
 subst B
 refine dC 20 [] bO fun L J=>?_
 refine oX 0 [] ?_
 refine dW 11 R (bY a) (eN ji eZ R R (i a)) (dW 12 R (bY a) (eA (fo:=0) 0 cH R R R) ?_)
 refine gO 13 [] ?_
 refine dW 15 R (bY a) (eN bL cE R R (m a)) (dW 16 R (bY a) (gY 6 fS aA R (m a)) (d1 17 R (lM _ (fun w s=>(s.d 1 R)) ?_)))
 refine bW 1 R (bY a) gL R (Zk_ok (bJ q (cO a))) R ?_
 rintro _
 refine aC (aG (sL []) ?_)
 refine gO 18 [] ?_
 refine dD ?_
 exact qj (tE 2 [])
 rintro σ1
 refine bR ?_
 split at j
 refine cP ?_
 cases j
 exact jC (none,0,0) (fun w s=>((s.nilr kT3).e 8 [0]))
 refine bG ?_
 obtain ⟨l,j⟩:=gd j
 refine aU ?_
 refine bD 6 aA (show 0<b.length by have:=l; omega) (fun U o25 B=>?_)
 subst B
 refine bR ?_
 refine gN (K:=kT23) 6 (0:Int) dT23.dec R l.1 l.2 ?_
 rintro ⟨F,E⟩
 refine lO (eA (fo:=0) 0 cH R R R) ?_
 refine b' ?_
 cases j
 exact jC (F,(ix b 0).length,E) (tE 9 [1])
theorem Zc_ok  {J:aM}{mG:Int}{r:(List aM)×aM×Bool}(i:Zc J=some r) :
 FnOk Tryz.prog 207 [(aD J)] [gl 0 mG] (fun (h:HH)=>((.tuple [(s3 h),(aD r.2.1),(.bool r.2.2)].toArray),[aO dM (s3 h) r.1])):=by
 unfold Zc at i
 refine aQ Tryz.func207 R 93 R R fun C V=>?_
 let U:=gl 0 mG::V
 refine cN U ?_
 refine aP ?_
 refine lO (vp (aD ([]:aM)) R) ?_
 refine bG ?_
 obtain ⟨b,am,i⟩:=bd i
 refine aE (lO (vp (aD J) R) (lM _ (fun w s=>(s.dg 0 R)) ?_))
 refine lC 1 yU R (Z2z_ok am) R ?_
 rintro _
 refine lN U ?_
 refine lO (vT R) (lO (vp (aD b.1) R) (lO (vp (aD b.2.1) R) (lB R (lO (vp (aD b.1) R) (lO (vp (aD b.2.1) R) ?_)))))
 refine b' ?_
 refine cQ [(5,(aD b.1)),(6,(aD b.2.1)),(25,(.bool ((!b.2.2)||(decide ((b.2.1.length:Int)>6)))))] (U) ?_ ?_
 refine bG ?_
 rcases bo (!b.2.2) with a0 | a0
 refine b' ?_
 exact qj tI
 refine lW (bY a0) (vp (aD b.2.1) R) (lW (bY a0) (vz (il b.2.1) (dJ fJ R)) ?_)
 refine aP ?_
 exact qj tI
 rintro σ1
 refine bR ?_
 split at i
 refine bG ?_
 refine lO (vp (aD ([]:aM)) R) ?_
 refine b' ?_
 cases i
 exact hU (none,0,0) (fun w s=>((s.nilr dM).e 2 [0]))
 refine bG ?_
 obtain ⟨m,ae,i⟩:=bd i
 refine aE (lO (vp (aD b.1) R) (lM _ (fun w s=>(s.dg 0 R)) ?_))
 refine lC 1 yX R (Z30_ok ae) R ?_
 rintro ⟨A8,N8,D8⟩
 refine aL 0 aA ?_
 rintro rfl
 refine iu ?_
 split at i
 refine bG ?_
 refine lO (vp (aD ([]:aM)) R) ?_
 refine b' ?_
 cases i
 exact hU (none,0,0) (fun w s=>((s.nilr dM).e 3 [0]))
 refine bG ?_
 refine bB (A:=(Unit)×(HH)) (fun a=>Zc_J3 b m=some r) (fun a=>[(5,(aD b.1)),(6,(aD b.2.1)),(8,(s3 a.2))]) (fun a=>aO dM (s3 a.2) m::U) ?_ ?_
 refine cV ?_
 obtain ⟨e1,ah,a1⟩:=bd i
 refine bC (A:=HH) ah (fun s a=>[(5,(aD b.1)),(6,(aD b.2.1)),(8,(s3 a)),(31,(s3 a)),(32,(il m)),(33,(iv s))]) (fun s a=>aO dM (s3 a) m::U) (A8,m.length,D8) (aS R) tI ?_
 rintro q ⟨ac,an,E⟩ σ1 a5 i a2
 dsimp only [Zc_L1] at i
 refine bI 0 aA (fun (Y:an=m.length)=>?_)
 subst Y
 refine bS ?_
 split at i
 refine bG ?_
 refine bB (A:=(Unit)×(HH)) (fun a=>Zc_J2 q=some a5) (fun a=>[(5,(aD b.1)),(6,(aD b.2.1)),(8,(s3 a.2)),(31,(s3 a.2)),(32,(il m)),(33,(iv q))]) (fun a=>aO dM (s3 a.2) m::U) ?_ ?_
 refine aU ?_
 obtain ⟨T,i⟩:=gd i
 refine aE (bD 0 aA (show 0<m.length by have:=T; omega) (fun I o31 ha=>?_))
 subst ha
 refine bR ?_
 refine lO (vz (aD (ix m q)) (jG (K:=dM) (fo:=0) (pr:=fun x=>(aD x)) 0 q qO (dT9.leaf fun _ _=>R) aA R T.1 T.2)) (lO (vp (aD (ix m q)) R) ?_)
 refine b' ?_
 refine lO (vp (aD (ix m q)) R) (lO (vz (il (ix m q)) (dJ fJ R)) ?_)
 refine aP ?_
 split at i
 refine bG ?_
 refine lO (vp (aD ([]:aM)) R) ?_
 refine dH ?_
 cases i
 obtain rfl:=a2 _ R
 have i:=a1
 refine aP ?_
 cases i
 exact hU (none,0,0) (fun w s=>((s.nilr dM).e 3 [0]))
 refine cP ?_
 obtain ⟨e2,al,a7⟩:=bd i
 refine bC (A:=Unit) al (fun s a=>[(5,(aD b.1)),(6,(aD b.2.1)),(8,(sc (ad I o31) m E)),(10,(aD (ix m q))),(11,(iv s)),(31,(sc (ad I o31) m E)),(32,(il m)),(33,(iv q))]) (fun s a=>RR dM (ad I o31) E m::U) () (aS R) tI ?_
 rintro F _ σ1 ap i a6
 dsimp only [Zc_L2] at i
 refine bG ?_
 refine lO (vp (aD (ix m q)) R) (lO (vz (il (ix m q)) (dJ fJ R)) ?_)
 refine aP ?_
 split at i
 refine bS ?_
 obtain ⟨O,i⟩:=gd i
 refine cQ [(5,(aD b.1)),(6,(aD b.2.1)),(8,(sc (ad I o31) m E)),(10,(aD (ix m q))),(11,(iv F)),(31,(sc (ad I o31) m E)),(32,(il m)),(33,(iv q)),(55,(.bool ((decide ((bt (ix m q) F)<97))||(decide ((bt (ix m q) F)>122)))))] (RR dM (ad I o31) E m::U) ?_ ?_
 refine aE (lO (vp (aD (ix m q)) R) (lI R (lO (vz (.int .u8 (bt (ix m q) F)) (cG fJ R R O.1 O.2)) (lO (vp (.bool (decide ((bt (ix m q) F)<97))) R) (lB R ?_)))))
 rcases bo (decide ((bt (ix m q) F)<97)) with G | G
 refine bS ?_
 exact qj tI
 refine lW (bY G) (vp (aD (ix m q)) R) (lW (bY G) (vI R) (lW (bY G) (vz (.int .u8 (bt (ix m q) F)) (cG fJ R R O.1 O.2)) (lW (bY G) (vp (.bool (decide ((bt (ix m q) F)>122))) R) ?_)))
 refine aU ?_
 exact qj tI
 rintro σ1
 refine bR ?_
 split at i
 refine bG ?_
 refine lO (vp (aD ([]:aM)) R) ?_
 refine bS ?_
 cases i
 obtain rfl:=a6 _ R
 have i:=a7
 refine bG ?_
 cases i
 obtain rfl:=a2 _ R
 have i:=a1
 refine aP ?_
 cases i
 exact hU (none,0,0) (fun w s=>((s.nilr dM).e 3 [0]))
 refine cP ?_
 cases i
 exact qA () tI
 refine aP ?_
 cases i
 obtain rfl:=a6 _ R
 have i:=a7
 refine aP ?_
 exact qI ((),((ad I o31),m.length,E)) i tI
 rintro ⟨_,⟨ak,ai,ab⟩⟩ σ1 i
 dsimp only [Zc_J2] at i
 refine bI 0 aA (fun (Y:ai=m.length)=>?_)
 subst Y
 refine bG ?_
 cases i
 exact qA (ak,m.length,ab) tI
 refine aP ?_
 cases i
 obtain rfl:=a2 _ R
 have i:=a1
 refine aU ?_
 exact qI ((),(ac,m.length,E)) i tI
 rintro ⟨_,⟨M,aj,L⟩⟩ σ1 i
 dsimp only [Zc_J3] at i
 refine bI 0 aA (fun (Y:aj=m.length)=>?_)
 subst Y
 refine aN (bB (A:=(Unit)×(Unit)) (fun a=>Zc_J4 b m=some r) (fun a=>[(6,(aD b.2.1)),(8,(sc M m L))]) (fun a=>RR dM M L m::U) ?_ ?_)
 refine bS ?_
 obtain ⟨e3,aa,a9⟩:=bd i
 refine bC (A:=Unit) aa (fun s a=>[(5,(aD b.1)),(6,(aD b.2.1)),(8,(sc M m L)),(12,(iv s))]) (fun s a=>RR dM M L m::U) () (aS R) tI ?_
 rintro l _ σ1 ao i a8
 dsimp only [Zc_L3] at i
 refine bG ?_
 refine lO (vp (aD b.2.1) R) (lO (vz (il b.2.1) (dJ fJ R)) ?_)
 refine aP ?_
 split at i
 refine bS ?_
 obtain ⟨j,i⟩:=gd i
 obtain ⟨D,i⟩:=gd i
 obtain ⟨a4,Z,i⟩:=bd i
 obtain ⟨ag,a3,i⟩:=bd i
 refine cQ [(5,(aD b.1)),(6,(aD b.2.1)),(8,(sc M m L)),(12,(iv l)),(90,(.bool ((((decide ((bt b.2.1 l)<97))||(decide ((bt b.2.1 l)>122)))||(decide (a4≥0)))||(decide (ag<0)))))] (RR dM M L m::U) ?_ ?_
 rcases bo (decide ((bt b.2.1 l)<97)) with u | u
 refine dC 28 [] bO fun ht Y=>?_
 refine dR 0 R (vp (aD b.2.1) R) (dR 1 R (vI R) (dR 2 R (vz (.int .u8 (bt b.2.1 l)) (cG fJ R R j.1 j.2)) (dR 3 R (vp (.bool (decide ((bt b.2.1 l)<97))) R) ?_)))
 refine Ar 4 [] ?_
 refine dD ?_
 exact qj tI
 rcases bo ((decide ((bt b.2.1 l)<97))||(decide ((bt b.2.1 l)>122))) with g | g
 refine dC 28 [] bO fun ht Y=>?_
 refine dR 0 R (vp (aD b.2.1) R) (dR 1 R (vI R) (dR 2 R (vz (.int .u8 (bt b.2.1 l)) (cG fJ R R j.1 j.2)) (dR 3 R (vp (.bool (decide ((bt b.2.1 l)<97))) R) (dR 4 R (vB R) (dW 5 R (bY u) (vp (aD b.2.1) R) (dW 6 R (bY u) (vI R) (dW 7 R (bY u) (vz (.int .u8 (bt b.2.1 l)) (cG fJ R R j.1 j.2)) (dW 8 R (bY u) (vp (.bool (decide ((bt b.2.1 l)>122))) R) ?_))))))))
 refine yg 9 [] ?_
 refine dD ?_
 exact qj tI
 rcases bo (((decide ((bt b.2.1 l)<97))||(decide ((bt b.2.1 l)>122)))||(decide (a4≥0))) with B | B
 refine dC 28 [] bO fun ht Y=>?_
 refine dR 0 R (vp (aD b.2.1) R) (dR 1 R (vI R) (dR 2 R (vz (.int .u8 (bt b.2.1 l)) (cG fJ R R j.1 j.2)) (dR 3 R (vp (.bool (decide ((bt b.2.1 l)<97))) R) (dR 4 R (vB R) (dW 5 R (bY u) (vp (aD b.2.1) R) (dW 6 R (bY u) (vI R) (dW 7 R (bY u) (vz (.int .u8 (bt b.2.1 l)) (cG fJ R R j.1 j.2)) (dW 8 R (bY u) (vp (.bool (decide ((bt b.2.1 l)>122))) R) ?_))))))))
 refine gO 9 [] ?_
 refine dW 11 R (bY g) (vp (aD b.2.1) R) (dW 12 R (bY g) (vI R) (dW 13 R (bY g) (vz (aD (sub b.2.1 (0:Int) l)) (hM (0:Int) l fJ R R R (D g).1 (D g).2.1 (D g).2.2)) (dW 14 R (bY g) (vp (aD b.2.1) R) (dW 15 R (bY g) (vI R) (dW 16 R (bY g) (vz (.int .u8 (bt b.2.1 l)) (cG fJ R R j.1 j.2)) (d1 17 R (bW 0 R (bY g) pX R (Z1t_ok (bJ Z (cO g))) R ?_)))))))
 rintro _
 refine aC (aG (sL []) ?_)
 refine qH 18 [] ?_
 refine dD ?_
 exact qj tI
 refine dC 28 [] bO fun ht Y=>?_
 refine dR 0 R (vp (aD b.2.1) R) (dR 1 R (vI R) (dR 2 R (vz (.int .u8 (bt b.2.1 l)) (cG fJ R R j.1 j.2)) (dR 3 R (vp (.bool (decide ((bt b.2.1 l)<97))) R) (dR 4 R (vB R) (dW 5 R (bY u) (vp (aD b.2.1) R) (dW 6 R (bY u) (vI R) (dW 7 R (bY u) (vz (.int .u8 (bt b.2.1 l)) (cG fJ R R j.1 j.2)) (dW 8 R (bY u) (vp (.bool (decide ((bt b.2.1 l)>122))) R) ?_))))))))
 refine gO 9 [] ?_
 refine dW 11 R (bY g) (vp (aD b.2.1) R) (dW 12 R (bY g) (vI R) (dW 13 R (bY g) (vz (aD (sub b.2.1 (0:Int) l)) (hM (0:Int) l fJ R R R (D g).1 (D g).2.1 (D g).2.2)) (dW 14 R (bY g) (vp (aD b.2.1) R) (dW 15 R (bY g) (vI R) (dW 16 R (bY g) (vz (.int .u8 (bt b.2.1 l)) (cG fJ R R j.1 j.2)) (d1 17 R (bW 0 R (bY g) pX R (Z1t_ok (bJ Z (cO g))) R ?_)))))))
 rintro _
 refine aC (aG (sL []) ?_)
 refine hJ 18 [] ?_
 refine dW 21 R (bY B) (vp (aD b.1) R) (dW 22 R (bY B) (vp (aD b.2.1) R) (dW 23 R (bY B) (vI R) (dW 24 R (bY B) (vz (.int .u8 (bt b.2.1 l)) (cG fJ R R j.1 j.2)) (d1 25 R (bW 0 R (bY B) pX R (Z1t_ok (bJ a3 (cO B))) R ?_)))))
 rintro _
 refine aC (aG (sL []) ?_)
 refine gO 26 [] ?_
 refine dD ?_
 exact qj tI
 rintro σ1
 refine bR ?_
 split at i
 refine bG ?_
 refine lO (vp (aD ([]:aM)) R) ?_
 refine bS ?_
 cases i
 obtain rfl:=a8 _ R
 have i:=a9
 refine aP ?_
 cases i
 exact hU (none,0,0) (fun w s=>((s.nilr dM).e 3 [0]))
 refine cP ?_
 cases i
 exact qA () tI
 refine aP ?_
 cases i
 obtain rfl:=a8 _ R
 have i:=a9
 refine aU ?_
 exact qI ((),()) i tI
 rintro ⟨_,_⟩ σ1 i
 dsimp only [Zc_J4] at i
 refine aP ?_
 refine lO (vp (aD b.2.1) R) (lS R (lO (vp (aD b.2.1) R) ?_))
 refine bG ?_
 cases i
 exact hU (M,m.length,L) (tE 2 [0])
theorem Z02_ok  {b:(List Int)}{r:(List Int)}(e:Z02 b=some r) :
 FnOk Tryz.prog 164 [(.slice A2 N2 D2)] [aO kT3 (.slice A2 N2 D2) b] (fun (h:HH)=>((s3 h),[ow kT3 3 (s3 h) r])):=by
 unfold Z02 at e
 refine aQ Tryz.func164 R 32 R R fun C V=>?_
 refine cL 0 aA ?_
 rintro rfl
 let F:=RR kT3 A2 D2 b::V
 refine cN F ?_
 refine bS ?_
 obtain ⟨l,e⟩:=gd e
 refine aP ?_
 refine fI (K:=kT3) (m:=(b.length:Int)) (z:=(0:Int)) R R bL cE kv (Zr.zk zT3 gZ) (by decide) R R l.1 l.2.1 l.2.2 (fun A4 D4=>(lS R (aC (aI (aN (aE (lI R (aC (aI (aN (bB (A:=((List Int))×(Unit)) (fun a=>Z02_J3 a.1=some r) (fun a=>[(3,(sc A4 (List.replicate (b.length:Int).toNat (0:Int)) D4))]) (fun a=>ow kT3 3 (.slice A4 (List.replicate (b.length:Int).toNat (0:Int)).length D4) a.1::F) ?_ ?_)))))))))))
 refine cP ?_
 obtain ⟨Z,L,J⟩:=bd e
 refine bC (A:=Unit) L (fun s a=>[(0,(sc A2 b D2)),(3,(sc A4 (List.replicate (b.length:Int).toNat (0:Int)) D4)),(4,(iv s.2.1)),(5,(iv s.2.2))]) (fun s a=>ow kT3 3 (.slice A4 (List.replicate (b.length:Int).toNat (0:Int)).length D4) s.1::F) () (aS R) tI ?_
 rintro ⟨q,g,j⟩ _ σ1 D e G
 dsimp only [Z02_L1] at e
 refine dH ?_
 split at e
 refine bS ?_
 refine bB (A:=((List Int))×(Unit)) (fun a=>Z02_J2 b g j a.1=some D) (fun a=>[(0,(sc A2 b D2)),(3,(sc A4 (List.replicate (b.length:Int).toNat (0:Int)) D4)),(4,(iv g)),(5,(iv j))]) (fun a=>ow kT3 3 (.slice A4 (List.replicate (b.length:Int).toNat (0:Int)).length D4) a.1::F) ?_ ?_
 refine bR ?_
 obtain ⟨u,e⟩:=gd e
 refine aP ?_
 refine bD 1 aA (show 0<b.length by have:=u; omega) (fun U o25 B=>?_)
 subst B
 refine b' ?_
 split at e
 refine bR ?_
 obtain ⟨i,e⟩:=gd e
 refine bG ?_
 refine bD 0 aB (show 0<(List.replicate (b.length:Int).toNat (0:Int)).length by have:=i; omega) (fun Y o29 B=>?_)
 subst B
 refine bR ?_
 refine dX (K:=kT3) (x':=g) 0 j R R cE R R i.1 i.2 ?_ ?_
 exact fun I h s=>(gJ).put I h () g s
 refine bR ?_
 exact qI ((q.set j.toNat g),()) e tI
 refine aU ?_
 exact qI (q,()) e tI
 rintro ⟨T,_⟩ σ1 e
 dsimp only [Z02_J2] at e
 obtain ⟨E,e⟩:=gd e
 refine bG ?_
 refine bD 1 aA (show 0<b.length by have:=E; omega) (fun M o33 B=>?_)
 subst B
 refine iG ?_
 cases e
 exact qA () tI
 refine aP ?_
 cases e
 obtain rfl:=G _ R
 have e:=J
 refine aU ?_
 exact qI (q,()) e tI
 rintro ⟨O,_⟩ σ1 e
 dsimp only [Z02_J3] at e
 refine dH ?_
 cases e
 exact qF (A4,(List.replicate (b.length:Int).toNat (0:Int)).length,D4) (tE 2 [0])
theorem Zj_ok  {f1:form}{b:aM}{e:(List Int)}{r:(List Int)}(g:Zj f1 b e=some r) :
 FnOk Tryz.prog 209 [(.agg [(.slice A2 N2 D2),(aD f1.out_),(aD f1.order),(.slice A3 N3 D3),(.slice A4 N4 D4),(.slice A5 N5 D5),(.slice A6 N6 D6)].toArray),(aD b),(.slice A9 N9 D9)] [aO dM (.slice A2 N2 D2) f1.groups,aO kT3 (.slice A3 N3 D3) f1.loops,aO kT3 (.slice A4 N4 D4) f1.dims,aO kT23 (.slice A5 N5 D5) f1.steps,aO kT3 (.slice A6 N6 D6) f1.store,aO kT3 (.slice A9 N9 D9) e] (fun (h:HH)=>((s3 h),[ow kT3 3 (s3 h) r])):=by
 unfold Zj at g
 refine aQ Tryz.func209 R 45 R R fun C V=>?_
 refine cL 0 aA ?_
 rintro rfl
 refine cL 1 aA ?_
 rintro rfl
 refine cL 2 aA ?_
 rintro rfl
 refine cL 3 aA ?_
 rintro rfl
 refine cL 4 aA ?_
 rintro rfl
 refine cL 5 aA ?_
 rintro rfl
 let W0:=RR dM A2 D2 f1.groups::RR kT3 A3 D3 f1.loops::RR kT3 A4 D4 f1.dims::RR kT23 A5 D5 f1.steps::RR kT3 A6 D6 f1.store::RR kT3 A9 D9 e::V
 refine cN W0 ?_
 refine aU ?_
 refine eG R fun B=>?_
 refine aU ?_
 let F:=aJ B [(sc A2 f1.groups D2),(aD f1.out_),(aD f1.order),(sc A3 f1.loops D3),(sc A4 f1.dims D4),(sc A5 f1.steps D5),(sc A6 f1.store D6)] 192::W0
 refine qN F ?_
 refine aU ?_
 obtain ⟨u,g⟩:=gd g
 refine aP ?_
 refine lO (vz (il f1.order) (dJ fJ R)) (fI (K:=kT3) (m:=(f1.order.length:Int)) (z:=(0:Int)) R R bL cE kv (Zr.zk zT3 gZ) (by decide) R R u.1 u.2.1 u.2.2 (fun A12 D12=>(lS R (aC (aI (aN (bB (A:=((List Int))×(Unit)) (fun a=>Zj_J7 a.1=some r) (fun a=>[(7,(sc A12 (List.replicate (f1.order.length:Int).toNat (0:Int)) D12))]) (fun a=>ow kT3 3 (.slice A12 (List.replicate (f1.order.length:Int).toNat (0:Int)).length D12) a.1::F) ?_ ?_)))))))
 refine cV ?_
 obtain ⟨e1,O,M⟩:=bd g
 refine bC (A:=Unit) O (fun s a=>[(1,(aD b)),(2,(sc A9 e D9)),(3,(pt B 0)),(7,(sc A12 (List.replicate (f1.order.length:Int).toNat (0:Int)) D12)),(15,(il (List.replicate (f1.order.length:Int).toNat (0:Int)))),(16,(iv s.2))]) (fun s a=>ow kT3 3 (.slice A12 (List.replicate (f1.order.length:Int).toNat (0:Int)).length D12) s.1::F) () (aS R) tI ?_
 rintro ⟨a0,i⟩ _ σ1 G g a1
 dsimp only [Zj_L1] at g
 refine bS ?_
 split at g
 refine bG ?_
 refine bB (A:=((List Int))×(Unit)) (fun a=>Zj_J6 i a.1=some G) (fun a=>[(1,(aD b)),(2,(sc A9 e D9)),(3,(pt B 0)),(7,(sc A12 (List.replicate (f1.order.length:Int).toNat (0:Int)) D12)),(15,(il (List.replicate (f1.order.length:Int).toNat (0:Int)))),(16,(iv i))]) (fun a=>ow kT3 3 (.slice A12 (List.replicate (f1.order.length:Int).toNat (0:Int)).length D12) a.1::F) ?_ ?_
 refine mq ?_
 obtain ⟨e2,a2,Y⟩:=bd g
 refine bC (A:=Unit) a2 (fun s a=>[(1,(aD b)),(2,(sc A9 e D9)),(3,(pt B 0)),(7,(sc A12 (List.replicate (f1.order.length:Int).toNat (0:Int)) D12)),(8,(iv i)),(9,(iv s.2)),(15,(il (List.replicate (f1.order.length:Int).toNat (0:Int)))),(16,(iv i))]) (fun s a=>ow kT3 3 (.slice A12 (List.replicate (f1.order.length:Int).toNat (0:Int)).length D12) s.1::F) () (aS R) tI ?_
 rintro ⟨j,l⟩ _ σ1 J g U
 dsimp only [Zj_L2] at g
 refine bG ?_
 refine lO (vp (aD b) R) (lO (vz (il b) (dJ fJ R)) ?_)
 refine aP ?_
 split at g
 refine bG ?_
 refine bB (A:=((List Int))×(Unit)) (fun a=>Zj_J5 l a.1=some J) (fun a=>[(1,(aD b)),(2,(sc A9 e D9)),(3,(pt B 0)),(7,(sc A12 (List.replicate (f1.order.length:Int).toNat (0:Int)) D12)),(8,(iv i)),(9,(iv l)),(15,(il (List.replicate (f1.order.length:Int).toNat (0:Int)))),(16,(iv i))]) (fun a=>ow kT3 3 (.slice A12 (List.replicate (f1.order.length:Int).toNat (0:Int)).length D12) a.1::F) ?_ ?_
 refine aU ?_
 obtain ⟨D,g⟩:=gd g
 obtain ⟨E,g⟩:=gd g
 refine dC 8 [] bO fun ht hn=>?_
 refine dR 0 R (vp (aD b) R) (dR 1 R (vI R) (dR 2 R (vz (.int .u8 (bt b l)) (cG fJ R R D.1 D.2)) ?_))
 refine hJ 3 [] ?_
 refine dR 6 R (vz (.int .u8 (bt f1.order i)) (cG fJ R R E.1 E.2)) (dR 7 R (vp (.bool ((bt b l)==(bt f1.order i))) R) (dD (aI ?_)))
 split at g
 refine bR ?_
 obtain ⟨q,g⟩:=gd g
 obtain ⟨L,g⟩:=gd g
 refine aZ 0 aB (show 0<(List.replicate (f1.order.length:Int).toNat (0:Int)).length by have:=q; omega) (fun T o69 Z=>?_)
 subst Z
 refine aZ 7 aA (show 0<e.length by have:=L; omega) (fun a6 o72 Z=>?_)
 subst Z
 refine dC 11 [0] bO fun ht hn=>?_
 refine hJ 0 [0] ?_
 refine og 4 [0] ?_
 refine d1 3 R (lO (gY 0 fS aB R q) (aC (aG (sL [0]) ?_)))
 refine gO 8 [0] ?_
 refine d1 10 R (lN (ow kT3 3 (.slice (ad T o69) (List.replicate (f1.order.length:Int).toNat (0:Int)).length D12) j::F) ?_)
 refine dX (K:=kT3) (x':=(aH ((ix j i)+(ix e l)))) 0 i R R cE R R q.1 q.2 ?_ ?_
 exact fun I h s=>(gJ).put I h () (aH ((ix j i)+(ix e l))) s
 refine aC (aG (sL [0]) (dD (eD ?_)))
 exact qI ((j.set i.toNat (aH ((ix j i)+(ix e l)))),()) g tI
 refine aP ?_
 exact qI (j,()) g tI
 rintro ⟨a3,_⟩ σ1 g
 dsimp only [Zj_J5] at g
 refine b' ?_
 cases g
 exact qA () tI
 refine aP ?_
 cases g
 obtain rfl:=U _ R
 have g:=Y
 refine aP ?_
 exact qI (j,()) g tI
 rintro ⟨a5,_⟩ σ1 g
 dsimp only [Zj_J6] at g
 refine bG ?_
 cases g
 exact qA () tI
 refine aP ?_
 cases g
 obtain rfl:=a1 _ R
 have g:=M
 refine aU ?_
 exact qI (a0,()) g tI
 rintro ⟨a4,_⟩ σ1 g
 dsimp only [Zj_J7] at g
 refine dH ?_
 cases g
 exact qF (A12,(List.replicate (f1.order.length:Int).toNat (0:Int)).length,D12) (tE 8 [0])
theorem Z3_ok  {al:aM}{b:(List (List Int))}{mG:Int}{r:form×Bool}(i:Z3 al b=some r) :
 FnOk Tryz.prog 206 [(aD al),(.slice A3 N3 D3)] [aO kT23 (.slice A3 N3 D3) b,gl 0 mG] (fun (h:HH×HH×HH×HH×HH)=>((.tuple [(.agg [(s3 h.1),(aD r.1.out_),(aD r.1.order),(s3 h.2.1),(s3 h.2.2.1),(s3 h.2.2.2.1),(s3 h.2.2.2.2)].toArray),(.bool r.2)].toArray),[aO dM (s3 h.1) r.1.groups,aO kT3 (s3 h.2.1) r.1.loops,ow kT3 3 (s3 h.2.2.1) r.1.dims,ow kT23 23 (s3 h.2.2.2.1) r.1.steps,ow kT3 3 (s3 h.2.2.2.2) r.1.store])):=by
 unfold Z3 at i
 refine aQ Tryz.func206 R 179 R R fun C V=>?_
 refine cL 0 aA ?_
 rintro rfl
 let Z:=RR kT23 A3 D3 b::gl 0 mG::V
 refine cN Z ?_
 refine aU ?_
 refine bE R R kH (fun b4=>(lB R (aC (aI (aN ?_)))))
 obtain ⟨g,d4,i⟩:=bd i
 refine aE (lO (vp (aD al) R) (lM (gl 0 mG::_::Z) (fun w s=>(s.dg 2 R)) ?_))
 refine lC 1 yZ R (Zc_ok d4) R ?_
 rintro ⟨A7,N7,D7⟩
 refine aL 0 aA ?_
 rintro rfl
 refine lO (vT R) (lS R (lO (vp (aD g.2.1) R) (lB R (lS R (lO (vp (aD g.2.1) R) ?_)))))
 refine b' ?_
 refine cQ [(1,(sc A3 b D3)),(4,(pt b4 0)),(6,(sc A7 g.1 D7)),(7,(aD g.2.1)),(34,(.bool ((!g.2.2)||((g.1.length:Int) != (b.length:Int)))))] (aJ b4 [(.slice none 0 0),(aD ([]:aM)),(aD ([]:aM)),(.slice none 0 0),(.slice none 0 0),(.slice none 0 0),(.slice none 0 0)] 192::RR dM A7 D7 g.1::Z) ?_ ?_
 refine bG ?_
 rcases bo (!g.2.2) with cu | cu
 refine dH ?_
 exact qj (tE 2 [1,0])
 refine dH ?_
 exact qj (tE 2 [1,0])
 rintro σ1
 refine bR ?_
 split at i
 refine aP ?_
 refine lO (vz (.agg [(.slice none 0 0),(aD ([]:aM)),(aD ([]:aM)),(.slice none 0 0),(.slice none 0 0),(.slice none 0 0),(.slice none 0 0)].toArray) (aV n5 kH R R)) (aK 0 R R iJ R R R R R R (lB R (aC (aI (bV (cD ?_))))))
 cases i
 exact dF (vs:=[(.agg [(.slice none 0 0),(aD ([]:aM)),(aD ([]:aM)),(.slice none 0 0),(.slice none 0 0),(.slice none 0 0),(.slice none 0 0)].toArray),(.bool false)]) (.inl R) ((none,0,0),(none,0,0),(none,0,0),(none,0,0),(none,0,0)) R ⟨⟨0,b4,_,_,R,R,.inl ⟨mw,iJ,R⟩⟩,R,trivial⟩ R (fun w s=>((((((s.nilr dM).nilr kT3).nilo kT3 3).nilo kT23 23).nilo kT3 3).e 9 [4,3,2,1,0]))
 refine bS ?_
 refine lO (vp (aD g.2.1) R) (lO (vp (aD g.2.1) R) (lO (vz (.agg [(sc A7 g.1 D7),(aD g.2.1),(aD g.2.1),(.slice none 0 0),(.slice none 0 0),(.slice none 0 0),(.slice none 0 0)].toArray) (aV n5 kH R R)) (bE R R kH (fun J=>(aK 0 R R iJ R R R R R R (lN (aJ J [(sc A7 g.1 D7),(aD g.2.1),(aD g.2.1),(.slice none 0 0),(.slice none 0 0),(.slice none 0 0),(.slice none 0 0)] 192::_::_::Z) ?_))))))
 refine bG ?_
 refine lO (vz (.agg [(iv 0),(iv 0),(iv 0),(iv 0),(iv 0),(iv 0),(iv 0),(iv 0),(iv 0),(iv 0),(iv 0),(iv 0),(iv 0),(iv 0),(iv 0),(iv 0),(iv 0),(iv 0),(iv 0),(iv 0),(iv 0),(iv 0),(iv 0),(iv 0),(iv 0),(iv 0)].toArray) (wh sr vD cE)) (bE R R vD (fun T=>(aK 0 R R vE R R R R R R (aC (qM (ow kT3 195 (.slice (ad T 0) 26 26) (List.replicate 26 (0:Int))::_::_::_::Z) (fun w s=>s.b2o 0 (List.replicate 26 (0:Int)) R R R R) ?_)))))
 refine aU ?_
 refine bB (A:=(aM×(List Int))×(HH×HH)) (fun a=>Z3_J7 b g a.1.1 a.1.2=some r) (fun a=>[(1,(s3 a.2.1)),(4,(pt b4 0)),(6,(s3 a.2.2)),(7,(aD g.2.1)),(9,(pt J 0)),(10,(pt T 0))]) (fun a=>aO kT23 (s3 a.2.1) b::aJ b4 [(.slice none 0 0),(aD ([]:aM)),(aD ([]:aM)),(.slice none 0 0),(.slice none 0 0),(.slice none 0 0),(.slice none 0 0)] 192::aO dM (s3 a.2.2) g.1::aJ J [(s3 a.2.2),(aD g.2.1),(aD a.1.1),(.slice none 0 0),(.slice none 0 0),(.slice none 0 0),(.slice none 0 0)] 192::ow kT3 195 (.slice (ad T 0) 26 26) a.1.2::Z) ?_ ?_
 refine cV ?_
 obtain ⟨e1,d3,bv⟩:=bd i
 refine bC (A:=HH×HH) d3 (fun s a=>[(1,(s3 a.1)),(4,(pt b4 0)),(6,(s3 a.2)),(7,(aD g.2.1)),(9,(pt J 0)),(10,(pt T 0)),(41,(s3 a.2)),(42,(il g.1)),(43,(iv s.2.2))]) (fun s a=>aO kT23 (s3 a.1) b::aJ b4 [(.slice none 0 0),(aD ([]:aM)),(aD ([]:aM)),(.slice none 0 0),(.slice none 0 0),(.slice none 0 0),(.slice none 0 0)] 192::aO dM (s3 a.2) g.1::aJ J [(s3 a.2),(aD g.2.1),(aD s.1),(.slice none 0 0),(.slice none 0 0),(.slice none 0 0),(.slice none 0 0)] 192::ow kT3 195 (.slice (ad T 0) 26 26) s.2.1::Z) ((A3,b.length,D3),(A7,g.1.length,D7)) (aS R) (fun w s=>((s.d 4 R).e 5 [0,3,4,2,1])) ?_
 rintro ⟨d5,bc,j⟩ ⟨⟨cs,cw,ag⟩,⟨ct,d0,a1⟩⟩ σ1 ca i bw
 dsimp only [Z3_L1] at i
 refine bI 0 aA (fun (hn:cw=b.length)=>?_)
 subst hn
 refine bI 2 aA (fun (hn:d0=g.1.length)=>?_)
 subst hn
 refine bS ?_
 split at i
 refine bG ?_
 refine bB (A:=(aM×(List Int))×(HH×HH)) (fun a=>Z3_J6 j a.1.1 a.1.2=some ca) (fun a=>[(1,(s3 a.2.1)),(4,(pt b4 0)),(6,(s3 a.2.2)),(7,(aD g.2.1)),(9,(pt J 0)),(10,(pt T 0)),(41,(s3 a.2.2)),(42,(il g.1)),(43,(iv j))]) (fun a=>aO kT23 (s3 a.2.1) b::aJ b4 [(.slice none 0 0),(aD ([]:aM)),(aD ([]:aM)),(.slice none 0 0),(.slice none 0 0),(.slice none 0 0),(.slice none 0 0)] 192::aO dM (s3 a.2.2) g.1::aJ J [(s3 a.2.2),(aD g.2.1),(aD a.1.1),(.slice none 0 0),(.slice none 0 0),(.slice none 0 0),(.slice none 0 0)] 192::ow kT3 195 (.slice (ad T 0) 26 26) a.1.2::Z) ?_ ?_
 refine aU ?_
 obtain ⟨b3,i⟩:=gd i
 refine aU ?_
 refine bD 2 aA (show 0<g.1.length by have:=b3; omega) (fun a4 o83 ha=>?_)
 subst ha
 refine bR ?_
 refine lO (vz (aD (ix g.1 j)) (jG (K:=dM) (fo:=0) (pr:=fun x=>(aD x)) 2 j qO (dT9.leaf fun _ _=>R) aA R b3.1 b3.2)) (lI R (lO (vp (aD (ix g.1 j)) R) ?_))
 refine bG ?_
 obtain ⟨a7,i⟩:=gd i
 refine aE (lO (vp (aD (ix g.1 j)) R) (lO (vz (il (ix g.1 j)) (dJ fJ R)) (lS R (lI R (bD 0 aA (show 0<b.length by have:=a7; omega) (fun ah o86 ha=>?_))))))
 subst ha
 refine bR ?_
 refine gN (K:=kT23) 0 j dT23.dec R a7.1 a7.2 ?_
 rintro ⟨dw,dv⟩
 refine lO (eA (fo:=0) 0 cH R R R) ?_
 refine bG ?_
 split at i
 refine aP ?_
 refine lO (vz (.agg [(.slice none 0 0),(aD ([]:aM)),(aD ([]:aM)),(.slice none 0 0),(.slice none 0 0),(.slice none 0 0),(.slice none 0 0)].toArray) (aV n5 kH R R)) (aK 3 R R iJ R R R R R R (lB R (aC (aI (bV (cD (dA (cD ?_))))))))
 cases i
 obtain rfl:=bw _ R
 have i:=bv
 refine aP ?_
 cases i
 exact dF (vs:=[(.agg [(.slice none 0 0),(aD ([]:aM)),(aD ([]:aM)),(.slice none 0 0),(.slice none 0 0),(.slice none 0 0),(.slice none 0 0)].toArray),(.bool false)]) (.inl R) ((none,0,0),(none,0,0),(none,0,0),(none,0,0),(none,0,0)) R ⟨⟨3,b4,_,_,R,R,.inl ⟨mw,iJ,R⟩⟩,R,trivial⟩ R (fun w s=>((((((s.nilr dM).nilr kT3).nilo kT3 3).nilo kT23 23).nilo kT3 3).e 14 [4,3,2,1,0]))
 refine cP ?_
 obtain ⟨e2,cz,c8⟩:=bd i
 refine bC (A:=Unit) cz (fun s a=>[(1,(sc (ad ah o86) b ag)),(4,(pt b4 0)),(6,(sc (ad a4 o83) g.1 a1)),(7,(aD g.2.1)),(9,(pt J 0)),(10,(pt T 0)),(11,(iv j)),(12,(aD (ix g.1 j))),(13,(iv s.2.2)),(41,(sc (ad a4 o83) g.1 a1)),(42,(il g.1)),(43,(iv j))]) (fun s a=>RR kT23 (ad ah o86) ag b::aJ b4 [(.slice none 0 0),(aD ([]:aM)),(aD ([]:aM)),(.slice none 0 0),(.slice none 0 0),(.slice none 0 0),(.slice none 0 0)] 192::RR dM (ad a4 o83) a1 g.1::aJ J [(sc (ad a4 o83) g.1 a1),(aD g.2.1),(aD s.1),(.slice none 0 0),(.slice none 0 0),(.slice none 0 0),(.slice none 0 0)] 192::ow kT3 195 (.slice (ad T 0) 26 26) s.2.1::Z) () (aS R) (fun w s=>(s.f 7 [2,5])) ?_
 rintro ⟨ab,Y,m⟩ _ σ1 cr i cm
 dsimp only [Z3_L2] at i
 refine bG ?_
 refine lO (vp (aD (ix g.1 j)) R) (lO (vz (il (ix g.1 j)) (dJ fJ R)) ?_)
 refine aP ?_
 split at i
 refine bG ?_
 refine bB (A:=(aM×(List Int))×(Unit)) (fun a=>Z3_J5 m a.1.1 a.1.2=some cr) (fun a=>[(1,(sc (ad ah o86) b ag)),(4,(pt b4 0)),(6,(sc (ad a4 o83) g.1 a1)),(7,(aD g.2.1)),(9,(pt J 0)),(10,(pt T 0)),(11,(iv j)),(12,(aD (ix g.1 j))),(13,(iv m)),(41,(sc (ad a4 o83) g.1 a1)),(42,(il g.1)),(43,(iv j))]) (fun a=>RR kT23 (ad ah o86) ag b::aJ b4 [(.slice none 0 0),(aD ([]:aM)),(aD ([]:aM)),(.slice none 0 0),(.slice none 0 0),(.slice none 0 0),(.slice none 0 0)] 192::RR dM (ad a4 o83) a1 g.1::aJ J [(sc (ad a4 o83) g.1 a1),(aD g.2.1),(aD a.1.1),(.slice none 0 0),(.slice none 0 0),(.slice none 0 0),(.slice none 0 0)] 192::ow kT3 195 (.slice (ad T 0) 26 26) a.1.2::Z) ?_ ?_
 refine aU ?_
 obtain ⟨ac,i⟩:=gd i
 obtain ⟨ap,i⟩:=gd i
 refine aE (lO (vp (aD (ix g.1 j)) R) (lI R (lO (vz (.int .u8 (bt (ix g.1 j) m)) (cG fJ R R ac.1 ac.2)) (lO (vp (.int .u8 (IntKind.wrap .u8 ((bt (ix g.1 j) m) - 97))) R) (lO (vz (.pointer (some ⟨T,0+(IntKind.wrap .u8 ((bt (ix g.1 j) m) - 97)).toNat*1,none⟩)) (rU sr cE R R ap)) ?_)))))
 refine b' ?_
 obtain ⟨aj,i⟩:=gd i
 refine cQ [(1,(sc (ad ah o86) b ag)),(4,(pt b4 0)),(6,(sc (ad a4 o83) g.1 a1)),(7,(aD g.2.1)),(9,(pt J 0)),(10,(pt T 0)),(11,(iv j)),(12,(aD (ix g.1 j))),(13,(iv m)),(14,(.pointer (some ⟨T,0+(IntKind.wrap .u8 ((bt (ix g.1 j) m) - 97)).toNat*1,none⟩))),(41,(sc (ad a4 o83) g.1 a1)),(42,(il g.1)),(43,(iv j)),(84,(.bool (((ix Y (IntKind.wrap .u8 ((bt (ix g.1 j) m) - 97))) != 0)&&((ix Y (IntKind.wrap .u8 ((bt (ix g.1 j) m) - 97))) != (ix (ix b j) m)))))] (RR kT23 (ad ah o86) ag b::aJ b4 [(.slice none 0 0),(aD ([]:aM)),(aD ([]:aM)),(.slice none 0 0),(.slice none 0 0),(.slice none 0 0),(.slice none 0 0)] 192::RR dM (ad a4 o83) a1 g.1::aJ J [(sc (ad a4 o83) g.1 a1),(aD g.2.1),(aD ab),(.slice none 0 0),(.slice none 0 0),(.slice none 0 0),(.slice none 0 0)] 192::ow kT3 195 (.slice (ad T 0) 26 26) Y::Z) ?_ ?_
 rcases bo ((ix Y (IntKind.wrap .u8 ((bt (ix g.1 j) m) - 97))) != 0) with U | U
 refine dB (K:=kT23) 0 j dT23.dec R a7.1 a7.2 ?_
 rintro ⟨dt,df⟩
 refine aZ 1 aA (show 0<(ix b j).length by have:=(aj U); omega) (fun di o120 ha=>?_)
 subst ha
 refine dC 17 [] bO fun ht hn=>?_
 refine oX 0 [] ?_
 refine dW 11 R (eB U) (eA (fo:=0) 0 cH R R R) (dW 12 R (eB U) (vI R) (dW 13 R (eB U) (eN bL cE R R (aj U)) (dW 14 R (eB U) (gY 1 fS aA R (aj U)) ?_)))
 refine gO 15 [] ?_
 refine dD ?_
 exact qj (fun w s=>(s.f 7 [2,5]))
 refine dC 17 [] bO fun ht hn=>?_
 refine yf 0 [] ?_
 refine dD ?_
 exact qj tI
 rintro σ1
 refine bR ?_
 split at i
 refine aP ?_
 refine lO (vz (.agg [(.slice none 0 0),(aD ([]:aM)),(aD ([]:aM)),(.slice none 0 0),(.slice none 0 0),(.slice none 0 0),(.slice none 0 0)].toArray) (aV n5 kH R R)) (aK 1 R R iJ R R R R R R (lN (_::_::_::_::_::Z) ?_))
 refine dH ?_
 cases i
 obtain rfl:=cm _ R
 have i:=c8
 refine bG ?_
 cases i
 obtain rfl:=bw _ R
 have i:=bv
 refine aP ?_
 cases i
 exact dF (vs:=[(.agg [(.slice none 0 0),(aD ([]:aM)),(aD ([]:aM)),(.slice none 0 0),(.slice none 0 0),(.slice none 0 0),(.slice none 0 0)].toArray),(.bool false)]) (.inl R) ((none,0,0),(none,0,0),(none,0,0),(none,0,0),(none,0,0)) R ⟨⟨1,b4,_,_,R,R,.inl ⟨mw,iJ,R⟩⟩,R,trivial⟩ R (fun w s=>((((((s.nilr dM).nilr kT3).nilo kT3 3).nilo kT23 23).nilo kT3 3).e 12 [4,3,2,1,0]))
 refine bG ?_
 obtain ⟨c0,i⟩:=gd i
 refine b' ?_
 refine gN (K:=kT23) 0 j dT23.dec R a7.1 a7.2 ?_
 rintro ⟨dd,bi⟩
 refine lO (eA (fo:=0) 0 cH R R R) (lI R (bD 1 aA (show 0<(ix b j).length by have:=c0; omega) (fun bj o126 ha=>?_)))
 subst ha
 refine aP ?_
 refine lM (ow _ _ _ _::cl ah (o86+j.toNat*1) [(sc (ad bj o126) (ix b j) bi)]::RR kT3 (ad bj o126) bi (ix b j)::aO _ _ _::aJ _ _ _::aO _ _ _::aJ _ _ _::Z) (fun w s=>(s.f 7 [6,1,0,6])) ?_
 refine dX (K:=kT3) (x':=(ix (ix b j) m)) 0 (IntKind.wrap .u8 ((bt (ix g.1 j) m) - 97)) R R cE R R ap.1 ap.2 ?_ ?_
 exact fun I h s=>(gJ).put I h () (ix (ix b j) m) s
 refine bR ?_
 obtain ⟨b6,am,i⟩:=bd i
 replace am:=Option.some.inj am
 refine qM (ow kT3 195 (.slice (ad T 0) 26 26) b6::_::_::_::_::_::_::Z) (fun w s=>by rw [← am]; exact s) ?_
 refine aU ?_
 obtain ⟨dm,br,i⟩:=bd i
 refine dC 7 [] bO fun ht hn=>?_
 refine gO 0 [] ?_
 refine dR 2 R (vp (aD (ix g.1 j)) R) (dR 3 R (vI R) (dR 4 R (vz (.int .u8 (bt (ix g.1 j) m)) (cG fJ R R ac.1 ac.2)) (d1 5 R (lC 0 pX R (Z1t_ok br) R ?_))))
 rintro _
 refine aC (aG (sL []) (dR 6 R (nS R R) (dD (aI ?_))))
 split at i
 refine bR ?_
 obtain ⟨ai,i⟩:=gd i
 obtain ⟨bz,i⟩:=gd i
 refine dC 10 [6] bO fun ht hn=>?_
 refine oe 0 [6] ?_
 refine dR 2 R (vp (aD (ix g.1 j)) R) (hS:=(sL [6])) ?_
 refine hJ 3 [6] ?_
 refine dR 6 R (vz (aD (sub (ix g.1 j) m (aH (m+1)))) (hM m (aH (m+1)) fJ R R R ai.1 ai.2.1 ai.2.2)) (hS:=(sL [6])) (d1 1 R (lO (gI 6 qO R R R) (aC (aG (sL [6]) (dR 7 R (vz (aD (ab++(sub (ix g.1 j) m (aH (m+1))))) (nk R R bz)) (hS:=(sL [6])) ?_)))))
 refine oe 8 [6] ?_
 refine d1 9 R (cR 6 R R qP R R R R R (lN (_::_::_::_::_::_::aJ J [(sc (ad a4 o83) g.1 a1),(aD g.2.1),(aD (ab++(sub (ix g.1 j) m (aH (m+1))))),(.slice none 0 0),(.slice none 0 0),(.slice none 0 0),(.slice none 0 0)] 192::Z) ?_))
 refine aC (aG (sL [6]) (dD (eD ?_)))
 exact qI (((ab++(sub (ix g.1 j) m (aH (m+1)))),b6),()) i (fun w s=>(s.f 7 [3,4,0,1]))
 refine aP ?_
 exact qI ((ab,b6),()) i (fun w s=>(s.f 7 [3,4,0,1]))
 rintro ⟨⟨du,cp⟩,_⟩ σ1 i
 dsimp only [Z3_J5] at i
 refine b' ?_
 cases i
 exact qA () tI
 refine aP ?_
 cases i
 obtain rfl:=cm _ R
 have i:=c8
 refine aP ?_
 exact qI ((ab,Y),(((ad ah o86),b.length,ag),((ad a4 o83),g.1.length,a1))) i tI
 rintro ⟨⟨dc,cq⟩,⟨⟨c5,c9,ci⟩,⟨cc,cb,ck⟩⟩⟩ σ1 i
 dsimp only [Z3_J6] at i
 refine bI 0 aA (fun (hn:c9=b.length)=>?_)
 subst hn
 refine bI 2 aA (fun (hn:cb=g.1.length)=>?_)
 subst hn
 refine bG ?_
 cases i
 exact qA ((c5,b.length,ci),(cc,g.1.length,ck)) tI
 refine aP ?_
 cases i
 obtain rfl:=bw _ R
 have i:=bv
 refine aU ?_
 exact qI ((d5,bc),((cs,b.length,ag),(ct,g.1.length,a1))) i tI
 rintro ⟨⟨l,O⟩,⟨⟨aa,cf,a9⟩,⟨E,c2,q⟩⟩⟩ σ1 i
 dsimp only [Z3_J7] at i
 refine bI 0 aA (fun (hn:cf=b.length)=>?_)
 subst hn
 refine bI 2 aA (fun (hn:c2=g.1.length)=>?_)
 subst hn
 refine bS ?_
 refine bB (A:=((List Int))×(HH)) (fun a=>Z3_J8 b g l a.1=some r) (fun a=>[(1,(sc aa b a9)),(4,(pt b4 0)),(6,(sc E g.1 q)),(7,(aD g.2.1)),(9,(pt J 0))]) (fun a=>RR kT23 aa a9 b::aJ b4 [(.slice none 0 0),(aD ([]:aM)),(aD ([]:aM)),(.slice none 0 0),(.slice none 0 0),(.slice none 0 0),(.slice none 0 0)] 192::RR dM E q g.1::aJ J [(sc E g.1 q),(aD g.2.1),(aD l),(s3 a.2),(.slice none 0 0),(.slice none 0 0),(.slice none 0 0)] 192::ow kT3 3 (s3 a.2) a.1::Z) ?_ ?_
 refine bS ?_
 obtain ⟨e3,cx,ch⟩:=bd i
 refine bC (A:=HH) cx (fun s a=>[(1,(sc aa b a9)),(4,(pt b4 0)),(6,(sc E g.1 q)),(7,(aD g.2.1)),(9,(pt J 0)),(10,(pt T 0)),(15,(iv s.2.1)),(16,(iv s.2.2))]) (fun s a=>RR kT23 aa a9 b::aJ b4 [(.slice none 0 0),(aD ([]:aM)),(aD ([]:aM)),(.slice none 0 0),(.slice none 0 0),(.slice none 0 0),(.slice none 0 0)] 192::RR dM E q g.1::aJ J [(sc E g.1 q),(aD g.2.1),(aD l),(s3 a),(.slice none 0 0),(.slice none 0 0),(.slice none 0 0)] 192::ow kT3 3 (s3 a) s.1::ow kT3 195 (.slice (ad T 0) 26 26) O::Z) (none,0,0) (aS R) (fun w s=>((s.nilo kT3 3).e 6 [1,2,3,4,0,5])) ?_
 rintro ⟨a8,c6,a5⟩ ⟨cj,cn,c3⟩ σ1 dq i co
 dsimp only [Z3_L3] at i
 refine bI 4 aB (fun (hn:cn=a8.length)=>?_)
 subst hn
 refine bS ?_
 refine lO (vz (il l) (dJ fJ R)) ?_
 refine aP ?_
 split at i
 refine bS ?_
 obtain ⟨ba,i⟩:=gd i
 obtain ⟨bq,i⟩:=gd i
 refine bG ?_
 refine lO (vz (.int .u8 (bt l a5)) (cG fJ R R ba.1 ba.2)) (lO (vp (.int .u8 (IntKind.wrap .u8 ((bt l a5) - 97))) R) (lO (vz (.pointer (some ⟨T,0+(IntKind.wrap .u8 ((bt l a5) - 97)).toNat*1,none⟩)) (rU sr cE R R bq)) ?_))
 refine b' ?_
 obtain ⟨bm,i⟩:=gd i
 refine bG ?_
 refine bK (K:=kT3) (xs:=([(ix O (IntKind.wrap .u8 ((bt l a5) - 97)))]:List Int)) (vs:=[(iv (ix O (IntKind.wrap .u8 ((bt l a5) - 97))))]) 0 R R bL cE gZ R R R R R R ?_ R (fun dl d9=>?_)
 exact fun I h s=>(gJ).list [((),(ix O (IntKind.wrap .u8 ((bt l a5) - 97))))] I h s
 refine lM (ow _ _ _ _::ow _ _ _ _::aO _ _ _::aJ _ _ _::aO _ _ _::aJ _ _ _::ow _ _ _ _::Z) (fun w s=>(s.f 7 [5,1,0,5,6,1])) ?_
 refine eF (K:=kT3) 17592186044416 R R bL cE kv (Zr.zk zT3 gZ) R R R R R R dO bm (fun ax b2=>(lN (OO kT3 3 ax b2 (a8++([(ix O (IntKind.wrap .u8 ((bt l a5) - 97)))]:List Int))::_::_::_::_::_::Z) ?_))
 refine bR ?_
 refine cR 4 R R eZ R R R R R (lN (_::_::_::_::aJ J [(sc E g.1 q),(aD g.2.1),(aD l),(sc ax (a8++([(ix O (IntKind.wrap .u8 ((bt l a5) - 97)))]:List Int)) b2),(.slice none 0 0),(.slice none 0 0),(.slice none 0 0)] 192::_::Z) ?_)
 refine wq ?_
 split at i
 refine aP ?_
 refine lO (vz (.agg [(.slice none 0 0),(aD ([]:aM)),(aD ([]:aM)),(.slice none 0 0),(.slice none 0 0),(.slice none 0 0),(.slice none 0 0)].toArray) (aV n5 kH R R)) (aK 2 R R iJ R R R R R R (lB R (aC (aI (bV (dA (cD ?_)))))))
 cases i
 obtain rfl:=co _ R
 have i:=ch
 refine aP ?_
 cases i
 exact dF (vs:=[(.agg [(.slice none 0 0),(aD ([]:aM)),(aD ([]:aM)),(.slice none 0 0),(.slice none 0 0),(.slice none 0 0),(.slice none 0 0)].toArray),(.bool false)]) (.inl R) ((none,0,0),(none,0,0),(none,0,0),(none,0,0),(none,0,0)) R ⟨⟨2,b4,_,_,R,R,.inl ⟨mw,iJ,R⟩⟩,R,trivial⟩ R (fun w s=>((((((s.nilr dM).nilr kT3).nilo kT3 3).nilo kT23 23).nilo kT3 3).e 13 [4,3,2,1,0]))
 refine cP ?_
 cases i
 exact qA (ax,(a8++([(ix O (IntKind.wrap .u8 ((bt l a5) - 97)))]:List Int)).length,b2) (tE 6 [1,2,3,4,0,5])
 refine aP ?_
 cases i
 obtain rfl:=co _ R
 have i:=ch
 refine aU ?_
 exact qI (a8,(cj,a8.length,c3)) i (fun w s=>(s.f 6 [0,5]))
 rintro ⟨D,⟨M,cg,L⟩⟩ σ1 i
 dsimp only [Z3_J8] at i
 refine bI 4 aB (fun (hn:cg=D.length)=>?_)
 subst hn
 refine bR ?_
 obtain ⟨ak,i⟩:=gd i
 obtain ⟨u,bn,i⟩:=bd i
 refine aP ?_
 refine lO (vp (aD g.2.1) R) (lO (vz (il g.2.1) (dJ fJ R)) (iE (fun w s=>s.shr 4 R) (fY (K:=kT3) (0:Int) (g.2.1.length:Int) 0 R R bL cE R R R R ak.1 ak.2.1 ak.2.2 (fun bg bf=>(lM (RR kT3 bg bf (sub D (0:Int) (g.2.1.length:Int))::RR kT3 bg bf (sub D (0:Int) (g.2.1.length:Int))::RR kT3 M L D::_::_::_::aJ J [(sc E g.1 q),(aD g.2.1),(aD l),(sc M D L),(.slice none 0 0),(.slice none 0 0),(.slice none 0 0)] 192::Z) (fun w s=>(s.d 0 R)) ?_)))))
 refine lC 1 j3 R (Zg_ok bn) R ?_
 rintro ⟨G,db,F⟩
 refine aL 0 aB ?_
 rintro rfl
 refine bR ?_
 refine cR 6 R R eZ R R R R R (lN (_::_::_::_::_::_::aJ J [(sc E g.1 q),(aD g.2.1),(aD l),(sc M D L),(sc G u F),(.slice none 0 0),(.slice none 0 0)] 192::Z) ?_)
 refine bG ?_
 obtain ⟨d8,bs,i⟩:=bd i
 refine aP ?_
 refine lC 1 j2 R (FnOk.lends (A':=[OO kT3 3 G F u]) (A:=[RR kT3 G F u]) (B:=[]) (Zb_ok bs) ⟨aY,trivial⟩ (fun _=>trivial)) R ?_
 rintro _
 refine aP ?_
 split at i
 refine aP ?_
 refine lO (vz (.agg [(.slice none 0 0),(aD ([]:aM)),(aD ([]:aM)),(.slice none 0 0),(.slice none 0 0),(.slice none 0 0),(.slice none 0 0)].toArray) (aV n5 kH R R)) (aK 4 R R iJ R R R R R R (lB R (aC (aI (bV (cD ?_))))))
 cases i
 exact dF (vs:=[(.agg [(.slice none 0 0),(aD ([]:aM)),(aD ([]:aM)),(.slice none 0 0),(.slice none 0 0),(.slice none 0 0),(.slice none 0 0)].toArray),(.bool false)]) (.inl R) ((none,0,0),(none,0,0),(none,0,0),(none,0,0),(none,0,0)) R ⟨⟨4,b4,_,_,R,R,.inl ⟨mw,iJ,R⟩⟩,R,trivial⟩ R (fun w s=>((((((s.nilr dM).nilr kT3).nilo kT3 3).nilo kT23 23).nilo kT3 3).e 14 [4,3,2,1,0]))
 refine bG ?_
 refine bB (A:=((List (List Int)))×(HH)) (fun a=>Z3_J9 g l D u a.1=some r) (fun a=>[(4,(pt b4 0)),(7,(aD g.2.1)),(9,(pt J 0))]) (fun a=>aJ b4 [(.slice none 0 0),(aD ([]:aM)),(aD ([]:aM)),(.slice none 0 0),(.slice none 0 0),(.slice none 0 0),(.slice none 0 0)] 192::aJ J [(sc E g.1 q),(aD g.2.1),(aD l),(sc M D L),(sc G u F),(s3 a.2),(.slice none 0 0)] 192::RR dM E q g.1::RR kT3 M L D::OO kT3 3 G F u::ow kT23 23 (s3 a.2) a.1::Z) ?_ ?_
 refine cV ?_
 obtain ⟨e4,cv,d2⟩:=bd i
 refine bC (A:=HH) cv (fun s a=>[(1,(sc aa b a9)),(4,(pt b4 0)),(7,(aD g.2.1)),(9,(pt J 0)),(150,(sc E g.1 q)),(151,(il g.1)),(152,(iv s.2))]) (fun s a=>RR kT23 aa a9 b::aJ b4 [(.slice none 0 0),(aD ([]:aM)),(aD ([]:aM)),(.slice none 0 0),(.slice none 0 0),(.slice none 0 0),(.slice none 0 0)] 192::aJ J [(sc E g.1 q),(aD g.2.1),(aD l),(sc M D L),(sc G u F),(s3 a),(.slice none 0 0)] 192::RR dM E q g.1::RR kT3 M L D::OO kT3 3 G F u::ow kT23 23 (s3 a) s.1::Z) (none,0,0) (aS R) (fun w s=>((s.nilo kT23 23).e 8 [4,5,7,6,3,1,0])) ?_
 rintro ⟨a0,ae⟩ ⟨av,c7,ar⟩ σ1 dk i cy
 dsimp only [Z3_L4] at i
 refine bI 6 aB (fun (hn:c7=a0.length)=>?_)
 subst hn
 refine bS ?_
 split at i
 refine bS ?_
 obtain ⟨ao,i⟩:=gd i
 refine aU ?_
 refine bD 3 aA (show 0<g.1.length by have:=ao; omega) (fun bb o207 ha=>?_)
 subst ha
 refine bR ?_
 refine lO (vz (aD (ix g.1 ae)) (jG (K:=dM) (fo:=0) (pr:=fun x=>(aD x)) 3 ae qO (dT9.leaf fun _ _=>R) aA R ao.1 ao.2)) (lI R (lO (vp (aD (ix g.1 ae)) R) ?_))
 refine aU ?_
 obtain ⟨an,i⟩:=gd i
 obtain ⟨b9,bu,i⟩:=bd i
 obtain ⟨a6,c1,i⟩:=bd i
 obtain ⟨bk,i⟩:=gd i
 refine aZ 0 aA (show 0<b.length by have:=an; omega) (fun dh o210 ha=>?_)
 subst ha
 refine dB (K:=kT23) 0 ae dT23.dec R an.1 an.2 ?_
 rintro ⟨da,de⟩
 refine dC 11 [] bO fun ht hn=>?_
 refine hJ 0 [] ?_
 refine dR 3 R (vp (aD (ix g.1 ae)) R) ?_
 refine hJ 4 [] ?_
 refine dR 7 R (eA (fo:=0) 0 cH R R R) (d1 8 R (lM (_::_::_::_::_::_::_::_::_::_::Z) (fun w s=>(s.d 1 R)) ?_))
 refine lC 1 su R (Z02_ok bu) R ?_
 rintro ⟨ay,dj,b1⟩
 refine aL 0 aB ?_
 rintro rfl
 refine aC (aG (sL [0]) (d1 9 R (lM (ow _ _ _ _::ow _ _ _ _::ow _ _ _ _::aO _ _ _::aO _ _ _::aO kT3 (.slice none 0 0) ([]:List Int)::cl _ _ _::aO _ _ _::aO _ _ _::aJ _ _ _::aJ _ _ _::aO _ _ _::aO _ _ _::Z) (fun w s=>((((s.d 6 R).d 8 R).nilr kT3).f 13 [11,2,3,1,2,1,1,1,0,1,4,7])) ?_)))
 refine lC 6 vF R (FnOk.lends (A':=[OO kT3 3 G F u,OO kT23 23 av ar a0,OO kT3 3 ay b1 b9]) (A:=[RR kT3 G F u,RR kT23 av ar a0,RR kT3 ay b1 b9]) (B:=[RR dM (ad bb o207) q g.1,RR kT3 M L D,aO kT3 (.slice none 0 0) ([]:List Int)]) (FnOk.perm (Zj_ok (f1:=(⟨g.1,g.2.1,l,D,u,a0,([]:List Int)⟩:form)) c1) (Pre':=[RR kT3 G F u,RR kT23 av ar a0,RR kT3 ay b1 b9,RR dM (ad bb o207) q g.1,RR kT3 M L D,aO kT3 (.slice none 0 0) ([]:List Int)]) (fun _ _ _ s=>(s.e 6 [3,4,0,1,5,2]))) ⟨aY,aY,aY,trivial⟩ (fun _=>⟨(bH j0),trivial⟩)) R ?_
 rintro ⟨be,d6,bh⟩
 refine aL 3 aB ?_
 rintro rfl
 refine aC (aG (fun w s=>(s.f 11 [4,7,0,2])) (d1 10 R (lM (ow _ _ _ _::ow _ _ _ _::ow _ _ _ _::ow _ _ _ _::cl _ _ _::aO _ _ _::aO _ _ _::aJ _ _ _::aJ _ _ _::aO _ _ _::aO _ _ _::Z) (fun w s=>(s.f 11 [3,1,0,3,4,7])) ?_)))
 refine bK (K:=kT23) (xs:=([a6]:List (List Int))) (vs:=[(sc be a6 bh)]) 1 R R ji eZ kj R R R R R R ?_ R (fun d7 dn=>?_)
 exact fun I h s=>(l3).list [((sc be a6 bh),a6)] I h s
 refine aC (aG (fun w s=>(s.f 11 [4,7,1,2])) (d1 11 R (lM (ow _ _ _ _::ow _ _ _ _::ow _ _ _ _::ow _ _ _ _::cl _ _ _::aO _ _ _::aO _ _ _::aJ _ _ _::aJ _ _ _::aO _ _ _::aO _ _ _::Z) (fun w s=>(s.f 11 [2,1,0,2,3,8])) ?_)))
 refine eF (K:=kT23) 5864062014805 R R ji eZ qQ (Zr.zk zT23 kj) R R R R R R dO bk (fun az b8=>(lN (OO kT23 23 az b8 (a0++([a6]:List (List Int)))::_::_::_::_::_::_::_::_::_::Z) ?_))
 refine aC (qE (d1 12 R (lO (fZ 5 pY R) (aC (qE (d1 13 R (cR 7 R R y' R R R R R (lN (_::_::_::_::_::_::_::aJ J [(sc (ad bb o207) g.1 q),(aD g.2.1),(aD l),(sc M D L),(sc G u F),(sc az (a0++([a6]:List (List Int))) b8),(.slice none 0 0)] 192::_::_::Z) ?_))))))))
 refine aC (qE (dD ?_))
 refine bS ?_
 cases i
 exact qA (az,(a0++([a6]:List (List Int))).length,b8) (fun w s=>(s.f 10 [5,5,1,1,0,1]))
 refine aP ?_
 cases i
 obtain rfl:=cy _ R
 have i:=d2
 refine aU ?_
 exact qI (a0,(av,a0.length,ar)) i (fun w s=>(s.f 7 [1,6]))
 rintro ⟨f224,⟨a3,c4,a2⟩⟩ σ1 i
 dsimp only [Z3_J9] at i
 refine bI 5 aB (fun (hn:c4=f224.length)=>?_)
 subst hn
 refine bR ?_
 obtain ⟨b5,bp,i⟩:=bd i
 obtain ⟨au,bl,i⟩:=bd i
 refine dC 7 [] bO fun ht hn=>?_
 refine oe 0 [] ?_
 refine dR 1 R (vp (aD g.2.1) R) ?_
 refine gO 2 [] ?_
 refine d1 4 R (lM (ow _ _ _ _::aJ _ _ _::aJ J [(sc E g.1 q),(aD g.2.1),(aD l),(sc M D L),(sc G u F),(sc a3 f224 a2),(.slice none 0 0)] 192::RR dM E q g.1::aO _ _ _::OO kT23 23 a3 a2 f224::Z) (tE 6 [4,0,1,2,3,5]) ?_)
 refine lC 1 su R (FnOk.lends (A':=[OO kT3 3 G F u]) (A:=[RR kT3 G F u]) (B:=[]) (Z02_ok bp) ⟨aY,trivial⟩ (fun _=>⟨(bH j0),trivial⟩)) R ?_
 rintro ⟨b7,ds,b0⟩
 refine aL 1 aB ?_
 rintro rfl
 refine aC (aG (tE 7 [2,3,4,5,0,6]) (d1 5 R (lM (ow _ _ _ _::ow _ _ _ _::ow _ _ _ _::aO _ _ _::aO _ _ _::aO kT3 (.slice none 0 0) ([]:List Int)::aJ _ _ _::aJ _ _ _::aO _ _ _::aO _ _ _::Z) (fun w s=>((((s.d 4 R).d 6 R).nilr kT3).e 10 [3,9,4,2,1,0,5,6,7,8])) ?_)))
 refine lC 6 vF R (FnOk.lends (A':=[OO kT3 3 G F u,OO kT23 23 a3 a2 f224,OO kT3 3 b7 b0 b5]) (A:=[RR kT3 G F u,RR kT23 a3 a2 f224,RR kT3 b7 b0 b5]) (B:=[RR dM E q g.1,RR kT3 M L D,aO kT3 (.slice none 0 0) ([]:List Int)]) (FnOk.perm (Zj_ok (f1:=(⟨g.1,g.2.1,l,D,u,f224,([]:List Int)⟩:form)) bl) (Pre':=[RR kT3 G F u,RR kT23 a3 a2 f224,RR kT3 b7 b0 b5,RR dM E q g.1,RR kT3 M L D,aO kT3 (.slice none 0 0) ([]:List Int)]) (fun _ _ _ s=>(s.e 6 [3,4,0,1,5,2]))) ⟨aY,aY,aY,trivial⟩ (fun _=>⟨(bH j0),trivial⟩)) R ?_
 rintro ⟨aw,dr,aq⟩
 refine aL 3 aB ?_
 rintro rfl
 refine aC (aG (fun w s=>(s.f 8 [4,4,0,2])) (dR 6 R (fZ 6 pZ R) (hS:=(fun w s=>(s.f 8 [4,4,0,2]))) (d1 7 R (cR 5 R R eZ R R R R R (lN (_::_::_::_::_::aJ J [(sc E g.1 q),(aD g.2.1),(aD l),(sc M D L),(sc G u F),(sc a3 f224 a2),(sc aw au aq)] 192::_::_::Z) ?_)))))
 refine aC (qE (dD ?_))
 refine bG ?_
 refine aK 4 R R iJ R R R R R R (lN (_::_::_::_::aJ b4 [(sc E g.1 q),(aD g.2.1),(aD l),(sc M D L),(sc G u F),(sc a3 f224 a2),(sc aw au aq)] 192::_::_::_::Z) ?_)
 refine bG ?_
 cases i
 exact dF (vs:=[(.agg [(sc E g.1 q),(aD g.2.1),(aD l),(sc M D L),(sc G u F),(sc a3 f224 a2),(sc aw au aq)].toArray),(.bool true)]) (.inl R) ((E,g.1.length,q),(M,D.length,L),(G,u.length,F),(a3,f224.length,a2),(aw,au.length,aq)) R ⟨⟨4,b4,_,_,R,R,.inl ⟨mw,iJ,R⟩⟩,R,trivial⟩ R (tE 10 [6,7,0,1,3])
theorem Z2t_ok  {k1:formKind}{a:Node}{g:(List (List Int))}{mG:Int}{r:(List Int)×Bool}(m:Z2t k1 a g=some r) :
 FnOk Tryz.prog 204 [(.agg [].toArray),(.agg [(iv a.Op),(.slice A3 N3 D3),(.slice A4 N4 D4),(.slice A5 N5 D5),(aD a.Form),(.slice A6 N6 D6)].toArray),(.slice A8 N8 D8)] [aO kT3 (.slice A3 N3 D3) a.Args,aO kT3 (.slice A4 N4 D4) a.Dims,aO kT3 (.slice A5 N5 D5) a.Ints,aO kT3 (.slice A6 N6 D6) a.Data,aO kT23 (.slice A8 N8 D8) g,gl 0 mG] (fun (h:HH)=>((.tuple [(s3 h),(.bool r.2)].toArray),[ow kT3 3 (s3 h) r.1])):=by
 unfold Z2t at m
 refine aQ Tryz.func204 R 20 R R fun C V=>?_
 refine cL 0 aA ?_
 rintro rfl
 refine cL 1 aA ?_
 rintro rfl
 refine cL 2 aA ?_
 rintro rfl
 refine cL 3 aA ?_
 rintro rfl
 refine cL 4 aA ?_
 rintro rfl
 let J:=RR kT3 A3 D3 a.Args::RR kT3 A4 D4 a.Dims::RR kT3 A5 D5 a.Ints::RR kT3 A6 D6 a.Data::RR kT23 A8 D8 g::gl 0 mG::V
 refine cN J ?_
 refine aU ?_
 refine eG R fun M=>?_
 refine eG R fun G=>?_
 refine aP ?_
 let L:=aJ G [(iv a.Op),(sc A3 a.Args D3),(sc A4 a.Dims D4),(sc A5 a.Ints D5),(aD a.Form),(sc A6 a.Data D6)] 54::aJ M [] 142::J
 refine qN L ?_
 refine aU ?_
 obtain ⟨b,i,m⟩:=bd m
 refine bG ?_
 refine lM _ (fun w s=>(((s.d 6 R).dg 8 R).e 2 [1,0])) ?_
 refine lC 2 z6 R (Z3_ok i) R ?_
 rintro ⟨⟨I,T,q⟩,⟨A14,N14,D14⟩,⟨l,U,j⟩,⟨B,Y,E⟩,⟨u,O,F⟩⟩
 refine aL 0 aA ?_
 rintro rfl
 refine aL 1 aA ?_
 rintro rfl
 refine aL 2 aB ?_
 rintro rfl
 refine aL 3 aB ?_
 rintro rfl
 refine aL 4 aB ?_
 rintro rfl
 refine lO (vT R) (lO (vA R) (lB R (bE R R kH (fun D=>(aK 0 R R iJ R R R R R R (lN (aJ D [(sc I b.1.groups q),(aD b.1.out_),(aD b.1.order),(sc A14 b.1.loops D14),(sc l b.1.dims j),(sc B b.1.steps E),(sc u b.1.store F)] 192::_::_::_::_::_::L) ?_))))))
 refine mq ?_
 cases m
 exact jC (l,b.1.dims.length,j) (tE 14 [3])
theorem Z2n_ok  {a:(List Int)}{r:View}(b:Z2n a=some r) :
 FnOk Tryz.prog 158 [(.slice A2 N2 D2)] [aO kT3 (.slice A2 N2 D2) a] (fun (h:HH×HH)=>((.agg [(s3 h.1),(s3 h.2),(iv r.Offset),(iv r.Base)].toArray),[ow kT3 3 (s3 h.1) r.Dims,ow kT3 3 (s3 h.2) r.Strides])):=by
 unfold Z2n at b
 refine aQ Tryz.func158 R 14 R R fun C V=>?_
 refine cL 0 aA ?_
 rintro rfl
 let B:=RR kT3 A2 D2 a::V
 refine cN B ?_
 refine aU ?_
 refine bE R R cW (fun D=>(aC (aI (aN (aN ?_)))))
 obtain ⟨E,m,b⟩:=bd b
 refine aU ?_
 refine lM _ (fun w s=>(s.d 1 R)) ?_
 refine lC 1 j2 R (Zb_ok m) R ?_
 rintro _
 refine aP ?_
 split at b
 refine aP ?_
 refine lO (vz (.agg [(.slice none 0 0),(.slice none 0 0),(iv 0),(iv 0)].toArray) (aV fD cW R R)) (aK 0 R R cF R R R R R R (aC (aI (bV (cD ?_)))))
 cases b
 exact qS ((none,0,0),(none,0,0)) (fun w s=>(((s.nilo kT3 3).nilo kT3 3).e 4 [1,0]))
 refine bG ?_
 obtain ⟨u,q,b⟩:=bd b
 obtain ⟨g,i,b⟩:=bd b
 obtain ⟨j,l,b⟩:=bd b
 refine aU ?_
 refine lM _ (fun w s=>(s.d 1 R)) ?_
 refine lC 1 j3 R (Zg_ok q) R ?_
 rintro ⟨A9,N9,D9⟩
 refine aL 0 aB ?_
 rintro rfl
 refine lS R (lM _ (fun w s=>(s.d 2 R)) ?_)
 refine lC 1 su R (Z02_ok i) R ?_
 rintro ⟨A12,N12,D12⟩
 refine aL 0 aB ?_
 rintro rfl
 refine lS R (lM _ (fun w s=>(s.d 3 R)) ?_)
 refine lC 1 jw R (Zl_ok l) R ?_
 rintro _
 refine lO (vz (.agg [(sc A9 u D9),(sc A12 g D12),(iv 0),(iv j)].toArray) (aV fD cW R R)) (aK 2 R R cF R R R R R R (lN (_::_::aJ D [(sc A9 u D9),(sc A12 g D12),(iv 0),(iv j)] 96::B) ?_))
 refine aP ?_
 cases b
 exact qS ((A9,u.length,D9),(A12,g.length,D12)) (tE 4 [1,0])
theorem Zf_ok  {v1:View}{r:Bool}(e:Zf v1=some r) :
 FnOk Tryz.prog 156 [(.agg [(.slice A2 N2 D2),(.slice A3 N3 D3),(iv v1.Offset),(iv v1.Base)].toArray)] [aO kT3 (.slice A2 N2 D2) v1.Dims,aO kT3 (.slice A3 N3 D3) v1.Strides] (fun (h:Unit)=>((.bool r),[])):=by
 unfold Zf at e
 refine aQ Tryz.func156 R 91 R R fun C V=>?_
 refine cL 0 aA ?_
 rintro rfl
 refine cL 1 aA ?_
 rintro rfl
 let W0:=RR kT3 A2 D2 v1.Dims::RR kT3 A3 D3 v1.Strides::V
 refine cN W0 ?_
 refine aU ?_
 refine eG R fun O=>?_
 refine aU ?_
 let m:=aJ O [(sc A2 v1.Dims D2),(sc A3 v1.Strides D3),(iv v1.Offset),(iv v1.Base)] 96::W0
 refine qN m ?_
 refine aP ?_
 obtain ⟨u,a0,e⟩:=bd e
 refine cQ [(1,(pt O 0)),(41,(.bool ((((((!u)||((v1.Strides.length:Int) != (v1.Dims.length:Int)))||(decide (v1.Base<1)))||(decide (v1.Base>4096)))||(decide (v1.Offset<0)))||(decide (v1.Offset≥v1.Base)))))] (m) ?_ ?_
 refine aP ?_
 refine lM _ (fun w s=>(s.d 1 R)) ?_
 refine lC 1 j2 R (Zb_ok a0) R ?_
 rintro _
 refine lN m ?_
 refine aU ?_
 rcases bo (!u) with T | T
 refine wr ?_
 exact qj tI
 refine cP ?_
 rcases bo ((!u)||((v1.Strides.length:Int) != (v1.Dims.length:Int))) with Y | Y
 refine ye ?_
 exact qj tI
 refine b' ?_
 rcases bo (((!u)||((v1.Strides.length:Int) != (v1.Dims.length:Int)))||(decide (v1.Base<1))) with a2 | a2
 refine qG ?_
 exact qj tI
 refine b' ?_
 rcases bo ((((!u)||((v1.Strides.length:Int) != (v1.Dims.length:Int)))||(decide (v1.Base<1)))||(decide (v1.Base>4096))) with G | G
 refine iG ?_
 exact qj tI
 refine b' ?_
 rcases bo (((((!u)||((v1.Strides.length:Int) != (v1.Dims.length:Int)))||(decide (v1.Base<1)))||(decide (v1.Base>4096)))||(decide (v1.Offset<0))) with F | F
 refine dH ?_
 exact qj tI
 refine dH ?_
 exact qj tI
 rintro σ1
 refine bR ?_
 split at e
 refine cV ?_
 cases e
 exact qF () (tE 3 [])
 refine bG ?_
 refine dC 6 [] bO fun ht hn=>?_
 refine r' 0 [] ?_
 refine dD (aI (aN (bB (A:=(Int×Int)×(Unit)) (fun a=>Zf_J1 v1 a.1.1 a.1.2=some r) (fun a=>[(1,(pt O 0)),(3,(iv a.1.1)),(4,(iv a.1.2))]) (fun a=>m) ?_ ?_)))
 refine cP ?_
 obtain ⟨e1,U,D⟩:=bd e
 refine bC (A:=HH) U (fun s a=>[(1,(pt O 0)),(3,(iv s.1)),(4,(iv s.2.1)),(47,(s3 a)),(48,(il v1.Strides)),(49,(iv s.2.2))]) (fun s a=>aO kT3 (s3 a) v1.Strides::m) (A3,v1.Strides.length,D3) (aS R) (fun w s=>(s.d 2 R)) ?_
 rintro ⟨j,i,b⟩ ⟨a5,a1,l⟩ σ1 a3 e I
 dsimp only [Zf_L1] at e
 refine bI 0 aA (fun (hn:a1=v1.Strides.length)=>?_)
 subst hn
 refine bS ?_
 split at e
 refine bS ?_
 obtain ⟨E,e⟩:=gd e
 refine aU ?_
 refine bD 0 aA (show 0<v1.Strides.length by have:=E; omega) (fun q o29 Z=>?_)
 subst Z
 refine cV ?_
 refine cQ [(1,(pt O 0)),(3,(iv j)),(4,(iv i)),(5,(iv b)),(6,(iv (ix v1.Strides b))),(47,(sc (ad q o29) v1.Strides l)),(48,(il v1.Strides)),(49,(iv b)),(59,(.bool ((decide ((ix v1.Strides b)<(-4096:Int)))||(decide ((ix v1.Strides b)>4096)))))] (RR kT3 (ad q o29) l v1.Strides::m) ?_ ?_
 refine bG ?_
 rcases bo (decide ((ix v1.Strides b)<(-4096:Int))) with L | L
 refine bG ?_
 exact qj tI
 refine bG ?_
 exact qj tI
 rintro σ1
 refine bR ?_
 split at e
 refine cT ?_
 cases e
 obtain rfl:=I _ R
 have e:=D
 refine aP ?_
 cases e
 exact qF () (tE 4 [])
 refine bG ?_
 obtain ⟨B,e⟩:=gd e
 refine bS ?_
 refine bD 2 aA (show 0<v1.Dims.length by have:=B; omega) (fun a4 o34 Z=>?_)
 subst Z
 refine bG ?_
 refine lO (vz (iv (if (aH ((ix v1.Strides b)*(aH ((ix v1.Dims b) - 1))))<0 then (aH ((ix v1.Strides b)*(aH ((ix v1.Dims b) - 1)))) else (0:Int))) (vg R R)) ?_
 refine od ?_
 refine lO (vz (iv (if (aH ((ix v1.Strides b)*(aH ((ix v1.Dims b) - 1))))>0 then (aH ((ix v1.Strides b)*(aH ((ix v1.Dims b) - 1)))) else (0:Int))) (xW R R)) ?_
 refine cP ?_
 cases e
 exact qA ((ad q o29),v1.Strides.length,l) tI
 refine aP ?_
 cases e
 obtain rfl:=I _ R
 have e:=D
 refine aU ?_
 exact qI ((j,i),()) e (tE 1 [])
 rintro ⟨⟨g,M⟩,_⟩ σ1 e
 dsimp only [Zf_J1] at e
 refine aN (cQ [(2,(.bool ((decide (g≥0))&&(decide (M<v1.Base)))))] (m) ?_ ?_)
 refine bG ?_
 rcases bo (decide (g≥0)) with J | J
 refine dH ?_
 exact qj tI
 refine dH ?_
 exact qj tI
 rintro σ1
 refine aU ?_
 cases e
 exact qF () (tE 3 [])
end Go.Proofs.YtmpnollfdpdipaaGreat
