import Derived.Test.YtmpnollfdpdipaaGreatGkF
import Derived.Test.YtmpnollfdpdipaaGreatGkW1
set_option linter.unusedVariables false
set_option maxRecDepth 20000
namespace Go.Proofs.YtmpnollfdpdipaaGreat
open Go Go.Pg
variable {A2 A3 A4 A5 A6 A8 A9:Option Addr}{D2 D3 D4 D5 D6 D8 D9 N2 N3 N4 N5 N6 N8 N9:Nat}
theorem Z39_ok  {a:Int}{b:Int}{r:Int×Int}(j:Z39 a b=some r) :
 FnOk Tryz.prog 126 [(iv a),(iv b),(.func (.func 127) [].toArray [].toArray)] [] (fun (h:Nat×Nat×Nat)=>((.func (.func 149) [].toArray [(pt h.1 0),(pt h.2.1 0),(pt h.2.2 0)].toArray),[aJ h.1 [(iv r.1)] 3,aJ h.2.1 [(iv r.2)] 3,aJ h.2.2 [(.func (.func 127) [].toArray [].toArray)] 150])):=by
 unfold Z39 at j
 refine aQ Tryz.func126 R 8 R R fun C V=>?_
 refine cN V ?_
 refine aV ?_
 refine eZ (cs:=[(iv a)]) R R R (fun i=>(eZ (cs:=[(iv b)]) R R R (fun g=>(eZ (cs:=[(.func (.func 127) [].toArray [].toArray)]) R R R (fun e=>(lO (vp _ R) (aC ?_)))))))
 let l:=aJ e [(.func (.func 127) [].toArray [].toArray)] 150::aJ g [(iv b)] 3::aJ i [(iv a)] 3::V
 refine qN l ?_
 refine aP ?_
 refine lO (vp (.func (.func 149) [].toArray [(pt i 0),(pt g 0),(pt e 0)].toArray) R) (lO (vp _ R) ?_)
 refine aP ?_
 cases j
 exact qF (i,g,e) (tE 3 [2,1,0])
theorem Z3a_ok  {a:Int}{b:Int}{r:Int×Int}(j:Z3a a b=some r) :
 FnOk Tryz.prog 126 [(iv a),(iv b),(.func (.func 129) [].toArray [].toArray)] [] (fun (h:Nat×Nat×Nat)=>((.func (.func 149) [].toArray [(pt h.1 0),(pt h.2.1 0),(pt h.2.2 0)].toArray),[aJ h.1 [(iv r.1)] 3,aJ h.2.1 [(iv r.2)] 3,aJ h.2.2 [(.func (.func 129) [].toArray [].toArray)] 150])):=by
 unfold Z3a at j
 refine aQ Tryz.func126 R 8 R R fun C V=>?_
 refine cN V ?_
 refine aV ?_
 refine eZ (cs:=[(iv a)]) R R R (fun i=>(eZ (cs:=[(iv b)]) R R R (fun g=>(eZ (cs:=[(.func (.func 129) [].toArray [].toArray)]) R R R (fun e=>(lO (vp _ R) (aC ?_)))))))
 let l:=aJ e [(.func (.func 129) [].toArray [].toArray)] 150::aJ g [(iv b)] 3::aJ i [(iv a)] 3::V
 refine qN l ?_
 refine aP ?_
 refine lO (vp (.func (.func 149) [].toArray [(pt i 0),(pt g 0),(pt e 0)].toArray) R) (lO (vp _ R) ?_)
 refine aP ?_
 cases j
 exact qF (i,g,e) (tE 3 [2,1,0])
theorem Z3b_ok  {a:Int}{b:Int}{r:Int×Int}(j:Z3b a b=some r) :
 FnOk Tryz.prog 126 [(iv a),(iv b),(.func (.func 131) [].toArray [].toArray)] [] (fun (h:Nat×Nat×Nat)=>((.func (.func 149) [].toArray [(pt h.1 0),(pt h.2.1 0),(pt h.2.2 0)].toArray),[aJ h.1 [(iv r.1)] 3,aJ h.2.1 [(iv r.2)] 3,aJ h.2.2 [(.func (.func 131) [].toArray [].toArray)] 150])):=by
 unfold Z3b at j
 refine aQ Tryz.func126 R 8 R R fun C V=>?_
 refine cN V ?_
 refine aV ?_
 refine eZ (cs:=[(iv a)]) R R R (fun i=>(eZ (cs:=[(iv b)]) R R R (fun g=>(eZ (cs:=[(.func (.func 131) [].toArray [].toArray)]) R R R (fun e=>(lO (vp _ R) (aC ?_)))))))
 let l:=aJ e [(.func (.func 131) [].toArray [].toArray)] 150::aJ g [(iv b)] 3::aJ i [(iv a)] 3::V
 refine qN l ?_
 refine aP ?_
 refine lO (vp (.func (.func 149) [].toArray [(pt i 0),(pt g 0),(pt e 0)].toArray) R) (lO (vp _ R) ?_)
 refine aP ?_
 cases j
 exact qF (i,g,e) (tE 3 [2,1,0])
theorem Z3c_ok  {a:Int}{b:Int}{r:Int×Int}(j:Z3c a b=some r) :
 FnOk Tryz.prog 126 [(iv a),(iv b),(.func (.func 133) [].toArray [].toArray)] [] (fun (h:Nat×Nat×Nat)=>((.func (.func 149) [].toArray [(pt h.1 0),(pt h.2.1 0),(pt h.2.2 0)].toArray),[aJ h.1 [(iv r.1)] 3,aJ h.2.1 [(iv r.2)] 3,aJ h.2.2 [(.func (.func 133) [].toArray [].toArray)] 150])):=by
 unfold Z3c at j
 refine aQ Tryz.func126 R 8 R R fun C V=>?_
 refine cN V ?_
 refine aV ?_
 refine eZ (cs:=[(iv a)]) R R R (fun i=>(eZ (cs:=[(iv b)]) R R R (fun g=>(eZ (cs:=[(.func (.func 133) [].toArray [].toArray)]) R R R (fun e=>(lO (vp _ R) (aC ?_)))))))
 let l:=aJ e [(.func (.func 133) [].toArray [].toArray)] 150::aJ g [(iv b)] 3::aJ i [(iv a)] 3::V
 refine qN l ?_
 refine aP ?_
 refine lO (vp (.func (.func 149) [].toArray [(pt i 0),(pt g 0),(pt e 0)].toArray) R) (lO (vp _ R) ?_)
 refine aP ?_
 cases j
 exact qF (i,g,e) (tE 3 [2,1,0])
theorem Zy_ok  {e:Int}{r:kindOfR}(b:Zy e=some r) :
 FnOk Tryz.prog 96 [(iv e)] [] (fun (h:Nat×Nat×Nat)=>((cW r (h.1,h.2.1,h.2.2)),[eS r (h.1,h.2.1,h.2.2)])):=by
 unfold Zy at b
 refine aQ Tryz.func96 R 72 R R fun C V=>?_
 refine cN V ?_
 refine aV ?_
 refine lO (vp _ R) ?_
 refine oy ?_
 split at b
 refine aP ?_
 refine lO (vz (.agg [(.bool false)].toArray) (aW vQ vR R R)) (lO (vz (.iface 136 (.agg [(.bool false)].toArray)) (j6 vU R)) (lO (vp _ R) ?_))
 refine cA ?_
 cases b
 exact qF (0,0,0) (fun w s=>St.pack (A:=[]) s)
 refine dN ?_
 split at b
 refine aP ?_
 refine lO (vz (.agg [(.bool true)].toArray) (aW vQ vR R R)) (lO (vz (.iface 136 (.agg [(.bool true)].toArray)) (j6 vU R)) (lO (vp _ R) ?_))
 refine cA ?_
 cases b
 exact qF (0,0,0) (fun w s=>St.pack (A:=[]) s)
 refine aV ?_
 refine bB (A:=(Bool)×(Unit)) (fun a=>Zy_J1 e a.1=some r) (fun a=>[(0,(iv e)),(3,(iv e)),(12,(.bool a.1))]) (fun a=>V) ?_ ?_
 refine bV ?_
 split at b
 refine aV ?_
 exact qI ((e==3),()) b tI
 refine dN ?_
 split at b
 refine aV ?_
 exact qI ((e==4),()) b tI
 refine cA ?_
 exact qI ((e==5),()) b tI
 rintro ⟨x6,_⟩ σ1 b
 dsimp only [Zy_J1] at b
 split at b
 refine bV ?_
 refine lO (vz (.agg [(iv (aH ((aH (e - 3))+1)))].toArray) (aW yR yS R R)) (lO (vz (.iface 138 (.agg [(iv (aH ((aH (e - 3))+1)))].toArray)) (j6 yT R)) (lO (vp _ R) ?_))
 refine cA ?_
 cases b
 exact qF (0,0,0) (fun w s=>St.pack (A:=[]) s)
 refine aV ?_
 refine bB (A:=(Bool)×(Unit)) (fun a=>Zy_J2 e a.1=some r) (fun a=>[(0,(iv e)),(3,(iv e)),(21,(.bool a.1))]) (fun a=>V) ?_ ?_
 refine bV ?_
 split at b
 refine aV ?_
 exact qI ((e==6),()) b tI
 refine dN ?_
 split at b
 refine aV ?_
 exact qI ((e==7),()) b tI
 refine dN ?_
 split at b
 refine aV ?_
 exact qI ((e==8),()) b tI
 refine cA ?_
 exact qI ((e==9),()) b tI
 rintro ⟨a0,_⟩ σ1 b
 dsimp only [Zy_J2] at b
 split at b
 refine bV ?_
 refine lO (vz (.agg [(iv (aH ((aH (e - 6))+1)))].toArray) (aW yU yV R R)) (lO (vz (.iface 139 (.agg [(iv (aH ((aH (e - 6))+1)))].toArray)) (j6 yW R)) (lO (vp _ R) ?_))
 refine cA ?_
 cases b
 exact qF (0,0,0) (fun w s=>St.pack (A:=[]) s)
 refine dN ?_
 split at b
 refine aP ?_
 refine lO (vz (.agg [].toArray) (aW yX yY R R)) (lO (vz (.iface 141 (.agg [].toArray)) (j6 yZ R)) (lO (vp _ R) ?_))
 refine cA ?_
 cases b
 exact qF (0,0,0) (fun w s=>St.pack (A:=[]) s)
 refine dN ?_
 split at b
 refine aP ?_
 refine lO (vz (.agg [].toArray) (aW y' z6 R R)) (lO (vz (.iface 142 (.agg [].toArray)) (j6 z7 R)) (lO (vp _ R) ?_))
 refine cA ?_
 cases b
 exact qF (0,0,0) (fun w s=>St.pack (A:=[]) s)
 refine dN ?_
 split at b
 refine aP ?_
 refine lO (vz (.agg [(aD gU),(.func (.func 124) [].toArray [].toArray)].toArray) (aW my mz R R)) (lO (vz (.iface 145 (.agg [(aD gU),(.func (.func 124) [].toArray [].toArray)].toArray)) (j6 mA R)) (lO (vp _ R) ?_))
 refine cA ?_
 cases b
 exact qF (0,0,0) (fun w s=>St.pack (A:=[]) s)
 refine dN ?_
 split at b
 refine aP ?_
 refine lO (vz (.agg [(aD gU),(.func (.func 125) [].toArray [].toArray)].toArray) (aW my mz R R)) (lO (vz (.iface 145 (.agg [(aD gU),(.func (.func 125) [].toArray [].toArray)].toArray)) (j6 mA R)) (lO (vp _ R) ?_))
 refine cA ?_
 cases b
 exact qF (0,0,0) (fun w s=>St.pack (A:=[]) s)
 refine aV ?_
 refine bB (A:=(Bool)×(Unit)) (fun a=>Zy_J3 e a.1=some r) (fun a=>[(3,(iv e)),(47,(.bool a.1))]) (fun a=>V) ?_ ?_
 refine bV ?_
 split at b
 refine aV ?_
 exact qI ((e==14),()) b tI
 refine cA ?_
 exact qI ((e==18),()) b tI
 rintro ⟨Z,_⟩ σ1 b
 dsimp only [Zy_J3] at b
 split at b
 refine aP ?_
 refine lO (vz (.agg [(aD eQ),(.func (.func 124) [].toArray [].toArray)].toArray) (aW my mz R R)) (lO (vz (.iface 145 (.agg [(aD eQ),(.func (.func 124) [].toArray [].toArray)].toArray)) (j6 mA R)) (lO (vp _ R) ?_))
 refine cA ?_
 cases b
 exact qF (0,0,0) (fun w s=>St.pack (A:=[]) s)
 refine dN ?_
 split at b
 refine aV ?_
 obtain ⟨Y,M,b⟩:=bd b
 refine aE (lC 0 qm R (Z39_ok M) R ?_)
 rintro ⟨m,G,F⟩
 refine lO (vz (.agg [(aD eQ),(.func (.func 149) [].toArray [(pt m 0),(pt G 0),(pt F 0)].toArray)].toArray) (aW my mz R R)) (lO (vz (.iface 145 (.agg [(aD eQ),(.func (.func 149) [].toArray [(pt m 0),(pt G 0),(pt F 0)].toArray)].toArray)) (j6 mA R)) (lO (vp _ R) ?_))
 refine cA ?_
 cases b
 exact qF (m,G,F) (fun w s=>St.pack (A:=[aJ m [(iv Y.1)] 3,aJ G [(iv Y.2)] 3,aJ F [(.func (.func 127) [].toArray [].toArray)] 150]) s)
 refine dN ?_
 split at b
 refine aV ?_
 obtain ⟨L,U,b⟩:=bd b
 refine aE (lC 0 qm R (Z3a_ok U) R ?_)
 rintro ⟨j,g,E⟩
 refine lO (vz (.agg [(aD eQ),(.func (.func 149) [].toArray [(pt j 0),(pt g 0),(pt E 0)].toArray)].toArray) (aW my mz R R)) (lO (vz (.iface 145 (.agg [(aD eQ),(.func (.func 149) [].toArray [(pt j 0),(pt g 0),(pt E 0)].toArray)].toArray)) (j6 mA R)) (lO (vp _ R) ?_))
 refine cA ?_
 cases b
 exact qF (j,g,E) (fun w s=>St.pack (A:=[aJ j [(iv L.1)] 3,aJ g [(iv L.2)] 3,aJ E [(.func (.func 129) [].toArray [].toArray)] 150]) s)
 refine dN ?_
 split at b
 refine aV ?_
 obtain ⟨J,T,b⟩:=bd b
 refine aE (lC 0 qm R (Z3b_ok T) R ?_)
 rintro ⟨u,l,B⟩
 refine lO (vz (.agg [(aD eQ),(.func (.func 149) [].toArray [(pt u 0),(pt l 0),(pt B 0)].toArray)].toArray) (aW my mz R R)) (lO (vz (.iface 145 (.agg [(aD eQ),(.func (.func 149) [].toArray [(pt u 0),(pt l 0),(pt B 0)].toArray)].toArray)) (j6 mA R)) (lO (vp _ R) ?_))
 refine cA ?_
 cases b
 exact qF (u,l,B) (fun w s=>St.pack (A:=[aJ u [(iv J.1)] 3,aJ l [(iv J.2)] 3,aJ B [(.func (.func 131) [].toArray [].toArray)] 150]) s)
 refine dN ?_
 split at b
 refine aV ?_
 obtain ⟨I,O,b⟩:=bd b
 refine aE (lC 0 qm R (Z3c_ok O) R ?_)
 rintro ⟨i,q,D⟩
 refine lO (vz (.agg [(aD eQ),(.func (.func 149) [].toArray [(pt i 0),(pt q 0),(pt D 0)].toArray)].toArray) (aW my mz R R)) (lO (vz (.iface 145 (.agg [(aD eQ),(.func (.func 149) [].toArray [(pt i 0),(pt q 0),(pt D 0)].toArray)].toArray)) (j6 mA R)) (lO (vp _ R) ?_))
 refine cA ?_
 cases b
 exact qF (i,q,D) (fun w s=>St.pack (A:=[aJ i [(iv I.1)] 3,aJ q [(iv I.2)] 3,aJ D [(.func (.func 133) [].toArray [].toArray)] 150]) s)
 refine bV ?_
 refine lO (vp _ R) ?_
 refine aP ?_
 cases b
 exact qF (0,0,0) (fun w s=>St.pack (A:=[]) s)
theorem Z3e_ok  {k1:leafKind}{r:aN}(a:Z3e k1=some r) :
 FnOk Tryz.prog 193 [(.agg [(.bool k1.data)].toArray)] [] (fun (h:Unit)=>((aD r),[])):=by
 unfold Z3e at a
 refine aQ Tryz.func193 R 5 R R fun C V=>?_
 refine cN V ?_
 refine aV ?_
 refine eB R fun b=>?_
 refine lO (vp (aD ([]:aN)) R) (aC ?_)
 let e:=aJ b [(.bool k1.data)] 136::V
 refine qN e ?_
 refine cZ ?_
 split at a
 refine aP ?_
 refine lO (vp (aD oB) R) ?_
 refine bG ?_
 cases a
 exact qF () (tE 1 [])
 refine cA ?_
 refine lO (vp (aD gU) R) ?_
 refine aP ?_
 cases a
 exact qF () (tE 1 [])
theorem Z3f_ok  {k1:pairKind}{r:aN}(a:Z3f k1=some r) :
 FnOk Tryz.prog 198 [(.agg [(iv k1.op)].toArray)] [] (fun (h:Unit)=>((aD r),[])):=by
 unfold Z3f at a
 refine aQ Tryz.func198 R 3 R R fun C V=>?_
 refine cN V ?_
 refine aV ?_
 refine eB R fun b=>?_
 refine lO (vp (aD ([]:aN)) R) (aC ?_)
 let e:=aJ b [(iv k1.op)] 138::V
 refine qN e ?_
 refine aP ?_
 refine lO (vp (aD ([]:aN)) R) ?_
 refine aP ?_
 cases a
 exact qF () (tE 1 [])
theorem Z3m_ok  {k1:soloKind}{r:aN}(a:Z3m k1=some r) :
 FnOk Tryz.prog 201 [(.agg [(iv k1.op)].toArray)] [] (fun (h:Unit)=>((aD r),[])):=by
 unfold Z3m at a
 refine aQ Tryz.func201 R 3 R R fun C V=>?_
 refine cN V ?_
 refine aV ?_
 refine eB R fun b=>?_
 refine lO (vp (aD ([]:aN)) R) (aC ?_)
 let e:=aJ b [(iv k1.op)] 139::V
 refine qN e ?_
 refine aP ?_
 refine lO (vp (aD ([]:aN)) R) ?_
 refine aP ?_
 cases a
 exact qF () (tE 1 [])
theorem Z3n_ok  {k1:topKind}{r:aN}(a:Z3n k1=some r) :
 FnOk Tryz.prog 203 [(.agg [].toArray)] [] (fun (h:Unit)=>((aD r),[])):=by
 unfold Z3n at a
 refine aQ Tryz.func203 R 3 R R fun C V=>?_
 refine cN V ?_
 refine aV ?_
 refine eB R fun b=>?_
 refine lO (vp (aD ([]:aN)) R) (aC ?_)
 let e:=aJ b [] 141::V
 refine qN e ?_
 refine aP ?_
 refine lO (vp (aD eQ) R) ?_
 refine aP ?_
 cases a
 exact qF () (tE 1 [])
theorem Z3d_ok  {k1:formKind}{r:aN}(a:Z3d k1=some r) :
 FnOk Tryz.prog 205 [(.agg [].toArray)] [] (fun (h:Unit)=>((aD r),[])):=by
 unfold Z3d at a
 refine aQ Tryz.func205 R 3 R R fun C V=>?_
 refine cN V ?_
 refine aV ?_
 refine eB R fun b=>?_
 refine lO (vp (aD ([]:aN)) R) (aC ?_)
 let e:=aJ b [] 142::V
 refine qN e ?_
 refine aP ?_
 refine lO (vp (aD ki) R) ?_
 refine aP ?_
 cases a
 exact qF () (tE 1 [])
theorem Z3k_ok  {k1:shiftKind}{r:aN}(a:Z3k k1=some r) :
 FnOk Tryz.prog 221 [(.agg [(aD k1.use),(.func (.func 124) [].toArray [].toArray)].toArray)] [] (fun (h:Unit)=>((aD r),[])):=by
 unfold Z3k at a
 refine aQ Tryz.func221 R 5 R R fun C V=>?_
 refine cN V ?_
 refine aV ?_
 refine eB R fun b=>?_
 refine lO (vp (aD ([]:aN)) R) (aC ?_)
 let e:=aJ b [(aD k1.use),(.func (.func 124) [].toArray [].toArray)] 145::V
 refine qN e ?_
 refine cA ?_
 refine lO (vp (aD k1.use) R) ?_
 refine aP ?_
 cases a
 exact qF () (tE 1 [])
theorem Z3l_ok  {k1:shiftKind}{r:aN}(a:Z3l k1=some r) :
 FnOk Tryz.prog 221 [(.agg [(aD k1.use),(.func (.func 125) [].toArray [].toArray)].toArray)] [] (fun (h:Unit)=>((aD r),[])):=by
 unfold Z3l at a
 refine aQ Tryz.func221 R 5 R R fun C V=>?_
 refine cN V ?_
 refine aV ?_
 refine eB R fun b=>?_
 refine lO (vp (aD ([]:aN)) R) (aC ?_)
 let e:=aJ b [(aD k1.use),(.func (.func 125) [].toArray [].toArray)] 145::V
 refine qN e ?_
 refine cA ?_
 refine lO (vp (aD k1.use) R) ?_
 refine aP ?_
 cases a
 exact qF () (tE 1 [])
theorem Z3g_ok  {k1:shiftKind}{g:Int}{i:Int}{b:Nat}{e:Nat}{a:Nat}{r:aN}(j:Z3g k1 g i=some r) :
 FnOk Tryz.prog 221 [(.agg [(aD k1.use),(.func (.func 149) [].toArray [(pt b 0),(pt e 0),(pt a 0)].toArray)].toArray)] [aJ b [(iv g)] 3,aJ e [(iv i)] 3,aJ a [(.func (.func 127) [].toArray [].toArray)] 150] (fun (h:Unit)=>((aD r),[aJ b [(iv g)] 3,aJ e [(iv i)] 3,aJ a [(.func (.func 127) [].toArray [].toArray)] 150])):=by
 unfold Z3g at j
 refine aQ Tryz.func221 R 5 R R fun C V=>?_
 refine aV ?_
 refine eB R fun l=>?_
 refine lO (vp (aD ([]:aN)) R) (aC ?_)
 let m:=aJ l [(aD k1.use),(.func (.func 149) [].toArray [(pt b 0),(pt e 0),(pt a 0)].toArray)] 145::aJ b [(iv g)] 3::aJ e [(iv i)] 3::aJ a [(.func (.func 127) [].toArray [].toArray)] 150::V
 refine qN m ?_
 refine cA ?_
 refine lO (vp (aD k1.use) R) ?_
 refine aP ?_
 cases j
 exact qF () (fun w s=>(s.f 4 [1,3]))
theorem Z3h_ok  {k1:shiftKind}{g:Int}{i:Int}{b:Nat}{e:Nat}{a:Nat}{r:aN}(j:Z3h k1 g i=some r) :
 FnOk Tryz.prog 221 [(.agg [(aD k1.use),(.func (.func 149) [].toArray [(pt b 0),(pt e 0),(pt a 0)].toArray)].toArray)] [aJ b [(iv g)] 3,aJ e [(iv i)] 3,aJ a [(.func (.func 129) [].toArray [].toArray)] 150] (fun (h:Unit)=>((aD r),[aJ b [(iv g)] 3,aJ e [(iv i)] 3,aJ a [(.func (.func 129) [].toArray [].toArray)] 150])):=by
 unfold Z3h at j
 refine aQ Tryz.func221 R 5 R R fun C V=>?_
 refine aV ?_
 refine eB R fun l=>?_
 refine lO (vp (aD ([]:aN)) R) (aC ?_)
 let m:=aJ l [(aD k1.use),(.func (.func 149) [].toArray [(pt b 0),(pt e 0),(pt a 0)].toArray)] 145::aJ b [(iv g)] 3::aJ e [(iv i)] 3::aJ a [(.func (.func 129) [].toArray [].toArray)] 150::V
 refine qN m ?_
 refine cA ?_
 refine lO (vp (aD k1.use) R) ?_
 refine aP ?_
 cases j
 exact qF () (fun w s=>(s.f 4 [1,3]))
theorem Z3i_ok  {k1:shiftKind}{g:Int}{i:Int}{b:Nat}{e:Nat}{a:Nat}{r:aN}(j:Z3i k1 g i=some r) :
 FnOk Tryz.prog 221 [(.agg [(aD k1.use),(.func (.func 149) [].toArray [(pt b 0),(pt e 0),(pt a 0)].toArray)].toArray)] [aJ b [(iv g)] 3,aJ e [(iv i)] 3,aJ a [(.func (.func 131) [].toArray [].toArray)] 150] (fun (h:Unit)=>((aD r),[aJ b [(iv g)] 3,aJ e [(iv i)] 3,aJ a [(.func (.func 131) [].toArray [].toArray)] 150])):=by
 unfold Z3i at j
 refine aQ Tryz.func221 R 5 R R fun C V=>?_
 refine aV ?_
 refine eB R fun l=>?_
 refine lO (vp (aD ([]:aN)) R) (aC ?_)
 let m:=aJ l [(aD k1.use),(.func (.func 149) [].toArray [(pt b 0),(pt e 0),(pt a 0)].toArray)] 145::aJ b [(iv g)] 3::aJ e [(iv i)] 3::aJ a [(.func (.func 131) [].toArray [].toArray)] 150::V
 refine qN m ?_
 refine cA ?_
 refine lO (vp (aD k1.use) R) ?_
 refine aP ?_
 cases j
 exact qF () (fun w s=>(s.f 4 [1,3]))
theorem Z3j_ok  {k1:shiftKind}{g:Int}{i:Int}{b:Nat}{e:Nat}{a:Nat}{r:aN}(j:Z3j k1 g i=some r) :
 FnOk Tryz.prog 221 [(.agg [(aD k1.use),(.func (.func 149) [].toArray [(pt b 0),(pt e 0),(pt a 0)].toArray)].toArray)] [aJ b [(iv g)] 3,aJ e [(iv i)] 3,aJ a [(.func (.func 133) [].toArray [].toArray)] 150] (fun (h:Unit)=>((aD r),[aJ b [(iv g)] 3,aJ e [(iv i)] 3,aJ a [(.func (.func 133) [].toArray [].toArray)] 150])):=by
 unfold Z3j at j
 refine aQ Tryz.func221 R 5 R R fun C V=>?_
 refine aV ?_
 refine eB R fun l=>?_
 refine lO (vp (aD ([]:aN)) R) (aC ?_)
 let m:=aJ l [(aD k1.use),(.func (.func 149) [].toArray [(pt b 0),(pt e 0),(pt a 0)].toArray)] 145::aJ b [(iv g)] 3::aJ e [(iv i)] 3::aJ a [(.func (.func 133) [].toArray [].toArray)] 150::V
 refine qN m ?_
 refine cA ?_
 refine lO (vp (aD k1.use) R) ?_
 refine aP ?_
 cases j
 exact qF () (fun w s=>(s.f 4 [1,3]))
theorem jK  {r:kindOfR}{b h1 h2:Nat}{q:aN}(a:fN r=some q) :
 InvOk Tryz.prog (cW r (b,h1,h2)) "loop.example/g00033/impl.uses" [] [eS r (b,h1,h2)] (fun (h:Unit)=>((aD q),[eS r (b,h1,h2)])):=by
 unfold fN at a
 rcases cG a with ⟨L,a⟩|⟨L,a⟩
 ·cases a
 rcases cG a with ⟨G,a⟩|⟨G,a⟩
 ·obtain ⟨t,j,g,e,l⟩:=r
  obtain rfl:=Nat.eq_of_beq_eq_true G
  exact InvOk.mk (pq _) (((Z3e_ok a).perm (Pre':=[pk []]) (fun _ _ _ s=>St.unpack (A:=[]) s)).post id (fun _=>rfl) (fun _ _ _ _ s=>St.pack (A:=[]) (s)))
 rcases cG a with ⟨I,a⟩|⟨I,a⟩
 ·obtain ⟨t,j,g,e,l⟩:=r
  obtain rfl:=Nat.eq_of_beq_eq_true I
  exact InvOk.mk (pu _) (((Z3f_ok a).perm (Pre':=[pk []]) (fun _ _ _ s=>St.unpack (A:=[]) s)).post id (fun _=>rfl) (fun _ _ _ _ s=>St.pack (A:=[]) (s)))
 rcases cG a with ⟨D,a⟩|⟨D,a⟩
 ·obtain ⟨t,j,g,e,l⟩:=r
  obtain rfl:=Nat.eq_of_beq_eq_true D
  exact InvOk.mk (pw _) (((Z3m_ok a).perm (Pre':=[pk []]) (fun _ _ _ s=>St.unpack (A:=[]) s)).post id (fun _=>rfl) (fun _ _ _ _ s=>St.pack (A:=[]) (s)))
 rcases cG a with ⟨u,a⟩|⟨u,a⟩
 ·obtain ⟨t,j,g,e,l⟩:=r
  obtain rfl:=Nat.eq_of_beq_eq_true u
  exact InvOk.mk (px _) (((Z3n_ok (k1:=⟨⟩) a).perm (Pre':=[pk []]) (fun _ _ _ s=>St.unpack (A:=[]) s)).post id (fun _=>rfl) (fun _ _ _ _ s=>St.pack (A:=[]) (s)))
 rcases cG a with ⟨m,a⟩|⟨m,a⟩
 ·obtain ⟨t,j,g,e,l⟩:=r
  obtain rfl:=Nat.eq_of_beq_eq_true m
  exact InvOk.mk (py _) (((Z3d_ok (k1:=⟨⟩) a).perm (Pre':=[pk []]) (fun _ _ _ s=>St.unpack (A:=[]) s)).post id (fun _=>rfl) (fun _ _ _ _ s=>St.pack (A:=[]) (s)))
 rcases cG a with ⟨B,a⟩|⟨B,a⟩
 ·obtain ⟨t,j,g,e,l⟩:=r
  obtain rfl:=Nat.eq_of_beq_eq_true B
  exact InvOk.mk (gW _) (((Z3k_ok a).perm (Pre':=[pk []]) (fun _ _ _ s=>St.unpack (A:=[]) s)).post id (fun _=>rfl) (fun _ _ _ _ s=>St.pack (A:=[]) (s)))
 rcases cG a with ⟨F,a⟩|⟨F,a⟩
 ·obtain ⟨t,j,g,e,l⟩:=r
  obtain rfl:=Nat.eq_of_beq_eq_true F
  exact InvOk.mk (gW _) (((Z3l_ok a).perm (Pre':=[pk []]) (fun _ _ _ s=>St.unpack (A:=[]) s)).post id (fun _=>rfl) (fun _ _ _ _ s=>St.pack (A:=[]) (s)))
 rcases cG a with ⟨J,a⟩|⟨J,a⟩
 ·obtain ⟨t,j,g,e,l⟩:=r
  obtain rfl:=Nat.eq_of_beq_eq_true J
  exact InvOk.mk (gW _) (((Z3g_ok a).perm (Pre':=[pk [aJ b [(iv g)] 3,aJ h1 [(iv e)] 3,aJ h2 [(.func (.func 127) [].toArray [].toArray)] 150]]) (fun _ _ _ s=>St.unpack (A:=[aJ b [(iv g)] 3,aJ h1 [(iv e)] 3,aJ h2 [(.func (.func 127) [].toArray [].toArray)] 150]) s)).post id (fun _=>rfl) (fun _ _ _ _ s=>St.pack (A:=[aJ b [(iv g)] 3,aJ h1 [(iv e)] 3,aJ h2 [(.func (.func 127) [].toArray [].toArray)] 150]) (s)))
 rcases cG a with ⟨E,a⟩|⟨E,a⟩
 ·obtain ⟨t,j,g,e,l⟩:=r
  obtain rfl:=Nat.eq_of_beq_eq_true E
  exact InvOk.mk (gW _) (((Z3h_ok a).perm (Pre':=[pk [aJ b [(iv g)] 3,aJ h1 [(iv e)] 3,aJ h2 [(.func (.func 129) [].toArray [].toArray)] 150]]) (fun _ _ _ s=>St.unpack (A:=[aJ b [(iv g)] 3,aJ h1 [(iv e)] 3,aJ h2 [(.func (.func 129) [].toArray [].toArray)] 150]) s)).post id (fun _=>rfl) (fun _ _ _ _ s=>St.pack (A:=[aJ b [(iv g)] 3,aJ h1 [(iv e)] 3,aJ h2 [(.func (.func 129) [].toArray [].toArray)] 150]) (s)))
 rcases cG a with ⟨i,a⟩|⟨i,a⟩
 ·obtain ⟨t,j,g,e,l⟩:=r
  obtain rfl:=Nat.eq_of_beq_eq_true i
  exact InvOk.mk (gW _) (((Z3i_ok a).perm (Pre':=[pk [aJ b [(iv g)] 3,aJ h1 [(iv e)] 3,aJ h2 [(.func (.func 131) [].toArray [].toArray)] 150]]) (fun _ _ _ s=>St.unpack (A:=[aJ b [(iv g)] 3,aJ h1 [(iv e)] 3,aJ h2 [(.func (.func 131) [].toArray [].toArray)] 150]) s)).post id (fun _=>rfl) (fun _ _ _ _ s=>St.pack (A:=[aJ b [(iv g)] 3,aJ h1 [(iv e)] 3,aJ h2 [(.func (.func 131) [].toArray [].toArray)] 150]) (s)))
 have O:cW r (b,h1,h2)=(.iface 145 (.agg [(aD r.s0),(.func (.func 149) [].toArray [(pt b 0),(pt h1 0),(pt h2 0)].toArray)].toArray)):=by simp only [cW,L,G,I,D,u,m,B,F,J,E,i,cond_false]
 have M:eS r (b,h1,h2)=pk [aJ b [(iv r.i0)] 3,aJ h1 [(iv r.i1)] 3,aJ h2 [(.func (.func 133) [].toArray [].toArray)] 150]:=by simp only [eS,L,G,I,D,u,m,B,F,J,E,i,cond_false]
 rw [O,M]
 exact InvOk.mk (gW _) (((Z3j_ok a).perm (Pre':=[pk [aJ b [(iv r.i0)] 3,aJ h1 [(iv r.i1)] 3,aJ h2 [(.func (.func 133) [].toArray [].toArray)] 150]]) (fun _ _ _ s=>St.unpack (A:=[aJ b [(iv r.i0)] 3,aJ h1 [(iv r.i1)] 3,aJ h2 [(.func (.func 133) [].toArray [].toArray)] 150]) s)).post id (fun _=>rfl) (fun _ _ _ _ s=>St.pack (A:=[aJ b [(iv r.i0)] 3,aJ h1 [(iv r.i1)] 3,aJ h2 [(.func (.func 133) [].toArray [].toArray)] 150]) (s)))
theorem Z6_ok  {i:aN}{a:aN}{mG:Int}{b:Nat}{r:Bool}(e:Z6 i a=some r) :
 FnOk Tryz.prog 135 [(aD i),(pt b 0)] [aJ b [(aD a)] 9,gl 0 mG] (fun (h:Unit)=>((.bool r),[aJ b [(aD a)] 9])):=by
 unfold Z6 at e
 refine aQ Tryz.func135 R 7 R R fun C V=>?_
 let l:=gl 0 mG::V
 refine bG ?_
 let j:=aJ b [(aD a)] 9::l
 refine qN j ?_
 refine aV ?_
 obtain ⟨m,g,e⟩:=bd e
 refine aV ?_
 refine lO (vp (aD i) R) (lM _ (fun w s=>(s.dg 1 R)) ?_)
 refine lC 1 z8 R (Z3p_ok g) R ?_
 rintro _
 refine lN j ?_
 refine bG ?_
 cases e
 exact qF () (tE 2 [0])
theorem Z1v_ok  {a:Node}{U:aN}{mG:Int}{r:Bool}(hr:Z1v a U=some r) :
 FnOk Tryz.prog 97 [(.agg [(iv a.Op),(.slice A2 N2 D2),(.slice A3 N3 D3),(.slice A4 N4 D4),(aD a.Form),(.slice A5 N5 D5)].toArray),(aD U)] [aO kT3 (.slice A2 N2 D2) a.Args,aO kT3 (.slice A3 N3 D3) a.Dims,aO kT3 (.slice A4 N4 D4) a.Ints,aO kT3 (.slice A5 N5 D5) a.Data,gl 0 mG] (fun (h:Unit)=>((.bool r),[])):=by
 unfold Z1v at hr
 refine aQ Tryz.func97 R 44 R R fun C V=>?_
 refine cL 0 aA ?_
 rintro rfl
 refine cL 1 aA ?_
 rintro rfl
 refine cL 2 aA ?_
 rintro rfl
 refine cL 3 aA ?_
 rintro rfl
 let W0:=RR kT3 A2 D2 a.Args::RR kT3 A3 D3 a.Dims::RR kT3 A4 D4 a.Ints::RR kT3 A5 D5 a.Data::gl 0 mG::V
 refine cN W0 ?_
 refine aV ?_
 refine eB R fun b7=>?_
 refine eZ (cs:=[(aD U)]) R R R (fun T=>(lB R (aC ?_)))
 let W1:=aJ b7 [(iv a.Op),(sc A2 a.Args D2),(sc A3 a.Dims D3),(sc A4 a.Ints D4),(aD a.Form),(sc A5 a.Data D5)] 54::W0
 refine aP ?_
 refine lO (vp (.func (.func 135) [].toArray [(pt T 0)].toArray) R) (lO (vp _ R) ?_)
 refine aP ?_
 obtain ⟨Y,ah,hr⟩:=bd hr
 obtain ⟨j,ag,hr⟩:=bd hr
 obtain ⟨g,Z,hr⟩:=bd hr
 obtain ⟨b,O,hr⟩:=bd hr
 refine cQ [(4,(.bool ((((Y||((a.Dims.length:Int)==0))&&(j||((a.Ints.length:Int)==0)))&&(g||(a.Form==([]:aN))))&&(b||((a.Data.length:Int)==0)))))] (W1) ?_ ?_
 refine aE (lO (vp _ R) (lM _ (fun w s=>((s.dg 6 R).e 2 [1,0])) ?_))
 refine cF (fs:=[]) (cs:=[(pt T 0)]) 2 R R iL R R (Z6_ok ah) R ?_
 rintro _
 refine bT ?_
 rcases bo Y with B | B
 refine bG ?_
 refine lO (fA ((a.Dims.length:Int)==0) R B) (lB R (lW (eE (oT B)) (vp _ R) (lM _ (fun w s=>((s.dg 6 R).e 2 [1,0])) ?_)))
 refine cF (fs:=[]) (cs:=[(pt T 0)]) 2 R (eE (oT B)) iL R R (Z6_ok (bN ag (oT B))) R ?_
 rintro _
 refine bT ?_
 rcases bo j with ab | ab
 refine bG ?_
 refine lW (eE (oT B)) (fA ((a.Ints.length:Int)==0) R ab) (lO (j5 R (oT B) R) (lB R ?_))
 rcases bo ((Y||((a.Dims.length:Int)==0))&&(j||((a.Ints.length:Int)==0))) with u | u
 refine lW (eE u) (vp _ R) (lM _ (fun w s=>((s.dg 6 R).e 2 [1,0])) ?_)
 refine cF (fs:=[]) (cs:=[(pt T 0)]) 2 R (eE u) iL R R (Z6_ok (bN Z u)) R ?_
 rintro _
 refine bT ?_
 rcases bo g with a2 | a2
 refine aP ?_
 refine lW (eE u) (fA (a.Form==([]:aN)) R a2) (lO (j5 R u R) (lB R ?_))
 rcases bo (((Y||((a.Dims.length:Int)==0))&&(j||((a.Ints.length:Int)==0)))&&(g||(a.Form==([]:aN)))) with M | M
 refine lW (eE M) (vp _ R) (lM _ (fun w s=>((s.dg 6 R).e 2 [1,0])) ?_)
 refine cF (fs:=[]) (cs:=[(pt T 0)]) 2 R (eE M) iL R R (Z6_ok (bN O M)) R ?_
 rintro _
 refine bT ?_
 rcases bo b with a6 | a6
 refine bG ?_
 refine lW (eE M) (fA ((a.Data.length:Int)==0) R a6) (lO (j5 R M R) ?_)
 refine aV ?_
 exact qj (tE 1 [])
 refine bG ?_
 refine lW (eE M) (fT R a6 R) (lO (j5 R M R) ?_)
 refine aV ?_
 exact qj (tE 1 [])
 refine cZ ?_
 refine lO (kq (b||((a.Data.length:Int)==0)) R M) ?_
 refine aV ?_
 exact qj (tE 1 [])
 refine aV ?_
 refine lW (b' a2) (vz (.bool (a.Form==([]:aN))) (jr R R R)) (lW (eE u) (fT R a2 R) (lO (j5 R u R) (lB R ?_)))
 rcases bo (((Y||((a.Dims.length:Int)==0))&&(j||((a.Ints.length:Int)==0)))&&(g||(a.Form==([]:aN)))) with L | L
 refine lW (eE L) (vp _ R) (lM _ (fun w s=>((s.dg 6 R).e 2 [1,0])) ?_)
 refine cF (fs:=[]) (cs:=[(pt T 0)]) 2 R (eE L) iL R R (Z6_ok (bN O L)) R ?_
 rintro _
 refine bT ?_
 rcases bo b with ae | ae
 refine bG ?_
 refine lW (eE L) (fA ((a.Data.length:Int)==0) R ae) (lO (j5 R L R) ?_)
 refine aV ?_
 exact qj (tE 1 [])
 refine bG ?_
 refine lW (eE L) (fT R ae R) (lO (j5 R L R) ?_)
 refine aV ?_
 exact qj (tE 1 [])
 refine cZ ?_
 refine lO (kq (b||((a.Data.length:Int)==0)) R L) ?_
 refine aV ?_
 exact qj (tE 1 [])
 refine dN ?_
 refine lO (kq (g||(a.Form==([]:aN))) R u) ?_
 refine cX ?_
 refine lO (kq (b||((a.Data.length:Int)==0)) R (aF u)) ?_
 refine aV ?_
 exact qj (tE 1 [])
 refine bG ?_
 refine lW (eE (oT B)) (fT R ab R) (lO (j5 R (oT B) R) (lB R ?_))
 rcases bo ((Y||((a.Dims.length:Int)==0))&&(j||((a.Ints.length:Int)==0))) with m | m
 refine lW (eE m) (vp _ R) (lM _ (fun w s=>((s.dg 6 R).e 2 [1,0])) ?_)
 refine cF (fs:=[]) (cs:=[(pt T 0)]) 2 R (eE m) iL R R (Z6_ok (bN Z m)) R ?_
 rintro _
 refine bT ?_
 rcases bo g with a3 | a3
 refine aP ?_
 refine lW (eE m) (fA (a.Form==([]:aN)) R a3) (lO (j5 R m R) (lB R ?_))
 rcases bo (((Y||((a.Dims.length:Int)==0))&&(j||((a.Ints.length:Int)==0)))&&(g||(a.Form==([]:aN)))) with G | G
 refine lW (eE G) (vp _ R) (lM _ (fun w s=>((s.dg 6 R).e 2 [1,0])) ?_)
 refine cF (fs:=[]) (cs:=[(pt T 0)]) 2 R (eE G) iL R R (Z6_ok (bN O G)) R ?_
 rintro _
 refine bT ?_
 rcases bo b with aa | aa
 refine bG ?_
 refine lW (eE G) (fA ((a.Data.length:Int)==0) R aa) (lO (j5 R G R) ?_)
 refine aV ?_
 exact qj (tE 1 [])
 refine bG ?_
 refine lW (eE G) (fT R aa R) (lO (j5 R G R) ?_)
 refine aV ?_
 exact qj (tE 1 [])
 refine cZ ?_
 refine lO (kq (b||((a.Data.length:Int)==0)) R G) ?_
 refine aV ?_
 exact qj (tE 1 [])
 refine aV ?_
 refine lW (b' a3) (vz (.bool (a.Form==([]:aN))) (jr R R R)) (lW (eE m) (fT R a3 R) (lO (j5 R m R) (lB R ?_)))
 rcases bo (((Y||((a.Dims.length:Int)==0))&&(j||((a.Ints.length:Int)==0)))&&(g||(a.Form==([]:aN)))) with E | E
 refine lW (eE E) (vp _ R) (lM _ (fun w s=>((s.dg 6 R).e 2 [1,0])) ?_)
 refine cF (fs:=[]) (cs:=[(pt T 0)]) 2 R (eE E) iL R R (Z6_ok (bN O E)) R ?_
 rintro _
 refine bT ?_
 rcases bo b with a5 | a5
 refine bG ?_
 refine lW (eE E) (fA ((a.Data.length:Int)==0) R a5) (lO (j5 R E R) ?_)
 refine aV ?_
 exact qj (tE 1 [])
 refine bG ?_
 refine lW (eE E) (fT R a5 R) (lO (j5 R E R) ?_)
 refine aV ?_
 exact qj (tE 1 [])
 refine cZ ?_
 refine lO (kq (b||((a.Data.length:Int)==0)) R E) ?_
 refine aV ?_
 exact qj (tE 1 [])
 refine dN ?_
 refine lO (kq (g||(a.Form==([]:aN))) R m) ?_
 refine cX ?_
 refine lO (kq (b||((a.Data.length:Int)==0)) R (aF m)) ?_
 refine aV ?_
 exact qj (tE 1 [])
 refine bG ?_
 refine lO (fT R B R) (lB R ?_)
 rcases bo (Y||((a.Dims.length:Int)==0)) with i | i
 refine lW (eE i) (vp _ R) (lM _ (fun w s=>((s.dg 6 R).e 2 [1,0])) ?_)
 refine cF (fs:=[]) (cs:=[(pt T 0)]) 2 R (eE i) iL R R (Z6_ok (bN ag i)) R ?_
 rintro _
 refine bT ?_
 rcases bo j with a4 | a4
 refine bG ?_
 refine lW (eE i) (fA ((a.Ints.length:Int)==0) R a4) (lO (j5 R i R) (lB R ?_))
 rcases bo ((Y||((a.Dims.length:Int)==0))&&(j||((a.Ints.length:Int)==0))) with l | l
 refine lW (eE l) (vp _ R) (lM _ (fun w s=>((s.dg 6 R).e 2 [1,0])) ?_)
 refine cF (fs:=[]) (cs:=[(pt T 0)]) 2 R (eE l) iL R R (Z6_ok (bN Z l)) R ?_
 rintro _
 refine bT ?_
 rcases bo g with a0 | a0
 refine aP ?_
 refine lW (eE l) (fA (a.Form==([]:aN)) R a0) (lO (j5 R l R) (lB R ?_))
 rcases bo (((Y||((a.Dims.length:Int)==0))&&(j||((a.Ints.length:Int)==0)))&&(g||(a.Form==([]:aN)))) with J | J
 refine lW (eE J) (vp _ R) (lM _ (fun w s=>((s.dg 6 R).e 2 [1,0])) ?_)
 refine cF (fs:=[]) (cs:=[(pt T 0)]) 2 R (eE J) iL R R (Z6_ok (bN O J)) R ?_
 rintro _
 refine bT ?_
 rcases bo b with a9 | a9
 refine bG ?_
 refine lW (eE J) (fA ((a.Data.length:Int)==0) R a9) (lO (j5 R J R) ?_)
 refine aV ?_
 exact qj (tE 1 [])
 refine bG ?_
 refine lW (eE J) (fT R a9 R) (lO (j5 R J R) ?_)
 refine aV ?_
 exact qj (tE 1 [])
 refine cZ ?_
 refine lO (kq (b||((a.Data.length:Int)==0)) R J) ?_
 refine aV ?_
 exact qj (tE 1 [])
 refine aV ?_
 refine lW (b' a0) (vz (.bool (a.Form==([]:aN))) (jr R R R)) (lW (eE l) (fT R a0 R) (lO (j5 R l R) (lB R ?_)))
 rcases bo (((Y||((a.Dims.length:Int)==0))&&(j||((a.Ints.length:Int)==0)))&&(g||(a.Form==([]:aN)))) with F | F
 refine lW (eE F) (vp _ R) (lM _ (fun w s=>((s.dg 6 R).e 2 [1,0])) ?_)
 refine cF (fs:=[]) (cs:=[(pt T 0)]) 2 R (eE F) iL R R (Z6_ok (bN O F)) R ?_
 rintro _
 refine bT ?_
 rcases bo b with ac | ac
 refine bG ?_
 refine lW (eE F) (fA ((a.Data.length:Int)==0) R ac) (lO (j5 R F R) ?_)
 refine aV ?_
 exact qj (tE 1 [])
 refine bG ?_
 refine lW (eE F) (fT R ac R) (lO (j5 R F R) ?_)
 refine aV ?_
 exact qj (tE 1 [])
 refine cZ ?_
 refine lO (kq (b||((a.Data.length:Int)==0)) R F) ?_
 refine aV ?_
 exact qj (tE 1 [])
 refine dN ?_
 refine lO (kq (g||(a.Form==([]:aN))) R l) ?_
 refine cX ?_
 refine lO (kq (b||((a.Data.length:Int)==0)) R (aF l)) ?_
 refine aV ?_
 exact qj (tE 1 [])
 refine bG ?_
 refine lW (eE i) (fT R a4 R) (lO (j5 R i R) (lB R ?_))
 rcases bo ((Y||((a.Dims.length:Int)==0))&&(j||((a.Ints.length:Int)==0))) with q | q
 refine lW (eE q) (vp _ R) (lM _ (fun w s=>((s.dg 6 R).e 2 [1,0])) ?_)
 refine cF (fs:=[]) (cs:=[(pt T 0)]) 2 R (eE q) iL R R (Z6_ok (bN Z q)) R ?_
 rintro _
 refine bT ?_
 rcases bo g with a1 | a1
 refine aP ?_
 refine lW (eE q) (fA (a.Form==([]:aN)) R a1) (lO (j5 R q R) (lB R ?_))
 rcases bo (((Y||((a.Dims.length:Int)==0))&&(j||((a.Ints.length:Int)==0)))&&(g||(a.Form==([]:aN)))) with I | I
 refine lW (eE I) (vp _ R) (lM _ (fun w s=>((s.dg 6 R).e 2 [1,0])) ?_)
 refine cF (fs:=[]) (cs:=[(pt T 0)]) 2 R (eE I) iL R R (Z6_ok (bN O I)) R ?_
 rintro _
 refine bT ?_
 rcases bo b with a8 | a8
 refine bG ?_
 refine lW (eE I) (fA ((a.Data.length:Int)==0) R a8) (lO (j5 R I R) ?_)
 refine aV ?_
 exact qj (tE 1 [])
 refine bG ?_
 refine lW (eE I) (fT R a8 R) (lO (j5 R I R) ?_)
 refine aV ?_
 exact qj (tE 1 [])
 refine cZ ?_
 refine lO (kq (b||((a.Data.length:Int)==0)) R I) ?_
 refine aV ?_
 exact qj (tE 1 [])
 refine aV ?_
 refine lW (b' a1) (vz (.bool (a.Form==([]:aN))) (jr R R R)) (lW (eE q) (fT R a1 R) (lO (j5 R q R) (lB R ?_)))
 rcases bo (((Y||((a.Dims.length:Int)==0))&&(j||((a.Ints.length:Int)==0)))&&(g||(a.Form==([]:aN)))) with D | D
 refine lW (eE D) (vp _ R) (lM _ (fun w s=>((s.dg 6 R).e 2 [1,0])) ?_)
 refine cF (fs:=[]) (cs:=[(pt T 0)]) 2 R (eE D) iL R R (Z6_ok (bN O D)) R ?_
 rintro _
 refine bT ?_
 rcases bo b with a7 | a7
 refine bG ?_
 refine lW (eE D) (fA ((a.Data.length:Int)==0) R a7) (lO (j5 R D R) ?_)
 refine aV ?_
 exact qj (tE 1 [])
 refine bG ?_
 refine lW (eE D) (fT R a7 R) (lO (j5 R D R) ?_)
 refine aV ?_
 exact qj (tE 1 [])
 refine cZ ?_
 refine lO (kq (b||((a.Data.length:Int)==0)) R D) ?_
 refine aV ?_
 exact qj (tE 1 [])
 refine dN ?_
 refine lO (kq (g||(a.Form==([]:aN))) R q) ?_
 refine cX ?_
 refine lO (kq (b||((a.Data.length:Int)==0)) R (aF q)) ?_
 refine aV ?_
 exact qj (tE 1 [])
 refine cZ ?_
 refine lO (kq (j||((a.Ints.length:Int)==0)) R i) ?_
 refine cZ ?_
 refine lO (kq (g||(a.Form==([]:aN))) R (aF i)) ?_
 refine cX ?_
 refine lO (kq (b||((a.Data.length:Int)==0)) R (aF (aF i))) ?_
 refine aV ?_
 exact qj (tE 1 [])
 rintro σ1
 refine aV ?_
 cases hr
 exact qF () (tE 6 [])
theorem Zb_ok  {b:(List Int)}{r:Bool}(e:Zb b=some r) :
 FnOk Tryz.prog 147 [(.slice A2 N2 D2)] [aO kT3 (.slice A2 N2 D2) b] (fun (h:Unit)=>((.bool r),[])):=by
 unfold Zb at e
 refine aQ Tryz.func147 R 27 R R fun C V=>?_
 refine cL 0 aA ?_
 rintro rfl
 let u:=RR kT3 A2 D2 b::V
 refine cN u ?_
 refine iB ?_
 refine bB (A:=(Unit)×(HH)) (fun a=>Zb_J1 b=some r) (fun a=>[(0,(s3 a.2))]) (fun a=>aO kT3 (s3 a.2) b::u) ?_ ?_
 refine cZ ?_
 obtain ⟨M,E,j⟩:=bd e
 refine bD (A:=HH) E (fun s a=>[(0,(s3 a)),(3,(iv s.1)),(6,(s3 a)),(7,(il b)),(8,(iv s.2))]) (fun s a=>aO kT3 (s3 a) b::u) (A2,b.length,D2) (aS R) (fun w s=>(s.d 0 R)) ?_
 rintro ⟨D,g⟩ ⟨A10,N10,D10⟩ σ1 G e l
 dsimp only [Zb_L1] at e
 refine bH 0 aA (fun (F:N10=b.length)=>?_)
 subst F
 refine bV ?_
 split at e
 refine bV ?_
 obtain ⟨m,e⟩:=gd e
 refine aE (bC 0 aA (show 0<b.length by have:=m; omega) (fun i o16 I=>?_))
 subst I
 refine dN ?_
 refine cQ [(0,(sc (ad i o16) b D10)),(3,(iv D)),(5,(iv (ix b g))),(6,(sc (ad i o16) b D10)),(7,(il b)),(8,(iv g)),(17,(.bool ((decide ((ix b g)<1))||(decide ((ix b g)>4096)))))] (RR kT3 (ad i o16) D10 b::u) ?_ ?_
 refine bG ?_
 rcases bo (decide ((ix b g)<1)) with q | q
 refine bG ?_
 exact qj tI
 refine bG ?_
 exact qj tI
 rintro σ1
 refine bT ?_
 split at e
 refine cU ?_
 cases e
 obtain rfl:=l _ R
 have e:=j
 refine aP ?_
 cases e
 exact qF () (tE 2 [])
 refine r1 ?_
 split at e
 refine cX ?_
 cases e
 obtain rfl:=l _ R
 have e:=j
 refine aP ?_
 cases e
 exact qF () (tE 2 [])
 refine cZ ?_
 cases e
 exact qA ((ad i o16),b.length,D10) tI
 refine aP ?_
 cases e
 obtain rfl:=l _ R
 have e:=j
 refine aV ?_
 exact qI ((),(A10,b.length,D10)) e tI
 rintro ⟨_,⟨L,B,J⟩⟩ σ1 e
 dsimp only [Zb_J1] at e
 refine bH 0 aA (fun (F:B=b.length)=>?_)
 subst F
 refine cX ?_
 cases e
 exact qF () (tE 2 [])
theorem Zl_ok  {b:(List Int)}{r:Int}(e:Zl b=some r) :
 FnOk Tryz.prog 148 [(.slice A2 N2 D2)] [aO kT3 (.slice A2 N2 D2) b] (fun (h:Unit)=>((iv r),[])):=by
 unfold Zl at e
 refine aQ Tryz.func148 R 17 R R fun C V=>?_
 refine cL 0 aA ?_
 rintro rfl
 let i:=RR kT3 A2 D2 b::V
 refine cN i ?_
 refine iB ?_
 refine bB (A:=(Int)×(Unit)) (fun a=>Zl_J1 a.1=some r) (fun a=>[(3,(iv a.1))]) (fun a=>i) ?_ ?_
 refine cZ ?_
 obtain ⟨G,j,l⟩:=bd e
 refine bD (A:=Unit) j (fun s a=>[(3,(iv s.1)),(6,(sc A2 b D2)),(7,(il b)),(8,(iv s.2))]) (fun s a=>i) () (aS R) tI ?_
 rintro ⟨B,F⟩ _ σ1 q e m
 dsimp only [Zl_L1] at e
 refine bV ?_
 split at e
 refine bV ?_
 obtain ⟨g,e⟩:=gd e
 refine aE (bC 0 aA (show 0<b.length by have:=g; omega) (fun D o12 u=>?_))
 subst u
 refine r1 ?_
 cases e
 exact qA () tI
 refine aP ?_
 cases e
 obtain rfl:=m _ R
 have e:=l
 refine aV ?_
 exact qI (B,()) e tI
 rintro ⟨E,_⟩ σ1 e
 dsimp only [Zl_J1] at e
 refine dN ?_
 cases e
 exact qF () (tE 1 [])
theorem Z31_ok  {p1:Int}{r:Bool}(b:Z31 p1=some r) :
 FnOk Tryz.prog 196 [(iv p1)] [] (fun (h:Unit)=>((.bool r),[])):=by
 unfold Z31 at b
 refine aQ Tryz.func196 R 9 R R fun C V=>?_
 refine cN V ?_
 refine bV ?_
 refine cQ [(2,(.bool ((decide (p1≥0))&&(decide (p1<2147483647)))))] (V) ?_ ?_
 refine bG ?_
 rcases bo (decide (p1≥0)) with a | a
 refine cA ?_
 exact qj tI
 refine cA ?_
 exact qj tI
 rintro σ1
 refine aV ?_
 cases b
 exact qF () tI
theorem Z14_ok  {e:(List Int)}{r:Bool}(b:Z14 e=some r) :
 FnOk Tryz.prog 195 [(.slice A2 N2 D2)] [aO kT3 (.slice A2 N2 D2) e] (fun (h:Unit)=>((.bool r),[])):=by
 unfold Z14 at b
 refine aQ Tryz.func195 R 15 R R fun C V=>?_
 refine cL 0 aA ?_
 rintro rfl
 let m:=RR kT3 A2 D2 e::V
 refine cN m ?_
 refine bV ?_
 refine bB (A:=(Unit)×(Unit)) (fun a=>Z14_J1=some r) (fun a=>[]) (fun a=>m) ?_ ?_
 refine cZ ?_
 obtain ⟨G,q,j⟩:=bd b
 refine bD (A:=Unit) q (fun s a=>[(5,(sc A2 e D2)),(6,(il e)),(7,(iv s))]) (fun s a=>m) () (aS R) tI ?_
 rintro B _ σ1 u b l
 dsimp only [Z14_L1] at b
 refine bV ?_
 split at b
 refine bV ?_
 obtain ⟨g,b⟩:=gd b
 refine aE (bC 0 aA (show 0<e.length by have:=g; omega) (fun E o14 D=>?_))
 subst D
 refine bV ?_
 obtain ⟨F,i,b⟩:=bd b
 refine aV ?_
 refine lC 0 zb R (Z31_ok i) R ?_
 rintro _
 refine aP ?_
 split at b
 refine cX ?_
 cases b
 obtain rfl:=l _ R
 have b:=j
 refine aP ?_
 cases b
 exact qF () (tE 1 [])
 refine cZ ?_
 cases b
 exact qA () tI
 refine aP ?_
 cases b
 obtain rfl:=l _ R
 have b:=j
 refine aV ?_
 exact cR ((),()) b trivial tI
 rintro ⟨_,_⟩ σ1 b
 dsimp only [Z14_J1] at b
 refine bV ?_
 cases b
 exact qF () (tE 1 [])
theorem Z2k_ok  {t1:Tensor}{r:Bool}(e:Z2k t1=some r) :
 FnOk Tryz.prog 194 [(.agg [(.slice A2 N2 D2),(.slice A3 N3 D3)].toArray)] [aO kT3 (.slice A2 N2 D2) t1.Dims,aO kT3 (.slice A3 N3 D3) t1.Data] (fun (h:Unit)=>((.bool r),[])):=by
 unfold Z2k at e
 refine aQ Tryz.func194 R 20 R R fun C V=>?_
 refine cL 0 aA ?_
 rintro rfl
 refine cL 1 aA ?_
 rintro rfl
 let q:=RR kT3 A2 D2 t1.Dims::RR kT3 A3 D3 t1.Data::V
 refine cN q ?_
 refine aV ?_
 refine eB R fun F=>?_
 refine aV ?_
 let g:=aJ F [(sc A2 t1.Dims D2),(sc A3 t1.Data D3)] 58::q
 refine qN g ?_
 refine aV ?_
 obtain ⟨m,i,e⟩:=bd e
 obtain ⟨B,l,e⟩:=bd e
 obtain ⟨E,j,e⟩:=bd e
 refine cQ [(2,(.bool ((m&&((t1.Data.length:Int)==B))&&E)))] (g) ?_ ?_
 rcases bo m with a | a
 rcases bo (m&&((t1.Data.length:Int)==B)) with b | b
 refine dG 18 [] bP fun u D=>?_
 refine gT 0 [] ?_
 refine d1 2 R (lM _ (fun w s=>(s.d 1 R)) ?_)
 refine lC 1 j8 R (Zb_ok i) R ?_
 rintro _
 refine lN g ?_
 refine aC (aG (sL []) ?_)
 refine sr 3 [] ?_
 refine d1 9 R (lM _ (fun w s=>(s.d 1 R)) ?_)
 refine bY 1 R (eE a) jI R (Zl_ok (bN l a)) R ?_
 rintro _
 refine lN g ?_
 refine aC (aG (sL []) ?_)
 refine kr 10 [] ?_
 refine d1 15 R (lM _ (fun w s=>(s.d 2 R)) ?_)
 refine bY 1 R (eE b) zd R (Z14_ok (bN j b)) R ?_
 rintro _
 refine lN g ?_
 refine aC (aG (sL []) ?_)
 refine gT 16 [] ?_
 refine dD ?_
 exact qj tI
 refine dG 18 [] bP fun u D=>?_
 refine gT 0 [] ?_
 refine d1 2 R (lM _ (fun w s=>(s.d 1 R)) ?_)
 refine lC 1 j8 R (Zb_ok i) R ?_
 rintro _
 refine lN g ?_
 refine aC (aG (sL []) ?_)
 refine sr 3 [] ?_
 refine d1 9 R (lM _ (fun w s=>(s.d 1 R)) ?_)
 refine bY 1 R (eE a) jI R (Zl_ok (bN l a)) R ?_
 rintro _
 refine lN g ?_
 refine aC (aG (sL []) ?_)
 refine ut 10 [] ?_
 refine dD ?_
 exact qj tI
 refine dG 18 [] bP fun u D=>?_
 refine gT 0 [] ?_
 refine d1 2 R (lM _ (fun w s=>(s.d 1 R)) ?_)
 refine lC 1 j8 R (Zb_ok i) R ?_
 rintro _
 refine lN g ?_
 refine aC (aG (sL []) ?_)
 refine wJ 3 [] ?_
 refine dD ?_
 exact qj tI
 rintro σ1
 refine aV ?_
 cases e
 exact qF () (tE 3 [])
theorem Z1k_ok  {k1:leafKind}{b:Node}{a:(List (List Int))}{r:(List Int)×Bool}(j:Z1k k1 b a=some r) :
 FnOk Tryz.prog 192 [(.agg [(.bool k1.data)].toArray),(.agg [(iv b.Op),(.slice A3 N3 D3),(.slice A4 N4 D4),(.slice A5 N5 D5),(aD b.Form),(.slice A6 N6 D6)].toArray),(.slice A8 N8 D8)] [aO kT3 (.slice A3 N3 D3) b.Args,aO kT3 (.slice A4 N4 D4) b.Dims,aO kT3 (.slice A5 N5 D5) b.Ints,aO kT3 (.slice A6 N6 D6) b.Data,aO bL (.slice A8 N8 D8) a] (fun (h:HH)=>((.tuple [(s3 h),(.bool r.2)].toArray),[aO kT3 (s3 h) r.1])):=by
 unfold Z1k at j
 refine aQ Tryz.func192 R 32 R R fun C V=>?_
 refine cL 0 aA ?_
 rintro rfl
 refine cL 1 aA ?_
 rintro rfl
 refine cL 2 aA ?_
 rintro rfl
 refine cL 3 aA ?_
 rintro rfl
 refine cL 4 aA ?_
 rintro rfl
 let F:=RR kT3 A3 D3 b.Args::RR kT3 A4 D4 b.Dims::RR kT3 A5 D5 b.Ints::RR kT3 A6 D6 b.Data::RR bL A8 D8 a::V
 refine cN F ?_
 refine aV ?_
 refine eB R fun G=>?_
 refine eB R fun m=>?_
 refine aP ?_
 let D:=aJ m [(iv b.Op),(sc A3 b.Args D3),(sc A4 b.Dims D4),(sc A5 b.Ints D5),(aD b.Form),(sc A6 b.Data D6)] 54::aJ G [(.bool k1.data)] 136::F
 refine qN D ?_
 refine aP ?_
 obtain ⟨q,B,j⟩:=bd j
 obtain ⟨E,u,j⟩:=bd j
 refine cQ [(4,(pt m 0)),(29,(.bool ((((a.length:Int) != 0)||(!q))||(k1.data&&(!E)))))] (D) ?_ ?_
 refine cA ?_
 rcases bo ((a.length:Int) != 0) with i | i
 refine AH ?_
 exact qj tI
 refine aV ?_
 refine lM _ (fun w s=>(s.d 3 R)) ?_
 refine bY 1 R (b' i) j8 R (Zb_ok (bN B (cS i))) R ?_
 rintro _
 refine lN D ?_
 refine aP ?_
 rcases bo (((a.length:Int) != 0)||(!q)) with l | l
 refine lb ?_
 exact qj tI
 refine aP ?_
 rcases bo k1.data with g | g
 refine bG ?_
 refine lW (eE g) (vz (.agg [(sc A4 b.Dims D4),(sc A6 b.Data D6)].toArray) (aW gO dT R R)) (lM _ (fun w s=>(((s.d 3 R).d 6 R).e 2 [1,0])) ?_)
 refine bY 2 R (eE g) ze R (Z2k_ok (t1:=(⟨b.Dims,b.Data⟩:Tensor)) (bN u (wy (cS l) g))) R ?_
 rintro _
 refine lN D ?_
 refine bG ?_
 exact qj tI
 refine cU ?_
 exact qj tI
 rintro σ1
 refine bT ?_
 split at j
 refine cX ?_
 cases j
 exact jO (none,0,0) (fun w s=>((s.nilr kT3).e 8 [0]))
 refine iK ?_
 cases j
 exact jO (A4,b.Dims.length,D4) (tE 7 [3])
theorem Z22_ok  {k1:pairKind}{g:Node}{b:(List (List Int))}{r:(List Int)×Bool}(j:Z22 k1 g b=some r) :
 FnOk Tryz.prog 197 [(.agg [(iv k1.op)].toArray),(.agg [(iv g.Op),(.slice A3 N3 D3),(.slice A4 N4 D4),(.slice A5 N5 D5),(aD g.Form),(.slice A6 N6 D6)].toArray),(.slice A8 N8 D8)] [aO kT3 (.slice A3 N3 D3) g.Args,aO kT3 (.slice A4 N4 D4) g.Dims,aO kT3 (.slice A5 N5 D5) g.Ints,aO kT3 (.slice A6 N6 D6) g.Data,aO bL (.slice A8 N8 D8) b] (fun (h:HH)=>((.tuple [(s3 h),(.bool r.2)].toArray),[aO kT3 (s3 h) r.1])):=by
 unfold Z22 at j
 refine aQ Tryz.func197 R 24 R R fun C V=>?_
 refine cL 0 aA ?_
 rintro rfl
 refine cL 1 aA ?_
 rintro rfl
 refine cL 2 aA ?_
 rintro rfl
 refine cL 3 aA ?_
 rintro rfl
 refine cL 4 aA ?_
 rintro rfl
 let G:=RR kT3 A3 D3 g.Args::RR kT3 A4 D4 g.Dims::RR kT3 A5 D5 g.Ints::RR kT3 A6 D6 g.Data::RR bL A8 D8 b::V
 refine cN G ?_
 refine aV ?_
 refine eB R fun J=>?_
 refine eB R fun u=>?_
 refine aP ?_
 let I:=aJ u [(iv g.Op),(sc A3 g.Args D3),(sc A4 g.Dims D4),(sc A5 g.Ints D5),(aD g.Form),(sc A6 g.Data D6)] 54::aJ J [(iv k1.op)] 138::G
 refine qN I ?_
 refine aP ?_
 obtain ⟨i,j⟩:=gd j
 obtain ⟨l,j⟩:=gd j
 obtain ⟨E,q,j⟩:=bd j
 refine cQ [(2,(sc A8 b D8)),(20,(.bool (((b.length:Int) != 2)||(!E))))] (I) ?_ ?_
 rcases bo ((b.length:Int) != 2) with a | a
 refine dG 13 [] bP fun L U=>?_
 refine mu 0 [] ?_
 refine dD ?_
 exact qj tI
 refine aZ 6 aA (show 0<b.length by have:=(i a); omega) (fun T o13 B=>?_)
 subst B
 refine dL (K:=bL) 6 (0:Int) dT23.dec R (i a).1 (i a).2 ?_
 rintro ⟨A14,D14⟩
 refine dL (K:=bL) 8 (1:Int) dT23.dec R (l a).1 (l a).2 ?_
 rintro ⟨O,M⟩
 refine dG 13 [] bP fun L U=>?_
 refine kr 0 [] ?_
 refine dW 5 R (b' a) (eI kt fU R R (i a)) (dW 6 R (b' a) (eH (fo:=0) 2 cO R R R) (dW 7 R (b' a) (vS R) (dW 8 R (b' a) (eI kt fU R R (l a)) (dW 9 R (b' a) (eH (fo:=0) 0 cO R R R) (d1 10 R (lM _ (fun w s=>(((s.d 3 R).d 2 R).e 6 [1,0,2,3,4,5])) ?_))))))
 refine bY 2 R (b' a) zf R (Z11_ok (bN q (cS a))) R ?_
 rintro _
 refine aC (aG (sL []) ?_)
 refine gT 11 [] ?_
 refine dD ?_
 exact qj (tE 4 [])
 rintro σ1
 refine bT ?_
 split at j
 refine cX ?_
 cases j
 exact jO (none,0,0) (fun w s=>((s.nilr kT3).e 8 [0]))
 refine bG ?_
 obtain ⟨m,j⟩:=gd j
 refine aV ?_
 refine bC 6 aA (show 0<b.length by have:=m; omega) (fun Y o23 B=>?_)
 subst B
 refine bT ?_
 refine gS (K:=bL) 6 (0:Int) dT23.dec R m.1 m.2 ?_
 rintro ⟨D,F⟩
 refine lO (eH (fo:=0) 0 cO R R R) ?_
 refine cA ?_
 cases j
 exact jO (D,(ix b 0).length,F) (tE 9 [1])
theorem Z2t_ok  {k1:soloKind}{b:Node}{a:(List (List Int))}{r:(List Int)×Bool}(i:Z2t k1 b a=some r) :
 FnOk Tryz.prog 200 [(.agg [(iv k1.op)].toArray),(.agg [(iv b.Op),(.slice A3 N3 D3),(.slice A4 N4 D4),(.slice A5 N5 D5),(aD b.Form),(.slice A6 N6 D6)].toArray),(.slice A8 N8 D8)] [aO kT3 (.slice A3 N3 D3) b.Args,aO kT3 (.slice A4 N4 D4) b.Dims,aO kT3 (.slice A5 N5 D5) b.Ints,aO kT3 (.slice A6 N6 D6) b.Data,aO bL (.slice A8 N8 D8) a] (fun (h:HH)=>((.tuple [(s3 h),(.bool r.2)].toArray),[aO kT3 (s3 h) r.1])):=by
 unfold Z2t at i
 refine aQ Tryz.func200 R 14 R R fun C V=>?_
 refine cL 0 aA ?_
 rintro rfl
 refine cL 1 aA ?_
 rintro rfl
 refine cL 2 aA ?_
 rintro rfl
 refine cL 3 aA ?_
 rintro rfl
 refine cL 4 aA ?_
 rintro rfl
 let q:=RR kT3 A3 D3 b.Args::RR kT3 A4 D4 b.Dims::RR kT3 A5 D5 b.Ints::RR kT3 A6 D6 b.Data::RR bL A8 D8 a::V
 refine cN q ?_
 refine aV ?_
 refine eB R fun B=>?_
 refine eB R fun j=>?_
 refine aP ?_
 let E:=aJ j [(iv b.Op),(sc A3 b.Args D3),(sc A4 b.Dims D4),(sc A5 b.Ints D5),(aD b.Form),(sc A6 b.Data D6)] 54::aJ B [(iv k1.op)] 139::q
 refine qN E ?_
 refine cX ?_
 split at i
 refine cX ?_
 cases i
 exact jO (none,0,0) (fun w s=>((s.nilr kT3).e 8 [0]))
 refine bG ?_
 obtain ⟨g,i⟩:=gd i
 refine aV ?_
 refine bC 6 aA (show 0<a.length by have:=g; omega) (fun D o14 u=>?_)
 subst u
 refine bT ?_
 refine gS (K:=bL) 6 (0:Int) dT23.dec R g.1 g.2 ?_
 rintro ⟨m,l⟩
 refine lO (eH (fo:=0) 0 cO R R R) ?_
 refine cA ?_
 cases i
 exact jO (m,(ix a 0).length,l) (tE 9 [1])
theorem Zk_ok  {b:(List Int)}{a:Int}{r:Bool}(i:Zk b a=some r) :
 FnOk Tryz.prog 150 [(.slice A2 N2 D2),(iv a)] [aO kT3 (.slice A2 N2 D2) b] (fun (h:Unit)=>((.bool r),[])):=by
 unfold Zk at i
 refine aQ Tryz.func150 R 13 R R fun C V=>?_
 refine cL 0 aA ?_
 rintro rfl
 let g:=RR kT3 A2 D2 b::V
 refine cN g ?_
 refine bV ?_
 refine cQ [(4,(.bool ((decide (a≥0))&&(decide (a<(b.length:Int))))))] (g) ?_ ?_
 refine bG ?_
 rcases bo (decide (a≥0)) with e | e
 refine dN ?_
 exact qj tI
 refine dN ?_
 exact qj tI
 rintro σ1
 refine aV ?_
 cases i
 exact qF () (tE 1 [])
theorem Z1w_ok  {k1:topKind}{g:Node}{b:(List (List Int))}{r:(List Int)×Bool}(j:Z1w k1 g b=some r) :
 FnOk Tryz.prog 202 [(.agg [].toArray),(.agg [(iv g.Op),(.slice A3 N3 D3),(.slice A4 N4 D4),(.slice A5 N5 D5),(aD g.Form),(.slice A6 N6 D6)].toArray),(.slice A8 N8 D8)] [aO kT3 (.slice A3 N3 D3) g.Args,aO kT3 (.slice A4 N4 D4) g.Dims,aO kT3 (.slice A5 N5 D5) g.Ints,aO kT3 (.slice A6 N6 D6) g.Data,aO bL (.slice A8 N8 D8) b] (fun (h:HH)=>((.tuple [(s3 h),(.bool r.2)].toArray),[aO kT3 (s3 h) r.1])):=by
 unfold Z1w at j
 refine aQ Tryz.func202 R 31 R R fun C V=>?_
 refine cL 0 aA ?_
 rintro rfl
 refine cL 1 aA ?_
 rintro rfl
 refine cL 2 aA ?_
 rintro rfl
 refine cL 3 aA ?_
 rintro rfl
 refine cL 4 aA ?_
 rintro rfl
 let I:=RR kT3 A3 D3 g.Args::RR kT3 A4 D4 g.Dims::RR kT3 A5 D5 g.Ints::RR kT3 A6 D6 g.Data::RR bL A8 D8 b::V
 refine cN I ?_
 refine aV ?_
 refine eB R fun T=>?_
 refine eB R fun D=>?_
 refine aP ?_
 let L:=aJ D [(iv g.Op),(sc A3 g.Args D3),(sc A4 g.Dims D4),(sc A5 g.Ints D5),(aD g.Form),(sc A6 g.Data D6)] 54::aJ T [] 141::I
 refine qN L ?_
 refine aP ?_
 obtain ⟨i,j⟩:=gd j
 obtain ⟨l,j⟩:=gd j
 obtain ⟨G,u,j⟩:=bd j
 refine cQ [(2,(sc A8 b D8)),(27,(.bool ((((b.length:Int) != 1)||((g.Ints.length:Int) != 1))||(!G))))] (L) ?_ ?_
 rcases bo ((b.length:Int) != 1) with B | B
 refine dG 20 [] bP fun J M=>?_
 refine sv 0 [] ?_
 refine dD ?_
 exact qj tI
 rcases bo (((b.length:Int) != 1)||((g.Ints.length:Int) != 1)) with a | a
 refine dG 20 [] bP fun J M=>?_
 refine sv 0 [] ?_
 refine dD ?_
 exact qj tI
 refine aZ 6 aA (show 0<b.length by have:=(i a); omega) (fun Y o13 q=>?_)
 subst q
 refine dL (K:=bL) 6 (0:Int) dT23.dec R (i a).1 (i a).2 ?_
 rintro ⟨A14,D14⟩
 refine aZ 6 aA (show 0<g.Ints.length by have:=(l a); omega) (fun O o17 q=>?_)
 subst q
 refine dG 20 [] bP fun J M=>?_
 refine pj 0 [] ?_
 refine dW 11 R (b' a) (eI kt fU R R (i a)) (dW 12 R (b' a) (eH (fo:=0) 0 cO R R R) ?_)
 refine gT 13 [] ?_
 refine dW 15 R (b' a) (eI bK cC R R (l a)) (dW 16 R (b' a) (gP 6 fP aA R (l a)) (d1 17 R (lM _ (fun w s=>(s.d 1 R)) ?_)))
 refine bY 1 R (b' a) gQ R (Zk_ok (bN u (cS a))) R ?_
 rintro _
 refine aC (aG (sL []) ?_)
 refine gT 18 [] ?_
 refine dD ?_
 exact qj (tE 2 [])
 rintro σ1
 refine bT ?_
 split at j
 refine cX ?_
 cases j
 exact jO (none,0,0) (fun w s=>((s.nilr kT3).e 8 [0]))
 refine bG ?_
 obtain ⟨m,j⟩:=gd j
 refine aV ?_
 refine bC 6 aA (show 0<b.length by have:=m; omega) (fun U o25 q=>?_)
 subst q
 refine bT ?_
 refine gS (K:=bL) 6 (0:Int) dT23.dec R m.1 m.2 ?_
 rintro ⟨E,F⟩
 refine lO (eH (fo:=0) 0 cO R R R) ?_
 refine cA ?_
 cases j
 exact jO (E,(ix b 0).length,F) (tE 9 [1])
theorem Zd_ok  {M:aN}{mG:Int}{r:(List aN)×aN×Bool}(i:Zd M=some r) :
 FnOk Tryz.prog 207 [(aD M)] [gl 0 mG] (fun (h:HH)=>((.tuple [(s3 h),(aD r.2.1),(.bool r.2.2)].toArray),[aO dQ (s3 h) r.1])):=by
 unfold Zd at i
 refine aQ Tryz.func207 R 93 R R fun C V=>?_
 let U:=gl 0 mG::V
 refine cN U ?_
 refine aP ?_
 refine lO (vp (aD ([]:aN)) R) ?_
 refine bG ?_
 obtain ⟨b,al,i⟩:=bd i
 refine aE (lO (vp (aD M) R) (lM _ (fun w s=>(s.dg 0 R)) ?_))
 refine lC 1 zh R (Z2z_ok al) R ?_
 rintro _
 refine lN U ?_
 refine lO (vT R) (lO (vp (aD b.1) R) (lO (vp (aD b.2.1) R) (lB R (lO (vp (aD b.1) R) (lO (vp (aD b.2.1) R) ?_)))))
 refine cA ?_
 refine cQ [(5,(aD b.1)),(6,(aD b.2.1)),(25,(.bool ((!b.2.2)||(decide ((b.2.1.length:Int)>6)))))] (U) ?_ ?_
 refine bG ?_
 rcases bo (!b.2.2) with a0 | a0
 refine cA ?_
 exact qj tI
 refine lW (b' a0) (vp (aD b.2.1) R) (lW (b' a0) (vz (il b.2.1) (dM fJ R)) ?_)
 refine aP ?_
 exact qj tI
 rintro σ1
 refine bT ?_
 split at i
 refine bG ?_
 refine lO (vp (aD ([]:aN)) R) ?_
 refine cA ?_
 cases i
 exact iu (none,0,0) (fun w s=>((s.nilr dQ).e 2 [0]))
 refine bG ?_
 obtain ⟨m,am,i⟩:=bd i
 refine aE (lO (vp (aD b.1) R) (lM _ (fun w s=>(s.dg 0 R)) ?_))
 refine lC 1 zl R (Z30_ok am) R ?_
 rintro ⟨A8,N8,D8⟩
 refine aL 0 aA ?_
 rintro rfl
 refine iB ?_
 split at i
 refine bG ?_
 refine lO (vp (aD ([]:aN)) R) ?_
 refine cA ?_
 cases i
 exact iu (none,0,0) (fun w s=>((s.nilr dQ).e 3 [0]))
 refine bG ?_
 refine bB (A:=(Unit)×(HH)) (fun a=>Zd_J3 b m=some r) (fun a=>[(5,(aD b.1)),(6,(aD b.2.1)),(8,(s3 a.2))]) (fun a=>aO dQ (s3 a.2) m::U) ?_ ?_
 refine cZ ?_
 obtain ⟨e1,ag,a1⟩:=bd i
 refine bD (A:=HH) ag (fun s a=>[(5,(aD b.1)),(6,(aD b.2.1)),(8,(s3 a)),(31,(s3 a)),(32,(il m)),(33,(iv s))]) (fun s a=>aO dQ (s3 a) m::U) (A8,m.length,D8) (aS R) tI ?_
 rintro q ⟨ac,aa,F⟩ σ1 a4 i a2
 dsimp only [Zd_L1] at i
 refine bH 0 aA (fun (Y:aa=m.length)=>?_)
 subst Y
 refine bV ?_
 split at i
 refine bG ?_
 refine bB (A:=(Unit)×(HH)) (fun a=>Zd_J2 q=some a4) (fun a=>[(5,(aD b.1)),(6,(aD b.2.1)),(8,(s3 a.2)),(31,(s3 a.2)),(32,(il m)),(33,(iv q))]) (fun a=>aO dQ (s3 a.2) m::U) ?_ ?_
 refine aV ?_
 obtain ⟨T,i⟩:=gd i
 refine aE (bC 0 aA (show 0<m.length by have:=T; omega) (fun J o31 ha=>?_))
 subst ha
 refine bT ?_
 refine lO (vz (aD (ix m q)) (hW (K:=dQ) (fo:=0) (pr:=fun x=>(aD x)) 0 q re (dT9.leaf fun _ _=>R) aA R T.1 T.2)) (lO (vp (aD (ix m q)) R) ?_)
 refine cA ?_
 refine lO (vp (aD (ix m q)) R) (lO (vz (il (ix m q)) (dM fJ R)) ?_)
 refine aP ?_
 split at i
 refine bG ?_
 refine lO (vp (aD ([]:aN)) R) ?_
 refine dN ?_
 cases i
 obtain rfl:=a2 _ R
 have i:=a1
 refine aP ?_
 cases i
 exact iu (none,0,0) (fun w s=>((s.nilr dQ).e 3 [0]))
 refine cX ?_
 obtain ⟨e2,aj,a7⟩:=bd i
 refine bD (A:=Unit) aj (fun s a=>[(5,(aD b.1)),(6,(aD b.2.1)),(8,(sc (ad J o31) m F)),(10,(aD (ix m q))),(11,(iv s)),(31,(sc (ad J o31) m F)),(32,(il m)),(33,(iv q))]) (fun s a=>RR dQ (ad J o31) F m::U) () (aS R) tI ?_
 rintro E _ σ1 ao i a8
 dsimp only [Zd_L2] at i
 refine bG ?_
 refine lO (vp (aD (ix m q)) R) (lO (vz (il (ix m q)) (dM fJ R)) ?_)
 refine aP ?_
 split at i
 refine bV ?_
 obtain ⟨O,i⟩:=gd i
 refine cQ [(5,(aD b.1)),(6,(aD b.2.1)),(8,(sc (ad J o31) m F)),(10,(aD (ix m q))),(11,(iv E)),(31,(sc (ad J o31) m F)),(32,(il m)),(33,(iv q)),(55,(.bool ((decide ((bt (ix m q) E)<97))||(decide ((bt (ix m q) E)>122)))))] (RR dQ (ad J o31) F m::U) ?_ ?_
 refine aE (lO (vp (aD (ix m q)) R) (lI R (lO (vz (.int .u8 (bt (ix m q) E)) (cI fJ R R O.1 O.2)) (lO (vp (.bool (decide ((bt (ix m q) E)<97))) R) (lB R ?_)))))
 rcases bo (decide ((bt (ix m q) E)<97)) with G | G
 refine bV ?_
 exact qj tI
 refine lW (b' G) (vp (aD (ix m q)) R) (lW (b' G) (vI R) (lW (b' G) (vz (.int .u8 (bt (ix m q) E)) (cI fJ R R O.1 O.2)) (lW (b' G) (vp (.bool (decide ((bt (ix m q) E)>122))) R) ?_)))
 refine aV ?_
 exact qj tI
 rintro σ1
 refine bT ?_
 split at i
 refine bG ?_
 refine lO (vp (aD ([]:aN)) R) ?_
 refine bV ?_
 cases i
 obtain rfl:=a8 _ R
 have i:=a7
 refine bG ?_
 cases i
 obtain rfl:=a2 _ R
 have i:=a1
 refine aP ?_
 cases i
 exact iu (none,0,0) (fun w s=>((s.nilr dQ).e 3 [0]))
 refine cX ?_
 cases i
 exact qA () tI
 refine aP ?_
 cases i
 obtain rfl:=a8 _ R
 have i:=a7
 refine aP ?_
 exact qI ((),((ad J o31),m.length,F)) i tI
 rintro ⟨_,⟨ab,ak,an⟩⟩ σ1 i
 dsimp only [Zd_J2] at i
 refine bH 0 aA (fun (Y:ak=m.length)=>?_)
 subst Y
 refine bG ?_
 cases i
 exact qA (ab,m.length,an) tI
 refine aP ?_
 cases i
 obtain rfl:=a2 _ R
 have i:=a1
 refine aV ?_
 exact qI ((),(ac,m.length,F)) i tI
 rintro ⟨_,⟨I,ah,L⟩⟩ σ1 i
 dsimp only [Zd_J3] at i
 refine bH 0 aA (fun (Y:ah=m.length)=>?_)
 subst Y
 refine aM (bB (A:=(Unit)×(Unit)) (fun a=>Zd_J4 b m=some r) (fun a=>[(6,(aD b.2.1)),(8,(sc I m L))]) (fun a=>RR dQ I L m::U) ?_ ?_)
 refine bV ?_
 obtain ⟨e3,ai,a6⟩:=bd i
 refine bD (A:=Unit) ai (fun s a=>[(5,(aD b.1)),(6,(aD b.2.1)),(8,(sc I m L)),(12,(iv s))]) (fun s a=>RR dQ I L m::U) () (aS R) tI ?_
 rintro l _ σ1 ap i a3
 dsimp only [Zd_L3] at i
 refine bG ?_
 refine lO (vp (aD b.2.1) R) (lO (vz (il b.2.1) (dM fJ R)) ?_)
 refine aP ?_
 split at i
 refine bV ?_
 obtain ⟨j,i⟩:=gd i
 obtain ⟨D,i⟩:=gd i
 obtain ⟨a5,Z,i⟩:=bd i
 obtain ⟨ae,a9,i⟩:=bd i
 refine cQ [(5,(aD b.1)),(6,(aD b.2.1)),(8,(sc I m L)),(12,(iv l)),(90,(.bool ((((decide ((bt b.2.1 l)<97))||(decide ((bt b.2.1 l)>122)))||(decide (a5≥0)))||(decide (ae<0)))))] (RR dQ I L m::U) ?_ ?_
 rcases bo (decide ((bt b.2.1 l)<97)) with u | u
 refine dG 28 [] bP fun ht Y=>?_
 refine dR 0 R (vp (aD b.2.1) R) (dR 1 R (vI R) (dR 2 R (vz (.int .u8 (bt b.2.1 l)) (cI fJ R R j.1 j.2)) (dR 3 R (vp (.bool (decide ((bt b.2.1 l)<97))) R) ?_)))
 refine AM 4 [] ?_
 refine dD ?_
 exact qj tI
 rcases bo ((decide ((bt b.2.1 l)<97))||(decide ((bt b.2.1 l)>122))) with g | g
 refine dG 28 [] bP fun ht Y=>?_
 refine dR 0 R (vp (aD b.2.1) R) (dR 1 R (vI R) (dR 2 R (vz (.int .u8 (bt b.2.1 l)) (cI fJ R R j.1 j.2)) (dR 3 R (vp (.bool (decide ((bt b.2.1 l)<97))) R) (dR 4 R (vB R) (dW 5 R (b' u) (vp (aD b.2.1) R) (dW 6 R (b' u) (vI R) (dW 7 R (b' u) (vz (.int .u8 (bt b.2.1 l)) (cI fJ R R j.1 j.2)) (dW 8 R (b' u) (vp (.bool (decide ((bt b.2.1 l)>122))) R) ?_))))))))
 refine yz 9 [] ?_
 refine dD ?_
 exact qj tI
 rcases bo (((decide ((bt b.2.1 l)<97))||(decide ((bt b.2.1 l)>122)))||(decide (a5≥0))) with B | B
 refine dG 28 [] bP fun ht Y=>?_
 refine dR 0 R (vp (aD b.2.1) R) (dR 1 R (vI R) (dR 2 R (vz (.int .u8 (bt b.2.1 l)) (cI fJ R R j.1 j.2)) (dR 3 R (vp (.bool (decide ((bt b.2.1 l)<97))) R) (dR 4 R (vB R) (dW 5 R (b' u) (vp (aD b.2.1) R) (dW 6 R (b' u) (vI R) (dW 7 R (b' u) (vz (.int .u8 (bt b.2.1 l)) (cI fJ R R j.1 j.2)) (dW 8 R (b' u) (vp (.bool (decide ((bt b.2.1 l)>122))) R) ?_))))))))
 refine gT 9 [] ?_
 refine dW 11 R (b' g) (vp (aD b.2.1) R) (dW 12 R (b' g) (vI R) (dW 13 R (b' g) (vz (aD (sub b.2.1 (0:Int) l)) (hO (0:Int) l fJ R R R (D g).1 (D g).2.1 (D g).2.2)) (dW 14 R (b' g) (vp (aD b.2.1) R) (dW 15 R (b' g) (vI R) (dW 16 R (b' g) (vz (.int .u8 (bt b.2.1 l)) (cI fJ R R j.1 j.2)) (d1 17 R (bY 0 R (b' g) qn R (Z1t_ok (bN Z (cS g))) R ?_)))))))
 rintro _
 refine aC (aG (sL []) ?_)
 refine ra 18 [] ?_
 refine dD ?_
 exact qj tI
 refine dG 28 [] bP fun ht Y=>?_
 refine dR 0 R (vp (aD b.2.1) R) (dR 1 R (vI R) (dR 2 R (vz (.int .u8 (bt b.2.1 l)) (cI fJ R R j.1 j.2)) (dR 3 R (vp (.bool (decide ((bt b.2.1 l)<97))) R) (dR 4 R (vB R) (dW 5 R (b' u) (vp (aD b.2.1) R) (dW 6 R (b' u) (vI R) (dW 7 R (b' u) (vz (.int .u8 (bt b.2.1 l)) (cI fJ R R j.1 j.2)) (dW 8 R (b' u) (vp (.bool (decide ((bt b.2.1 l)>122))) R) ?_))))))))
 refine gT 9 [] ?_
 refine dW 11 R (b' g) (vp (aD b.2.1) R) (dW 12 R (b' g) (vI R) (dW 13 R (b' g) (vz (aD (sub b.2.1 (0:Int) l)) (hO (0:Int) l fJ R R R (D g).1 (D g).2.1 (D g).2.2)) (dW 14 R (b' g) (vp (aD b.2.1) R) (dW 15 R (b' g) (vI R) (dW 16 R (b' g) (vz (.int .u8 (bt b.2.1 l)) (cI fJ R R j.1 j.2)) (d1 17 R (bY 0 R (b' g) qn R (Z1t_ok (bN Z (cS g))) R ?_)))))))
 rintro _
 refine aC (aG (sL []) ?_)
 refine iw 18 [] ?_
 refine dW 21 R (b' B) (vp (aD b.1) R) (dW 22 R (b' B) (vp (aD b.2.1) R) (dW 23 R (b' B) (vI R) (dW 24 R (b' B) (vz (.int .u8 (bt b.2.1 l)) (cI fJ R R j.1 j.2)) (d1 25 R (bY 0 R (b' B) qn R (Z1t_ok (bN a9 (cS B))) R ?_)))))
 rintro _
 refine aC (aG (sL []) ?_)
 refine gT 26 [] ?_
 refine dD ?_
 exact qj tI
 rintro σ1
 refine bT ?_
 split at i
 refine bG ?_
 refine lO (vp (aD ([]:aN)) R) ?_
 refine bV ?_
 cases i
 obtain rfl:=a3 _ R
 have i:=a6
 refine aP ?_
 cases i
 exact iu (none,0,0) (fun w s=>((s.nilr dQ).e 3 [0]))
 refine cX ?_
 cases i
 exact qA () tI
 refine aP ?_
 cases i
 obtain rfl:=a3 _ R
 have i:=a6
 refine aV ?_
 exact qI ((),()) i tI
 rintro ⟨_,_⟩ σ1 i
 dsimp only [Zd_J4] at i
 refine aP ?_
 refine lO (vp (aD b.2.1) R) (lS R (lO (vp (aD b.2.1) R) ?_))
 refine bG ?_
 cases i
 exact iu (I,m.length,L) (tE 2 [0])
theorem Z06_ok  {b:(List Int)}{r:(List Int)}(e:Z06 b=some r) :
 FnOk Tryz.prog 164 [(.slice A2 N2 D2)] [aO kT3 (.slice A2 N2 D2) b] (fun (h:HH)=>((s3 h),[ow kT3 3 (s3 h) r])):=by
 unfold Z06 at e
 refine aQ Tryz.func164 R 32 R R fun C V=>?_
 refine cL 0 aA ?_
 rintro rfl
 let F:=RR kT3 A2 D2 b::V
 refine cN F ?_
 refine bV ?_
 obtain ⟨q,e⟩:=gd e
 refine aP ?_
 refine fD (K:=kT3) (m:=(b.length:Int)) (z:=(0:Int)) R R bK cC kl (Zr.zk zT3 gF) (by decide) R R q.1 q.2.1 q.2.2 (fun A4 D4=>(lS R (aC (aI (aM (aE (lI R (aC (aI (aM (bB (A:=((List Int))×(Unit)) (fun a=>Z06_J3 a.1=some r) (fun a=>[(3,(sc A4 (List.replicate (b.length:Int).toNat (0:Int)) D4))]) (fun a=>ow kT3 3 (.slice A4 (List.replicate (b.length:Int).toNat (0:Int)).length D4) a.1::F) ?_ ?_)))))))))))
 refine cX ?_
 obtain ⟨Z,G,J⟩:=bd e
 refine bD (A:=Unit) G (fun s a=>[(0,(sc A2 b D2)),(3,(sc A4 (List.replicate (b.length:Int).toNat (0:Int)) D4)),(4,(iv s.2.1)),(5,(iv s.2.2))]) (fun s a=>ow kT3 3 (.slice A4 (List.replicate (b.length:Int).toNat (0:Int)).length D4) s.1::F) () (aS R) tI ?_
 rintro ⟨l,i,j⟩ _ σ1 D e L
 dsimp only [Z06_L1] at e
 refine dN ?_
 split at e
 refine bV ?_
 refine bB (A:=((List Int))×(Unit)) (fun a=>Z06_J2 b i j a.1=some D) (fun a=>[(0,(sc A2 b D2)),(3,(sc A4 (List.replicate (b.length:Int).toNat (0:Int)) D4)),(4,(iv i)),(5,(iv j))]) (fun a=>ow kT3 3 (.slice A4 (List.replicate (b.length:Int).toNat (0:Int)).length D4) a.1::F) ?_ ?_
 refine bT ?_
 obtain ⟨E,e⟩:=gd e
 refine aP ?_
 refine bC 1 aA (show 0<b.length by have:=E; omega) (fun T o25 u=>?_)
 subst u
 refine cA ?_
 split at e
 refine bT ?_
 obtain ⟨g,e⟩:=gd e
 refine bG ?_
 refine bC 0 aB (show 0<(List.replicate (b.length:Int).toNat (0:Int)).length by have:=g; omega) (fun U o29 u=>?_)
 subst u
 refine bT ?_
 refine dV (K:=kT3) (x':=i) 0 j R R cC R R g.1 g.2 ?_ ?_
 exact fun I h s=>(gD).put I h () i s
 refine bT ?_
 exact qI ((l.set j.toNat i),()) e tI
 refine aV ?_
 exact qI (l,()) e tI
 rintro ⟨O,_⟩ σ1 e
 dsimp only [Z06_J2] at e
 obtain ⟨B,e⟩:=gd e
 refine bG ?_
 refine bC 1 aA (show 0<b.length by have:=B; omega) (fun M o33 u=>?_)
 subst u
 refine iK ?_
 cases e
 exact qA () tI
 refine aP ?_
 cases e
 obtain rfl:=L _ R
 have e:=J
 refine aV ?_
 exact qI (l,()) e tI
 rintro ⟨Y,_⟩ σ1 e
 dsimp only [Z06_J3] at e
 refine dN ?_
 cases e
 exact qF (A4,(List.replicate (b.length:Int).toNat (0:Int)).length,D4) (tE 2 [0])
theorem Zj_ok  {f1:form}{e:aN}{b:(List Int)}{r:(List Int)}(g:Zj f1 e b=some r) :
 FnOk Tryz.prog 209 [(.agg [(.slice A2 N2 D2),(aD f1.out_),(aD f1.order),(.slice A3 N3 D3),(.slice A4 N4 D4),(.slice A5 N5 D5),(.slice A6 N6 D6)].toArray),(aD e),(.slice A9 N9 D9)] [aO dQ (.slice A2 N2 D2) f1.groups,aO kT3 (.slice A3 N3 D3) f1.loops,aO kT3 (.slice A4 N4 D4) f1.dims,aO bL (.slice A5 N5 D5) f1.steps,aO kT3 (.slice A6 N6 D6) f1.store,aO kT3 (.slice A9 N9 D9) b] (fun (h:HH)=>((s3 h),[ow kT3 3 (s3 h) r])):=by
 unfold Zj at g
 refine aQ Tryz.func209 R 45 R R fun C V=>?_
 refine cL 0 aA ?_
 rintro rfl
 refine cL 1 aA ?_
 rintro rfl
 refine cL 2 aA ?_
 rintro rfl
 refine cL 3 aA ?_
 rintro rfl
 refine cL 4 aA ?_
 rintro rfl
 refine cL 5 aA ?_
 rintro rfl
 let W0:=RR dQ A2 D2 f1.groups::RR kT3 A3 D3 f1.loops::RR kT3 A4 D4 f1.dims::RR bL A5 D5 f1.steps::RR kT3 A6 D6 f1.store::RR kT3 A9 D9 b::V
 refine cN W0 ?_
 refine aV ?_
 refine eB R fun u=>?_
 refine aV ?_
 let F:=aJ u [(sc A2 f1.groups D2),(aD f1.out_),(aD f1.order),(sc A3 f1.loops D3),(sc A4 f1.dims D4),(sc A5 f1.steps D5),(sc A6 f1.store D6)] 192::W0
 refine qN F ?_
 refine aV ?_
 obtain ⟨B,g⟩:=gd g
 refine aP ?_
 refine lO (vz (il f1.order) (dM fJ R)) (fD (K:=kT3) (m:=(f1.order.length:Int)) (z:=(0:Int)) R R bK cC kl (Zr.zk zT3 gF) (by decide) R R B.1 B.2.1 B.2.2 (fun A12 D12=>(lS R (aC (aI (aM (bB (A:=((List Int))×(Unit)) (fun a=>Zj_J7 a.1=some r) (fun a=>[(7,(sc A12 (List.replicate (f1.order.length:Int).toNat (0:Int)) D12))]) (fun a=>ow kT3 3 (.slice A12 (List.replicate (f1.order.length:Int).toNat (0:Int)).length D12) a.1::F) ?_ ?_)))))))
 refine cZ ?_
 obtain ⟨e1,T,U⟩:=bd g
 refine bD (A:=Unit) T (fun s a=>[(1,(aD e)),(2,(sc A9 b D9)),(3,(pt u 0)),(7,(sc A12 (List.replicate (f1.order.length:Int).toNat (0:Int)) D12)),(15,(il (List.replicate (f1.order.length:Int).toNat (0:Int)))),(16,(iv s.2))]) (fun s a=>ow kT3 3 (.slice A12 (List.replicate (f1.order.length:Int).toNat (0:Int)).length D12) s.1::F) () (aS R) tI ?_
 rintro ⟨O,i⟩ _ σ1 G g Y
 dsimp only [Zj_L1] at g
 refine bV ?_
 split at g
 refine bG ?_
 refine bB (A:=((List Int))×(Unit)) (fun a=>Zj_J6 i a.1=some G) (fun a=>[(1,(aD e)),(2,(sc A9 b D9)),(3,(pt u 0)),(7,(sc A12 (List.replicate (f1.order.length:Int).toNat (0:Int)) D12)),(15,(il (List.replicate (f1.order.length:Int).toNat (0:Int)))),(16,(iv i))]) (fun a=>ow kT3 3 (.slice A12 (List.replicate (f1.order.length:Int).toNat (0:Int)).length D12) a.1::F) ?_ ?_
 refine lb ?_
 obtain ⟨e2,Z,a1⟩:=bd g
 refine bD (A:=Unit) Z (fun s a=>[(1,(aD e)),(2,(sc A9 b D9)),(3,(pt u 0)),(7,(sc A12 (List.replicate (f1.order.length:Int).toNat (0:Int)) D12)),(8,(iv i)),(9,(iv s.2)),(15,(il (List.replicate (f1.order.length:Int).toNat (0:Int)))),(16,(iv i))]) (fun s a=>ow kT3 3 (.slice A12 (List.replicate (f1.order.length:Int).toNat (0:Int)).length D12) s.1::F) () (aS R) tI ?_
 rintro ⟨j,l⟩ _ σ1 J g a2
 dsimp only [Zj_L2] at g
 refine bG ?_
 refine lO (vp (aD e) R) (lO (vz (il e) (dM fJ R)) ?_)
 refine aP ?_
 split at g
 refine bG ?_
 refine bB (A:=((List Int))×(Unit)) (fun a=>Zj_J5 l a.1=some J) (fun a=>[(1,(aD e)),(2,(sc A9 b D9)),(3,(pt u 0)),(7,(sc A12 (List.replicate (f1.order.length:Int).toNat (0:Int)) D12)),(8,(iv i)),(9,(iv l)),(15,(il (List.replicate (f1.order.length:Int).toNat (0:Int)))),(16,(iv i))]) (fun a=>ow kT3 3 (.slice A12 (List.replicate (f1.order.length:Int).toNat (0:Int)).length D12) a.1::F) ?_ ?_
 refine aV ?_
 obtain ⟨E,g⟩:=gd g
 obtain ⟨D,g⟩:=gd g
 refine dG 8 [] bP fun ht hn=>?_
 refine dR 0 R (vp (aD e) R) (dR 1 R (vI R) (dR 2 R (vz (.int .u8 (bt e l)) (cI fJ R R E.1 E.2)) ?_))
 refine iw 3 [] ?_
 refine dR 6 R (vz (.int .u8 (bt f1.order i)) (cI fJ R R D.1 D.2)) (dR 7 R (vp (.bool ((bt e l)==(bt f1.order i))) R) (dD (aI ?_)))
 split at g
 refine bT ?_
 obtain ⟨q,g⟩:=gd g
 obtain ⟨L,g⟩:=gd g
 refine aZ 0 aB (show 0<(List.replicate (f1.order.length:Int).toNat (0:Int)).length by have:=q; omega) (fun a0 o69 M=>?_)
 subst M
 refine aZ 7 aA (show 0<b.length by have:=L; omega) (fun a5 o72 M=>?_)
 subst M
 refine dG 11 [0] bP fun ht hn=>?_
 refine iw 0 [0] ?_
 refine oA 4 [0] ?_
 refine d1 3 R (lO (gP 0 fP aB R q) (aC (aG (sL [0]) ?_)))
 refine gT 8 [0] ?_
 refine d1 10 R (lN (ow kT3 3 (.slice (ad a0 o69) (List.replicate (f1.order.length:Int).toNat (0:Int)).length D12) j::F) ?_)
 refine dV (K:=kT3) (x':=(aH ((ix j i)+(ix b l)))) 0 i R R cC R R q.1 q.2 ?_ ?_
 exact fun I h s=>(gD).put I h () (aH ((ix j i)+(ix b l))) s
 refine aC (aG (sL [0]) (dD (dO ?_)))
 exact qI ((j.set i.toNat (aH ((ix j i)+(ix b l)))),()) g tI
 refine aP ?_
 exact qI (j,()) g tI
 rintro ⟨a4,_⟩ σ1 g
 dsimp only [Zj_J5] at g
 refine cA ?_
 cases g
 exact qA () tI
 refine aP ?_
 cases g
 obtain rfl:=a2 _ R
 have g:=a1
 refine aP ?_
 exact qI (j,()) g tI
 rintro ⟨a3,_⟩ σ1 g
 dsimp only [Zj_J6] at g
 refine bG ?_
 cases g
 exact qA () tI
 refine aP ?_
 cases g
 obtain rfl:=Y _ R
 have g:=U
 refine aV ?_
 exact qI (O,()) g tI
 rintro ⟨a6,_⟩ σ1 g
 dsimp only [Zj_J7] at g
 refine dN ?_
 cases g
 exact qF (A12,(List.replicate (f1.order.length:Int).toNat (0:Int)).length,D12) (tE 8 [0])
theorem Z3_ok  {ai:aN}{b:(List (List Int))}{mG:Int}{r:form×Bool}(i:Z3 ai b=some r) :
 FnOk Tryz.prog 206 [(aD ai),(.slice A3 N3 D3)] [aO bL (.slice A3 N3 D3) b,gl 0 mG] (fun (h:HH×HH×HH×HH×HH)=>((.tuple [(.agg [(s3 h.1),(aD r.1.out_),(aD r.1.order),(s3 h.2.1),(s3 h.2.2.1),(s3 h.2.2.2.1),(s3 h.2.2.2.2)].toArray),(.bool r.2)].toArray),[aO dQ (s3 h.1) r.1.groups,aO kT3 (s3 h.2.1) r.1.loops,ow kT3 3 (s3 h.2.2.1) r.1.dims,ow bL 23 (s3 h.2.2.2.1) r.1.steps,ow kT3 3 (s3 h.2.2.2.2) r.1.store])):=by
 unfold Z3 at i
 refine aQ Tryz.func206 R 179 R R fun C V=>?_
 refine cL 0 aA ?_
 rintro rfl
 let Z:=RR bL A3 D3 b::gl 0 mG::V
 refine cN Z ?_
 refine aV ?_
 refine bF R R kN (fun b4=>(lB R (aC (aI (aM ?_)))))
 obtain ⟨g,cv,i⟩:=bd i
 refine aE (lO (vp (aD ai) R) (lM (gl 0 mG::_::Z) (fun w s=>(s.dg 2 R)) ?_))
 refine lC 1 zn R (Zd_ok cv) R ?_
 rintro ⟨A7,N7,D7⟩
 refine aL 0 aA ?_
 rintro rfl
 refine lO (vT R) (lS R (lO (vp (aD g.2.1) R) (lB R (lS R (lO (vp (aD g.2.1) R) ?_)))))
 refine cA ?_
 refine cQ [(1,(sc A3 b D3)),(4,(pt b4 0)),(6,(sc A7 g.1 D7)),(7,(aD g.2.1)),(34,(.bool ((!g.2.2)||((g.1.length:Int) != (b.length:Int)))))] (aJ b4 [(.slice none 0 0),(aD ([]:aN)),(aD ([]:aN)),(.slice none 0 0),(.slice none 0 0),(.slice none 0 0),(.slice none 0 0)] 192::RR dQ A7 D7 g.1::Z) ?_ ?_
 refine bG ?_
 rcases bo (!g.2.2) with d5 | d5
 refine dN ?_
 exact qj (tE 2 [1,0])
 refine dN ?_
 exact qj (tE 2 [1,0])
 rintro σ1
 refine bT ?_
 split at i
 refine aP ?_
 refine lO (vz (.agg [(.slice none 0 0),(aD ([]:aN)),(aD ([]:aN)),(.slice none 0 0),(.slice none 0 0),(.slice none 0 0),(.slice none 0 0)].toArray) (aW nc kN R R)) (aK 0 R R iM R R R R R R (lB R (aC (aI (bW (cE ?_))))))
 cases i
 exact dI (vs:=[(.agg [(.slice none 0 0),(aD ([]:aN)),(aD ([]:aN)),(.slice none 0 0),(.slice none 0 0),(.slice none 0 0),(.slice none 0 0)].toArray),(.bool false)]) (.inl R) ((none,0,0),(none,0,0),(none,0,0),(none,0,0),(none,0,0)) R ⟨⟨0,b4,_,_,R,R,.inl ⟨mB,iM,R⟩⟩,R,trivial⟩ R (fun w s=>((((((s.nilr dQ).nilr kT3).nilo kT3 3).nilo bL 23).nilo kT3 3).e 9 [4,3,2,1,0]))
 refine bV ?_
 refine lO (vp (aD g.2.1) R) (lO (vp (aD g.2.1) R) (lO (vz (.agg [(sc A7 g.1 D7),(aD g.2.1),(aD g.2.1),(.slice none 0 0),(.slice none 0 0),(.slice none 0 0),(.slice none 0 0)].toArray) (aW nc kN R R)) (bF R R kN (fun J=>(aK 0 R R iM R R R R R R (lN (aJ J [(sc A7 g.1 D7),(aD g.2.1),(aD g.2.1),(.slice none 0 0),(.slice none 0 0),(.slice none 0 0),(.slice none 0 0)] 192::_::_::Z) ?_))))))
 refine bG ?_
 refine lO (vz (.agg [(iv 0),(iv 0),(iv 0),(iv 0),(iv 0),(iv 0),(iv 0),(iv 0),(iv 0),(iv 0),(iv 0),(iv 0),(iv 0),(iv 0),(iv 0),(iv 0),(iv 0),(iv 0),(iv 0),(iv 0),(iv 0),(iv 0),(iv 0),(iv 0),(iv 0),(iv 0)].toArray) (wC sI vX cC)) (bF R R vX (fun T=>(aK 0 R R vY R R R R R R (aC (qM (ow kT3 195 (.slice (ad T 0) 26 26) (List.replicate 26 (0:Int))::_::_::_::Z) (fun w s=>s.b2o 0 (List.replicate 26 (0:Int)) R R R R) ?_)))))
 refine aV ?_
 refine bB (A:=(aN×(List Int))×(HH×HH)) (fun a=>Z3_J7 b g a.1.1 a.1.2=some r) (fun a=>[(1,(s3 a.2.1)),(4,(pt b4 0)),(6,(s3 a.2.2)),(7,(aD g.2.1)),(9,(pt J 0)),(10,(pt T 0))]) (fun a=>aO bL (s3 a.2.1) b::aJ b4 [(.slice none 0 0),(aD ([]:aN)),(aD ([]:aN)),(.slice none 0 0),(.slice none 0 0),(.slice none 0 0),(.slice none 0 0)] 192::aO dQ (s3 a.2.2) g.1::aJ J [(s3 a.2.2),(aD g.2.1),(aD a.1.1),(.slice none 0 0),(.slice none 0 0),(.slice none 0 0),(.slice none 0 0)] 192::ow kT3 195 (.slice (ad T 0) 26 26) a.1.2::Z) ?_ ?_
 refine cZ ?_
 obtain ⟨e1,cs,bk⟩:=bd i
 refine bD (A:=HH×HH) cs (fun s a=>[(1,(s3 a.1)),(4,(pt b4 0)),(6,(s3 a.2)),(7,(aD g.2.1)),(9,(pt J 0)),(10,(pt T 0)),(41,(s3 a.2)),(42,(il g.1)),(43,(iv s.2.2))]) (fun s a=>aO bL (s3 a.1) b::aJ b4 [(.slice none 0 0),(aD ([]:aN)),(aD ([]:aN)),(.slice none 0 0),(.slice none 0 0),(.slice none 0 0),(.slice none 0 0)] 192::aO dQ (s3 a.2) g.1::aJ J [(s3 a.2),(aD g.2.1),(aD s.1),(.slice none 0 0),(.slice none 0 0),(.slice none 0 0),(.slice none 0 0)] 192::ow kT3 195 (.slice (ad T 0) 26 26) s.2.1::Z) ((A3,b.length,D3),(A7,g.1.length,D7)) (aS R) (fun w s=>((s.d 4 R).e 5 [0,3,4,2,1])) ?_
 rintro ⟨ct,bc,j⟩ ⟨⟨d2,cy,ae⟩,⟨cz,cx,a1⟩⟩ σ1 co i bv
 dsimp only [Z3_L1] at i
 refine bH 0 aA (fun (hn:cy=b.length)=>?_)
 subst hn
 refine bH 2 aA (fun (hn:cx=g.1.length)=>?_)
 subst hn
 refine bV ?_
 split at i
 refine bG ?_
 refine bB (A:=(aN×(List Int))×(HH×HH)) (fun a=>Z3_J6 j a.1.1 a.1.2=some co) (fun a=>[(1,(s3 a.2.1)),(4,(pt b4 0)),(6,(s3 a.2.2)),(7,(aD g.2.1)),(9,(pt J 0)),(10,(pt T 0)),(41,(s3 a.2.2)),(42,(il g.1)),(43,(iv j))]) (fun a=>aO bL (s3 a.2.1) b::aJ b4 [(.slice none 0 0),(aD ([]:aN)),(aD ([]:aN)),(.slice none 0 0),(.slice none 0 0),(.slice none 0 0),(.slice none 0 0)] 192::aO dQ (s3 a.2.2) g.1::aJ J [(s3 a.2.2),(aD g.2.1),(aD a.1.1),(.slice none 0 0),(.slice none 0 0),(.slice none 0 0),(.slice none 0 0)] 192::ow kT3 195 (.slice (ad T 0) 26 26) a.1.2::Z) ?_ ?_
 refine aV ?_
 obtain ⟨b7,i⟩:=gd i
 refine aV ?_
 refine bC 2 aA (show 0<g.1.length by have:=b7; omega) (fun a5 o83 ha=>?_)
 subst ha
 refine bT ?_
 refine lO (vz (aD (ix g.1 j)) (hW (K:=dQ) (fo:=0) (pr:=fun x=>(aD x)) 2 j re (dT9.leaf fun _ _=>R) aA R b7.1 b7.2)) (lI R (lO (vp (aD (ix g.1 j)) R) ?_))
 refine bG ?_
 obtain ⟨a6,i⟩:=gd i
 refine aE (lO (vp (aD (ix g.1 j)) R) (lO (vz (il (ix g.1 j)) (dM fJ R)) (lS R (lI R (bC 0 aA (show 0<b.length by have:=a6; omega) (fun ag o86 ha=>?_))))))
 subst ha
 refine bT ?_
 refine gS (K:=bL) 0 j dT23.dec R a6.1 a6.2 ?_
 rintro ⟨dv,dw⟩
 refine lO (eH (fo:=0) 0 cO R R R) ?_
 refine bG ?_
 split at i
 refine aP ?_
 refine lO (vz (.agg [(.slice none 0 0),(aD ([]:aN)),(aD ([]:aN)),(.slice none 0 0),(.slice none 0 0),(.slice none 0 0),(.slice none 0 0)].toArray) (aW nc kN R R)) (aK 3 R R iM R R R R R R (lB R (aC (aI (bW (cE (dF (cE ?_))))))))
 cases i
 obtain rfl:=bv _ R
 have i:=bk
 refine aP ?_
 cases i
 exact dI (vs:=[(.agg [(.slice none 0 0),(aD ([]:aN)),(aD ([]:aN)),(.slice none 0 0),(.slice none 0 0),(.slice none 0 0),(.slice none 0 0)].toArray),(.bool false)]) (.inl R) ((none,0,0),(none,0,0),(none,0,0),(none,0,0),(none,0,0)) R ⟨⟨3,b4,_,_,R,R,.inl ⟨mB,iM,R⟩⟩,R,trivial⟩ R (fun w s=>((((((s.nilr dQ).nilr kT3).nilo kT3 3).nilo bL 23).nilo kT3 3).e 14 [4,3,2,1,0]))
 refine cX ?_
 obtain ⟨e2,d4,ca⟩:=bd i
 refine bD (A:=Unit) d4 (fun s a=>[(1,(sc (ad ag o86) b ae)),(4,(pt b4 0)),(6,(sc (ad a5 o83) g.1 a1)),(7,(aD g.2.1)),(9,(pt J 0)),(10,(pt T 0)),(11,(iv j)),(12,(aD (ix g.1 j))),(13,(iv s.2.2)),(41,(sc (ad a5 o83) g.1 a1)),(42,(il g.1)),(43,(iv j))]) (fun s a=>RR bL (ad ag o86) ae b::aJ b4 [(.slice none 0 0),(aD ([]:aN)),(aD ([]:aN)),(.slice none 0 0),(.slice none 0 0),(.slice none 0 0),(.slice none 0 0)] 192::RR dQ (ad a5 o83) a1 g.1::aJ J [(sc (ad a5 o83) g.1 a1),(aD g.2.1),(aD s.1),(.slice none 0 0),(.slice none 0 0),(.slice none 0 0),(.slice none 0 0)] 192::ow kT3 195 (.slice (ad T 0) 26 26) s.2.1::Z) () (aS R) (fun w s=>(s.f 7 [2,5])) ?_
 rintro ⟨a9,Y,m⟩ _ σ1 ci i c3
 dsimp only [Z3_L2] at i
 refine bG ?_
 refine lO (vp (aD (ix g.1 j)) R) (lO (vz (il (ix g.1 j)) (dM fJ R)) ?_)
 refine aP ?_
 split at i
 refine bG ?_
 refine bB (A:=(aN×(List Int))×(Unit)) (fun a=>Z3_J5 m a.1.1 a.1.2=some ci) (fun a=>[(1,(sc (ad ag o86) b ae)),(4,(pt b4 0)),(6,(sc (ad a5 o83) g.1 a1)),(7,(aD g.2.1)),(9,(pt J 0)),(10,(pt T 0)),(11,(iv j)),(12,(aD (ix g.1 j))),(13,(iv m)),(41,(sc (ad a5 o83) g.1 a1)),(42,(il g.1)),(43,(iv j))]) (fun a=>RR bL (ad ag o86) ae b::aJ b4 [(.slice none 0 0),(aD ([]:aN)),(aD ([]:aN)),(.slice none 0 0),(.slice none 0 0),(.slice none 0 0),(.slice none 0 0)] 192::RR dQ (ad a5 o83) a1 g.1::aJ J [(sc (ad a5 o83) g.1 a1),(aD g.2.1),(aD a.1.1),(.slice none 0 0),(.slice none 0 0),(.slice none 0 0),(.slice none 0 0)] 192::ow kT3 195 (.slice (ad T 0) 26 26) a.1.2::Z) ?_ ?_
 refine aV ?_
 obtain ⟨ac,i⟩:=gd i
 obtain ⟨am,i⟩:=gd i
 refine aE (lO (vp (aD (ix g.1 j)) R) (lI R (lO (vz (.int .u8 (bt (ix g.1 j) m)) (cI fJ R R ac.1 ac.2)) (lO (vp (.int .u8 (IntKind.wrap .u8 ((bt (ix g.1 j) m) - 97))) R) (lO (vz (.pointer (some ⟨T,0+(IntKind.wrap .u8 ((bt (ix g.1 j) m) - 97)).toNat*1,none⟩)) (sh sI cC R R am)) ?_)))))
 refine cA ?_
 obtain ⟨ap,i⟩:=gd i
 refine cQ [(1,(sc (ad ag o86) b ae)),(4,(pt b4 0)),(6,(sc (ad a5 o83) g.1 a1)),(7,(aD g.2.1)),(9,(pt J 0)),(10,(pt T 0)),(11,(iv j)),(12,(aD (ix g.1 j))),(13,(iv m)),(14,(.pointer (some ⟨T,0+(IntKind.wrap .u8 ((bt (ix g.1 j) m) - 97)).toNat*1,none⟩))),(41,(sc (ad a5 o83) g.1 a1)),(42,(il g.1)),(43,(iv j)),(84,(.bool (((ix Y (IntKind.wrap .u8 ((bt (ix g.1 j) m) - 97))) != 0)&&((ix Y (IntKind.wrap .u8 ((bt (ix g.1 j) m) - 97))) != (ix (ix b j) m)))))] (RR bL (ad ag o86) ae b::aJ b4 [(.slice none 0 0),(aD ([]:aN)),(aD ([]:aN)),(.slice none 0 0),(.slice none 0 0),(.slice none 0 0),(.slice none 0 0)] 192::RR dQ (ad a5 o83) a1 g.1::aJ J [(sc (ad a5 o83) g.1 a1),(aD g.2.1),(aD a9),(.slice none 0 0),(.slice none 0 0),(.slice none 0 0),(.slice none 0 0)] 192::ow kT3 195 (.slice (ad T 0) 26 26) Y::Z) ?_ ?_
 rcases bo ((ix Y (IntKind.wrap .u8 ((bt (ix g.1 j) m) - 97))) != 0) with U | U
 refine dL (K:=bL) 0 j dT23.dec R a6.1 a6.2 ?_
 rintro ⟨dj,dh⟩
 refine aZ 1 aA (show 0<(ix b j).length by have:=(ap U); omega) (fun dl o120 ha=>?_)
 subst ha
 refine dG 17 [] bP fun ht hn=>?_
 refine pj 0 [] ?_
 refine dW 11 R (eE U) (eH (fo:=0) 0 cO R R R) (dW 12 R (eE U) (vI R) (dW 13 R (eE U) (eI bK cC R R (ap U)) (dW 14 R (eE U) (gP 1 fP aA R (ap U)) ?_)))
 refine gT 15 [] ?_
 refine dD ?_
 exact qj (fun w s=>(s.f 7 [2,5]))
 refine dG 17 [] bP fun ht hn=>?_
 refine yy 0 [] ?_
 refine dD ?_
 exact qj tI
 rintro σ1
 refine bT ?_
 split at i
 refine aP ?_
 refine lO (vz (.agg [(.slice none 0 0),(aD ([]:aN)),(aD ([]:aN)),(.slice none 0 0),(.slice none 0 0),(.slice none 0 0),(.slice none 0 0)].toArray) (aW nc kN R R)) (aK 1 R R iM R R R R R R (lN (_::_::_::_::_::Z) ?_))
 refine dN ?_
 cases i
 obtain rfl:=c3 _ R
 have i:=ca
 refine bG ?_
 cases i
 obtain rfl:=bv _ R
 have i:=bk
 refine aP ?_
 cases i
 exact dI (vs:=[(.agg [(.slice none 0 0),(aD ([]:aN)),(aD ([]:aN)),(.slice none 0 0),(.slice none 0 0),(.slice none 0 0),(.slice none 0 0)].toArray),(.bool false)]) (.inl R) ((none,0,0),(none,0,0),(none,0,0),(none,0,0),(none,0,0)) R ⟨⟨1,b4,_,_,R,R,.inl ⟨mB,iM,R⟩⟩,R,trivial⟩ R (fun w s=>((((((s.nilr dQ).nilr kT3).nilo kT3 3).nilo bL 23).nilo kT3 3).e 12 [4,3,2,1,0]))
 refine bG ?_
 obtain ⟨bw,i⟩:=gd i
 refine cA ?_
 refine gS (K:=bL) 0 j dT23.dec R a6.1 a6.2 ?_
 rintro ⟨da,be⟩
 refine lO (eH (fo:=0) 0 cO R R R) (lI R (bC 1 aA (show 0<(ix b j).length by have:=bw; omega) (fun bh o126 ha=>?_)))
 subst ha
 refine aP ?_
 refine lM (ow _ _ _ _::cl ag (o86+j.toNat*1) [(sc (ad bh o126) (ix b j) be)]::RR kT3 (ad bh o126) be (ix b j)::aO _ _ _::aJ _ _ _::aO _ _ _::aJ _ _ _::Z) (fun w s=>(s.f 7 [6,1,0,6])) ?_
 refine dV (K:=kT3) (x':=(ix (ix b j) m)) 0 (IntKind.wrap .u8 ((bt (ix g.1 j) m) - 97)) R R cC R R am.1 am.2 ?_ ?_
 exact fun I h s=>(gD).put I h () (ix (ix b j) m) s
 refine bT ?_
 obtain ⟨b1,ak,i⟩:=bd i
 replace ak:=Option.some.inj ak
 refine qM (ow kT3 195 (.slice (ad T 0) 26 26) b1::_::_::_::_::_::_::Z) (fun w s=>by rw [← ak]; exact s) ?_
 refine aV ?_
 obtain ⟨di,bu,i⟩:=bd i
 refine dG 7 [] bP fun ht hn=>?_
 refine gT 0 [] ?_
 refine dR 2 R (vp (aD (ix g.1 j)) R) (dR 3 R (vI R) (dR 4 R (vz (.int .u8 (bt (ix g.1 j) m)) (cI fJ R R ac.1 ac.2)) (d1 5 R (lC 0 qn R (Z1t_ok bu) R ?_))))
 rintro _
 refine aC (aG (sL []) (dR 6 R (mW R R) (dD (aI ?_))))
 split at i
 refine bT ?_
 obtain ⟨an,i⟩:=gd i
 obtain ⟨bl,i⟩:=gd i
 refine dG 10 [6] bP fun ht hn=>?_
 refine oz 0 [6] ?_
 refine dR 2 R (vp (aD (ix g.1 j)) R) (hS:=(sL [6])) ?_
 refine iw 3 [6] ?_
 refine dR 6 R (vz (aD (sub (ix g.1 j) m (aH (m+1)))) (hO m (aH (m+1)) fJ R R R an.1 an.2.1 an.2.2)) (hS:=(sL [6])) (d1 1 R (lO (gB 6 re R R R) (aC (aG (sL [6]) (dR 7 R (vz (aD (a9++(sub (ix g.1 j) m (aH (m+1))))) (nu R R bl)) (hS:=(sL [6])) ?_)))))
 refine oz 8 [6] ?_
 refine d1 9 R (cT 6 R R rh R R R R R (lN (_::_::_::_::_::_::aJ J [(sc (ad a5 o83) g.1 a1),(aD g.2.1),(aD (a9++(sub (ix g.1 j) m (aH (m+1))))),(.slice none 0 0),(.slice none 0 0),(.slice none 0 0),(.slice none 0 0)] 192::Z) ?_))
 refine aC (aG (sL [6]) (dD (dO ?_)))
 exact qI (((a9++(sub (ix g.1 j) m (aH (m+1)))),b1),()) i (fun w s=>(s.f 7 [3,4,0,1]))
 refine aP ?_
 exact qI ((a9,b1),()) i (fun w s=>(s.f 7 [3,4,0,1]))
 rintro ⟨⟨ds,cp⟩,_⟩ σ1 i
 dsimp only [Z3_J5] at i
 refine cA ?_
 cases i
 exact qA () tI
 refine aP ?_
 cases i
 obtain rfl:=c3 _ R
 have i:=ca
 refine aP ?_
 exact qI ((a9,Y),(((ad ag o86),b.length,ae),((ad a5 o83),g.1.length,a1))) i tI
 rintro ⟨⟨dm,c2⟩,⟨⟨cr,c7,ch⟩,⟨cc,c4,cf⟩⟩⟩ σ1 i
 dsimp only [Z3_J6] at i
 refine bH 0 aA (fun (hn:c7=b.length)=>?_)
 subst hn
 refine bH 2 aA (fun (hn:c4=g.1.length)=>?_)
 subst hn
 refine bG ?_
 cases i
 exact qA ((cr,b.length,ch),(cc,g.1.length,cf)) tI
 refine aP ?_
 cases i
 obtain rfl:=bv _ R
 have i:=bk
 refine aV ?_
 exact qI ((ct,bc),((d2,b.length,ae),(cz,g.1.length,a1))) i tI
 rintro ⟨⟨l,O⟩,⟨⟨ab,cj,a8⟩,⟨E,c8,q⟩⟩⟩ σ1 i
 dsimp only [Z3_J7] at i
 refine bH 0 aA (fun (hn:cj=b.length)=>?_)
 subst hn
 refine bH 2 aA (fun (hn:c8=g.1.length)=>?_)
 subst hn
 refine bV ?_
 refine bB (A:=((List Int))×(HH)) (fun a=>Z3_J8 b g l a.1=some r) (fun a=>[(1,(sc ab b a8)),(4,(pt b4 0)),(6,(sc E g.1 q)),(7,(aD g.2.1)),(9,(pt J 0))]) (fun a=>RR bL ab a8 b::aJ b4 [(.slice none 0 0),(aD ([]:aN)),(aD ([]:aN)),(.slice none 0 0),(.slice none 0 0),(.slice none 0 0),(.slice none 0 0)] 192::RR dQ E q g.1::aJ J [(sc E g.1 q),(aD g.2.1),(aD l),(s3 a.2),(.slice none 0 0),(.slice none 0 0),(.slice none 0 0)] 192::ow kT3 3 (s3 a.2) a.1::Z) ?_ ?_
 refine bV ?_
 obtain ⟨e3,d0,cq⟩:=bd i
 refine bD (A:=HH) d0 (fun s a=>[(1,(sc ab b a8)),(4,(pt b4 0)),(6,(sc E g.1 q)),(7,(aD g.2.1)),(9,(pt J 0)),(10,(pt T 0)),(15,(iv s.2.1)),(16,(iv s.2.2))]) (fun s a=>RR bL ab a8 b::aJ b4 [(.slice none 0 0),(aD ([]:aN)),(aD ([]:aN)),(.slice none 0 0),(.slice none 0 0),(.slice none 0 0),(.slice none 0 0)] 192::RR dQ E q g.1::aJ J [(sc E g.1 q),(aD g.2.1),(aD l),(s3 a),(.slice none 0 0),(.slice none 0 0),(.slice none 0 0)] 192::ow kT3 3 (s3 a) s.1::ow kT3 195 (.slice (ad T 0) 26 26) O::Z) (none,0,0) (aS R) (fun w s=>((s.nilo kT3 3).e 6 [1,2,3,4,0,5])) ?_
 rintro ⟨aa,cb,a3⟩ ⟨cm,cg,c5⟩ σ1 db i c6
 dsimp only [Z3_L3] at i
 refine bH 4 aB (fun (hn:cg=aa.length)=>?_)
 subst hn
 refine bV ?_
 refine lO (vz (il l) (dM fJ R)) ?_
 refine aP ?_
 split at i
 refine bV ?_
 obtain ⟨b3,i⟩:=gd i
 obtain ⟨c0,i⟩:=gd i
 refine bG ?_
 refine lO (vz (.int .u8 (bt l a3)) (cI fJ R R b3.1 b3.2)) (lO (vp (.int .u8 (IntKind.wrap .u8 ((bt l a3) - 97))) R) (lO (vz (.pointer (some ⟨T,0+(IntKind.wrap .u8 ((bt l a3) - 97)).toNat*1,none⟩)) (sh sI cC R R c0)) ?_))
 refine cA ?_
 obtain ⟨bm,i⟩:=gd i
 refine bG ?_
 refine bM (K:=kT3) (xs:=([(ix O (IntKind.wrap .u8 ((bt l a3) - 97)))]:List Int)) (vs:=[(iv (ix O (IntKind.wrap .u8 ((bt l a3) - 97))))]) 0 R R bK cC gF R R R R R R ?_ R (fun d7 de=>?_)
 exact fun I h s=>(gD).list [((),(ix O (IntKind.wrap .u8 ((bt l a3) - 97))))] I h s
 refine lM (ow _ _ _ _::ow _ _ _ _::aO _ _ _::aJ _ _ _::aO _ _ _::aJ _ _ _::ow _ _ _ _::Z) (fun w s=>(s.f 7 [5,1,0,5,6,1])) ?_
 refine eD (K:=kT3) 17592186044416 R R bK cC kl (Zr.zk zT3 gF) R R R R R R dP bm (fun b2 az=>(lN (OO kT3 3 b2 az (aa++([(ix O (IntKind.wrap .u8 ((bt l a3) - 97)))]:List Int))::_::_::_::_::_::Z) ?_))
 refine bT ?_
 refine cT 4 R R fU R R R R R (lN (_::_::_::_::aJ J [(sc E g.1 q),(aD g.2.1),(aD l),(sc b2 (aa++([(ix O (IntKind.wrap .u8 ((bt l a3) - 97)))]:List Int)) az),(.slice none 0 0),(.slice none 0 0),(.slice none 0 0)] 192::_::Z) ?_)
 refine wH ?_
 split at i
 refine aP ?_
 refine lO (vz (.agg [(.slice none 0 0),(aD ([]:aN)),(aD ([]:aN)),(.slice none 0 0),(.slice none 0 0),(.slice none 0 0),(.slice none 0 0)].toArray) (aW nc kN R R)) (aK 2 R R iM R R R R R R (lB R (aC (aI (bW (dF (cE ?_)))))))
 cases i
 obtain rfl:=c6 _ R
 have i:=cq
 refine aP ?_
 cases i
 exact dI (vs:=[(.agg [(.slice none 0 0),(aD ([]:aN)),(aD ([]:aN)),(.slice none 0 0),(.slice none 0 0),(.slice none 0 0),(.slice none 0 0)].toArray),(.bool false)]) (.inl R) ((none,0,0),(none,0,0),(none,0,0),(none,0,0),(none,0,0)) R ⟨⟨2,b4,_,_,R,R,.inl ⟨mB,iM,R⟩⟩,R,trivial⟩ R (fun w s=>((((((s.nilr dQ).nilr kT3).nilo kT3 3).nilo bL 23).nilo kT3 3).e 13 [4,3,2,1,0]))
 refine cX ?_
 cases i
 exact qA (b2,(aa++([(ix O (IntKind.wrap .u8 ((bt l a3) - 97)))]:List Int)).length,az) (tE 6 [1,2,3,4,0,5])
 refine aP ?_
 cases i
 obtain rfl:=c6 _ R
 have i:=cq
 refine aV ?_
 exact qI (aa,(cm,aa.length,c5)) i (fun w s=>(s.f 6 [0,5]))
 rintro ⟨D,⟨M,c9,L⟩⟩ σ1 i
 dsimp only [Z3_J8] at i
 refine bH 4 aB (fun (hn:c9=D.length)=>?_)
 subst hn
 refine bT ?_
 obtain ⟨al,i⟩:=gd i
 obtain ⟨u,bs,i⟩:=bd i
 refine aP ?_
 refine lO (vp (aD g.2.1) R) (lO (vz (il g.2.1) (dM fJ R)) (iT (fun w s=>s.shr 4 R) (gA (K:=kT3) (0:Int) (g.2.1.length:Int) 0 R R bK cC R R R R al.1 al.2.1 al.2.2 (fun bj bf=>(lM (RR kT3 bj bf (sub D (0:Int) (g.2.1.length:Int))::RR kT3 bj bf (sub D (0:Int) (g.2.1.length:Int))::RR kT3 M L D::_::_::_::aJ J [(sc E g.1 q),(aD g.2.1),(aD l),(sc M D L),(.slice none 0 0),(.slice none 0 0),(.slice none 0 0)] 192::Z) (fun w s=>(s.d 0 R)) ?_)))))
 refine lC 1 jx R (Zn_ok bs) R ?_
 rintro ⟨F,du,G⟩
 refine aL 0 aB ?_
 rintro rfl
 refine bT ?_
 refine cT 6 R R fU R R R R R (lN (_::_::_::_::_::_::aJ J [(sc E g.1 q),(aD g.2.1),(aD l),(sc M D L),(sc F u G),(.slice none 0 0),(.slice none 0 0)] 192::Z) ?_)
 refine bG ?_
 obtain ⟨dk,bz,i⟩:=bd i
 refine aP ?_
 refine lC 1 j8 R (FnOk.lends (A':=[OO kT3 3 F G u]) (A:=[RR kT3 F G u]) (B:=[]) (Zb_ok bz) ⟨aU,trivial⟩ (fun _=>trivial)) R ?_
 rintro _
 refine aP ?_
 split at i
 refine aP ?_
 refine lO (vz (.agg [(.slice none 0 0),(aD ([]:aN)),(aD ([]:aN)),(.slice none 0 0),(.slice none 0 0),(.slice none 0 0),(.slice none 0 0)].toArray) (aW nc kN R R)) (aK 4 R R iM R R R R R R (lB R (aC (aI (bW (cE ?_))))))
 cases i
 exact dI (vs:=[(.agg [(.slice none 0 0),(aD ([]:aN)),(aD ([]:aN)),(.slice none 0 0),(.slice none 0 0),(.slice none 0 0),(.slice none 0 0)].toArray),(.bool false)]) (.inl R) ((none,0,0),(none,0,0),(none,0,0),(none,0,0),(none,0,0)) R ⟨⟨4,b4,_,_,R,R,.inl ⟨mB,iM,R⟩⟩,R,trivial⟩ R (fun w s=>((((((s.nilr dQ).nilr kT3).nilo kT3 3).nilo bL 23).nilo kT3 3).e 14 [4,3,2,1,0]))
 refine bG ?_
 refine bB (A:=((List (List Int)))×(HH)) (fun a=>Z3_J9 g l D u a.1=some r) (fun a=>[(4,(pt b4 0)),(7,(aD g.2.1)),(9,(pt J 0))]) (fun a=>aJ b4 [(.slice none 0 0),(aD ([]:aN)),(aD ([]:aN)),(.slice none 0 0),(.slice none 0 0),(.slice none 0 0),(.slice none 0 0)] 192::aJ J [(sc E g.1 q),(aD g.2.1),(aD l),(sc M D L),(sc F u G),(s3 a.2),(.slice none 0 0)] 192::RR dQ E q g.1::RR kT3 M L D::OO kT3 3 F G u::ow bL 23 (s3 a.2) a.1::Z) ?_ ?_
 refine cZ ?_
 obtain ⟨e4,cu,cw⟩:=bd i
 refine bD (A:=HH) cu (fun s a=>[(1,(sc ab b a8)),(4,(pt b4 0)),(7,(aD g.2.1)),(9,(pt J 0)),(150,(sc E g.1 q)),(151,(il g.1)),(152,(iv s.2))]) (fun s a=>RR bL ab a8 b::aJ b4 [(.slice none 0 0),(aD ([]:aN)),(aD ([]:aN)),(.slice none 0 0),(.slice none 0 0),(.slice none 0 0),(.slice none 0 0)] 192::aJ J [(sc E g.1 q),(aD g.2.1),(aD l),(sc M D L),(sc F u G),(s3 a),(.slice none 0 0)] 192::RR dQ E q g.1::RR kT3 M L D::OO kT3 3 F G u::ow bL 23 (s3 a) s.1::Z) (none,0,0) (aS R) (fun w s=>((s.nilo bL 23).e 8 [4,5,7,6,3,1,0])) ?_
 rintro ⟨a0,ah⟩ ⟨ar,ck,au⟩ σ1 dc i d3
 dsimp only [Z3_L4] at i
 refine bH 6 aB (fun (hn:ck=a0.length)=>?_)
 subst hn
 refine bV ?_
 split at i
 refine bV ?_
 obtain ⟨ao,i⟩:=gd i
 refine aV ?_
 refine bC 3 aA (show 0<g.1.length by have:=ao; omega) (fun b9 o207 ha=>?_)
 subst ha
 refine bT ?_
 refine lO (vz (aD (ix g.1 ah)) (hW (K:=dQ) (fo:=0) (pr:=fun x=>(aD x)) 3 ah re (dT9.leaf fun _ _=>R) aA R ao.1 ao.2)) (lI R (lO (vp (aD (ix g.1 ah)) R) ?_))
 refine aV ?_
 obtain ⟨aj,i⟩:=gd i
 obtain ⟨b5,bq,i⟩:=bd i
 obtain ⟨a7,bn,i⟩:=bd i
 obtain ⟨c1,i⟩:=gd i
 refine aZ 0 aA (show 0<b.length by have:=aj; omega) (fun dd o210 ha=>?_)
 subst ha
 refine dL (K:=bL) 0 ah dT23.dec R aj.1 aj.2 ?_
 rintro ⟨dn,df⟩
 refine dG 11 [] bP fun ht hn=>?_
 refine iw 0 [] ?_
 refine dR 3 R (vp (aD (ix g.1 ah)) R) ?_
 refine iw 4 [] ?_
 refine dR 7 R (eH (fo:=0) 0 cO R R R) (d1 8 R (lM (_::_::_::_::_::_::_::_::_::_::Z) (fun w s=>(s.d 1 R)) ?_))
 refine lC 1 sJ R (Z06_ok bq) R ?_
 rintro ⟨ax,dq,b0⟩
 refine aL 0 aB ?_
 rintro rfl
 refine aC (aG (sL [0]) (d1 9 R (lM (ow _ _ _ _::ow _ _ _ _::ow _ _ _ _::aO _ _ _::aO _ _ _::aO kT3 (.slice none 0 0) ([]:List Int)::cl _ _ _::aO _ _ _::aO _ _ _::aJ _ _ _::aJ _ _ _::aO _ _ _::aO _ _ _::Z) (fun w s=>((((s.d 6 R).d 8 R).nilr kT3).f 13 [11,2,3,1,2,1,1,1,0,1,4,7])) ?_)))
 refine lC 6 vZ R (FnOk.lends (A':=[OO kT3 3 F G u,OO bL 23 ar au a0,OO kT3 3 ax b0 b5]) (A:=[RR kT3 F G u,RR bL ar au a0,RR kT3 ax b0 b5]) (B:=[RR dQ (ad b9 o207) q g.1,RR kT3 M L D,aO kT3 (.slice none 0 0) ([]:List Int)]) (FnOk.perm (Zj_ok (f1:=(⟨g.1,g.2.1,l,D,u,a0,([]:List Int)⟩:form)) bn) (Pre':=[RR kT3 F G u,RR bL ar au a0,RR kT3 ax b0 b5,RR dQ (ad b9 o207) q g.1,RR kT3 M L D,aO kT3 (.slice none 0 0) ([]:List Int)]) (fun _ _ _ s=>(s.e 6 [3,4,0,1,5,2]))) ⟨aU,aU,aU,trivial⟩ (fun _=>⟨(bI iW),trivial⟩)) R ?_
 rintro ⟨bi,d6,bg⟩
 refine aL 3 aB ?_
 rintro rfl
 refine aC (aG (fun w s=>(s.f 11 [4,7,0,2])) (d1 10 R (lM (ow _ _ _ _::ow _ _ _ _::ow _ _ _ _::ow _ _ _ _::cl _ _ _::aO _ _ _::aO _ _ _::aJ _ _ _::aJ _ _ _::aO _ _ _::aO _ _ _::Z) (fun w s=>(s.f 11 [3,1,0,3,4,7])) ?_)))
 refine bM (K:=bL) (xs:=([a7]:List (List Int))) (vs:=[(sc bi a7 bg)]) 1 R R kt fU mx R R R R R R ?_ R (fun d9 dt=>?_)
 exact fun I h s=>(mZ).list [((sc bi a7 bg),a7)] I h s
 refine aC (aG (fun w s=>(s.f 11 [4,7,1,2])) (d1 11 R (lM (ow _ _ _ _::ow _ _ _ _::ow _ _ _ _::ow _ _ _ _::cl _ _ _::aO _ _ _::aO _ _ _::aJ _ _ _::aJ _ _ _::aO _ _ _::aO _ _ _::Z) (fun w s=>(s.f 11 [2,1,0,2,3,8])) ?_)))
 refine eD (K:=bL) 5864062014805 R R kt fU uz (Zr.zk zT23 mx) R R R R R R dP c1 (fun bb ay=>(lN (OO bL 23 bb ay (a0++([a7]:List (List Int)))::_::_::_::_::_::_::_::_::_::Z) ?_))
 refine aC (qE (d1 12 R (lO (fS 5 qo R) (aC (qE (d1 13 R (cT 7 R R zo R R R R R (lN (_::_::_::_::_::_::_::aJ J [(sc (ad b9 o207) g.1 q),(aD g.2.1),(aD l),(sc M D L),(sc F u G),(sc bb (a0++([a7]:List (List Int))) ay),(.slice none 0 0)] 192::_::_::Z) ?_))))))))
 refine aC (qE (dD ?_))
 refine bV ?_
 cases i
 exact qA (bb,(a0++([a7]:List (List Int))).length,ay) (fun w s=>(s.f 10 [5,5,1,1,0,1]))
 refine aP ?_
 cases i
 obtain rfl:=d3 _ R
 have i:=cw
 refine aV ?_
 exact qI (a0,(ar,a0.length,au)) i (fun w s=>(s.f 7 [1,6]))
 rintro ⟨f224,⟨a2,cn,a4⟩⟩ σ1 i
 dsimp only [Z3_J9] at i
 refine bH 5 aB (fun (hn:cn=f224.length)=>?_)
 subst hn
 refine bT ?_
 obtain ⟨b6,br,i⟩:=bd i
 obtain ⟨av,bp,i⟩:=bd i
 refine dG 7 [] bP fun ht hn=>?_
 refine oz 0 [] ?_
 refine dR 1 R (vp (aD g.2.1) R) ?_
 refine gT 2 [] ?_
 refine d1 4 R (lM (ow _ _ _ _::aJ _ _ _::aJ J [(sc E g.1 q),(aD g.2.1),(aD l),(sc M D L),(sc F u G),(sc a2 f224 a4),(.slice none 0 0)] 192::RR dQ E q g.1::aO _ _ _::OO bL 23 a2 a4 f224::Z) (tE 6 [4,0,1,2,3,5]) ?_)
 refine lC 1 sJ R (FnOk.lends (A':=[OO kT3 3 F G u]) (A:=[RR kT3 F G u]) (B:=[]) (Z06_ok br) ⟨aU,trivial⟩ (fun _=>⟨(bI iW),trivial⟩)) R ?_
 rintro ⟨b8,d8,ba⟩
 refine aL 1 aB ?_
 rintro rfl
 refine aC (aG (tE 7 [2,3,4,5,0,6]) (d1 5 R (lM (ow _ _ _ _::ow _ _ _ _::ow _ _ _ _::aO _ _ _::aO _ _ _::aO kT3 (.slice none 0 0) ([]:List Int)::aJ _ _ _::aJ _ _ _::aO _ _ _::aO _ _ _::Z) (fun w s=>((((s.d 4 R).d 6 R).nilr kT3).e 10 [3,9,4,2,1,0,5,6,7,8])) ?_)))
 refine lC 6 vZ R (FnOk.lends (A':=[OO kT3 3 F G u,OO bL 23 a2 a4 f224,OO kT3 3 b8 ba b6]) (A:=[RR kT3 F G u,RR bL a2 a4 f224,RR kT3 b8 ba b6]) (B:=[RR dQ E q g.1,RR kT3 M L D,aO kT3 (.slice none 0 0) ([]:List Int)]) (FnOk.perm (Zj_ok (f1:=(⟨g.1,g.2.1,l,D,u,f224,([]:List Int)⟩:form)) bp) (Pre':=[RR kT3 F G u,RR bL a2 a4 f224,RR kT3 b8 ba b6,RR dQ E q g.1,RR kT3 M L D,aO kT3 (.slice none 0 0) ([]:List Int)]) (fun _ _ _ s=>(s.e 6 [3,4,0,1,5,2]))) ⟨aU,aU,aU,trivial⟩ (fun _=>⟨(bI iW),trivial⟩)) R ?_
 rintro ⟨aw,dr,aq⟩
 refine aL 3 aB ?_
 rintro rfl
 refine aC (aG (fun w s=>(s.f 8 [4,4,0,2])) (dR 6 R (fS 6 qp R) (hS:=(fun w s=>(s.f 8 [4,4,0,2]))) (d1 7 R (cT 5 R R fU R R R R R (lN (_::_::_::_::_::aJ J [(sc E g.1 q),(aD g.2.1),(aD l),(sc M D L),(sc F u G),(sc a2 f224 a4),(sc aw av aq)] 192::_::_::Z) ?_)))))
 refine aC (qE (dD ?_))
 refine bG ?_
 refine aK 4 R R iM R R R R R R (lN (_::_::_::_::aJ b4 [(sc E g.1 q),(aD g.2.1),(aD l),(sc M D L),(sc F u G),(sc a2 f224 a4),(sc aw av aq)] 192::_::_::_::Z) ?_)
 refine bG ?_
 cases i
 exact dI (vs:=[(.agg [(sc E g.1 q),(aD g.2.1),(aD l),(sc M D L),(sc F u G),(sc a2 f224 a4),(sc aw av aq)].toArray),(.bool true)]) (.inl R) ((E,g.1.length,q),(M,D.length,L),(F,u.length,G),(a2,f224.length,a4),(aw,av.length,aq)) R ⟨⟨4,b4,_,_,R,R,.inl ⟨mB,iM,R⟩⟩,R,trivial⟩ R (tE 10 [6,7,0,1,3])
theorem Z2s_ok  {k1:formKind}{b:Node}{g:(List (List Int))}{mG:Int}{r:(List Int)×Bool}(m:Z2s k1 b g=some r) :
 FnOk Tryz.prog 204 [(.agg [].toArray),(.agg [(iv b.Op),(.slice A3 N3 D3),(.slice A4 N4 D4),(.slice A5 N5 D5),(aD b.Form),(.slice A6 N6 D6)].toArray),(.slice A8 N8 D8)] [aO kT3 (.slice A3 N3 D3) b.Args,aO kT3 (.slice A4 N4 D4) b.Dims,aO kT3 (.slice A5 N5 D5) b.Ints,aO kT3 (.slice A6 N6 D6) b.Data,aO bL (.slice A8 N8 D8) g,gl 0 mG] (fun (h:HH)=>((.tuple [(s3 h),(.bool r.2)].toArray),[ow kT3 3 (s3 h) r.1])):=by
 unfold Z2s at m
 refine aQ Tryz.func204 R 20 R R fun C V=>?_
 refine cL 0 aA ?_
 rintro rfl
 refine cL 1 aA ?_
 rintro rfl
 refine cL 2 aA ?_
 rintro rfl
 refine cL 3 aA ?_
 rintro rfl
 refine cL 4 aA ?_
 rintro rfl
 let J:=RR kT3 A3 D3 b.Args::RR kT3 A4 D4 b.Dims::RR kT3 A5 D5 b.Ints::RR kT3 A6 D6 b.Data::RR bL A8 D8 g::gl 0 mG::V
 refine cN J ?_
 refine aV ?_
 refine eB R fun U=>?_
 refine eB R fun q=>?_
 refine aP ?_
 let L:=aJ q [(iv b.Op),(sc A3 b.Args D3),(sc A4 b.Dims D4),(sc A5 b.Ints D5),(aD b.Form),(sc A6 b.Data D6)] 54::aJ U [] 142::J
 refine qN L ?_
 refine aV ?_
 obtain ⟨a,i,m⟩:=bd m
 refine bG ?_
 refine lM _ (fun w s=>(((s.d 6 R).dg 8 R).e 2 [1,0])) ?_
 refine lC 2 zp R (Z3_ok i) R ?_
 rintro ⟨⟨u,O,D⟩,⟨A14,N14,D14⟩,⟨l,T,j⟩,⟨G,M,F⟩,⟨B,Y,E⟩⟩
 refine aL 0 aA ?_
 rintro rfl
 refine aL 1 aA ?_
 rintro rfl
 refine aL 2 aB ?_
 rintro rfl
 refine aL 3 aB ?_
 rintro rfl
 refine aL 4 aB ?_
 rintro rfl
 refine lO (vT R) (lO (vA R) (lB R (bF R R kN (fun I=>(aK 0 R R iM R R R R R R (lN (aJ I [(sc u a.1.groups D),(aD a.1.out_),(aD a.1.order),(sc A14 a.1.loops D14),(sc l a.1.dims j),(sc G a.1.steps F),(sc B a.1.store E)] 192::_::_::_::_::_::L) ?_))))))
 refine lb ?_
 cases m
 exact jO (l,a.1.dims.length,j) (tE 14 [3])
theorem Z2m_ok  {a:(List Int)}{r:View}(b:Z2m a=some r) :
 FnOk Tryz.prog 158 [(.slice A2 N2 D2)] [aO kT3 (.slice A2 N2 D2) a] (fun (h:HH×HH)=>((.agg [(s3 h.1),(s3 h.2),(iv r.Offset),(iv r.Base)].toArray),[ow kT3 3 (s3 h.1) r.Dims,ow kT3 3 (s3 h.2) r.Strides])):=by
 unfold Z2m at b
 refine aQ Tryz.func158 R 14 R R fun C V=>?_
 refine cL 0 aA ?_
 rintro rfl
 let B:=RR kT3 A2 D2 a::V
 refine cN B ?_
 refine aV ?_
 refine bF R R cY (fun D=>(aC (aI (aM (aM ?_)))))
 obtain ⟨E,q,b⟩:=bd b
 refine aV ?_
 refine lM _ (fun w s=>(s.d 1 R)) ?_
 refine lC 1 j8 R (Zb_ok q) R ?_
 rintro _
 refine aP ?_
 split at b
 refine aP ?_
 refine lO (vz (.agg [(.slice none 0 0),(.slice none 0 0),(iv 0),(iv 0)].toArray) (aW fE cY R R)) (aK 0 R R cH R R R R R R (aC (aI (bW (cE ?_)))))
 cases b
 exact qS ((none,0,0),(none,0,0)) (fun w s=>(((s.nilo kT3 3).nilo kT3 3).e 4 [1,0]))
 refine bG ?_
 obtain ⟨m,u,b⟩:=bd b
 obtain ⟨g,i,b⟩:=bd b
 obtain ⟨j,l,b⟩:=bd b
 refine aV ?_
 refine lM _ (fun w s=>(s.d 1 R)) ?_
 refine lC 1 jx R (Zn_ok u) R ?_
 rintro ⟨A9,N9,D9⟩
 refine aL 0 aB ?_
 rintro rfl
 refine lS R (lM _ (fun w s=>(s.d 2 R)) ?_)
 refine lC 1 sJ R (Z06_ok i) R ?_
 rintro ⟨A12,N12,D12⟩
 refine aL 0 aB ?_
 rintro rfl
 refine lS R (lM _ (fun w s=>(s.d 3 R)) ?_)
 refine lC 1 jI R (Zl_ok l) R ?_
 rintro _
 refine lO (vz (.agg [(sc A9 m D9),(sc A12 g D12),(iv 0),(iv j)].toArray) (aW fE cY R R)) (aK 2 R R cH R R R R R R (lN (_::_::aJ D [(sc A9 m D9),(sc A12 g D12),(iv 0),(iv j)] 96::B) ?_))
 refine aP ?_
 cases b
 exact qS ((A9,m.length,D9),(A12,g.length,D12)) (tE 4 [1,0])
theorem Zg_ok  {v1:View}{r:Bool}(e:Zg v1=some r) :
 FnOk Tryz.prog 156 [(.agg [(.slice A2 N2 D2),(.slice A3 N3 D3),(iv v1.Offset),(iv v1.Base)].toArray)] [aO kT3 (.slice A2 N2 D2) v1.Dims,aO kT3 (.slice A3 N3 D3) v1.Strides] (fun (h:Unit)=>((.bool r),[])):=by
 unfold Zg at e
 refine aQ Tryz.func156 R 91 R R fun C V=>?_
 refine cL 0 aA ?_
 rintro rfl
 refine cL 1 aA ?_
 rintro rfl
 let W0:=RR kT3 A2 D2 v1.Dims::RR kT3 A3 D3 v1.Strides::V
 refine cN W0 ?_
 refine aV ?_
 refine eB R fun B=>?_
 refine aV ?_
 let m:=aJ B [(sc A2 v1.Dims D2),(sc A3 v1.Strides D3),(iv v1.Offset),(iv v1.Base)] 96::W0
 refine qN m ?_
 refine aP ?_
 obtain ⟨u,Z,e⟩:=bd e
 refine cQ [(1,(pt B 0)),(41,(.bool ((((((!u)||((v1.Strides.length:Int) != (v1.Dims.length:Int)))||(decide (v1.Base<1)))||(decide (v1.Base>4096)))||(decide (v1.Offset<0)))||(decide (v1.Offset≥v1.Base)))))] (m) ?_ ?_
 refine aP ?_
 refine lM _ (fun w s=>(s.d 1 R)) ?_
 refine lC 1 j8 R (Zb_ok Z) R ?_
 rintro _
 refine lN m ?_
 refine aV ?_
 rcases bo (!u) with U | U
 refine wI ?_
 exact qj tI
 refine cX ?_
 rcases bo ((!u)||((v1.Strides.length:Int) != (v1.Dims.length:Int))) with a0 | a0
 refine yx ?_
 exact qj tI
 refine cA ?_
 rcases bo (((!u)||((v1.Strides.length:Int) != (v1.Dims.length:Int)))||(decide (v1.Base<1))) with a1 | a1
 refine r1 ?_
 exact qj tI
 refine cA ?_
 rcases bo ((((!u)||((v1.Strides.length:Int) != (v1.Dims.length:Int)))||(decide (v1.Base<1)))||(decide (v1.Base>4096))) with L | L
 refine iK ?_
 exact qj tI
 refine cA ?_
 rcases bo (((((!u)||((v1.Strides.length:Int) != (v1.Dims.length:Int)))||(decide (v1.Base<1)))||(decide (v1.Base>4096)))||(decide (v1.Offset<0))) with G | G
 refine dN ?_
 exact qj tI
 refine dN ?_
 exact qj tI
 rintro σ1
 refine bT ?_
 split at e
 refine cZ ?_
 cases e
 exact qF () (tE 3 [])
 refine bG ?_
 refine dG 6 [] bP fun ht hn=>?_
 refine sr 0 [] ?_
 refine dD (aI (aM (bB (A:=(Int×Int)×(Unit)) (fun a=>Zg_J1 v1 a.1.1 a.1.2=some r) (fun a=>[(1,(pt B 0)),(3,(iv a.1.1)),(4,(iv a.1.2))]) (fun a=>m) ?_ ?_)))
 refine cX ?_
 obtain ⟨e1,Y,E⟩:=bd e
 refine bD (A:=HH) Y (fun s a=>[(1,(pt B 0)),(3,(iv s.1)),(4,(iv s.2.1)),(47,(s3 a)),(48,(il v1.Strides)),(49,(iv s.2.2))]) (fun s a=>aO kT3 (s3 a) v1.Strides::m) (A3,v1.Strides.length,D3) (aS R) (fun w s=>(s.d 2 R)) ?_
 rintro ⟨g,i,b⟩ ⟨a4,a2,q⟩ σ1 a3 e O
 dsimp only [Zg_L1] at e
 refine bH 0 aA (fun (hn:a2=v1.Strides.length)=>?_)
 subst hn
 refine bV ?_
 split at e
 refine bV ?_
 obtain ⟨F,e⟩:=gd e
 refine aV ?_
 refine bC 0 aA (show 0<v1.Strides.length by have:=F; omega) (fun l o29 T=>?_)
 subst T
 refine cZ ?_
 refine cQ [(1,(pt B 0)),(3,(iv g)),(4,(iv i)),(5,(iv b)),(6,(iv (ix v1.Strides b))),(47,(sc (ad l o29) v1.Strides q)),(48,(il v1.Strides)),(49,(iv b)),(59,(.bool ((decide ((ix v1.Strides b)<(-4096:Int)))||(decide ((ix v1.Strides b)>4096)))))] (RR kT3 (ad l o29) q v1.Strides::m) ?_ ?_
 refine bG ?_
 rcases bo (decide ((ix v1.Strides b)<(-4096:Int))) with D | D
 refine bG ?_
 exact qj tI
 refine bG ?_
 exact qj tI
 rintro σ1
 refine bT ?_
 split at e
 refine cU ?_
 cases e
 obtain rfl:=O _ R
 have e:=E
 refine aP ?_
 cases e
 exact qF () (tE 4 [])
 refine bG ?_
 obtain ⟨M,e⟩:=gd e
 refine bV ?_
 refine bC 2 aA (show 0<v1.Dims.length by have:=M; omega) (fun a5 o34 T=>?_)
 subst T
 refine bG ?_
 refine lO (vz (iv (if (aH ((ix v1.Strides b)*(aH ((ix v1.Dims b) - 1))))<0 then (aH ((ix v1.Strides b)*(aH ((ix v1.Dims b) - 1)))) else (0:Int))) (vy R R)) ?_
 refine ov ?_
 refine lO (vz (iv (if (aH ((ix v1.Strides b)*(aH ((ix v1.Dims b) - 1))))>0 then (aH ((ix v1.Strides b)*(aH ((ix v1.Dims b) - 1)))) else (0:Int))) (yf R R)) ?_
 refine cX ?_
 cases e
 exact qA ((ad l o29),v1.Strides.length,q) tI
 refine aP ?_
 cases e
 obtain rfl:=O _ R
 have e:=E
 refine aV ?_
 exact qI ((g,i),()) e (tE 1 [])
 rintro ⟨⟨j,J⟩,_⟩ σ1 e
 dsimp only [Zg_J1] at e
 refine aM (cQ [(2,(.bool ((decide (j≥0))&&(decide (J<v1.Base)))))] (m) ?_ ?_)
 refine bG ?_
 rcases bo (decide (j≥0)) with I | I
 refine dN ?_
 exact qj tI
 refine dN ?_
 exact qj tI
 rintro σ1
 refine aV ?_
 cases e
 exact qF () (tE 3 [])
end Go.Proofs.YtmpnollfdpdipaaGreat
