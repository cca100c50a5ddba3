import Derived.Test.YtmpnollfdpdipaaGreatGkF
import Derived.Test.YtmpnollfdpdipaaGreatGkW1
set_option linter.unusedVariables false
set_option maxRecDepth 20000
namespace Go.Proofs.YtmpnollfdpdipaaGreat
open Go Go.Pg
variable {A2 A3 A4 A5 A6 A8 A9:Option Addr}{D2 D3 D4 D5 D6 D8 D9 N2 N3 N4 N5 N6 N8 N9:Nat}
theorem Z3d_ok  {a:Int}{b:Int}{r:Int×Int}(j:Z3d a b=some r) :
 FnOk Tryz.prog 126 [(iv a),(iv b),(.func (.func 127) [].toArray [].toArray)] [] (fun (h:Nat×Nat×Nat)=>((.func (.func 149) [].toArray [(pt h.1 0),(pt h.2.1 0),(pt h.2.2 0)].toArray),[aJ h.1 [(iv r.1)] 3,aJ h.2.1 [(iv r.2)] 3,aJ h.2.2 [(.func (.func 127) [].toArray [].toArray)] 150])):=by
 unfold Z3d at j
 refine aQ Tryz.func126 R 8 R R fun C V=>?_
 refine cN V ?_
 refine aU ?_
 refine eZ (cs:=[(iv a)]) R R R (fun g=>(eZ (cs:=[(iv b)]) R R R (fun e=>(eZ (cs:=[(.func (.func 127) [].toArray [].toArray)]) R R R (fun i=>(lO (vp _ R) (aC ?_)))))))
 let l:=aJ i [(.func (.func 127) [].toArray [].toArray)] 150::aJ e [(iv b)] 3::aJ g [(iv a)] 3::V
 refine qN l ?_
 refine aP ?_
 refine lO (vp (.func (.func 149) [].toArray [(pt g 0),(pt e 0),(pt i 0)].toArray) R) (lO (vp _ R) ?_)
 refine aP ?_
 cases j
 exact qF (g,e,i) (tE 3 [2,1,0])
theorem Z3e_ok  {a:Int}{b:Int}{r:Int×Int}(j:Z3e a b=some r) :
 FnOk Tryz.prog 126 [(iv a),(iv b),(.func (.func 129) [].toArray [].toArray)] [] (fun (h:Nat×Nat×Nat)=>((.func (.func 149) [].toArray [(pt h.1 0),(pt h.2.1 0),(pt h.2.2 0)].toArray),[aJ h.1 [(iv r.1)] 3,aJ h.2.1 [(iv r.2)] 3,aJ h.2.2 [(.func (.func 129) [].toArray [].toArray)] 150])):=by
 unfold Z3e at j
 refine aQ Tryz.func126 R 8 R R fun C V=>?_
 refine cN V ?_
 refine aU ?_
 refine eZ (cs:=[(iv a)]) R R R (fun g=>(eZ (cs:=[(iv b)]) R R R (fun e=>(eZ (cs:=[(.func (.func 129) [].toArray [].toArray)]) R R R (fun i=>(lO (vp _ R) (aC ?_)))))))
 let l:=aJ i [(.func (.func 129) [].toArray [].toArray)] 150::aJ e [(iv b)] 3::aJ g [(iv a)] 3::V
 refine qN l ?_
 refine aP ?_
 refine lO (vp (.func (.func 149) [].toArray [(pt g 0),(pt e 0),(pt i 0)].toArray) R) (lO (vp _ R) ?_)
 refine aP ?_
 cases j
 exact qF (g,e,i) (tE 3 [2,1,0])
theorem Z3f_ok  {a:Int}{b:Int}{r:Int×Int}(j:Z3f a b=some r) :
 FnOk Tryz.prog 126 [(iv a),(iv b),(.func (.func 131) [].toArray [].toArray)] [] (fun (h:Nat×Nat×Nat)=>((.func (.func 149) [].toArray [(pt h.1 0),(pt h.2.1 0),(pt h.2.2 0)].toArray),[aJ h.1 [(iv r.1)] 3,aJ h.2.1 [(iv r.2)] 3,aJ h.2.2 [(.func (.func 131) [].toArray [].toArray)] 150])):=by
 unfold Z3f at j
 refine aQ Tryz.func126 R 8 R R fun C V=>?_
 refine cN V ?_
 refine aU ?_
 refine eZ (cs:=[(iv a)]) R R R (fun g=>(eZ (cs:=[(iv b)]) R R R (fun e=>(eZ (cs:=[(.func (.func 131) [].toArray [].toArray)]) R R R (fun i=>(lO (vp _ R) (aC ?_)))))))
 let l:=aJ i [(.func (.func 131) [].toArray [].toArray)] 150::aJ e [(iv b)] 3::aJ g [(iv a)] 3::V
 refine qN l ?_
 refine aP ?_
 refine lO (vp (.func (.func 149) [].toArray [(pt g 0),(pt e 0),(pt i 0)].toArray) R) (lO (vp _ R) ?_)
 refine aP ?_
 cases j
 exact qF (g,e,i) (tE 3 [2,1,0])
theorem Z3g_ok  {a:Int}{b:Int}{r:Int×Int}(j:Z3g a b=some r) :
 FnOk Tryz.prog 126 [(iv a),(iv b),(.func (.func 133) [].toArray [].toArray)] [] (fun (h:Nat×Nat×Nat)=>((.func (.func 149) [].toArray [(pt h.1 0),(pt h.2.1 0),(pt h.2.2 0)].toArray),[aJ h.1 [(iv r.1)] 3,aJ h.2.1 [(iv r.2)] 3,aJ h.2.2 [(.func (.func 133) [].toArray [].toArray)] 150])):=by
 unfold Z3g at j
 refine aQ Tryz.func126 R 8 R R fun C V=>?_
 refine cN V ?_
 refine aU ?_
 refine eZ (cs:=[(iv a)]) R R R (fun g=>(eZ (cs:=[(iv b)]) R R R (fun e=>(eZ (cs:=[(.func (.func 133) [].toArray [].toArray)]) R R R (fun i=>(lO (vp _ R) (aC ?_)))))))
 let l:=aJ i [(.func (.func 133) [].toArray [].toArray)] 150::aJ e [(iv b)] 3::aJ g [(iv a)] 3::V
 refine qN l ?_
 refine aP ?_
 refine lO (vp (.func (.func 149) [].toArray [(pt g 0),(pt e 0),(pt i 0)].toArray) R) (lO (vp _ R) ?_)
 refine aP ?_
 cases j
 exact qF (g,e,i) (tE 3 [2,1,0])
theorem Zz_ok  {e:Int}{r:kindOfR}(b:Zz e=some r) :
 FnOk Tryz.prog 96 [(iv e)] [] (fun (h:Nat×Nat×Nat)=>((cX r (h.1,h.2.1,h.2.2)),[eT r (h.1,h.2.1,h.2.2)])):=by
 unfold Zz at b
 refine aQ Tryz.func96 R 72 R R fun C V=>?_
 refine cN V ?_
 refine aU ?_
 refine lO (vp _ R) ?_
 refine oj ?_
 split at b
 refine aP ?_
 refine lO (vz (.agg [(.bool false)].toArray) (aX vG vH R R)) (lO (vz (.iface 136 (.agg [(.bool false)].toArray)) (iY vJ R)) (lO (vp _ R) ?_))
 refine bZ ?_
 cases b
 exact qF (0,0,0) (fun w s=>St.pack (A:=[]) s)
 refine dG ?_
 split at b
 refine aP ?_
 refine lO (vz (.agg [(.bool true)].toArray) (aX vG vH R R)) (lO (vz (.iface 136 (.agg [(.bool true)].toArray)) (iY vJ R)) (lO (vp _ R) ?_))
 refine bZ ?_
 cases b
 exact qF (0,0,0) (fun w s=>St.pack (A:=[]) s)
 refine aU ?_
 refine aZ (A:=(Bool)×(Unit)) (fun a=>Zz_J1 e a.1=some r) (fun a=>[(0,(iv e)),(3,(iv e)),(12,(.bool a.1))]) (fun a=>V) ?_ ?_
 refine bT ?_
 split at b
 refine aU ?_
 exact qI ((e==3),()) b tI
 refine dG ?_
 split at b
 refine aU ?_
 exact qI ((e==4),()) b tI
 refine bZ ?_
 exact qI ((e==5),()) b tI
 rintro ⟨x6,_⟩ σ1 b
 dsimp only [Zz_J1] at b
 split at b
 refine bT ?_
 refine lO (vz (.agg [(iv (aH ((aH (e - 3))+1)))].toArray) (aX yK yL R R)) (lO (vz (.iface 138 (.agg [(iv (aH ((aH (e - 3))+1)))].toArray)) (iY yM R)) (lO (vp _ R) ?_))
 refine bZ ?_
 cases b
 exact qF (0,0,0) (fun w s=>St.pack (A:=[]) s)
 refine aU ?_
 refine aZ (A:=(Bool)×(Unit)) (fun a=>Zz_J2 e a.1=some r) (fun a=>[(0,(iv e)),(3,(iv e)),(21,(.bool a.1))]) (fun a=>V) ?_ ?_
 refine bT ?_
 split at b
 refine aU ?_
 exact qI ((e==6),()) b tI
 refine dG ?_
 split at b
 refine aU ?_
 exact qI ((e==7),()) b tI
 refine dG ?_
 split at b
 refine aU ?_
 exact qI ((e==8),()) b tI
 refine bZ ?_
 exact qI ((e==9),()) b tI
 rintro ⟨a0,_⟩ σ1 b
 dsimp only [Zz_J2] at b
 split at b
 refine bT ?_
 refine lO (vz (.agg [(iv (aH ((aH (e - 6))+1)))].toArray) (aX yN yO R R)) (lO (vz (.iface 139 (.agg [(iv (aH ((aH (e - 6))+1)))].toArray)) (iY yP R)) (lO (vp _ R) ?_))
 refine bZ ?_
 cases b
 exact qF (0,0,0) (fun w s=>St.pack (A:=[]) s)
 refine dG ?_
 split at b
 refine aP ?_
 refine lO (vz (.agg [].toArray) (aX yQ yR R R)) (lO (vz (.iface 141 (.agg [].toArray)) (iY yS R)) (lO (vp _ R) ?_))
 refine bZ ?_
 cases b
 exact qF (0,0,0) (fun w s=>St.pack (A:=[]) s)
 refine dG ?_
 split at b
 refine aP ?_
 refine lO (vz (.agg [].toArray) (aX yT yU R R)) (lO (vz (.iface 142 (.agg [].toArray)) (iY yV R)) (lO (vp _ R) ?_))
 refine bZ ?_
 cases b
 exact qF (0,0,0) (fun w s=>St.pack (A:=[]) s)
 refine dG ?_
 split at b
 refine aP ?_
 refine lO (vz (.agg [(aD gS),(.func (.func 124) [].toArray [].toArray)].toArray) (aX mn mo R R)) (lO (vz (.iface 145 (.agg [(aD gS),(.func (.func 124) [].toArray [].toArray)].toArray)) (iY mq R)) (lO (vp _ R) ?_))
 refine bZ ?_
 cases b
 exact qF (0,0,0) (fun w s=>St.pack (A:=[]) s)
 refine dG ?_
 split at b
 refine aP ?_
 refine lO (vz (.agg [(aD gS),(.func (.func 125) [].toArray [].toArray)].toArray) (aX mn mo R R)) (lO (vz (.iface 145 (.agg [(aD gS),(.func (.func 125) [].toArray [].toArray)].toArray)) (iY mq R)) (lO (vp _ R) ?_))
 refine bZ ?_
 cases b
 exact qF (0,0,0) (fun w s=>St.pack (A:=[]) s)
 refine aU ?_
 refine aZ (A:=(Bool)×(Unit)) (fun a=>Zz_J3 e a.1=some r) (fun a=>[(3,(iv e)),(47,(.bool a.1))]) (fun a=>V) ?_ ?_
 refine bT ?_
 split at b
 refine aU ?_
 exact qI ((e==14),()) b tI
 refine bZ ?_
 exact qI ((e==18),()) b tI
 rintro ⟨Z,_⟩ σ1 b
 dsimp only [Zz_J3] at b
 split at b
 refine aP ?_
 refine lO (vz (.agg [(aD eR),(.func (.func 124) [].toArray [].toArray)].toArray) (aX mn mo R R)) (lO (vz (.iface 145 (.agg [(aD eR),(.func (.func 124) [].toArray [].toArray)].toArray)) (iY mq R)) (lO (vp _ R) ?_))
 refine bZ ?_
 cases b
 exact qF (0,0,0) (fun w s=>St.pack (A:=[]) s)
 refine dG ?_
 split at b
 refine aU ?_
 obtain ⟨M,Y,b⟩:=bd b
 refine aE (lC 0 qe R (Z3d_ok Y) R ?_)
 rintro ⟨G,m,D⟩
 refine lO (vz (.agg [(aD eR),(.func (.func 149) [].toArray [(pt G 0),(pt m 0),(pt D 0)].toArray)].toArray) (aX mn mo R R)) (lO (vz (.iface 145 (.agg [(aD eR),(.func (.func 149) [].toArray [(pt G 0),(pt m 0),(pt D 0)].toArray)].toArray)) (iY mq R)) (lO (vp _ R) ?_))
 refine bZ ?_
 cases b
 exact qF (G,m,D) (fun w s=>St.pack (A:=[aJ G [(iv M.1)] 3,aJ m [(iv M.2)] 3,aJ D [(.func (.func 127) [].toArray [].toArray)] 150]) s)
 refine dG ?_
 split at b
 refine aU ?_
 obtain ⟨T,L,b⟩:=bd b
 refine aE (lC 0 qe R (Z3e_ok L) R ?_)
 rintro ⟨E,u,j⟩
 refine lO (vz (.agg [(aD eR),(.func (.func 149) [].toArray [(pt E 0),(pt u 0),(pt j 0)].toArray)].toArray) (aX mn mo R R)) (lO (vz (.iface 145 (.agg [(aD eR),(.func (.func 149) [].toArray [(pt E 0),(pt u 0),(pt j 0)].toArray)].toArray)) (iY mq R)) (lO (vp _ R) ?_))
 refine bZ ?_
 cases b
 exact qF (E,u,j) (fun w s=>St.pack (A:=[aJ E [(iv T.1)] 3,aJ u [(iv T.2)] 3,aJ j [(.func (.func 129) [].toArray [].toArray)] 150]) s)
 refine dG ?_
 split at b
 refine aU ?_
 obtain ⟨J,O,b⟩:=bd b
 refine aE (lC 0 qe R (Z3f_ok O) R ?_)
 rintro ⟨i,q,l⟩
 refine lO (vz (.agg [(aD eR),(.func (.func 149) [].toArray [(pt i 0),(pt q 0),(pt l 0)].toArray)].toArray) (aX mn mo R R)) (lO (vz (.iface 145 (.agg [(aD eR),(.func (.func 149) [].toArray [(pt i 0),(pt q 0),(pt l 0)].toArray)].toArray)) (iY mq R)) (lO (vp _ R) ?_))
 refine bZ ?_
 cases b
 exact qF (i,q,l) (fun w s=>St.pack (A:=[aJ i [(iv J.1)] 3,aJ q [(iv J.2)] 3,aJ l [(.func (.func 131) [].toArray [].toArray)] 150]) s)
 refine dG ?_
 split at b
 refine aU ?_
 obtain ⟨U,I,b⟩:=bd b
 refine aE (lC 0 qe R (Z3g_ok I) R ?_)
 rintro ⟨F,g,B⟩
 refine lO (vz (.agg [(aD eR),(.func (.func 149) [].toArray [(pt F 0),(pt g 0),(pt B 0)].toArray)].toArray) (aX mn mo R R)) (lO (vz (.iface 145 (.agg [(aD eR),(.func (.func 149) [].toArray [(pt F 0),(pt g 0),(pt B 0)].toArray)].toArray)) (iY mq R)) (lO (vp _ R) ?_))
 refine bZ ?_
 cases b
 exact qF (F,g,B) (fun w s=>St.pack (A:=[aJ F [(iv U.1)] 3,aJ g [(iv U.2)] 3,aJ B [(.func (.func 133) [].toArray [].toArray)] 150]) s)
 refine bT ?_
 refine lO (vp _ R) ?_
 refine aP ?_
 cases b
 exact qF (0,0,0) (fun w s=>St.pack (A:=[]) s)
theorem Z3i_ok  {k1:leafKind}{r:aM}(a:Z3i k1=some r) :
 FnOk Tryz.prog 193 [(.agg [(.bool k1.data)].toArray)] [] (fun (h:Unit)=>((aD r),[])):=by
 unfold Z3i at a
 refine aQ Tryz.func193 R 5 R R fun C V=>?_
 refine cN V ?_
 refine aU ?_
 refine eF R fun e=>?_
 refine lO (vp (aD ([]:aM)) R) (aC ?_)
 let b:=aJ e [(.bool k1.data)] 136::V
 refine qN b ?_
 refine cV ?_
 split at a
 refine aP ?_
 refine lO (vp (aD ou) R) ?_
 refine bG ?_
 cases a
 exact qF () (tE 1 [])
 refine bZ ?_
 refine lO (vp (aD gS) R) ?_
 refine aP ?_
 cases a
 exact qF () (tE 1 [])
theorem Z3j_ok  {k1:pairKind}{r:aM}(a:Z3j k1=some r) :
 FnOk Tryz.prog 198 [(.agg [(iv k1.op)].toArray)] [] (fun (h:Unit)=>((aD r),[])):=by
 unfold Z3j at a
 refine aQ Tryz.func198 R 3 R R fun C V=>?_
 refine cN V ?_
 refine aU ?_
 refine eF R fun e=>?_
 refine lO (vp (aD ([]:aM)) R) (aC ?_)
 let b:=aJ e [(iv k1.op)] 138::V
 refine qN b ?_
 refine aP ?_
 refine lO (vp (aD ([]:aM)) R) ?_
 refine aP ?_
 cases a
 exact qF () (tE 1 [])
theorem Z3q_ok  {k1:soloKind}{r:aM}(a:Z3q k1=some r) :
 FnOk Tryz.prog 201 [(.agg [(iv k1.op)].toArray)] [] (fun (h:Unit)=>((aD r),[])):=by
 unfold Z3q at a
 refine aQ Tryz.func201 R 3 R R fun C V=>?_
 refine cN V ?_
 refine aU ?_
 refine eF R fun e=>?_
 refine lO (vp (aD ([]:aM)) R) (aC ?_)
 let b:=aJ e [(iv k1.op)] 139::V
 refine qN b ?_
 refine aP ?_
 refine lO (vp (aD ([]:aM)) R) ?_
 refine aP ?_
 cases a
 exact qF () (tE 1 [])
theorem Z3r_ok  {k1:topKind}{r:aM}(a:Z3r k1=some r) :
 FnOk Tryz.prog 203 [(.agg [].toArray)] [] (fun (h:Unit)=>((aD r),[])):=by
 unfold Z3r at a
 refine aQ Tryz.func203 R 3 R R fun C V=>?_
 refine cN V ?_
 refine aU ?_
 refine eF R fun e=>?_
 refine lO (vp (aD ([]:aM)) R) (aC ?_)
 let b:=aJ e [] 141::V
 refine qN b ?_
 refine aP ?_
 refine lO (vp (aD eR) R) ?_
 refine aP ?_
 cases a
 exact qF () (tE 1 [])
theorem Z3h_ok  {k1:formKind}{r:aM}(a:Z3h k1=some r) :
 FnOk Tryz.prog 205 [(.agg [].toArray)] [] (fun (h:Unit)=>((aD r),[])):=by
 unfold Z3h at a
 refine aQ Tryz.func205 R 3 R R fun C V=>?_
 refine cN V ?_
 refine aU ?_
 refine eF R fun e=>?_
 refine lO (vp (aD ([]:aM)) R) (aC ?_)
 let b:=aJ e [] 142::V
 refine qN b ?_
 refine aP ?_
 refine lO (vp (aD ka) R) ?_
 refine aP ?_
 cases a
 exact qF () (tE 1 [])
theorem Z3o_ok  {k1:shiftKind}{r:aM}(a:Z3o k1=some r) :
 FnOk Tryz.prog 221 [(.agg [(aD k1.use),(.func (.func 124) [].toArray [].toArray)].toArray)] [] (fun (h:Unit)=>((aD r),[])):=by
 unfold Z3o at a
 refine aQ Tryz.func221 R 5 R R fun C V=>?_
 refine cN V ?_
 refine aU ?_
 refine eF R fun e=>?_
 refine lO (vp (aD ([]:aM)) R) (aC ?_)
 let b:=aJ e [(aD k1.use),(.func (.func 124) [].toArray [].toArray)] 145::V
 refine qN b ?_
 refine bZ ?_
 refine lO (vp (aD k1.use) R) ?_
 refine aP ?_
 cases a
 exact qF () (tE 1 [])
theorem Z3p_ok  {k1:shiftKind}{r:aM}(a:Z3p k1=some r) :
 FnOk Tryz.prog 221 [(.agg [(aD k1.use),(.func (.func 125) [].toArray [].toArray)].toArray)] [] (fun (h:Unit)=>((aD r),[])):=by
 unfold Z3p at a
 refine aQ Tryz.func221 R 5 R R fun C V=>?_
 refine cN V ?_
 refine aU ?_
 refine eF R fun e=>?_
 refine lO (vp (aD ([]:aM)) R) (aC ?_)
 let b:=aJ e [(aD k1.use),(.func (.func 125) [].toArray [].toArray)] 145::V
 refine qN b ?_
 refine bZ ?_
 refine lO (vp (aD k1.use) R) ?_
 refine aP ?_
 cases a
 exact qF () (tE 1 [])
theorem Z3k_ok  {k1:shiftKind}{g:Int}{i:Int}{b:Nat}{a:Nat}{e:Nat}{r:aM}(j:Z3k k1 g i=some r) :
 FnOk Tryz.prog 221 [(.agg [(aD k1.use),(.func (.func 149) [].toArray [(pt b 0),(pt a 0),(pt e 0)].toArray)].toArray)] [aJ b [(iv g)] 3,aJ a [(iv i)] 3,aJ e [(.func (.func 127) [].toArray [].toArray)] 150] (fun (h:Unit)=>((aD r),[aJ b [(iv g)] 3,aJ a [(iv i)] 3,aJ e [(.func (.func 127) [].toArray [].toArray)] 150])):=by
 unfold Z3k at j
 refine aQ Tryz.func221 R 5 R R fun C V=>?_
 refine aU ?_
 refine eF R fun l=>?_
 refine lO (vp (aD ([]:aM)) R) (aC ?_)
 let m:=aJ l [(aD k1.use),(.func (.func 149) [].toArray [(pt b 0),(pt a 0),(pt e 0)].toArray)] 145::aJ b [(iv g)] 3::aJ a [(iv i)] 3::aJ e [(.func (.func 127) [].toArray [].toArray)] 150::V
 refine qN m ?_
 refine bZ ?_
 refine lO (vp (aD k1.use) R) ?_
 refine aP ?_
 cases j
 exact qF () (fun w s=>(s.f 4 [1,3]))
theorem Z3l_ok  {k1:shiftKind}{g:Int}{i:Int}{b:Nat}{a:Nat}{e:Nat}{r:aM}(j:Z3l k1 g i=some r) :
 FnOk Tryz.prog 221 [(.agg [(aD k1.use),(.func (.func 149) [].toArray [(pt b 0),(pt a 0),(pt e 0)].toArray)].toArray)] [aJ b [(iv g)] 3,aJ a [(iv i)] 3,aJ e [(.func (.func 129) [].toArray [].toArray)] 150] (fun (h:Unit)=>((aD r),[aJ b [(iv g)] 3,aJ a [(iv i)] 3,aJ e [(.func (.func 129) [].toArray [].toArray)] 150])):=by
 unfold Z3l at j
 refine aQ Tryz.func221 R 5 R R fun C V=>?_
 refine aU ?_
 refine eF R fun l=>?_
 refine lO (vp (aD ([]:aM)) R) (aC ?_)
 let m:=aJ l [(aD k1.use),(.func (.func 149) [].toArray [(pt b 0),(pt a 0),(pt e 0)].toArray)] 145::aJ b [(iv g)] 3::aJ a [(iv i)] 3::aJ e [(.func (.func 129) [].toArray [].toArray)] 150::V
 refine qN m ?_
 refine bZ ?_
 refine lO (vp (aD k1.use) R) ?_
 refine aP ?_
 cases j
 exact qF () (fun w s=>(s.f 4 [1,3]))
theorem Z3m_ok  {k1:shiftKind}{g:Int}{i:Int}{b:Nat}{a:Nat}{e:Nat}{r:aM}(j:Z3m k1 g i=some r) :
 FnOk Tryz.prog 221 [(.agg [(aD k1.use),(.func (.func 149) [].toArray [(pt b 0),(pt a 0),(pt e 0)].toArray)].toArray)] [aJ b [(iv g)] 3,aJ a [(iv i)] 3,aJ e [(.func (.func 131) [].toArray [].toArray)] 150] (fun (h:Unit)=>((aD r),[aJ b [(iv g)] 3,aJ a [(iv i)] 3,aJ e [(.func (.func 131) [].toArray [].toArray)] 150])):=by
 unfold Z3m at j
 refine aQ Tryz.func221 R 5 R R fun C V=>?_
 refine aU ?_
 refine eF R fun l=>?_
 refine lO (vp (aD ([]:aM)) R) (aC ?_)
 let m:=aJ l [(aD k1.use),(.func (.func 149) [].toArray [(pt b 0),(pt a 0),(pt e 0)].toArray)] 145::aJ b [(iv g)] 3::aJ a [(iv i)] 3::aJ e [(.func (.func 131) [].toArray [].toArray)] 150::V
 refine qN m ?_
 refine bZ ?_
 refine lO (vp (aD k1.use) R) ?_
 refine aP ?_
 cases j
 exact qF () (fun w s=>(s.f 4 [1,3]))
theorem Z3n_ok  {k1:shiftKind}{g:Int}{i:Int}{b:Nat}{a:Nat}{e:Nat}{r:aM}(j:Z3n k1 g i=some r) :
 FnOk Tryz.prog 221 [(.agg [(aD k1.use),(.func (.func 149) [].toArray [(pt b 0),(pt a 0),(pt e 0)].toArray)].toArray)] [aJ b [(iv g)] 3,aJ a [(iv i)] 3,aJ e [(.func (.func 133) [].toArray [].toArray)] 150] (fun (h:Unit)=>((aD r),[aJ b [(iv g)] 3,aJ a [(iv i)] 3,aJ e [(.func (.func 133) [].toArray [].toArray)] 150])):=by
 unfold Z3n at j
 refine aQ Tryz.func221 R 5 R R fun C V=>?_
 refine aU ?_
 refine eF R fun l=>?_
 refine lO (vp (aD ([]:aM)) R) (aC ?_)
 let m:=aJ l [(aD k1.use),(.func (.func 149) [].toArray [(pt b 0),(pt a 0),(pt e 0)].toArray)] 145::aJ b [(iv g)] 3::aJ a [(iv i)] 3::aJ e [(.func (.func 133) [].toArray [].toArray)] 150::V
 refine qN m ?_
 refine bZ ?_
 refine lO (vp (aD k1.use) R) ?_
 refine aP ?_
 cases j
 exact qF () (fun w s=>(s.f 4 [1,3]))
theorem jz  {r:kindOfR}{b h1 h2:Nat}{q:aM}(a:fN r=some q) :
 InvOk Tryz.prog (cX r (b,h1,h2)) "loop.example/g00033/impl.uses" [] [eT r (b,h1,h2)] (fun (h:Unit)=>((aD q),[eT r (b,h1,h2)])):=by
 unfold fN at a
 rcases cO a with ⟨L,a⟩|⟨L,a⟩
 ·cases a
 rcases cO a with ⟨E,a⟩|⟨E,a⟩
 ·obtain ⟨t,j,g,e,i⟩:=r
  obtain rfl:=Nat.eq_of_beq_eq_true E
  exact InvOk.mk (ph _) (((Z3i_ok a).perm (Pre':=[pk []]) (fun _ _ _ s=>St.unpack (A:=[]) s)).post id (fun _=>rfl) (fun _ _ _ _ s=>St.pack (A:=[]) (s)))
 rcases cO a with ⟨J,a⟩|⟨J,a⟩
 ·obtain ⟨t,j,g,e,i⟩:=r
  obtain rfl:=Nat.eq_of_beq_eq_true J
  exact InvOk.mk (pi _) (((Z3j_ok a).perm (Pre':=[pk []]) (fun _ _ _ s=>St.unpack (A:=[]) s)).post id (fun _=>rfl) (fun _ _ _ _ s=>St.pack (A:=[]) (s)))
 rcases cO a with ⟨D,a⟩|⟨D,a⟩
 ·obtain ⟨t,j,g,e,i⟩:=r
  obtain rfl:=Nat.eq_of_beq_eq_true D
  exact InvOk.mk (pj _) (((Z3q_ok a).perm (Pre':=[pk []]) (fun _ _ _ s=>St.unpack (A:=[]) s)).post id (fun _=>rfl) (fun _ _ _ _ s=>St.pack (A:=[]) (s)))
 rcases cO a with ⟨F,a⟩|⟨F,a⟩
 ·obtain ⟨t,j,g,e,i⟩:=r
  obtain rfl:=Nat.eq_of_beq_eq_true F
  exact InvOk.mk (pl _) (((Z3r_ok (k1:=⟨⟩) a).perm (Pre':=[pk []]) (fun _ _ _ s=>St.unpack (A:=[]) s)).post id (fun _=>rfl) (fun _ _ _ _ s=>St.pack (A:=[]) (s)))
 rcases cO a with ⟨m,a⟩|⟨m,a⟩
 ·obtain ⟨t,j,g,e,i⟩:=r
  obtain rfl:=Nat.eq_of_beq_eq_true m
  exact InvOk.mk (pm _) (((Z3h_ok (k1:=⟨⟩) a).perm (Pre':=[pk []]) (fun _ _ _ s=>St.unpack (A:=[]) s)).post id (fun _=>rfl) (fun _ _ _ _ s=>St.pack (A:=[]) (s)))
 rcases cO a with ⟨G,a⟩|⟨G,a⟩
 ·obtain ⟨t,j,g,e,i⟩:=r
  obtain rfl:=Nat.eq_of_beq_eq_true G
  exact InvOk.mk (gU _) (((Z3o_ok a).perm (Pre':=[pk []]) (fun _ _ _ s=>St.unpack (A:=[]) s)).post id (fun _=>rfl) (fun _ _ _ _ s=>St.pack (A:=[]) (s)))
 rcases cO a with ⟨B,a⟩|⟨B,a⟩
 ·obtain ⟨t,j,g,e,i⟩:=r
  obtain rfl:=Nat.eq_of_beq_eq_true B
  exact InvOk.mk (gU _) (((Z3p_ok a).perm (Pre':=[pk []]) (fun _ _ _ s=>St.unpack (A:=[]) s)).post id (fun _=>rfl) (fun _ _ _ _ s=>St.pack (A:=[]) (s)))
 rcases cO a with ⟨u,a⟩|⟨u,a⟩
 ·obtain ⟨t,j,g,e,i⟩:=r
  obtain rfl:=Nat.eq_of_beq_eq_true u
  exact InvOk.mk (gU _) (((Z3k_ok a).perm (Pre':=[pk [aJ b [(iv g)] 3,aJ h1 [(iv e)] 3,aJ h2 [(.func (.func 127) [].toArray [].toArray)] 150]]) (fun _ _ _ s=>St.unpack (A:=[aJ b [(iv g)] 3,aJ h1 [(iv e)] 3,aJ h2 [(.func (.func 127) [].toArray [].toArray)] 150]) s)).post id (fun _=>rfl) (fun _ _ _ _ s=>St.pack (A:=[aJ b [(iv g)] 3,aJ h1 [(iv e)] 3,aJ h2 [(.func (.func 127) [].toArray [].toArray)] 150]) (s)))
 rcases cO a with ⟨I,a⟩|⟨I,a⟩
 ·obtain ⟨t,j,g,e,i⟩:=r
  obtain rfl:=Nat.eq_of_beq_eq_true I
  exact InvOk.mk (gU _) (((Z3l_ok a).perm (Pre':=[pk [aJ b [(iv g)] 3,aJ h1 [(iv e)] 3,aJ h2 [(.func (.func 129) [].toArray [].toArray)] 150]]) (fun _ _ _ s=>St.unpack (A:=[aJ b [(iv g)] 3,aJ h1 [(iv e)] 3,aJ h2 [(.func (.func 129) [].toArray [].toArray)] 150]) s)).post id (fun _=>rfl) (fun _ _ _ _ s=>St.pack (A:=[aJ b [(iv g)] 3,aJ h1 [(iv e)] 3,aJ h2 [(.func (.func 129) [].toArray [].toArray)] 150]) (s)))
 rcases cO a with ⟨l,a⟩|⟨l,a⟩
 ·obtain ⟨t,j,g,e,i⟩:=r
  obtain rfl:=Nat.eq_of_beq_eq_true l
  exact InvOk.mk (gU _) (((Z3m_ok a).perm (Pre':=[pk [aJ b [(iv g)] 3,aJ h1 [(iv e)] 3,aJ h2 [(.func (.func 131) [].toArray [].toArray)] 150]]) (fun _ _ _ s=>St.unpack (A:=[aJ b [(iv g)] 3,aJ h1 [(iv e)] 3,aJ h2 [(.func (.func 131) [].toArray [].toArray)] 150]) s)).post id (fun _=>rfl) (fun _ _ _ _ s=>St.pack (A:=[aJ b [(iv g)] 3,aJ h1 [(iv e)] 3,aJ h2 [(.func (.func 131) [].toArray [].toArray)] 150]) (s)))
 have O:cX r (b,h1,h2)=(.iface 145 (.agg [(aD r.s0),(.func (.func 149) [].toArray [(pt b 0),(pt h1 0),(pt h2 0)].toArray)].toArray)):=by simp only [cX,L,E,J,D,F,m,G,B,u,I,l,cond_false]
 have M:eT r (b,h1,h2)=pk [aJ b [(iv r.i0)] 3,aJ h1 [(iv r.i1)] 3,aJ h2 [(.func (.func 133) [].toArray [].toArray)] 150]:=by simp only [eT,L,E,J,D,F,m,G,B,u,I,l,cond_false]
 rw [O,M]
 exact InvOk.mk (gU _) (((Z3n_ok a).perm (Pre':=[pk [aJ b [(iv r.i0)] 3,aJ h1 [(iv r.i1)] 3,aJ h2 [(.func (.func 133) [].toArray [].toArray)] 150]]) (fun _ _ _ s=>St.unpack (A:=[aJ b [(iv r.i0)] 3,aJ h1 [(iv r.i1)] 3,aJ h2 [(.func (.func 133) [].toArray [].toArray)] 150]) s)).post id (fun _=>rfl) (fun _ _ _ _ s=>St.pack (A:=[aJ b [(iv r.i0)] 3,aJ h1 [(iv r.i1)] 3,aJ h2 [(.func (.func 133) [].toArray [].toArray)] 150]) (s)))
theorem Z7_ok  {i:aM}{e:aM}{mG:Int}{a:Nat}{r:Bool}(b:Z7 i e=some r) :
 FnOk Tryz.prog 135 [(aD i),(pt a 0)] [aJ a [(aD e)] 9,gl 0 mG] (fun (h:Unit)=>((.bool r),[aJ a [(aD e)] 9])):=by
 unfold Z7 at b
 refine aQ Tryz.func135 R 7 R R fun C V=>?_
 let l:=gl 0 mG::V
 refine bG ?_
 let j:=aJ a [(aD e)] 9::l
 refine qN j ?_
 refine aU ?_
 obtain ⟨m,g,b⟩:=bd b
 refine aU ?_
 refine lO (vp (aD i) R) (lM _ (fun w s=>(s.dg 1 R)) ?_)
 refine lC 1 yW R (Z3t_ok g) R ?_
 rintro _
 refine lN j ?_
 refine bG ?_
 cases b
 exact qF () (tE 2 [0])
theorem Z1x_ok  {a:Node}{U:aM}{mG:Int}{r:Bool}(hr:Z1x a U=some r) :
 FnOk Tryz.prog 97 [(.agg [(iv a.Op),(.slice A2 N2 D2),(.slice A3 N3 D3),(.slice A4 N4 D4),(aD a.Form),(.slice A5 N5 D5)].toArray),(aD U)] [aN kT3 (.slice A2 N2 D2) a.Args,aN kT3 (.slice A3 N3 D3) a.Dims,aN kT3 (.slice A4 N4 D4) a.Ints,aN kT3 (.slice A5 N5 D5) a.Data,gl 0 mG] (fun (h:Unit)=>((.bool r),[])):=by
 unfold Z1x at hr
 refine aQ Tryz.func97 R 44 R R fun C V=>?_
 refine cL 0 aA ?_
 rintro rfl
 refine cL 1 aA ?_
 rintro rfl
 refine cL 2 aA ?_
 rintro rfl
 refine cL 3 aA ?_
 rintro rfl
 let W0:=RR kT3 A2 D2 a.Args::RR kT3 A3 D3 a.Dims::RR kT3 A4 D4 a.Ints::RR kT3 A5 D5 a.Data::gl 0 mG::V
 refine cN W0 ?_
 refine aU ?_
 refine eF R fun b7=>?_
 refine eZ (cs:=[(aD U)]) R R R (fun T=>(lB R (aC ?_)))
 let W1:=aJ b7 [(iv a.Op),(sc A2 a.Args D2),(sc A3 a.Dims D3),(sc A4 a.Ints D4),(aD a.Form),(sc A5 a.Data D5)] 54::W0
 refine aP ?_
 refine lO (vp (.func (.func 135) [].toArray [(pt T 0)].toArray) R) (lO (vp _ R) ?_)
 refine aP ?_
 obtain ⟨Y,ah,hr⟩:=bd hr
 obtain ⟨j,ag,hr⟩:=bd hr
 obtain ⟨g,a0,hr⟩:=bd hr
 obtain ⟨b,O,hr⟩:=bd hr
 refine cQ [(4,(.bool ((((Y||((a.Dims.length:Int)==0))&&(j||((a.Ints.length:Int)==0)))&&(g||(a.Form==([]:aM))))&&(b||((a.Data.length:Int)==0)))))] (W1) ?_ ?_
 refine aE (lO (vp _ R) (lM _ (fun w s=>((s.dg 6 R).e 2 [1,0])) ?_))
 refine cE (fs:=[]) (cs:=[(pt T 0)]) 2 R R iG R R (Z7_ok ah) R ?_
 rintro _
 refine bU ?_
 rcases bo Y with m | m
 refine bG ?_
 refine lO (fC ((a.Dims.length:Int)==0) R m) (lB R (lW (eH (oT m)) (vp _ R) (lM _ (fun w s=>((s.dg 6 R).e 2 [1,0])) ?_)))
 refine cE (fs:=[]) (cs:=[(pt T 0)]) 2 R (eH (oT m)) iG R R (Z7_ok (bN ag (oT m))) R ?_
 rintro _
 refine bU ?_
 rcases bo j with a6 | a6
 refine bG ?_
 refine lW (eH (oT m)) (fC ((a.Ints.length:Int)==0) R a6) (lO (iV R (oT m) R) (lB R ?_))
 rcases bo ((Y||((a.Dims.length:Int)==0))&&(j||((a.Ints.length:Int)==0))) with u | u
 refine lW (eH u) (vp _ R) (lM _ (fun w s=>((s.dg 6 R).e 2 [1,0])) ?_)
 refine cE (fs:=[]) (cs:=[(pt T 0)]) 2 R (eH u) iG R R (Z7_ok (bN a0 u)) R ?_
 rintro _
 refine bU ?_
 rcases bo g with a1 | a1
 refine aP ?_
 refine lW (eH u) (fC (a.Form==([]:aM)) R a1) (lO (iV R u R) (lB R ?_))
 rcases bo (((Y||((a.Dims.length:Int)==0))&&(j||((a.Ints.length:Int)==0)))&&(g||(a.Form==([]:aM)))) with F | F
 refine lW (eH F) (vp _ R) (lM _ (fun w s=>((s.dg 6 R).e 2 [1,0])) ?_)
 refine cE (fs:=[]) (cs:=[(pt T 0)]) 2 R (eH F) iG R R (Z7_ok (bN O F)) R ?_
 rintro _
 refine bU ?_
 rcases bo b with a8 | a8
 refine bG ?_
 refine lW (eH F) (fC ((a.Data.length:Int)==0) R a8) (lO (iV R F R) ?_)
 refine aU ?_
 exact qj (tE 1 [])
 refine bG ?_
 refine lW (eH F) (fU R a8 R) (lO (iV R F R) ?_)
 refine aU ?_
 exact qj (tE 1 [])
 refine cV ?_
 refine lO (kf (b||((a.Data.length:Int)==0)) R F) ?_
 refine aU ?_
 exact qj (tE 1 [])
 refine aU ?_
 refine lW (cA a1) (vz (.bool (a.Form==([]:aM))) (jd R R R)) (lW (eH u) (fU R a1 R) (lO (iV R u R) (lB R ?_)))
 rcases bo (((Y||((a.Dims.length:Int)==0))&&(j||((a.Ints.length:Int)==0)))&&(g||(a.Form==([]:aM)))) with M | M
 refine lW (eH M) (vp _ R) (lM _ (fun w s=>((s.dg 6 R).e 2 [1,0])) ?_)
 refine cE (fs:=[]) (cs:=[(pt T 0)]) 2 R (eH M) iG R R (Z7_ok (bN O M)) R ?_
 rintro _
 refine bU ?_
 rcases bo b with a7 | a7
 refine bG ?_
 refine lW (eH M) (fC ((a.Data.length:Int)==0) R a7) (lO (iV R M R) ?_)
 refine aU ?_
 exact qj (tE 1 [])
 refine bG ?_
 refine lW (eH M) (fU R a7 R) (lO (iV R M R) ?_)
 refine aU ?_
 exact qj (tE 1 [])
 refine cV ?_
 refine lO (kf (b||((a.Data.length:Int)==0)) R M) ?_
 refine aU ?_
 exact qj (tE 1 [])
 refine dG ?_
 refine lO (kf (g||(a.Form==([]:aM))) R u) ?_
 refine cU ?_
 refine lO (kf (b||((a.Data.length:Int)==0)) R (aF u)) ?_
 refine aU ?_
 exact qj (tE 1 [])
 refine bG ?_
 refine lW (eH (oT m)) (fU R a6 R) (lO (iV R (oT m) R) (lB R ?_))
 rcases bo ((Y||((a.Dims.length:Int)==0))&&(j||((a.Ints.length:Int)==0))) with l | l
 refine lW (eH l) (vp _ R) (lM _ (fun w s=>((s.dg 6 R).e 2 [1,0])) ?_)
 refine cE (fs:=[]) (cs:=[(pt T 0)]) 2 R (eH l) iG R R (Z7_ok (bN a0 l)) R ?_
 rintro _
 refine bU ?_
 rcases bo g with Z | Z
 refine aP ?_
 refine lW (eH l) (fC (a.Form==([]:aM)) R Z) (lO (iV R l R) (lB R ?_))
 rcases bo (((Y||((a.Dims.length:Int)==0))&&(j||((a.Ints.length:Int)==0)))&&(g||(a.Form==([]:aM)))) with D | D
 refine lW (eH D) (vp _ R) (lM _ (fun w s=>((s.dg 6 R).e 2 [1,0])) ?_)
 refine cE (fs:=[]) (cs:=[(pt T 0)]) 2 R (eH D) iG R R (Z7_ok (bN O D)) R ?_
 rintro _
 refine bU ?_
 rcases bo b with ae | ae
 refine bG ?_
 refine lW (eH D) (fC ((a.Data.length:Int)==0) R ae) (lO (iV R D R) ?_)
 refine aU ?_
 exact qj (tE 1 [])
 refine bG ?_
 refine lW (eH D) (fU R ae R) (lO (iV R D R) ?_)
 refine aU ?_
 exact qj (tE 1 [])
 refine cV ?_
 refine lO (kf (b||((a.Data.length:Int)==0)) R D) ?_
 refine aU ?_
 exact qj (tE 1 [])
 refine aU ?_
 refine lW (cA Z) (vz (.bool (a.Form==([]:aM))) (jd R R R)) (lW (eH l) (fU R Z R) (lO (iV R l R) (lB R ?_)))
 rcases bo (((Y||((a.Dims.length:Int)==0))&&(j||((a.Ints.length:Int)==0)))&&(g||(a.Form==([]:aM)))) with G | G
 refine lW (eH G) (vp _ R) (lM _ (fun w s=>((s.dg 6 R).e 2 [1,0])) ?_)
 refine cE (fs:=[]) (cs:=[(pt T 0)]) 2 R (eH G) iG R R (Z7_ok (bN O G)) R ?_
 rintro _
 refine bU ?_
 rcases bo b with a9 | a9
 refine bG ?_
 refine lW (eH G) (fC ((a.Data.length:Int)==0) R a9) (lO (iV R G R) ?_)
 refine aU ?_
 exact qj (tE 1 [])
 refine bG ?_
 refine lW (eH G) (fU R a9 R) (lO (iV R G R) ?_)
 refine aU ?_
 exact qj (tE 1 [])
 refine cV ?_
 refine lO (kf (b||((a.Data.length:Int)==0)) R G) ?_
 refine aU ?_
 exact qj (tE 1 [])
 refine dG ?_
 refine lO (kf (g||(a.Form==([]:aM))) R l) ?_
 refine cU ?_
 refine lO (kf (b||((a.Data.length:Int)==0)) R (aF l)) ?_
 refine aU ?_
 exact qj (tE 1 [])
 refine bG ?_
 refine lO (fU R m R) (lB R ?_)
 rcases bo (Y||((a.Dims.length:Int)==0)) with i | i
 refine lW (eH i) (vp _ R) (lM _ (fun w s=>((s.dg 6 R).e 2 [1,0])) ?_)
 refine cE (fs:=[]) (cs:=[(pt T 0)]) 2 R (eH i) iG R R (Z7_ok (bN ag i)) R ?_
 rintro _
 refine bU ?_
 rcases bo j with aa | aa
 refine bG ?_
 refine lW (eH i) (fC ((a.Ints.length:Int)==0) R aa) (lO (iV R i R) (lB R ?_))
 rcases bo ((Y||((a.Dims.length:Int)==0))&&(j||((a.Ints.length:Int)==0))) with q | q
 refine lW (eH q) (vp _ R) (lM _ (fun w s=>((s.dg 6 R).e 2 [1,0])) ?_)
 refine cE (fs:=[]) (cs:=[(pt T 0)]) 2 R (eH q) iG R R (Z7_ok (bN a0 q)) R ?_
 rintro _
 refine bU ?_
 rcases bo g with a2 | a2
 refine aP ?_
 refine lW (eH q) (fC (a.Form==([]:aM)) R a2) (lO (iV R q R) (lB R ?_))
 rcases bo (((Y||((a.Dims.length:Int)==0))&&(j||((a.Ints.length:Int)==0)))&&(g||(a.Form==([]:aM)))) with E | E
 refine lW (eH E) (vp _ R) (lM _ (fun w s=>((s.dg 6 R).e 2 [1,0])) ?_)
 refine cE (fs:=[]) (cs:=[(pt T 0)]) 2 R (eH E) iG R R (Z7_ok (bN O E)) R ?_
 rintro _
 refine bU ?_
 rcases bo b with a4 | a4
 refine bG ?_
 refine lW (eH E) (fC ((a.Data.length:Int)==0) R a4) (lO (iV R E R) ?_)
 refine aU ?_
 exact qj (tE 1 [])
 refine bG ?_
 refine lW (eH E) (fU R a4 R) (lO (iV R E R) ?_)
 refine aU ?_
 exact qj (tE 1 [])
 refine cV ?_
 refine lO (kf (b||((a.Data.length:Int)==0)) R E) ?_
 refine aU ?_
 exact qj (tE 1 [])
 refine aU ?_
 refine lW (cA a2) (vz (.bool (a.Form==([]:aM))) (jd R R R)) (lW (eH q) (fU R a2 R) (lO (iV R q R) (lB R ?_)))
 rcases bo (((Y||((a.Dims.length:Int)==0))&&(j||((a.Ints.length:Int)==0)))&&(g||(a.Form==([]:aM)))) with J | J
 refine lW (eH J) (vp _ R) (lM _ (fun w s=>((s.dg 6 R).e 2 [1,0])) ?_)
 refine cE (fs:=[]) (cs:=[(pt T 0)]) 2 R (eH J) iG R R (Z7_ok (bN O J)) R ?_
 rintro _
 refine bU ?_
 rcases bo b with ac | ac
 refine bG ?_
 refine lW (eH J) (fC ((a.Data.length:Int)==0) R ac) (lO (iV R J R) ?_)
 refine aU ?_
 exact qj (tE 1 [])
 refine bG ?_
 refine lW (eH J) (fU R ac R) (lO (iV R J R) ?_)
 refine aU ?_
 exact qj (tE 1 [])
 refine cV ?_
 refine lO (kf (b||((a.Data.length:Int)==0)) R J) ?_
 refine aU ?_
 exact qj (tE 1 [])
 refine dG ?_
 refine lO (kf (g||(a.Form==([]:aM))) R q) ?_
 refine cU ?_
 refine lO (kf (b||((a.Data.length:Int)==0)) R (aF q)) ?_
 refine aU ?_
 exact qj (tE 1 [])
 refine bG ?_
 refine lW (eH i) (fU R aa R) (lO (iV R i R) (lB R ?_))
 rcases bo ((Y||((a.Dims.length:Int)==0))&&(j||((a.Ints.length:Int)==0))) with B | B
 refine lW (eH B) (vp _ R) (lM _ (fun w s=>((s.dg 6 R).e 2 [1,0])) ?_)
 refine cE (fs:=[]) (cs:=[(pt T 0)]) 2 R (eH B) iG R R (Z7_ok (bN a0 B)) R ?_
 rintro _
 refine bU ?_
 rcases bo g with a3 | a3
 refine aP ?_
 refine lW (eH B) (fC (a.Form==([]:aM)) R a3) (lO (iV R B R) (lB R ?_))
 rcases bo (((Y||((a.Dims.length:Int)==0))&&(j||((a.Ints.length:Int)==0)))&&(g||(a.Form==([]:aM)))) with I | I
 refine lW (eH I) (vp _ R) (lM _ (fun w s=>((s.dg 6 R).e 2 [1,0])) ?_)
 refine cE (fs:=[]) (cs:=[(pt T 0)]) 2 R (eH I) iG R R (Z7_ok (bN O I)) R ?_
 rintro _
 refine bU ?_
 rcases bo b with a5 | a5
 refine bG ?_
 refine lW (eH I) (fC ((a.Data.length:Int)==0) R a5) (lO (iV R I R) ?_)
 refine aU ?_
 exact qj (tE 1 [])
 refine bG ?_
 refine lW (eH I) (fU R a5 R) (lO (iV R I R) ?_)
 refine aU ?_
 exact qj (tE 1 [])
 refine cV ?_
 refine lO (kf (b||((a.Data.length:Int)==0)) R I) ?_
 refine aU ?_
 exact qj (tE 1 [])
 refine aU ?_
 refine lW (cA a3) (vz (.bool (a.Form==([]:aM))) (jd R R R)) (lW (eH B) (fU R a3 R) (lO (iV R B R) (lB R ?_)))
 rcases bo (((Y||((a.Dims.length:Int)==0))&&(j||((a.Ints.length:Int)==0)))&&(g||(a.Form==([]:aM)))) with L | L
 refine lW (eH L) (vp _ R) (lM _ (fun w s=>((s.dg 6 R).e 2 [1,0])) ?_)
 refine cE (fs:=[]) (cs:=[(pt T 0)]) 2 R (eH L) iG R R (Z7_ok (bN O L)) R ?_
 rintro _
 refine bU ?_
 rcases bo b with ab | ab
 refine bG ?_
 refine lW (eH L) (fC ((a.Data.length:Int)==0) R ab) (lO (iV R L R) ?_)
 refine aU ?_
 exact qj (tE 1 [])
 refine bG ?_
 refine lW (eH L) (fU R ab R) (lO (iV R L R) ?_)
 refine aU ?_
 exact qj (tE 1 [])
 refine cV ?_
 refine lO (kf (b||((a.Data.length:Int)==0)) R L) ?_
 refine aU ?_
 exact qj (tE 1 [])
 refine dG ?_
 refine lO (kf (g||(a.Form==([]:aM))) R B) ?_
 refine cU ?_
 refine lO (kf (b||((a.Data.length:Int)==0)) R (aF B)) ?_
 refine aU ?_
 exact qj (tE 1 [])
 refine cV ?_
 refine lO (kf (j||((a.Ints.length:Int)==0)) R i) ?_
 refine cV ?_
 refine lO (kf (g||(a.Form==([]:aM))) R (aF i)) ?_
 refine cU ?_
 refine lO (kf (b||((a.Data.length:Int)==0)) R (aF (aF i))) ?_
 refine aU ?_
 exact qj (tE 1 [])
 rintro σ1
 refine aU ?_
 cases hr
 exact qF () (tE 6 [])
theorem Zd_ok  {b:(List Int)}{r:Bool}(e:Zd b=some r) :
 FnOk Tryz.prog 147 [(.slice A2 N2 D2)] [aN kT3 (.slice A2 N2 D2) b] (fun (h:Unit)=>((.bool r),[])):=by
 unfold Zd at e
 refine aQ Tryz.func147 R 27 R R fun C V=>?_
 refine cL 0 aA ?_
 rintro rfl
 let u:=RR kT3 A2 D2 b::V
 refine cN u ?_
 refine hN ?_
 refine aZ (A:=(Unit)×(HH)) (fun a=>Zd_J1 b=some r) (fun a=>[(0,(s3 a.2))]) (fun a=>aN kT3 (s3 a.2) b::u) ?_ ?_
 refine cV ?_
 obtain ⟨M,D,j⟩:=bd e
 refine bD (A:=HH) D (fun s a=>[(0,(s3 a)),(3,(iv s.1)),(6,(s3 a)),(7,(il b)),(8,(iv s.2))]) (fun s a=>aN kT3 (s3 a) b::u) (A2,b.length,D2) (aS R) (fun w s=>(s.d 0 R)) ?_
 rintro ⟨B,g⟩ ⟨A10,N10,D10⟩ σ1 G e l
 dsimp only [Zd_L1] at e
 refine bJ 0 aA (fun (E:N10=b.length)=>?_)
 subst E
 refine bT ?_
 split at e
 refine bT ?_
 obtain ⟨m,e⟩:=gd e
 refine aE (bA 0 aA (show 0<b.length by have:=m; omega) (fun i o16 J=>?_))
 subst J
 refine dG ?_
 refine cQ [(0,(sc (ad i o16) b D10)),(3,(iv B)),(5,(iv (ix b g))),(6,(sc (ad i o16) b D10)),(7,(il b)),(8,(iv g)),(17,(.bool ((decide ((ix b g)<1))||(decide ((ix b g)>4096)))))] (RR kT3 (ad i o16) D10 b::u) ?_ ?_
 refine bG ?_
 rcases bo (decide ((ix b g)<1)) with q | q
 refine bG ?_
 exact qj tI
 refine bG ?_
 exact qj tI
 rintro σ1
 refine bU ?_
 split at e
 refine cP ?_
 cases e
 obtain rfl:=l _ R
 have e:=j
 refine aP ?_
 cases e
 exact qF () (tE 2 [])
 refine om ?_
 split at e
 refine cU ?_
 cases e
 obtain rfl:=l _ R
 have e:=j
 refine aP ?_
 cases e
 exact qF () (tE 2 [])
 refine cV ?_
 cases e
 exact qA ((ad i o16),b.length,D10) tI
 refine aP ?_
 cases e
 obtain rfl:=l _ R
 have e:=j
 refine aU ?_
 exact qI ((),(A10,b.length,D10)) e tI
 rintro ⟨_,⟨L,F,I⟩⟩ σ1 e
 dsimp only [Zd_J1] at e
 refine bJ 0 aA (fun (E:F=b.length)=>?_)
 subst E
 refine cU ?_
 cases e
 exact qF () (tE 2 [])
theorem Zn_ok  {b:(List Int)}{r:Int}(e:Zn b=some r) :
 FnOk Tryz.prog 148 [(.slice A2 N2 D2)] [aN kT3 (.slice A2 N2 D2) b] (fun (h:Unit)=>((iv r),[])):=by
 unfold Zn at e
 refine aQ Tryz.func148 R 17 R R fun C V=>?_
 refine cL 0 aA ?_
 rintro rfl
 let i:=RR kT3 A2 D2 b::V
 refine cN i ?_
 refine hN ?_
 refine aZ (A:=(Int)×(Unit)) (fun a=>Zn_J1 a.1=some r) (fun a=>[(3,(iv a.1))]) (fun a=>i) ?_ ?_
 refine cV ?_
 obtain ⟨F,l,j⟩:=bd e
 refine bD (A:=Unit) l (fun s a=>[(3,(iv s.1)),(6,(sc A2 b D2)),(7,(il b)),(8,(iv s.2))]) (fun s a=>i) () (aS R) tI ?_
 rintro ⟨D,G⟩ _ σ1 q e m
 dsimp only [Zn_L1] at e
 refine bT ?_
 split at e
 refine bT ?_
 obtain ⟨g,e⟩:=gd e
 refine aE (bA 0 aA (show 0<b.length by have:=g; omega) (fun E o12 B=>?_))
 subst B
 refine om ?_
 cases e
 exact qA () tI
 refine aP ?_
 cases e
 obtain rfl:=m _ R
 have e:=j
 refine aU ?_
 exact qI (D,()) e tI
 rintro ⟨u,_⟩ σ1 e
 dsimp only [Zn_J1] at e
 refine dG ?_
 cases e
 exact qF () (tE 1 [])
theorem Z35_ok  {p1:Int}{r:Bool}(b:Z35 p1=some r) :
 FnOk Tryz.prog 196 [(iv p1)] [] (fun (h:Unit)=>((.bool r),[])):=by
 unfold Z35 at b
 refine aQ Tryz.func196 R 9 R R fun C V=>?_
 refine cN V ?_
 refine bT ?_
 refine cQ [(2,(.bool ((decide (p1≥0))&&(decide (p1<2147483647)))))] (V) ?_ ?_
 refine bG ?_
 rcases bo (decide (p1≥0)) with a | a
 refine bZ ?_
 exact qj tI
 refine bZ ?_
 exact qj tI
 rintro σ1
 refine aU ?_
 cases b
 exact qF () tI
theorem Z16_ok  {e:(List Int)}{r:Bool}(b:Z16 e=some r) :
 FnOk Tryz.prog 195 [(.slice A2 N2 D2)] [aN kT3 (.slice A2 N2 D2) e] (fun (h:Unit)=>((.bool r),[])):=by
 unfold Z16 at b
 refine aQ Tryz.func195 R 15 R R fun C V=>?_
 refine cL 0 aA ?_
 rintro rfl
 let m:=RR kT3 A2 D2 e::V
 refine cN m ?_
 refine bT ?_
 refine aZ (A:=(Unit)×(Unit)) (fun a=>Z16_J1=some r) (fun a=>[]) (fun a=>m) ?_ ?_
 refine cV ?_
 obtain ⟨G,q,g⟩:=bd b
 refine bD (A:=Unit) q (fun s a=>[(5,(sc A2 e D2)),(6,(il e)),(7,(iv s))]) (fun s a=>m) () (aS R) tI ?_
 rintro E _ σ1 u b j
 dsimp only [Z16_L1] at b
 refine bT ?_
 split at b
 refine bT ?_
 obtain ⟨i,b⟩:=gd b
 refine aE (bA 0 aA (show 0<e.length by have:=i; omega) (fun B o14 D=>?_))
 subst D
 refine bT ?_
 obtain ⟨F,l,b⟩:=bd b
 refine aU ?_
 refine lC 0 yY R (Z35_ok l) R ?_
 rintro _
 refine aP ?_
 split at b
 refine cU ?_
 cases b
 obtain rfl:=j _ R
 have b:=g
 refine aP ?_
 cases b
 exact qF () (tE 1 [])
 refine cV ?_
 cases b
 exact qA () tI
 refine aP ?_
 cases b
 obtain rfl:=j _ R
 have b:=g
 refine aU ?_
 exact cS ((),()) b trivial tI
 rintro ⟨_,_⟩ σ1 b
 dsimp only [Z16_J1] at b
 refine bT ?_
 cases b
 exact qF () (tE 1 [])
theorem Z2n_ok  {t1:Tensor}{r:Bool}(e:Z2n t1=some r) :
 FnOk Tryz.prog 194 [(.agg [(.slice A2 N2 D2),(.slice A3 N3 D3)].toArray)] [aN kT3 (.slice A2 N2 D2) t1.Dims,aN kT3 (.slice A3 N3 D3) t1.Data] (fun (h:Unit)=>((.bool r),[])):=by
 unfold Z2n at e
 refine aQ Tryz.func194 R 20 R R fun C V=>?_
 refine cL 0 aA ?_
 rintro rfl
 refine cL 1 aA ?_
 rintro rfl
 let q:=RR kT3 A2 D2 t1.Dims::RR kT3 A3 D3 t1.Data::V
 refine cN q ?_
 refine aU ?_
 refine eF R fun E=>?_
 refine aU ?_
 let g:=aJ E [(sc A2 t1.Dims D2),(sc A3 t1.Data D3)] 58::q
 refine qN g ?_
 refine aU ?_
 obtain ⟨m,i,e⟩:=bd e
 obtain ⟨D,l,e⟩:=bd e
 obtain ⟨F,j,e⟩:=bd e
 refine cQ [(2,(.bool ((m&&((t1.Data.length:Int)==D))&&F)))] (g) ?_ ?_
 rcases bo m with a | a
 rcases bo (m&&((t1.Data.length:Int)==D)) with b | b
 refine dF 18 [] bP fun u B=>?_
 refine gR 0 [] ?_
 refine d1 2 R (lM _ (fun w s=>(s.d 1 R)) ?_)
 refine lC 1 i' R (Zd_ok i) R ?_
 rintro _
 refine lN g ?_
 refine aC (aG (sL []) ?_)
 refine sf 3 [] ?_
 refine d1 9 R (lM _ (fun w s=>(s.d 1 R)) ?_)
 refine bX 1 R (eH a) jy R (Zn_ok (bN l a)) R ?_
 rintro _
 refine lN g ?_
 refine aC (aG (sL []) ?_)
 refine kk 10 [] ?_
 refine d1 15 R (lM _ (fun w s=>(s.d 2 R)) ?_)
 refine bX 1 R (eH b) yZ R (Z16_ok (bN j b)) R ?_
 rintro _
 refine lN g ?_
 refine aC (aG (sL []) ?_)
 refine gR 16 [] ?_
 refine dD ?_
 exact qj tI
 refine dF 18 [] bP fun u B=>?_
 refine gR 0 [] ?_
 refine d1 2 R (lM _ (fun w s=>(s.d 1 R)) ?_)
 refine lC 1 i' R (Zd_ok i) R ?_
 rintro _
 refine lN g ?_
 refine aC (aG (sL []) ?_)
 refine sf 3 [] ?_
 refine d1 9 R (lM _ (fun w s=>(s.d 1 R)) ?_)
 refine bX 1 R (eH a) jy R (Zn_ok (bN l a)) R ?_
 rintro _
 refine lN g ?_
 refine aC (aG (sL []) ?_)
 refine ug 10 [] ?_
 refine dD ?_
 exact qj tI
 refine dF 18 [] bP fun u B=>?_
 refine gR 0 [] ?_
 refine d1 2 R (lM _ (fun w s=>(s.d 1 R)) ?_)
 refine lC 1 i' R (Zd_ok i) R ?_
 rintro _
 refine lN g ?_
 refine aC (aG (sL []) ?_)
 refine wC 3 [] ?_
 refine dD ?_
 exact qj tI
 rintro σ1
 refine aU ?_
 cases e
 exact qF () (tE 3 [])
theorem Z1m_ok  {k1:leafKind}{b:Node}{a:(List (List Int))}{r:(List Int)×Bool}(j:Z1m k1 b a=some r) :
 FnOk Tryz.prog 192 [(.agg [(.bool k1.data)].toArray),(.agg [(iv b.Op),(.slice A3 N3 D3),(.slice A4 N4 D4),(.slice A5 N5 D5),(aD b.Form),(.slice A6 N6 D6)].toArray),(.slice A8 N8 D8)] [aN kT3 (.slice A3 N3 D3) b.Args,aN kT3 (.slice A4 N4 D4) b.Dims,aN kT3 (.slice A5 N5 D5) b.Ints,aN kT3 (.slice A6 N6 D6) b.Data,aN bL (.slice A8 N8 D8) a] (fun (h:HH)=>((.tuple [(s3 h),(.bool r.2)].toArray),[aN kT3 (s3 h) r.1])):=by
 unfold Z1m at j
 refine aQ Tryz.func192 R 32 R R fun C V=>?_
 refine cL 0 aA ?_
 rintro rfl
 refine cL 1 aA ?_
 rintro rfl
 refine cL 2 aA ?_
 rintro rfl
 refine cL 3 aA ?_
 rintro rfl
 refine cL 4 aA ?_
 rintro rfl
 let F:=RR kT3 A3 D3 b.Args::RR kT3 A4 D4 b.Dims::RR kT3 A5 D5 b.Ints::RR kT3 A6 D6 b.Data::RR bL A8 D8 a::V
 refine cN F ?_
 refine aU ?_
 refine eF R fun G=>?_
 refine eF R fun B=>?_
 refine aP ?_
 let D:=aJ B [(iv b.Op),(sc A3 b.Args D3),(sc A4 b.Dims D4),(sc A5 b.Ints D5),(aD b.Form),(sc A6 b.Data D6)] 54::aJ G [(.bool k1.data)] 136::F
 refine qN D ?_
 refine aP ?_
 obtain ⟨u,m,j⟩:=bd j
 obtain ⟨E,q,j⟩:=bd j
 refine cQ [(4,(pt B 0)),(29,(.bool ((((a.length:Int) != 0)||(!u))||(k1.data&&(!E)))))] (D) ?_ ?_
 refine bZ ?_
 rcases bo ((a.length:Int) != 0) with i | i
 refine AA ?_
 exact qj tI
 refine aU ?_
 refine lM _ (fun w s=>(s.d 3 R)) ?_
 refine bX 1 R (cA i) i' R (Zd_ok (bN m (cT i))) R ?_
 rintro _
 refine lN D ?_
 refine aP ?_
 rcases bo (((a.length:Int) != 0)||(!u)) with l | l
 refine kj ?_
 exact qj tI
 refine aP ?_
 rcases bo k1.data with g | g
 refine bG ?_
 refine lW (eH g) (vz (.agg [(sc A4 b.Dims D4),(sc A6 b.Data D6)].toArray) (aX gN dQ R R)) (lM _ (fun w s=>(((s.d 3 R).d 6 R).e 2 [1,0])) ?_)
 refine bX 2 R (eH g) y' R (Z2n_ok (t1:=(⟨b.Dims,b.Data⟩:Tensor)) (bN q (wr (cT l) g))) R ?_
 rintro _
 refine lN D ?_
 refine bG ?_
 exact qj tI
 refine cP ?_
 exact qj tI
 rintro σ1
 refine bU ?_
 split at j
 refine cU ?_
 cases j
 exact jD (none,0,0) (fun w s=>((s.nilr kT3).e 8 [0]))
 refine hH ?_
 cases j
 exact jD (A4,b.Dims.length,D4) (tE 7 [3])
theorem Z24_ok  {k1:pairKind}{g:Node}{b:(List (List Int))}{r:(List Int)×Bool}(j:Z24 k1 g b=some r) :
 FnOk Tryz.prog 197 [(.agg [(iv k1.op)].toArray),(.agg [(iv g.Op),(.slice A3 N3 D3),(.slice A4 N4 D4),(.slice A5 N5 D5),(aD g.Form),(.slice A6 N6 D6)].toArray),(.slice A8 N8 D8)] [aN kT3 (.slice A3 N3 D3) g.Args,aN kT3 (.slice A4 N4 D4) g.Dims,aN kT3 (.slice A5 N5 D5) g.Ints,aN kT3 (.slice A6 N6 D6) g.Data,aN bL (.slice A8 N8 D8) b] (fun (h:HH)=>((.tuple [(s3 h),(.bool r.2)].toArray),[aN kT3 (s3 h) r.1])):=by
 unfold Z24 at j
 refine aQ Tryz.func197 R 24 R R fun C V=>?_
 refine cL 0 aA ?_
 rintro rfl
 refine cL 1 aA ?_
 rintro rfl
 refine cL 2 aA ?_
 rintro rfl
 refine cL 3 aA ?_
 rintro rfl
 refine cL 4 aA ?_
 rintro rfl
 let G:=RR kT3 A3 D3 g.Args::RR kT3 A4 D4 g.Dims::RR kT3 A5 D5 g.Ints::RR kT3 A6 D6 g.Data::RR bL A8 D8 b::V
 refine cN G ?_
 refine aU ?_
 refine eF R fun J=>?_
 refine eF R fun F=>?_
 refine aP ?_
 let I:=aJ F [(iv g.Op),(sc A3 g.Args D3),(sc A4 g.Dims D4),(sc A5 g.Ints D5),(aD g.Form),(sc A6 g.Data D6)] 54::aJ J [(iv k1.op)] 138::G
 refine qN I ?_
 refine aP ?_
 obtain ⟨i,j⟩:=gd j
 obtain ⟨l,j⟩:=gd j
 obtain ⟨E,q,j⟩:=bd j
 refine cQ [(2,(sc A8 b D8)),(20,(.bool (((b.length:Int) != 2)||(!E))))] (I) ?_ ?_
 rcases bo ((b.length:Int) != 2) with a | a
 refine dF 13 [] bP fun M U=>?_
 refine ml 0 [] ?_
 refine dD ?_
 exact qj tI
 refine bB 6 aA (show 0<b.length by have:=(i a); omega) (fun L o13 u=>?_)
 subst u
 refine dL (K:=bL) 6 (0:Int) dT23.dec R (i a).1 (i a).2 ?_
 rintro ⟨A14,D14⟩
 refine dL (K:=bL) 8 (1:Int) dT23.dec R (l a).1 (l a).2 ?_
 rintro ⟨T,Y⟩
 refine dF 13 [] bP fun M U=>?_
 refine kk 0 [] ?_
 refine dW 5 R (cA a) (eL km fK R R (i a)) (dW 6 R (cA a) (eJ (fo:=0) 2 cJ R R R) (dW 7 R (cA a) (vS R) (dW 8 R (cA a) (eL km fK R R (l a)) (dW 9 R (cA a) (eJ (fo:=0) 0 cJ R R R) (d1 10 R (lM _ (fun w s=>(((s.d 3 R).d 2 R).e 6 [1,0,2,3,4,5])) ?_))))))
 refine bX 2 R (cA a) z6 R (Z13_ok (bN q (cT a))) R ?_
 rintro _
 refine aC (aG (sL []) ?_)
 refine gR 11 [] ?_
 refine dD ?_
 exact qj (tE 4 [])
 rintro σ1
 refine bU ?_
 split at j
 refine cU ?_
 cases j
 exact jD (none,0,0) (fun w s=>((s.nilr kT3).e 8 [0]))
 refine bG ?_
 obtain ⟨m,j⟩:=gd j
 refine aU ?_
 refine bA 6 aA (show 0<b.length by have:=m; omega) (fun O o23 u=>?_)
 subst u
 refine bU ?_
 refine gG (K:=bL) 6 (0:Int) dT23.dec R m.1 m.2 ?_
 rintro ⟨D,B⟩
 refine lO (eJ (fo:=0) 0 cJ R R R) ?_
 refine bZ ?_
 cases j
 exact jD (D,(ix b 0).length,B) (tE 9 [1])
theorem Z2w_ok  {k1:soloKind}{b:Node}{a:(List (List Int))}{r:(List Int)×Bool}(i:Z2w k1 b a=some r) :
 FnOk Tryz.prog 200 [(.agg [(iv k1.op)].toArray),(.agg [(iv b.Op),(.slice A3 N3 D3),(.slice A4 N4 D4),(.slice A5 N5 D5),(aD b.Form),(.slice A6 N6 D6)].toArray),(.slice A8 N8 D8)] [aN kT3 (.slice A3 N3 D3) b.Args,aN kT3 (.slice A4 N4 D4) b.Dims,aN kT3 (.slice A5 N5 D5) b.Ints,aN kT3 (.slice A6 N6 D6) b.Data,aN bL (.slice A8 N8 D8) a] (fun (h:HH)=>((.tuple [(s3 h),(.bool r.2)].toArray),[aN kT3 (s3 h) r.1])):=by
 unfold Z2w at i
 refine aQ Tryz.func200 R 14 R R fun C V=>?_
 refine cL 0 aA ?_
 rintro rfl
 refine cL 1 aA ?_
 rintro rfl
 refine cL 2 aA ?_
 rintro rfl
 refine cL 3 aA ?_
 rintro rfl
 refine cL 4 aA ?_
 rintro rfl
 let q:=RR kT3 A3 D3 b.Args::RR kT3 A4 D4 b.Dims::RR kT3 A5 D5 b.Ints::RR kT3 A6 D6 b.Data::RR bL A8 D8 a::V
 refine cN q ?_
 refine aU ?_
 refine eF R fun u=>?_
 refine eF R fun m=>?_
 refine aP ?_
 let E:=aJ m [(iv b.Op),(sc A3 b.Args D3),(sc A4 b.Dims D4),(sc A5 b.Ints D5),(aD b.Form),(sc A6 b.Data D6)] 54::aJ u [(iv k1.op)] 139::q
 refine qN E ?_
 refine cU ?_
 split at i
 refine cU ?_
 cases i
 exact jD (none,0,0) (fun w s=>((s.nilr kT3).e 8 [0]))
 refine bG ?_
 obtain ⟨g,i⟩:=gd i
 refine aU ?_
 refine bA 6 aA (show 0<a.length by have:=g; omega) (fun B o14 D=>?_)
 subst D
 refine bU ?_
 refine gG (K:=bL) 6 (0:Int) dT23.dec R g.1 g.2 ?_
 rintro ⟨j,l⟩
 refine lO (eJ (fo:=0) 0 cJ R R R) ?_
 refine bZ ?_
 cases i
 exact jD (j,(ix a 0).length,l) (tE 9 [1])
theorem Zm_ok  {b:(List Int)}{a:Int}{r:Bool}(i:Zm b a=some r) :
 FnOk Tryz.prog 150 [(.slice A2 N2 D2),(iv a)] [aN kT3 (.slice A2 N2 D2) b] (fun (h:Unit)=>((.bool r),[])):=by
 unfold Zm at i
 refine aQ Tryz.func150 R 13 R R fun C V=>?_
 refine cL 0 aA ?_
 rintro rfl
 let g:=RR kT3 A2 D2 b::V
 refine cN g ?_
 refine bT ?_
 refine cQ [(4,(.bool ((decide (a≥0))&&(decide (a<(b.length:Int))))))] (g) ?_ ?_
 refine bG ?_
 rcases bo (decide (a≥0)) with e | e
 refine dG ?_
 exact qj tI
 refine dG ?_
 exact qj tI
 rintro σ1
 refine aU ?_
 cases i
 exact qF () (tE 1 [])
theorem Z1y_ok  {k1:topKind}{g:Node}{b:(List (List Int))}{r:(List Int)×Bool}(j:Z1y k1 g b=some r) :
 FnOk Tryz.prog 202 [(.agg [].toArray),(.agg [(iv g.Op),(.slice A3 N3 D3),(.slice A4 N4 D4),(.slice A5 N5 D5),(aD g.Form),(.slice A6 N6 D6)].toArray),(.slice A8 N8 D8)] [aN kT3 (.slice A3 N3 D3) g.Args,aN kT3 (.slice A4 N4 D4) g.Dims,aN kT3 (.slice A5 N5 D5) g.Ints,aN kT3 (.slice A6 N6 D6) g.Data,aN bL (.slice A8 N8 D8) b] (fun (h:HH)=>((.tuple [(s3 h),(.bool r.2)].toArray),[aN kT3 (s3 h) r.1])):=by
 unfold Z1y at j
 refine aQ Tryz.func202 R 31 R R fun C V=>?_
 refine cL 0 aA ?_
 rintro rfl
 refine cL 1 aA ?_
 rintro rfl
 refine cL 2 aA ?_
 rintro rfl
 refine cL 3 aA ?_
 rintro rfl
 refine cL 4 aA ?_
 rintro rfl
 let I:=RR kT3 A3 D3 g.Args::RR kT3 A4 D4 g.Dims::RR kT3 A5 D5 g.Ints::RR kT3 A6 D6 g.Data::RR bL A8 D8 b::V
 refine cN I ?_
 refine aU ?_
 refine eF R fun O=>?_
 refine eF R fun F=>?_
 refine aP ?_
 let M:=aJ F [(iv g.Op),(sc A3 g.Args D3),(sc A4 g.Dims D4),(sc A5 g.Ints D5),(aD g.Form),(sc A6 g.Data D6)] 54::aJ O [] 141::I
 refine qN M ?_
 refine aP ?_
 obtain ⟨i,j⟩:=gd j
 obtain ⟨l,j⟩:=gd j
 obtain ⟨G,B,j⟩:=bd j
 refine cQ [(2,(sc A8 b D8)),(27,(.bool ((((b.length:Int) != 1)||((g.Ints.length:Int) != 1))||(!G))))] (M) ?_ ?_
 rcases bo ((b.length:Int) != 1) with q | q
 refine dF 20 [] bP fun J L=>?_
 refine sh 0 [] ?_
 refine dD ?_
 exact qj tI
 rcases bo (((b.length:Int) != 1)||((g.Ints.length:Int) != 1)) with a | a
 refine dF 20 [] bP fun J L=>?_
 refine sh 0 [] ?_
 refine dD ?_
 exact qj tI
 refine bB 6 aA (show 0<b.length by have:=(i a); omega) (fun T o13 u=>?_)
 subst u
 refine dL (K:=bL) 6 (0:Int) dT23.dec R (i a).1 (i a).2 ?_
 rintro ⟨A14,D14⟩
 refine bB 6 aA (show 0<g.Ints.length by have:=(l a); omega) (fun U o17 u=>?_)
 subst u
 refine dF 20 [] bP fun J L=>?_
 refine pc 0 [] ?_
 refine dW 11 R (cA a) (eL km fK R R (i a)) (dW 12 R (cA a) (eJ (fo:=0) 0 cJ R R R) ?_)
 refine gR 13 [] ?_
 refine dW 15 R (cA a) (eL bI cB R R (l a)) (dW 16 R (cA a) (gO 6 fQ aA R (l a)) (d1 17 R (lM _ (fun w s=>(s.d 1 R)) ?_)))
 refine bX 1 R (cA a) gP R (Zm_ok (bN B (cT a))) R ?_
 rintro _
 refine aC (aG (sL []) ?_)
 refine gR 18 [] ?_
 refine dD ?_
 exact qj (tE 2 [])
 rintro σ1
 refine bU ?_
 split at j
 refine cU ?_
 cases j
 exact jD (none,0,0) (fun w s=>((s.nilr kT3).e 8 [0]))
 refine bG ?_
 obtain ⟨m,j⟩:=gd j
 refine aU ?_
 refine bA 6 aA (show 0<b.length by have:=m; omega) (fun Y o25 u=>?_)
 subst u
 refine bU ?_
 refine gG (K:=bL) 6 (0:Int) dT23.dec R m.1 m.2 ?_
 rintro ⟨E,D⟩
 refine lO (eJ (fo:=0) 0 cJ R R R) ?_
 refine bZ ?_
 cases j
 exact jD (E,(ix b 0).length,D) (tE 9 [1])
theorem Ze_ok  {M:aM}{mG:Int}{r:(List aM)×aM×Bool}(i:Ze M=some r) :
 FnOk Tryz.prog 207 [(aD M)] [gl 0 mG] (fun (h:HH)=>((.tuple [(s3 h),(aD r.2.1),(.bool r.2.2)].toArray),[aN dO (s3 h) r.1])):=by
 unfold Ze at i
 refine aQ Tryz.func207 R 93 R R fun C V=>?_
 let U:=gl 0 mG::V
 refine cN U ?_
 refine aP ?_
 refine lO (vp (aD ([]:aM)) R) ?_
 refine bG ?_
 obtain ⟨b,ah,i⟩:=bd i
 refine aE (lO (vp (aD M) R) (lM _ (fun w s=>(s.dg 0 R)) ?_))
 refine lC 1 z8 R (Z32_ok ah) R ?_
 rintro _
 refine lN U ?_
 refine lO (vT R) (lO (vp (aD b.1) R) (lO (vp (aD b.2.1) R) (lB R (lO (vp (aD b.1) R) (lO (vp (aD b.2.1) R) ?_)))))
 refine bZ ?_
 refine cQ [(5,(aD b.1)),(6,(aD b.2.1)),(25,(.bool ((!b.2.2)||(decide ((b.2.1.length:Int)>6)))))] (U) ?_ ?_
 refine bG ?_
 rcases bo (!b.2.2) with a0 | a0
 refine bZ ?_
 exact qj tI
 refine lW (cA a0) (vp (aD b.2.1) R) (lW (cA a0) (vz (il b.2.1) (dN fJ R)) ?_)
 refine aP ?_
 exact qj tI
 rintro σ1
 refine bU ?_
 split at i
 refine bG ?_
 refine lO (vp (aD ([]:aM)) R) ?_
 refine bZ ?_
 cases i
 exact hW (none,0,0) (fun w s=>((s.nilr dO).e 2 [0]))
 refine bG ?_
 obtain ⟨m,al,i⟩:=bd i
 refine aE (lO (vp (aD b.1) R) (lM _ (fun w s=>(s.dg 0 R)) ?_))
 refine lC 1 zd R (Z33_ok al) R ?_
 rintro ⟨A8,N8,D8⟩
 refine aL 0 aA ?_
 rintro rfl
 refine hN ?_
 split at i
 refine bG ?_
 refine lO (vp (aD ([]:aM)) R) ?_
 refine bZ ?_
 cases i
 exact hW (none,0,0) (fun w s=>((s.nilr dO).e 3 [0]))
 refine bG ?_
 refine aZ (A:=(Unit)×(HH)) (fun a=>Ze_J3 b m=some r) (fun a=>[(5,(aD b.1)),(6,(aD b.2.1)),(8,(s3 a.2))]) (fun a=>aN dO (s3 a.2) m::U) ?_ ?_
 refine cV ?_
 obtain ⟨e1,ak,a2⟩:=bd i
 refine bD (A:=HH) ak (fun s a=>[(5,(aD b.1)),(6,(aD b.2.1)),(8,(s3 a)),(31,(s3 a)),(32,(il m)),(33,(iv s))]) (fun s a=>aN dO (s3 a) m::U) (A8,m.length,D8) (aS R) tI ?_
 rintro q ⟨ae,ai,E⟩ σ1 a9 i a1
 dsimp only [Ze_L1] at i
 refine bJ 0 aA (fun (Y:ai=m.length)=>?_)
 subst Y
 refine bT ?_
 split at i
 refine bG ?_
 refine aZ (A:=(Unit)×(HH)) (fun a=>Ze_J2 q=some a9) (fun a=>[(5,(aD b.1)),(6,(aD b.2.1)),(8,(s3 a.2)),(31,(s3 a.2)),(32,(il m)),(33,(iv q))]) (fun a=>aN dO (s3 a.2) m::U) ?_ ?_
 refine aU ?_
 obtain ⟨T,i⟩:=gd i
 refine aE (bA 0 aA (show 0<m.length by have:=T; omega) (fun L o31 ha=>?_))
 subst ha
 refine bU ?_
 refine lO (vz (aD (ix m q)) (jH (K:=dO) (fo:=0) (pr:=fun x=>(aD x)) 0 q qX (dT9.leaf fun _ _=>R) aA R T.1 T.2)) (lO (vp (aD (ix m q)) R) ?_)
 refine bZ ?_
 refine lO (vp (aD (ix m q)) R) (lO (vz (il (ix m q)) (dN fJ R)) ?_)
 refine aP ?_
 split at i
 refine bG ?_
 refine lO (vp (aD ([]:aM)) R) ?_
 refine dG ?_
 cases i
 obtain rfl:=a1 _ R
 have i:=a2
 refine aP ?_
 cases i
 exact hW (none,0,0) (fun w s=>((s.nilr dO).e 3 [0]))
 refine cU ?_
 obtain ⟨e2,ag,a5⟩:=bd i
 refine bD (A:=Unit) ag (fun s a=>[(5,(aD b.1)),(6,(aD b.2.1)),(8,(sc (ad L o31) m E)),(10,(aD (ix m q))),(11,(iv s)),(31,(sc (ad L o31) m E)),(32,(il m)),(33,(iv q))]) (fun s a=>RR dO (ad L o31) E m::U) () (aS R) tI ?_
 rintro F _ σ1 ap i a8
 dsimp only [Ze_L2] at i
 refine bG ?_
 refine lO (vp (aD (ix m q)) R) (lO (vz (il (ix m q)) (dN fJ R)) ?_)
 refine aP ?_
 split at i
 refine bT ?_
 obtain ⟨O,i⟩:=gd i
 refine cQ [(5,(aD b.1)),(6,(aD b.2.1)),(8,(sc (ad L o31) m E)),(10,(aD (ix m q))),(11,(iv F)),(31,(sc (ad L o31) m E)),(32,(il m)),(33,(iv q)),(55,(.bool ((decide ((bt (ix m q) F)<97))||(decide ((bt (ix m q) F)>122)))))] (RR dO (ad L o31) E m::U) ?_ ?_
 refine aE (lO (vp (aD (ix m q)) R) (lI R (lO (vz (.int .u8 (bt (ix m q) F)) (cH fJ R R O.1 O.2)) (lO (vp (.bool (decide ((bt (ix m q) F)<97))) R) (lB R ?_)))))
 rcases bo (decide ((bt (ix m q) F)<97)) with G | G
 refine bT ?_
 exact qj tI
 refine lW (cA G) (vp (aD (ix m q)) R) (lW (cA G) (vI R) (lW (cA G) (vz (.int .u8 (bt (ix m q) F)) (cH fJ R R O.1 O.2)) (lW (cA G) (vp (.bool (decide ((bt (ix m q) F)>122))) R) ?_)))
 refine aU ?_
 exact qj tI
 rintro σ1
 refine bU ?_
 split at i
 refine bG ?_
 refine lO (vp (aD ([]:aM)) R) ?_
 refine bT ?_
 cases i
 obtain rfl:=a8 _ R
 have i:=a5
 refine bG ?_
 cases i
 obtain rfl:=a1 _ R
 have i:=a2
 refine aP ?_
 cases i
 exact hW (none,0,0) (fun w s=>((s.nilr dO).e 3 [0]))
 refine cU ?_
 cases i
 exact qA () tI
 refine aP ?_
 cases i
 obtain rfl:=a8 _ R
 have i:=a5
 refine aP ?_
 exact qI ((),((ad L o31),m.length,E)) i tI
 rintro ⟨_,⟨aj,ac,ab⟩⟩ σ1 i
 dsimp only [Ze_J2] at i
 refine bJ 0 aA (fun (Y:ac=m.length)=>?_)
 subst Y
 refine bG ?_
 cases i
 exact qA (aj,m.length,ab) tI
 refine aP ?_
 cases i
 obtain rfl:=a1 _ R
 have i:=a2
 refine aU ?_
 exact qI ((),(ae,m.length,E)) i tI
 rintro ⟨_,⟨I,aa,J⟩⟩ σ1 i
 dsimp only [Ze_J3] at i
 refine bJ 0 aA (fun (Y:aa=m.length)=>?_)
 subst Y
 refine aO (aZ (A:=(Unit)×(Unit)) (fun a=>Ze_J4 b m=some r) (fun a=>[(6,(aD b.2.1)),(8,(sc I m J))]) (fun a=>RR dO I J m::U) ?_ ?_)
 refine bT ?_
 obtain ⟨e3,an,a3⟩:=bd i
 refine bD (A:=Unit) an (fun s a=>[(5,(aD b.1)),(6,(aD b.2.1)),(8,(sc I m J)),(12,(iv s))]) (fun s a=>RR dO I J m::U) () (aS R) tI ?_
 rintro l _ σ1 ao i a4
 dsimp only [Ze_L3] at i
 refine bG ?_
 refine lO (vp (aD b.2.1) R) (lO (vz (il b.2.1) (dN fJ R)) ?_)
 refine aP ?_
 split at i
 refine bT ?_
 obtain ⟨j,i⟩:=gd i
 obtain ⟨D,i⟩:=gd i
 obtain ⟨a6,Z,i⟩:=bd i
 obtain ⟨am,a7,i⟩:=bd i
 refine cQ [(5,(aD b.1)),(6,(aD b.2.1)),(8,(sc I m J)),(12,(iv l)),(90,(.bool ((((decide ((bt b.2.1 l)<97))||(decide ((bt b.2.1 l)>122)))||(decide (a6≥0)))||(decide (am<0)))))] (RR dO I J m::U) ?_ ?_
 rcases bo (decide ((bt b.2.1 l)<97)) with u | u
 refine dF 28 [] bP fun ht Y=>?_
 refine dR 0 R (vp (aD b.2.1) R) (dR 1 R (vI R) (dR 2 R (vz (.int .u8 (bt b.2.1 l)) (cH fJ R R j.1 j.2)) (dR 3 R (vp (.bool (decide ((bt b.2.1 l)<97))) R) ?_)))
 refine AE 4 [] ?_
 refine dD ?_
 exact qj tI
 rcases bo ((decide ((bt b.2.1 l)<97))||(decide ((bt b.2.1 l)>122))) with g | g
 refine dF 28 [] bP fun ht Y=>?_
 refine dR 0 R (vp (aD b.2.1) R) (dR 1 R (vI R) (dR 2 R (vz (.int .u8 (bt b.2.1 l)) (cH fJ R R j.1 j.2)) (dR 3 R (vp (.bool (decide ((bt b.2.1 l)<97))) R) (dR 4 R (vB R) (dW 5 R (cA u) (vp (aD b.2.1) R) (dW 6 R (cA u) (vI R) (dW 7 R (cA u) (vz (.int .u8 (bt b.2.1 l)) (cH fJ R R j.1 j.2)) (dW 8 R (cA u) (vp (.bool (decide ((bt b.2.1 l)>122))) R) ?_))))))))
 refine yr 9 [] ?_
 refine dD ?_
 exact qj tI
 rcases bo (((decide ((bt b.2.1 l)<97))||(decide ((bt b.2.1 l)>122)))||(decide (a6≥0))) with B | B
 refine dF 28 [] bP fun ht Y=>?_
 refine dR 0 R (vp (aD b.2.1) R) (dR 1 R (vI R) (dR 2 R (vz (.int .u8 (bt b.2.1 l)) (cH fJ R R j.1 j.2)) (dR 3 R (vp (.bool (decide ((bt b.2.1 l)<97))) R) (dR 4 R (vB R) (dW 5 R (cA u) (vp (aD b.2.1) R) (dW 6 R (cA u) (vI R) (dW 7 R (cA u) (vz (.int .u8 (bt b.2.1 l)) (cH fJ R R j.1 j.2)) (dW 8 R (cA u) (vp (.bool (decide ((bt b.2.1 l)>122))) R) ?_))))))))
 refine gR 9 [] ?_
 refine dW 11 R (cA g) (vp (aD b.2.1) R) (dW 12 R (cA g) (vI R) (dW 13 R (cA g) (vz (aD (sub b.2.1 (0:Int) l)) (hM (0:Int) l fJ R R R (D g).1 (D g).2.1 (D g).2.2)) (dW 14 R (cA g) (vp (aD b.2.1) R) (dW 15 R (cA g) (vI R) (dW 16 R (cA g) (vz (.int .u8 (bt b.2.1 l)) (cH fJ R R j.1 j.2)) (d1 17 R (bX 0 R (cA g) qf R (Z1v_ok (bN Z (cT g))) R ?_)))))))
 rintro _
 refine aC (aG (sL []) ?_)
 refine qV 18 [] ?_
 refine dD ?_
 exact qj tI
 refine dF 28 [] bP fun ht Y=>?_
 refine dR 0 R (vp (aD b.2.1) R) (dR 1 R (vI R) (dR 2 R (vz (.int .u8 (bt b.2.1 l)) (cH fJ R R j.1 j.2)) (dR 3 R (vp (.bool (decide ((bt b.2.1 l)<97))) R) (dR 4 R (vB R) (dW 5 R (cA u) (vp (aD b.2.1) R) (dW 6 R (cA u) (vI R) (dW 7 R (cA u) (vz (.int .u8 (bt b.2.1 l)) (cH fJ R R j.1 j.2)) (dW 8 R (cA u) (vp (.bool (decide ((bt b.2.1 l)>122))) R) ?_))))))))
 refine gR 9 [] ?_
 refine dW 11 R (cA g) (vp (aD b.2.1) R) (dW 12 R (cA g) (vI R) (dW 13 R (cA g) (vz (aD (sub b.2.1 (0:Int) l)) (hM (0:Int) l fJ R R R (D g).1 (D g).2.1 (D g).2.2)) (dW 14 R (cA g) (vp (aD b.2.1) R) (dW 15 R (cA g) (vI R) (dW 16 R (cA g) (vz (.int .u8 (bt b.2.1 l)) (cH fJ R R j.1 j.2)) (d1 17 R (bX 0 R (cA g) qf R (Z1v_ok (bN Z (cT g))) R ?_)))))))
 rintro _
 refine aC (aG (sL []) ?_)
 refine hX 18 [] ?_
 refine dW 21 R (cA B) (vp (aD b.1) R) (dW 22 R (cA B) (vp (aD b.2.1) R) (dW 23 R (cA B) (vI R) (dW 24 R (cA B) (vz (.int .u8 (bt b.2.1 l)) (cH fJ R R j.1 j.2)) (d1 25 R (bX 0 R (cA B) qf R (Z1v_ok (bN a7 (cT B))) R ?_)))))
 rintro _
 refine aC (aG (sL []) ?_)
 refine gR 26 [] ?_
 refine dD ?_
 exact qj tI
 rintro σ1
 refine bU ?_
 split at i
 refine bG ?_
 refine lO (vp (aD ([]:aM)) R) ?_
 refine bT ?_
 cases i
 obtain rfl:=a4 _ R
 have i:=a3
 refine aP ?_
 cases i
 exact hW (none,0,0) (fun w s=>((s.nilr dO).e 3 [0]))
 refine cU ?_
 cases i
 exact qA () tI
 refine aP ?_
 cases i
 obtain rfl:=a4 _ R
 have i:=a3
 refine aU ?_
 exact qI ((),()) i tI
 rintro ⟨_,_⟩ σ1 i
 dsimp only [Ze_J4] at i
 refine aP ?_
 refine lO (vp (aD b.2.1) R) (lS R (lO (vp (aD b.2.1) R) ?_))
 refine bG ?_
 cases i
 exact hW (I,m.length,J) (tE 2 [0])
theorem Z06_ok  {b:(List Int)}{r:(List Int)}(e:Z06 b=some r) :
 FnOk Tryz.prog 164 [(.slice A2 N2 D2)] [aN kT3 (.slice A2 N2 D2) b] (fun (h:HH)=>((s3 h),[ow kT3 3 (s3 h) r])):=by
 unfold Z06 at e
 refine aQ Tryz.func164 R 32 R R fun C V=>?_
 refine cL 0 aA ?_
 rintro rfl
 let F:=RR kT3 A2 D2 b::V
 refine cN F ?_
 refine bT ?_
 obtain ⟨l,e⟩:=gd e
 refine aP ?_
 refine fI (K:=kT3) (m:=(b.length:Int)) (z:=(0:Int)) R R bI cB jZ (Zr.zk zT3 f') (by decide) R R l.1 l.2.1 l.2.2 (fun A4 D4=>(lS R (aC (aI (aO (aE (lI R (aC (aI (aO (aZ (A:=((List Int))×(Unit)) (fun a=>Z06_J3 a.1=some r) (fun a=>[(3,(sc A4 (List.replicate (b.length:Int).toNat (0:Int)) D4))]) (fun a=>ow kT3 3 (.slice A4 (List.replicate (b.length:Int).toNat (0:Int)).length D4) a.1::F) ?_ ?_)))))))))))
 refine cU ?_
 obtain ⟨Z,J,G⟩:=bd e
 refine bD (A:=Unit) J (fun s a=>[(0,(sc A2 b D2)),(3,(sc A4 (List.replicate (b.length:Int).toNat (0:Int)) D4)),(4,(iv s.2.1)),(5,(iv s.2.2))]) (fun s a=>ow kT3 3 (.slice A4 (List.replicate (b.length:Int).toNat (0:Int)).length D4) s.1::F) () (aS R) tI ?_
 rintro ⟨q,g,j⟩ _ σ1 E e L
 dsimp only [Z06_L1] at e
 refine dG ?_
 split at e
 refine bT ?_
 refine aZ (A:=((List Int))×(Unit)) (fun a=>Z06_J2 b g j a.1=some E) (fun a=>[(0,(sc A2 b D2)),(3,(sc A4 (List.replicate (b.length:Int).toNat (0:Int)) D4)),(4,(iv g)),(5,(iv j))]) (fun a=>ow kT3 3 (.slice A4 (List.replicate (b.length:Int).toNat (0:Int)).length D4) a.1::F) ?_ ?_
 refine bU ?_
 obtain ⟨D,e⟩:=gd e
 refine aP ?_
 refine bA 1 aA (show 0<b.length by have:=D; omega) (fun Y o25 u=>?_)
 subst u
 refine bZ ?_
 split at e
 refine bU ?_
 obtain ⟨i,e⟩:=gd e
 refine bG ?_
 refine bA 0 aB (show 0<(List.replicate (b.length:Int).toNat (0:Int)).length by have:=i; omega) (fun U o29 u=>?_)
 subst u
 refine bU ?_
 refine eA (K:=kT3) (x':=g) 0 j R R cB R R i.1 i.2 ?_ ?_
 exact fun I h s=>(fZ).put I h () g s
 refine bU ?_
 exact qI ((q.set j.toNat g),()) e tI
 refine aU ?_
 exact qI (q,()) e tI
 rintro ⟨M,_⟩ σ1 e
 dsimp only [Z06_J2] at e
 obtain ⟨B,e⟩:=gd e
 refine bG ?_
 refine bA 1 aA (show 0<b.length by have:=B; omega) (fun T o33 u=>?_)
 subst u
 refine hH ?_
 cases e
 exact qA () tI
 refine aP ?_
 cases e
 obtain rfl:=L _ R
 have e:=G
 refine aU ?_
 exact qI (q,()) e tI
 rintro ⟨O,_⟩ σ1 e
 dsimp only [Z06_J3] at e
 refine dG ?_
 cases e
 exact qF (A4,(List.replicate (b.length:Int).toNat (0:Int)).length,D4) (tE 2 [0])
theorem Zl_ok  {f1:form}{e:aM}{b:(List Int)}{r:(List Int)}(g:Zl f1 e b=some r) :
 FnOk Tryz.prog 209 [(.agg [(.slice A2 N2 D2),(aD f1.out_),(aD f1.order),(.slice A3 N3 D3),(.slice A4 N4 D4),(.slice A5 N5 D5),(.slice A6 N6 D6)].toArray),(aD e),(.slice A9 N9 D9)] [aN dO (.slice A2 N2 D2) f1.groups,aN kT3 (.slice A3 N3 D3) f1.loops,aN kT3 (.slice A4 N4 D4) f1.dims,aN bL (.slice A5 N5 D5) f1.steps,aN kT3 (.slice A6 N6 D6) f1.store,aN kT3 (.slice A9 N9 D9) b] (fun (h:HH)=>((s3 h),[ow kT3 3 (s3 h) r])):=by
 unfold Zl at g
 refine aQ Tryz.func209 R 45 R R fun C V=>?_
 refine cL 0 aA ?_
 rintro rfl
 refine cL 1 aA ?_
 rintro rfl
 refine cL 2 aA ?_
 rintro rfl
 refine cL 3 aA ?_
 rintro rfl
 refine cL 4 aA ?_
 rintro rfl
 refine cL 5 aA ?_
 rintro rfl
 let W0:=RR dO A2 D2 f1.groups::RR kT3 A3 D3 f1.loops::RR kT3 A4 D4 f1.dims::RR bL A5 D5 f1.steps::RR kT3 A6 D6 f1.store::RR kT3 A9 D9 b::V
 refine cN W0 ?_
 refine aU ?_
 refine eF R fun B=>?_
 refine aU ?_
 let F:=aJ B [(sc A2 f1.groups D2),(aD f1.out_),(aD f1.order),(sc A3 f1.loops D3),(sc A4 f1.dims D4),(sc A5 f1.steps D5),(sc A6 f1.store D6)] 192::W0
 refine qN F ?_
 refine aU ?_
 obtain ⟨u,g⟩:=gd g
 refine aP ?_
 refine lO (vz (il f1.order) (dN fJ R)) (fI (K:=kT3) (m:=(f1.order.length:Int)) (z:=(0:Int)) R R bI cB jZ (Zr.zk zT3 f') (by decide) R R u.1 u.2.1 u.2.2 (fun A12 D12=>(lS R (aC (aI (aO (aZ (A:=((List Int))×(Unit)) (fun a=>Zl_J7 a.1=some r) (fun a=>[(7,(sc A12 (List.replicate (f1.order.length:Int).toNat (0:Int)) D12))]) (fun a=>ow kT3 3 (.slice A12 (List.replicate (f1.order.length:Int).toNat (0:Int)).length D12) a.1::F) ?_ ?_)))))))
 refine cV ?_
 obtain ⟨e1,Z,U⟩:=bd g
 refine bD (A:=Unit) Z (fun s a=>[(1,(aD e)),(2,(sc A9 b D9)),(3,(pt B 0)),(7,(sc A12 (List.replicate (f1.order.length:Int).toNat (0:Int)) D12)),(15,(il (List.replicate (f1.order.length:Int).toNat (0:Int)))),(16,(iv s.2))]) (fun s a=>ow kT3 3 (.slice A12 (List.replicate (f1.order.length:Int).toNat (0:Int)).length D12) s.1::F) () (aS R) tI ?_
 rintro ⟨a2,i⟩ _ σ1 L g O
 dsimp only [Zl_L1] at g
 refine bT ?_
 split at g
 refine bG ?_
 refine aZ (A:=((List Int))×(Unit)) (fun a=>Zl_J6 i a.1=some L) (fun a=>[(1,(aD e)),(2,(sc A9 b D9)),(3,(pt B 0)),(7,(sc A12 (List.replicate (f1.order.length:Int).toNat (0:Int)) D12)),(15,(il (List.replicate (f1.order.length:Int).toNat (0:Int)))),(16,(iv i))]) (fun a=>ow kT3 3 (.slice A12 (List.replicate (f1.order.length:Int).toNat (0:Int)).length D12) a.1::F) ?_ ?_
 refine kj ?_
 obtain ⟨e2,T,M⟩:=bd g
 refine bD (A:=Unit) T (fun s a=>[(1,(aD e)),(2,(sc A9 b D9)),(3,(pt B 0)),(7,(sc A12 (List.replicate (f1.order.length:Int).toNat (0:Int)) D12)),(8,(iv i)),(9,(iv s.2)),(15,(il (List.replicate (f1.order.length:Int).toNat (0:Int)))),(16,(iv i))]) (fun s a=>ow kT3 3 (.slice A12 (List.replicate (f1.order.length:Int).toNat (0:Int)).length D12) s.1::F) () (aS R) tI ?_
 rintro ⟨l,j⟩ _ σ1 G g a0
 dsimp only [Zl_L2] at g
 refine bG ?_
 refine lO (vp (aD e) R) (lO (vz (il e) (dN fJ R)) ?_)
 refine aP ?_
 split at g
 refine bG ?_
 refine aZ (A:=((List Int))×(Unit)) (fun a=>Zl_J5 j a.1=some G) (fun a=>[(1,(aD e)),(2,(sc A9 b D9)),(3,(pt B 0)),(7,(sc A12 (List.replicate (f1.order.length:Int).toNat (0:Int)) D12)),(8,(iv i)),(9,(iv j)),(15,(il (List.replicate (f1.order.length:Int).toNat (0:Int)))),(16,(iv i))]) (fun a=>ow kT3 3 (.slice A12 (List.replicate (f1.order.length:Int).toNat (0:Int)).length D12) a.1::F) ?_ ?_
 refine aU ?_
 obtain ⟨E,g⟩:=gd g
 obtain ⟨D,g⟩:=gd g
 refine dF 8 [] bP fun ht hn=>?_
 refine dR 0 R (vp (aD e) R) (dR 1 R (vI R) (dR 2 R (vz (.int .u8 (bt e j)) (cH fJ R R E.1 E.2)) ?_))
 refine hX 3 [] ?_
 refine dR 6 R (vz (.int .u8 (bt f1.order i)) (cH fJ R R D.1 D.2)) (dR 7 R (vp (.bool ((bt e j)==(bt f1.order i))) R) (dD (aI ?_)))
 split at g
 refine bU ?_
 obtain ⟨q,g⟩:=gd g
 obtain ⟨J,g⟩:=gd g
 refine bB 0 aB (show 0<(List.replicate (f1.order.length:Int).toNat (0:Int)).length by have:=q; omega) (fun a1 o69 Y=>?_)
 subst Y
 refine bB 7 aA (show 0<b.length by have:=J; omega) (fun a3 o72 Y=>?_)
 subst Y
 refine dF 11 [0] bP fun ht hn=>?_
 refine hX 0 [0] ?_
 refine oq 4 [0] ?_
 refine d1 3 R (lO (gO 0 fQ aB R q) (aC (aG (sL [0]) ?_)))
 refine gR 8 [0] ?_
 refine d1 10 R (lN (ow kT3 3 (.slice (ad a1 o69) (List.replicate (f1.order.length:Int).toNat (0:Int)).length D12) l::F) ?_)
 refine eA (K:=kT3) (x':=(aH ((ix l i)+(ix b j)))) 0 i R R cB R R q.1 q.2 ?_ ?_
 exact fun I h s=>(fZ).put I h () (aH ((ix l i)+(ix b j))) s
 refine aC (aG (sL [0]) (dD (dY ?_)))
 exact qI ((l.set i.toNat (aH ((ix l i)+(ix b j)))),()) g tI
 refine aP ?_
 exact qI (l,()) g tI
 rintro ⟨a4,_⟩ σ1 g
 dsimp only [Zl_J5] at g
 refine bZ ?_
 cases g
 exact qA () tI
 refine aP ?_
 cases g
 obtain rfl:=a0 _ R
 have g:=M
 refine aP ?_
 exact qI (l,()) g tI
 rintro ⟨a5,_⟩ σ1 g
 dsimp only [Zl_J6] at g
 refine bG ?_
 cases g
 exact qA () tI
 refine aP ?_
 cases g
 obtain rfl:=O _ R
 have g:=U
 refine aU ?_
 exact qI (a2,()) g tI
 rintro ⟨a6,_⟩ σ1 g
 dsimp only [Zl_J7] at g
 refine dG ?_
 cases g
 exact qF (A12,(List.replicate (f1.order.length:Int).toNat (0:Int)).length,D12) (tE 8 [0])
theorem Z3_ok  {ao:aM}{b:(List (List Int))}{mG:Int}{r:form×Bool}(i:Z3 ao b=some r) :
 FnOk Tryz.prog 206 [(aD ao),(.slice A3 N3 D3)] [aN bL (.slice A3 N3 D3) b,gl 0 mG] (fun (h:HH×HH×HH×HH×HH)=>((.tuple [(.agg [(s3 h.1),(aD r.1.out_),(aD r.1.order),(s3 h.2.1),(s3 h.2.2.1),(s3 h.2.2.2.1),(s3 h.2.2.2.2)].toArray),(.bool r.2)].toArray),[aN dO (s3 h.1) r.1.groups,aN kT3 (s3 h.2.1) r.1.loops,ow kT3 3 (s3 h.2.2.1) r.1.dims,ow bL 23 (s3 h.2.2.2.1) r.1.steps,ow kT3 3 (s3 h.2.2.2.2) r.1.store])):=by
 unfold Z3 at i
 refine aQ Tryz.func206 R 179 R R fun C V=>?_
 refine cL 0 aA ?_
 rintro rfl
 let Z:=RR bL A3 D3 b::gl 0 mG::V
 refine cN Z ?_
 refine aU ?_
 refine bF R R kG (fun b4=>(lB R (aC (aI (aO ?_)))))
 obtain ⟨g,cw,i⟩:=bd i
 refine aE (lO (vp (aD ao) R) (lM (gl 0 mG::_::Z) (fun w s=>(s.dg 2 R)) ?_))
 refine lC 1 zf R (Ze_ok cw) R ?_
 rintro ⟨A7,N7,D7⟩
 refine aL 0 aA ?_
 rintro rfl
 refine lO (vT R) (lS R (lO (vp (aD g.2.1) R) (lB R (lS R (lO (vp (aD g.2.1) R) ?_)))))
 refine bZ ?_
 refine cQ [(1,(sc A3 b D3)),(4,(pt b4 0)),(6,(sc A7 g.1 D7)),(7,(aD g.2.1)),(34,(.bool ((!g.2.2)||((g.1.length:Int) != (b.length:Int)))))] (aJ b4 [(.slice none 0 0),(aD ([]:aM)),(aD ([]:aM)),(.slice none 0 0),(.slice none 0 0),(.slice none 0 0),(.slice none 0 0)] 192::RR dO A7 D7 g.1::Z) ?_ ?_
 refine bG ?_
 rcases bo (!g.2.2) with cx | cx
 refine dG ?_
 exact qj (tE 2 [1,0])
 refine dG ?_
 exact qj (tE 2 [1,0])
 rintro σ1
 refine bU ?_
 split at i
 refine aP ?_
 refine lO (vz (.agg [(.slice none 0 0),(aD ([]:aM)),(aD ([]:aM)),(.slice none 0 0),(.slice none 0 0),(.slice none 0 0),(.slice none 0 0)].toArray) (aX n5 kG R R)) (aK 0 R R iH R R R R R R (lB R (aC (aI (bY (cF ?_))))))
 cases i
 exact dI (vs:=[(.agg [(.slice none 0 0),(aD ([]:aM)),(aD ([]:aM)),(.slice none 0 0),(.slice none 0 0),(.slice none 0 0),(.slice none 0 0)].toArray),(.bool false)]) (.inl R) ((none,0,0),(none,0,0),(none,0,0),(none,0,0),(none,0,0)) R ⟨⟨0,b4,_,_,R,R,.inl ⟨mr,iH,R⟩⟩,R,trivial⟩ R (fun w s=>((((((s.nilr dO).nilr kT3).nilo kT3 3).nilo bL 23).nilo kT3 3).e 9 [4,3,2,1,0]))
 refine bT ?_
 refine lO (vp (aD g.2.1) R) (lO (vp (aD g.2.1) R) (lO (vz (.agg [(sc A7 g.1 D7),(aD g.2.1),(aD g.2.1),(.slice none 0 0),(.slice none 0 0),(.slice none 0 0),(.slice none 0 0)].toArray) (aX n5 kG R R)) (bF R R kG (fun J=>(aK 0 R R iH R R R R R R (lN (aJ J [(sc A7 g.1 D7),(aD g.2.1),(aD g.2.1),(.slice none 0 0),(.slice none 0 0),(.slice none 0 0),(.slice none 0 0)] 192::_::_::Z) ?_))))))
 refine bG ?_
 refine lO (vz (.agg [(iv 0),(iv 0),(iv 0),(iv 0),(iv 0),(iv 0),(iv 0),(iv 0),(iv 0),(iv 0),(iv 0),(iv 0),(iv 0),(iv 0),(iv 0),(iv 0),(iv 0),(iv 0),(iv 0),(iv 0),(iv 0),(iv 0),(iv 0),(iv 0),(iv 0),(iv 0)].toArray) (wv sy vM cB)) (bF R R vM (fun T=>(aK 0 R R vN R R R R R R (aC (qM (ow kT3 195 (.slice (ad T 0) 26 26) (List.replicate 26 (0:Int))::_::_::_::Z) (fun w s=>s.b2o 0 (List.replicate 26 (0:Int)) R R R R) ?_)))))
 refine aU ?_
 refine aZ (A:=(aM×(List Int))×(HH×HH)) (fun a=>Z3_J7 b g a.1.1 a.1.2=some r) (fun a=>[(1,(s3 a.2.1)),(4,(pt b4 0)),(6,(s3 a.2.2)),(7,(aD g.2.1)),(9,(pt J 0)),(10,(pt T 0))]) (fun a=>aN bL (s3 a.2.1) b::aJ b4 [(.slice none 0 0),(aD ([]:aM)),(aD ([]:aM)),(.slice none 0 0),(.slice none 0 0),(.slice none 0 0),(.slice none 0 0)] 192::aN dO (s3 a.2.2) g.1::aJ J [(s3 a.2.2),(aD g.2.1),(aD a.1.1),(.slice none 0 0),(.slice none 0 0),(.slice none 0 0),(.slice none 0 0)] 192::ow kT3 195 (.slice (ad T 0) 26 26) a.1.2::Z) ?_ ?_
 refine cV ?_
 obtain ⟨e1,d5,bs⟩:=bd i
 refine bD (A:=HH×HH) d5 (fun s a=>[(1,(s3 a.1)),(4,(pt b4 0)),(6,(s3 a.2)),(7,(aD g.2.1)),(9,(pt J 0)),(10,(pt T 0)),(41,(s3 a.2)),(42,(il g.1)),(43,(iv s.2.2))]) (fun s a=>aN bL (s3 a.1) b::aJ b4 [(.slice none 0 0),(aD ([]:aM)),(aD ([]:aM)),(.slice none 0 0),(.slice none 0 0),(.slice none 0 0),(.slice none 0 0)] 192::aN dO (s3 a.2) g.1::aJ J [(s3 a.2),(aD g.2.1),(aD s.1),(.slice none 0 0),(.slice none 0 0),(.slice none 0 0),(.slice none 0 0)] 192::ow kT3 195 (.slice (ad T 0) 26 26) s.2.1::Z) ((A3,b.length,D3),(A7,g.1.length,D7)) (aS R) (fun w s=>((s.d 4 R).e 5 [0,3,4,2,1])) ?_
 rintro ⟨d3,bc,j⟩ ⟨⟨cz,d4,ah⟩,⟨cu,cy,a1⟩⟩ σ1 c6 i c1
 dsimp only [Z3_L1] at i
 refine bJ 0 aA (fun (hn:d4=b.length)=>?_)
 subst hn
 refine bJ 2 aA (fun (hn:cy=g.1.length)=>?_)
 subst hn
 refine bT ?_
 split at i
 refine bG ?_
 refine aZ (A:=(aM×(List Int))×(HH×HH)) (fun a=>Z3_J6 j a.1.1 a.1.2=some c6) (fun a=>[(1,(s3 a.2.1)),(4,(pt b4 0)),(6,(s3 a.2.2)),(7,(aD g.2.1)),(9,(pt J 0)),(10,(pt T 0)),(41,(s3 a.2.2)),(42,(il g.1)),(43,(iv j))]) (fun a=>aN bL (s3 a.2.1) b::aJ b4 [(.slice none 0 0),(aD ([]:aM)),(aD ([]:aM)),(.slice none 0 0),(.slice none 0 0),(.slice none 0 0),(.slice none 0 0)] 192::aN dO (s3 a.2.2) g.1::aJ J [(s3 a.2.2),(aD g.2.1),(aD a.1.1),(.slice none 0 0),(.slice none 0 0),(.slice none 0 0),(.slice none 0 0)] 192::ow kT3 195 (.slice (ad T 0) 26 26) a.1.2::Z) ?_ ?_
 refine aU ?_
 obtain ⟨b2,i⟩:=gd i
 refine aU ?_
 refine bA 2 aA (show 0<g.1.length by have:=b2; omega) (fun a4 o83 ha=>?_)
 subst ha
 refine bU ?_
 refine lO (vz (aD (ix g.1 j)) (jH (K:=dO) (fo:=0) (pr:=fun x=>(aD x)) 2 j qX (dT9.leaf fun _ _=>R) aA R b2.1 b2.2)) (lI R (lO (vp (aD (ix g.1 j)) R) ?_))
 refine bG ?_
 obtain ⟨a7,i⟩:=gd i
 refine aE (lO (vp (aD (ix g.1 j)) R) (lO (vz (il (ix g.1 j)) (dN fJ R)) (lS R (lI R (bA 0 aA (show 0<b.length by have:=a7; omega) (fun ae o86 ha=>?_))))))
 subst ha
 refine bU ?_
 refine gG (K:=bL) 0 j dT23.dec R a7.1 a7.2 ?_
 rintro ⟨dw,dv⟩
 refine lO (eJ (fo:=0) 0 cJ R R R) ?_
 refine bG ?_
 split at i
 refine aP ?_
 refine lO (vz (.agg [(.slice none 0 0),(aD ([]:aM)),(aD ([]:aM)),(.slice none 0 0),(.slice none 0 0),(.slice none 0 0),(.slice none 0 0)].toArray) (aX n5 kG R R)) (aK 3 R R iH R R R R R R (lB R (aC (aI (bY (cF (dC (cF ?_))))))))
 cases i
 obtain rfl:=c1 _ R
 have i:=bs
 refine aP ?_
 cases i
 exact dI (vs:=[(.agg [(.slice none 0 0),(aD ([]:aM)),(aD ([]:aM)),(.slice none 0 0),(.slice none 0 0),(.slice none 0 0),(.slice none 0 0)].toArray),(.bool false)]) (.inl R) ((none,0,0),(none,0,0),(none,0,0),(none,0,0),(none,0,0)) R ⟨⟨3,b4,_,_,R,R,.inl ⟨mr,iH,R⟩⟩,R,trivial⟩ R (fun w s=>((((((s.nilr dO).nilr kT3).nilo kT3 3).nilo bL 23).nilo kT3 3).e 14 [4,3,2,1,0]))
 refine cU ?_
 obtain ⟨e2,ct,c3⟩:=bd i
 refine bD (A:=Unit) ct (fun s a=>[(1,(sc (ad ae o86) b ah)),(4,(pt b4 0)),(6,(sc (ad a4 o83) g.1 a1)),(7,(aD g.2.1)),(9,(pt J 0)),(10,(pt T 0)),(11,(iv j)),(12,(aD (ix g.1 j))),(13,(iv s.2.2)),(41,(sc (ad a4 o83) g.1 a1)),(42,(il g.1)),(43,(iv j))]) (fun s a=>RR bL (ad ae o86) ah b::aJ b4 [(.slice none 0 0),(aD ([]:aM)),(aD ([]:aM)),(.slice none 0 0),(.slice none 0 0),(.slice none 0 0),(.slice none 0 0)] 192::RR dO (ad a4 o83) a1 g.1::aJ J [(sc (ad a4 o83) g.1 a1),(aD g.2.1),(aD s.1),(.slice none 0 0),(.slice none 0 0),(.slice none 0 0),(.slice none 0 0)] 192::ow kT3 195 (.slice (ad T 0) 26 26) s.2.1::Z) () (aS R) (fun w s=>(s.f 7 [2,5])) ?_
 rintro ⟨aa,U,m⟩ _ σ1 cf i cj
 dsimp only [Z3_L2] at i
 refine bG ?_
 refine lO (vp (aD (ix g.1 j)) R) (lO (vz (il (ix g.1 j)) (dN fJ R)) ?_)
 refine aP ?_
 split at i
 refine bG ?_
 refine aZ (A:=(aM×(List Int))×(Unit)) (fun a=>Z3_J5 m a.1.1 a.1.2=some cf) (fun a=>[(1,(sc (ad ae o86) b ah)),(4,(pt b4 0)),(6,(sc (ad a4 o83) g.1 a1)),(7,(aD g.2.1)),(9,(pt J 0)),(10,(pt T 0)),(11,(iv j)),(12,(aD (ix g.1 j))),(13,(iv m)),(41,(sc (ad a4 o83) g.1 a1)),(42,(il g.1)),(43,(iv j))]) (fun a=>RR bL (ad ae o86) ah b::aJ b4 [(.slice none 0 0),(aD ([]:aM)),(aD ([]:aM)),(.slice none 0 0),(.slice none 0 0),(.slice none 0 0),(.slice none 0 0)] 192::RR dO (ad a4 o83) a1 g.1::aJ J [(sc (ad a4 o83) g.1 a1),(aD g.2.1),(aD a.1.1),(.slice none 0 0),(.slice none 0 0),(.slice none 0 0),(.slice none 0 0)] 192::ow kT3 195 (.slice (ad T 0) 26 26) a.1.2::Z) ?_ ?_
 refine aU ?_
 obtain ⟨ac,i⟩:=gd i
 obtain ⟨ap,i⟩:=gd i
 refine aE (lO (vp (aD (ix g.1 j)) R) (lI R (lO (vz (.int .u8 (bt (ix g.1 j) m)) (cH fJ R R ac.1 ac.2)) (lO (vp (.int .u8 (IntKind.wrap .u8 ((bt (ix g.1 j) m) - 97))) R) (lO (vz (.pointer (some ⟨T,0+(IntKind.wrap .u8 ((bt (ix g.1 j) m) - 97)).toNat*1,none⟩)) (s6 sy cB R R ap)) ?_)))))
 refine bZ ?_
 obtain ⟨am,i⟩:=gd i
 refine cQ [(1,(sc (ad ae o86) b ah)),(4,(pt b4 0)),(6,(sc (ad a4 o83) g.1 a1)),(7,(aD g.2.1)),(9,(pt J 0)),(10,(pt T 0)),(11,(iv j)),(12,(aD (ix g.1 j))),(13,(iv m)),(14,(.pointer (some ⟨T,0+(IntKind.wrap .u8 ((bt (ix g.1 j) m) - 97)).toNat*1,none⟩))),(41,(sc (ad a4 o83) g.1 a1)),(42,(il g.1)),(43,(iv j)),(84,(.bool (((ix U (IntKind.wrap .u8 ((bt (ix g.1 j) m) - 97))) != 0)&&((ix U (IntKind.wrap .u8 ((bt (ix g.1 j) m) - 97))) != (ix (ix b j) m)))))] (RR bL (ad ae o86) ah b::aJ b4 [(.slice none 0 0),(aD ([]:aM)),(aD ([]:aM)),(.slice none 0 0),(.slice none 0 0),(.slice none 0 0),(.slice none 0 0)] 192::RR dO (ad a4 o83) a1 g.1::aJ J [(sc (ad a4 o83) g.1 a1),(aD g.2.1),(aD aa),(.slice none 0 0),(.slice none 0 0),(.slice none 0 0),(.slice none 0 0)] 192::ow kT3 195 (.slice (ad T 0) 26 26) U::Z) ?_ ?_
 rcases bo ((ix U (IntKind.wrap .u8 ((bt (ix g.1 j) m) - 97))) != 0) with Y | Y
 refine dL (K:=bL) 0 j dT23.dec R a7.1 a7.2 ?_
 rintro ⟨dr,dk⟩
 refine bB 1 aA (show 0<(ix b j).length by have:=(am Y); omega) (fun dj o120 ha=>?_)
 subst ha
 refine dF 17 [] bP fun ht hn=>?_
 refine pc 0 [] ?_
 refine dW 11 R (eH Y) (eJ (fo:=0) 0 cJ R R R) (dW 12 R (eH Y) (vI R) (dW 13 R (eH Y) (eL bI cB R R (am Y)) (dW 14 R (eH Y) (gO 1 fQ aA R (am Y)) ?_)))
 refine gR 15 [] ?_
 refine dD ?_
 exact qj (fun w s=>(s.f 7 [2,5]))
 refine dF 17 [] bP fun ht hn=>?_
 refine yq 0 [] ?_
 refine dD ?_
 exact qj tI
 rintro σ1
 refine bU ?_
 split at i
 refine aP ?_
 refine lO (vz (.agg [(.slice none 0 0),(aD ([]:aM)),(aD ([]:aM)),(.slice none 0 0),(.slice none 0 0),(.slice none 0 0),(.slice none 0 0)].toArray) (aX n5 kG R R)) (aK 1 R R iH R R R R R R (lN (_::_::_::_::_::Z) ?_))
 refine dG ?_
 cases i
 obtain rfl:=cj _ R
 have i:=c3
 refine bG ?_
 cases i
 obtain rfl:=c1 _ R
 have i:=bs
 refine aP ?_
 cases i
 exact dI (vs:=[(.agg [(.slice none 0 0),(aD ([]:aM)),(aD ([]:aM)),(.slice none 0 0),(.slice none 0 0),(.slice none 0 0),(.slice none 0 0)].toArray),(.bool false)]) (.inl R) ((none,0,0),(none,0,0),(none,0,0),(none,0,0),(none,0,0)) R ⟨⟨1,b4,_,_,R,R,.inl ⟨mr,iH,R⟩⟩,R,trivial⟩ R (fun w s=>((((((s.nilr dO).nilr kT3).nilo kT3 3).nilo bL 23).nilo kT3 3).e 12 [4,3,2,1,0]))
 refine bG ?_
 obtain ⟨bu,i⟩:=gd i
 refine bZ ?_
 refine gG (K:=bL) 0 j dT23.dec R a7.1 a7.2 ?_
 rintro ⟨dn,bi⟩
 refine lO (eJ (fo:=0) 0 cJ R R R) (lI R (bA 1 aA (show 0<(ix b j).length by have:=bu; omega) (fun bh o126 ha=>?_)))
 subst ha
 refine aP ?_
 refine lM (ow _ _ _ _::cl ae (o86+j.toNat*1) [(sc (ad bh o126) (ix b j) bi)]::RR kT3 (ad bh o126) bi (ix b j)::aN _ _ _::aJ _ _ _::aN _ _ _::aJ _ _ _::Z) (fun w s=>(s.f 7 [6,1,0,6])) ?_
 refine eA (K:=kT3) (x':=(ix (ix b j) m)) 0 (IntKind.wrap .u8 ((bt (ix g.1 j) m) - 97)) R R cB R R ap.1 ap.2 ?_ ?_
 exact fun I h s=>(fZ).put I h () (ix (ix b j) m) s
 refine bU ?_
 obtain ⟨b3,ai,i⟩:=bd i
 replace ai:=Option.some.inj ai
 refine qM (ow kT3 195 (.slice (ad T 0) 26 26) b3::_::_::_::_::_::_::Z) (fun w s=>by rw [← ai]; exact s) ?_
 refine aU ?_
 obtain ⟨dh,bn,i⟩:=bd i
 refine dF 7 [] bP fun ht hn=>?_
 refine gR 0 [] ?_
 refine dR 2 R (vp (aD (ix g.1 j)) R) (dR 3 R (vI R) (dR 4 R (vz (.int .u8 (bt (ix g.1 j) m)) (cH fJ R R ac.1 ac.2)) (d1 5 R (lC 0 qf R (Z1v_ok bn) R ?_))))
 rintro _
 refine aC (aG (sL []) (dR 6 R (mZ R R) (dD (aI ?_))))
 split at i
 refine bU ?_
 obtain ⟨an,i⟩:=gd i
 obtain ⟨bv,i⟩:=gd i
 refine dF 10 [6] bP fun ht hn=>?_
 refine oo 0 [6] ?_
 refine dR 2 R (vp (aD (ix g.1 j)) R) (hS:=(sL [6])) ?_
 refine hX 3 [6] ?_
 refine dR 6 R (vz (aD (sub (ix g.1 j) m (aH (m+1)))) (hM m (aH (m+1)) fJ R R R an.1 an.2.1 an.2.2)) (hS:=(sL [6])) (d1 1 R (lO (fW 6 qX R R R) (aC (aG (sL [6]) (dR 7 R (vz (aD (aa++(sub (ix g.1 j) m (aH (m+1))))) (nl R R bv)) (hS:=(sL [6])) ?_)))))
 refine oo 8 [6] ?_
 refine d1 9 R (cK 6 R R qZ R R R R R (lN (_::_::_::_::_::_::aJ J [(sc (ad a4 o83) g.1 a1),(aD g.2.1),(aD (aa++(sub (ix g.1 j) m (aH (m+1))))),(.slice none 0 0),(.slice none 0 0),(.slice none 0 0),(.slice none 0 0)] 192::Z) ?_))
 refine aC (aG (sL [6]) (dD (dY ?_)))
 exact qI (((aa++(sub (ix g.1 j) m (aH (m+1)))),b3),()) i (fun w s=>(s.f 7 [3,4,0,1]))
 refine aP ?_
 exact qI ((aa,b3),()) i (fun w s=>(s.f 7 [3,4,0,1]))
 rintro ⟨⟨dt,cn⟩,_⟩ σ1 i
 dsimp only [Z3_J5] at i
 refine bZ ?_
 cases i
 exact qA () tI
 refine aP ?_
 cases i
 obtain rfl:=cj _ R
 have i:=c3
 refine aP ?_
 exact qI ((aa,U),(((ad ae o86),b.length,ah),((ad a4 o83),g.1.length,a1))) i tI
 rintro ⟨⟨ds,ch⟩,⟨⟨cm,c2,ca⟩,⟨c8,ck,co⟩⟩⟩ σ1 i
 dsimp only [Z3_J6] at i
 refine bJ 0 aA (fun (hn:c2=b.length)=>?_)
 subst hn
 refine bJ 2 aA (fun (hn:ck=g.1.length)=>?_)
 subst hn
 refine bG ?_
 cases i
 exact qA ((cm,b.length,ca),(c8,g.1.length,co)) tI
 refine aP ?_
 cases i
 obtain rfl:=c1 _ R
 have i:=bs
 refine aU ?_
 exact qI ((d3,bc),((cz,b.length,ah),(cu,g.1.length,a1))) i tI
 rintro ⟨⟨l,O⟩,⟨⟨a9,cc,a8⟩,⟨E,cr,q⟩⟩⟩ σ1 i
 dsimp only [Z3_J7] at i
 refine bJ 0 aA (fun (hn:cc=b.length)=>?_)
 subst hn
 refine bJ 2 aA (fun (hn:cr=g.1.length)=>?_)
 subst hn
 refine bT ?_
 refine aZ (A:=((List Int))×(HH)) (fun a=>Z3_J8 b g l a.1=some r) (fun a=>[(1,(sc a9 b a8)),(4,(pt b4 0)),(6,(sc E g.1 q)),(7,(aD g.2.1)),(9,(pt J 0))]) (fun a=>RR bL a9 a8 b::aJ b4 [(.slice none 0 0),(aD ([]:aM)),(aD ([]:aM)),(.slice none 0 0),(.slice none 0 0),(.slice none 0 0),(.slice none 0 0)] 192::RR dO E q g.1::aJ J [(sc E g.1 q),(aD g.2.1),(aD l),(s3 a.2),(.slice none 0 0),(.slice none 0 0),(.slice none 0 0)] 192::ow kT3 3 (s3 a.2) a.1::Z) ?_ ?_
 refine bT ?_
 obtain ⟨e3,d0,cg⟩:=bd i
 refine bD (A:=HH) d0 (fun s a=>[(1,(sc a9 b a8)),(4,(pt b4 0)),(6,(sc E g.1 q)),(7,(aD g.2.1)),(9,(pt J 0)),(10,(pt T 0)),(15,(iv s.2.1)),(16,(iv s.2.2))]) (fun s a=>RR bL a9 a8 b::aJ b4 [(.slice none 0 0),(aD ([]:aM)),(aD ([]:aM)),(.slice none 0 0),(.slice none 0 0),(.slice none 0 0),(.slice none 0 0)] 192::RR dO E q g.1::aJ J [(sc E g.1 q),(aD g.2.1),(aD l),(s3 a),(.slice none 0 0),(.slice none 0 0),(.slice none 0 0)] 192::ow kT3 3 (s3 a) s.1::ow kT3 195 (.slice (ad T 0) 26 26) O::Z) (none,0,0) (aS R) (fun w s=>((s.nilo kT3 3).e 6 [1,2,3,4,0,5])) ?_
 rintro ⟨ab,ci,a2⟩ ⟨c4,c5,cp⟩ σ1 d9 i cb
 dsimp only [Z3_L3] at i
 refine bJ 4 aB (fun (hn:c5=ab.length)=>?_)
 subst hn
 refine bT ?_
 refine lO (vz (il l) (dN fJ R)) ?_
 refine aP ?_
 split at i
 refine bT ?_
 obtain ⟨ax,i⟩:=gd i
 obtain ⟨bk,i⟩:=gd i
 refine bG ?_
 refine lO (vz (.int .u8 (bt l a2)) (cH fJ R R ax.1 ax.2)) (lO (vp (.int .u8 (IntKind.wrap .u8 ((bt l a2) - 97))) R) (lO (vz (.pointer (some ⟨T,0+(IntKind.wrap .u8 ((bt l a2) - 97)).toNat*1,none⟩)) (s6 sy cB R R bk)) ?_))
 refine bZ ?_
 obtain ⟨bw,i⟩:=gd i
 refine bG ?_
 refine bK (K:=kT3) (xs:=([(ix O (IntKind.wrap .u8 ((bt l a2) - 97)))]:List Int)) (vs:=[(iv (ix O (IntKind.wrap .u8 ((bt l a2) - 97))))]) 0 R R bI cB f' R R R R R R ?_ R (fun dc d6=>?_)
 exact fun I h s=>(fZ).list [((),(ix O (IntKind.wrap .u8 ((bt l a2) - 97))))] I h s
 refine lM (ow _ _ _ _::ow _ _ _ _::aN _ _ _::aJ _ _ _::aN _ _ _::aJ _ _ _::ow _ _ _ _::Z) (fun w s=>(s.f 7 [5,1,0,5,6,1])) ?_
 refine eB (K:=kT3) 17592186044416 R R bI cB jZ (Zr.zk zT3 f') R R R R R R dM bw (fun b5 bb=>(lN (OO kT3 3 b5 bb (ab++([(ix O (IntKind.wrap .u8 ((bt l a2) - 97)))]:List Int))::_::_::_::_::_::Z) ?_))
 refine bU ?_
 refine cK 4 R R fK R R R R R (lN (_::_::_::_::aJ J [(sc E g.1 q),(aD g.2.1),(aD l),(sc b5 (ab++([(ix O (IntKind.wrap .u8 ((bt l a2) - 97)))]:List Int)) bb),(.slice none 0 0),(.slice none 0 0),(.slice none 0 0)] 192::_::Z) ?_)
 refine wA ?_
 split at i
 refine aP ?_
 refine lO (vz (.agg [(.slice none 0 0),(aD ([]:aM)),(aD ([]:aM)),(.slice none 0 0),(.slice none 0 0),(.slice none 0 0),(.slice none 0 0)].toArray) (aX n5 kG R R)) (aK 2 R R iH R R R R R R (lB R (aC (aI (bY (dC (cF ?_)))))))
 cases i
 obtain rfl:=cb _ R
 have i:=cg
 refine aP ?_
 cases i
 exact dI (vs:=[(.agg [(.slice none 0 0),(aD ([]:aM)),(aD ([]:aM)),(.slice none 0 0),(.slice none 0 0),(.slice none 0 0),(.slice none 0 0)].toArray),(.bool false)]) (.inl R) ((none,0,0),(none,0,0),(none,0,0),(none,0,0),(none,0,0)) R ⟨⟨2,b4,_,_,R,R,.inl ⟨mr,iH,R⟩⟩,R,trivial⟩ R (fun w s=>((((((s.nilr dO).nilr kT3).nilo kT3 3).nilo bL 23).nilo kT3 3).e 13 [4,3,2,1,0]))
 refine cU ?_
 cases i
 exact qA (b5,(ab++([(ix O (IntKind.wrap .u8 ((bt l a2) - 97)))]:List Int)).length,bb) (tE 6 [1,2,3,4,0,5])
 refine aP ?_
 cases i
 obtain rfl:=cb _ R
 have i:=cg
 refine aU ?_
 exact qI (ab,(c4,ab.length,cp)) i (fun w s=>(s.f 6 [0,5]))
 rintro ⟨D,⟨M,c9,L⟩⟩ σ1 i
 dsimp only [Z3_J8] at i
 refine bJ 4 aB (fun (hn:c9=D.length)=>?_)
 subst hn
 refine bU ?_
 obtain ⟨ak,i⟩:=gd i
 obtain ⟨u,br,i⟩:=bd i
 refine aP ?_
 refine lO (vp (aD g.2.1) R) (lO (vz (il g.2.1) (dN fJ R)) (iP (fun w s=>s.shr 4 R) (gC (K:=kT3) (0:Int) (g.2.1.length:Int) 0 R R bI cB R R R R ak.1 ak.2.1 ak.2.2 (fun bf be=>(lM (RR kT3 bf be (sub D (0:Int) (g.2.1.length:Int))::RR kT3 bf be (sub D (0:Int) (g.2.1.length:Int))::RR kT3 M L D::_::_::_::aJ J [(sc E g.1 q),(aD g.2.1),(aD l),(sc M D L),(.slice none 0 0),(.slice none 0 0),(.slice none 0 0)] 192::Z) (fun w s=>(s.d 0 R)) ?_)))))
 refine lC 1 jk R (Zp_ok br) R ?_
 rintro ⟨G,dl,F⟩
 refine aL 0 aB ?_
 rintro rfl
 refine bU ?_
 refine cK 6 R R fK R R R R R (lN (_::_::_::_::_::_::aJ J [(sc E g.1 q),(aD g.2.1),(aD l),(sc M D L),(sc G u F),(.slice none 0 0),(.slice none 0 0)] 192::Z) ?_)
 refine bG ?_
 obtain ⟨dd,bq,i⟩:=bd i
 refine aP ?_
 refine lC 1 i' R (FnOk.lends (A':=[OO kT3 3 G F u]) (A:=[RR kT3 G F u]) (B:=[]) (Zd_ok bq) ⟨aV,trivial⟩ (fun _=>trivial)) R ?_
 rintro _
 refine aP ?_
 split at i
 refine aP ?_
 refine lO (vz (.agg [(.slice none 0 0),(aD ([]:aM)),(aD ([]:aM)),(.slice none 0 0),(.slice none 0 0),(.slice none 0 0),(.slice none 0 0)].toArray) (aX n5 kG R R)) (aK 4 R R iH R R R R R R (lB R (aC (aI (bY (cF ?_))))))
 cases i
 exact dI (vs:=[(.agg [(.slice none 0 0),(aD ([]:aM)),(aD ([]:aM)),(.slice none 0 0),(.slice none 0 0),(.slice none 0 0),(.slice none 0 0)].toArray),(.bool false)]) (.inl R) ((none,0,0),(none,0,0),(none,0,0),(none,0,0),(none,0,0)) R ⟨⟨4,b4,_,_,R,R,.inl ⟨mr,iH,R⟩⟩,R,trivial⟩ R (fun w s=>((((((s.nilr dO).nilr kT3).nilo kT3 3).nilo bL 23).nilo kT3 3).e 14 [4,3,2,1,0]))
 refine bG ?_
 refine aZ (A:=((List (List Int)))×(HH)) (fun a=>Z3_J9 g l D u a.1=some r) (fun a=>[(4,(pt b4 0)),(7,(aD g.2.1)),(9,(pt J 0))]) (fun a=>aJ b4 [(.slice none 0 0),(aD ([]:aM)),(aD ([]:aM)),(.slice none 0 0),(.slice none 0 0),(.slice none 0 0),(.slice none 0 0)] 192::aJ J [(sc E g.1 q),(aD g.2.1),(aD l),(sc M D L),(sc G u F),(s3 a.2),(.slice none 0 0)] 192::RR dO E q g.1::RR kT3 M L D::OO kT3 3 G F u::ow bL 23 (s3 a.2) a.1::Z) ?_ ?_
 refine cV ?_
 obtain ⟨e4,d2,cs⟩:=bd i
 refine bD (A:=HH) d2 (fun s a=>[(1,(sc a9 b a8)),(4,(pt b4 0)),(7,(aD g.2.1)),(9,(pt J 0)),(150,(sc E g.1 q)),(151,(il g.1)),(152,(iv s.2))]) (fun s a=>RR bL a9 a8 b::aJ b4 [(.slice none 0 0),(aD ([]:aM)),(aD ([]:aM)),(.slice none 0 0),(.slice none 0 0),(.slice none 0 0),(.slice none 0 0)] 192::aJ J [(sc E g.1 q),(aD g.2.1),(aD l),(sc M D L),(sc G u F),(s3 a),(.slice none 0 0)] 192::RR dO E q g.1::RR kT3 M L D::OO kT3 3 G F u::ow bL 23 (s3 a) s.1::Z) (none,0,0) (aS R) (fun w s=>((s.nilo bL 23).e 8 [4,5,7,6,3,1,0])) ?_
 rintro ⟨a0,ag⟩ ⟨aq,c7,aw⟩ σ1 d7 i cv
 dsimp only [Z3_L4] at i
 refine bJ 6 aB (fun (hn:c7=a0.length)=>?_)
 subst hn
 refine bT ?_
 split at i
 refine bT ?_
 obtain ⟨al,i⟩:=gd i
 refine aU ?_
 refine bA 3 aA (show 0<g.1.length by have:=al; omega) (fun b0 o207 ha=>?_)
 subst ha
 refine bU ?_
 refine lO (vz (aD (ix g.1 ag)) (jH (K:=dO) (fo:=0) (pr:=fun x=>(aD x)) 3 ag qX (dT9.leaf fun _ _=>R) aA R al.1 al.2)) (lI R (lO (vp (aD (ix g.1 ag)) R) ?_))
 refine aU ?_
 obtain ⟨aj,i⟩:=gd i
 obtain ⟨b9,bm,i⟩:=bd i
 obtain ⟨a6,bl,i⟩:=bd i
 obtain ⟨c0,i⟩:=gd i
 refine bB 0 aA (show 0<b.length by have:=aj; omega) (fun dm o210 ha=>?_)
 subst ha
 refine dL (K:=bL) 0 ag dT23.dec R aj.1 aj.2 ?_
 rintro ⟨dq,de⟩
 refine dF 11 [] bP fun ht hn=>?_
 refine hX 0 [] ?_
 refine dR 3 R (vp (aD (ix g.1 ag)) R) ?_
 refine hX 4 [] ?_
 refine dR 7 R (eJ (fo:=0) 0 cJ R R R) (d1 8 R (lM (_::_::_::_::_::_::_::_::_::_::Z) (fun w s=>(s.d 1 R)) ?_))
 refine lC 1 sA R (Z06_ok bm) R ?_
 rintro ⟨ay,db,b6⟩
 refine aL 0 aB ?_
 rintro rfl
 refine aC (aG (sL [0]) (d1 9 R (lM (ow _ _ _ _::ow _ _ _ _::ow _ _ _ _::aN _ _ _::aN _ _ _::aN kT3 (.slice none 0 0) ([]:List Int)::cl _ _ _::aN _ _ _::aN _ _ _::aJ _ _ _::aJ _ _ _::aN _ _ _::aN _ _ _::Z) (fun w s=>((((s.d 6 R).d 8 R).nilr kT3).f 13 [11,2,3,1,2,1,1,1,0,1,4,7])) ?_)))
 refine lC 6 vO R (FnOk.lends (A':=[OO kT3 3 G F u,OO bL 23 aq aw a0,OO kT3 3 ay b6 b9]) (A:=[RR kT3 G F u,RR bL aq aw a0,RR kT3 ay b6 b9]) (B:=[RR dO (ad b0 o207) q g.1,RR kT3 M L D,aN kT3 (.slice none 0 0) ([]:List Int)]) (FnOk.perm (Zl_ok (f1:=(⟨g.1,g.2.1,l,D,u,a0,([]:List Int)⟩:form)) bl) (Pre':=[RR kT3 G F u,RR bL aq aw a0,RR kT3 ay b6 b9,RR dO (ad b0 o207) q g.1,RR kT3 M L D,aN kT3 (.slice none 0 0) ([]:List Int)]) (fun _ _ _ s=>(s.e 6 [3,4,0,1,5,2]))) ⟨aV,aV,aV,trivial⟩ (fun _=>⟨(bH iM),trivial⟩)) R ?_
 rintro ⟨bj,da,bg⟩
 refine aL 3 aB ?_
 rintro rfl
 refine aC (aG (fun w s=>(s.f 11 [4,7,0,2])) (d1 10 R (lM (ow _ _ _ _::ow _ _ _ _::ow _ _ _ _::ow _ _ _ _::cl _ _ _::aN _ _ _::aN _ _ _::aJ _ _ _::aJ _ _ _::aN _ _ _::aN _ _ _::Z) (fun w s=>(s.f 11 [3,1,0,3,4,7])) ?_)))
 refine bK (K:=bL) (xs:=([a6]:List (List Int))) (vs:=[(sc bj a6 bg)]) 1 R R km fK lA R R R R R R ?_ R (fun df d8=>?_)
 exact fun I h s=>(mR).list [((sc bj a6 bg),a6)] I h s
 refine aC (aG (fun w s=>(s.f 11 [4,7,1,2])) (d1 11 R (lM (ow _ _ _ _::ow _ _ _ _::ow _ _ _ _::ow _ _ _ _::cl _ _ _::aN _ _ _::aN _ _ _::aJ _ _ _::aJ _ _ _::aN _ _ _::aN _ _ _::Z) (fun w s=>(s.f 11 [2,1,0,2,3,8])) ?_)))
 refine eB (K:=bL) 5864062014805 R R km fK un (Zr.zk zT23 lA) R R R R R R dM c0 (fun b7 b8=>(lN (OO bL 23 b7 b8 (a0++([a6]:List (List Int)))::_::_::_::_::_::_::_::_::_::Z) ?_))
 refine aC (qE (d1 12 R (lO (fP 5 qg R) (aC (qE (d1 13 R (cK 7 R R zg R R R R R (lN (_::_::_::_::_::_::_::aJ J [(sc (ad b0 o207) g.1 q),(aD g.2.1),(aD l),(sc M D L),(sc G u F),(sc b7 (a0++([a6]:List (List Int))) b8),(.slice none 0 0)] 192::_::_::Z) ?_))))))))
 refine aC (qE (dD ?_))
 refine bT ?_
 cases i
 exact qA (b7,(a0++([a6]:List (List Int))).length,b8) (fun w s=>(s.f 10 [5,5,1,1,0,1]))
 refine aP ?_
 cases i
 obtain rfl:=cv _ R
 have i:=cs
 refine aU ?_
 exact qI (a0,(aq,a0.length,aw)) i (fun w s=>(s.f 7 [1,6]))
 rintro ⟨f224,⟨a3,cq,a5⟩⟩ σ1 i
 dsimp only [Z3_J9] at i
 refine bJ 5 aB (fun (hn:cq=f224.length)=>?_)
 subst hn
 refine bU ?_
 obtain ⟨az,bz,i⟩:=bd i
 obtain ⟨au,bp,i⟩:=bd i
 refine dF 7 [] bP fun ht hn=>?_
 refine oo 0 [] ?_
 refine dR 1 R (vp (aD g.2.1) R) ?_
 refine gR 2 [] ?_
 refine d1 4 R (lM (ow _ _ _ _::aJ _ _ _::aJ J [(sc E g.1 q),(aD g.2.1),(aD l),(sc M D L),(sc G u F),(sc a3 f224 a5),(.slice none 0 0)] 192::RR dO E q g.1::aN _ _ _::OO bL 23 a3 a5 f224::Z) (tE 6 [4,0,1,2,3,5]) ?_)
 refine lC 1 sA R (FnOk.lends (A':=[OO kT3 3 G F u]) (A:=[RR kT3 G F u]) (B:=[]) (Z06_ok bz) ⟨aV,trivial⟩ (fun _=>⟨(bH iM),trivial⟩)) R ?_
 rintro ⟨ba,di,b1⟩
 refine aL 1 aB ?_
 rintro rfl
 refine aC (aG (tE 7 [2,3,4,5,0,6]) (d1 5 R (lM (ow _ _ _ _::ow _ _ _ _::ow _ _ _ _::aN _ _ _::aN _ _ _::aN kT3 (.slice none 0 0) ([]:List Int)::aJ _ _ _::aJ _ _ _::aN _ _ _::aN _ _ _::Z) (fun w s=>((((s.d 4 R).d 6 R).nilr kT3).e 10 [3,9,4,2,1,0,5,6,7,8])) ?_)))
 refine lC 6 vO R (FnOk.lends (A':=[OO kT3 3 G F u,OO bL 23 a3 a5 f224,OO kT3 3 ba b1 az]) (A:=[RR kT3 G F u,RR bL a3 a5 f224,RR kT3 ba b1 az]) (B:=[RR dO E q g.1,RR kT3 M L D,aN kT3 (.slice none 0 0) ([]:List Int)]) (FnOk.perm (Zl_ok (f1:=(⟨g.1,g.2.1,l,D,u,f224,([]:List Int)⟩:form)) bp) (Pre':=[RR kT3 G F u,RR bL a3 a5 f224,RR kT3 ba b1 az,RR dO E q g.1,RR kT3 M L D,aN kT3 (.slice none 0 0) ([]:List Int)]) (fun _ _ _ s=>(s.e 6 [3,4,0,1,5,2]))) ⟨aV,aV,aV,trivial⟩ (fun _=>⟨(bH iM),trivial⟩)) R ?_
 rintro ⟨ar,du,av⟩
 refine aL 3 aB ?_
 rintro rfl
 refine aC (aG (fun w s=>(s.f 8 [4,4,0,2])) (dR 6 R (fP 6 qh R) (hS:=(fun w s=>(s.f 8 [4,4,0,2]))) (d1 7 R (cK 5 R R fK R R R R R (lN (_::_::_::_::_::aJ J [(sc E g.1 q),(aD g.2.1),(aD l),(sc M D L),(sc G u F),(sc a3 f224 a5),(sc ar au av)] 192::_::_::Z) ?_)))))
 refine aC (qE (dD ?_))
 refine bG ?_
 refine aK 4 R R iH R R R R R R (lN (_::_::_::_::aJ b4 [(sc E g.1 q),(aD g.2.1),(aD l),(sc M D L),(sc G u F),(sc a3 f224 a5),(sc ar au av)] 192::_::_::_::Z) ?_)
 refine bG ?_
 cases i
 exact dI (vs:=[(.agg [(sc E g.1 q),(aD g.2.1),(aD l),(sc M D L),(sc G u F),(sc a3 f224 a5),(sc ar au av)].toArray),(.bool true)]) (.inl R) ((E,g.1.length,q),(M,D.length,L),(G,u.length,F),(a3,f224.length,a5),(ar,au.length,av)) R ⟨⟨4,b4,_,_,R,R,.inl ⟨mr,iH,R⟩⟩,R,trivial⟩ R (tE 10 [6,7,0,1,3])
theorem Z2v_ok  {k1:formKind}{a:Node}{g:(List (List Int))}{mG:Int}{r:(List Int)×Bool}(m:Z2v k1 a g=some r) :
 FnOk Tryz.prog 204 [(.agg [].toArray),(.agg [(iv a.Op),(.slice A3 N3 D3),(.slice A4 N4 D4),(.slice A5 N5 D5),(aD a.Form),(.slice A6 N6 D6)].toArray),(.slice A8 N8 D8)] [aN kT3 (.slice A3 N3 D3) a.Args,aN kT3 (.slice A4 N4 D4) a.Dims,aN kT3 (.slice A5 N5 D5) a.Ints,aN kT3 (.slice A6 N6 D6) a.Data,aN bL (.slice A8 N8 D8) g,gl 0 mG] (fun (h:HH)=>((.tuple [(s3 h),(.bool r.2)].toArray),[ow kT3 3 (s3 h) r.1])):=by
 unfold Z2v at m
 refine aQ Tryz.func204 R 20 R R fun C V=>?_
 refine cL 0 aA ?_
 rintro rfl
 refine cL 1 aA ?_
 rintro rfl
 refine cL 2 aA ?_
 rintro rfl
 refine cL 3 aA ?_
 rintro rfl
 refine cL 4 aA ?_
 rintro rfl
 let J:=RR kT3 A3 D3 a.Args::RR kT3 A4 D4 a.Dims::RR kT3 A5 D5 a.Ints::RR kT3 A6 D6 a.Data::RR bL A8 D8 g::gl 0 mG::V
 refine cN J ?_
 refine aU ?_
 refine eF R fun M=>?_
 refine eF R fun G=>?_
 refine aP ?_
 let L:=aJ G [(iv a.Op),(sc A3 a.Args D3),(sc A4 a.Dims D4),(sc A5 a.Ints D5),(aD a.Form),(sc A6 a.Data D6)] 54::aJ M [] 142::J
 refine qN L ?_
 refine aU ?_
 obtain ⟨b,j,m⟩:=bd m
 refine bG ?_
 refine lM _ (fun w s=>(((s.d 6 R).dg 8 R).e 2 [1,0])) ?_
 refine lC 2 zh R (Z3_ok j) R ?_
 rintro ⟨⟨u,U,q⟩,⟨A14,N14,D14⟩,⟨i,Y,l⟩,⟨B,O,I⟩,⟨D,T,E⟩⟩
 refine aL 0 aA ?_
 rintro rfl
 refine aL 1 aA ?_
 rintro rfl
 refine aL 2 aB ?_
 rintro rfl
 refine aL 3 aB ?_
 rintro rfl
 refine aL 4 aB ?_
 rintro rfl
 refine lO (vT R) (lO (vA R) (lB R (bF R R kG (fun F=>(aK 0 R R iH R R R R R R (lN (aJ F [(sc u b.1.groups q),(aD b.1.out_),(aD b.1.order),(sc A14 b.1.loops D14),(sc i b.1.dims l),(sc B b.1.steps I),(sc D b.1.store E)] 192::_::_::_::_::_::L) ?_))))))
 refine kj ?_
 cases m
 exact jD (i,b.1.dims.length,l) (tE 14 [3])
theorem Z2p_ok  {a:(List Int)}{r:View}(b:Z2p a=some r) :
 FnOk Tryz.prog 158 [(.slice A2 N2 D2)] [aN kT3 (.slice A2 N2 D2) a] (fun (h:HH×HH)=>((.agg [(s3 h.1),(s3 h.2),(iv r.Offset),(iv r.Base)].toArray),[ow kT3 3 (s3 h.1) r.Dims,ow kT3 3 (s3 h.2) r.Strides])):=by
 unfold Z2p at b
 refine aQ Tryz.func158 R 14 R R fun C V=>?_
 refine cL 0 aA ?_
 rintro rfl
 let B:=RR kT3 A2 D2 a::V
 refine cN B ?_
 refine aU ?_
 refine bF R R cY (fun D=>(aC (aI (aO (aO ?_)))))
 obtain ⟨E,m,b⟩:=bd b
 refine aU ?_
 refine lM _ (fun w s=>(s.d 1 R)) ?_
 refine lC 1 i' R (Zd_ok m) R ?_
 rintro _
 refine aP ?_
 split at b
 refine aP ?_
 refine lO (vz (.agg [(.slice none 0 0),(.slice none 0 0),(iv 0),(iv 0)].toArray) (aX fD cY R R)) (aK 0 R R cG R R R R R R (aC (aI (bY (cF ?_)))))
 cases b
 exact qS ((none,0,0),(none,0,0)) (fun w s=>(((s.nilo kT3 3).nilo kT3 3).e 4 [1,0]))
 refine bG ?_
 obtain ⟨q,u,b⟩:=bd b
 obtain ⟨g,j,b⟩:=bd b
 obtain ⟨l,i,b⟩:=bd b
 refine aU ?_
 refine lM _ (fun w s=>(s.d 1 R)) ?_
 refine lC 1 jk R (Zp_ok u) R ?_
 rintro ⟨A9,N9,D9⟩
 refine aL 0 aB ?_
 rintro rfl
 refine lS R (lM _ (fun w s=>(s.d 2 R)) ?_)
 refine lC 1 sA R (Z06_ok j) R ?_
 rintro ⟨A12,N12,D12⟩
 refine aL 0 aB ?_
 rintro rfl
 refine lS R (lM _ (fun w s=>(s.d 3 R)) ?_)
 refine lC 1 jy R (Zn_ok i) R ?_
 rintro _
 refine lO (vz (.agg [(sc A9 q D9),(sc A12 g D12),(iv 0),(iv l)].toArray) (aX fD cY R R)) (aK 2 R R cG R R R R R R (lN (_::_::aJ D [(sc A9 q D9),(sc A12 g D12),(iv 0),(iv l)] 96::B) ?_))
 refine aP ?_
 cases b
 exact qS ((A9,q.length,D9),(A12,g.length,D12)) (tE 4 [1,0])
theorem Zh_ok  {v1:View}{r:Bool}(e:Zh v1=some r) :
 FnOk Tryz.prog 156 [(.agg [(.slice A2 N2 D2),(.slice A3 N3 D3),(iv v1.Offset),(iv v1.Base)].toArray)] [aN kT3 (.slice A2 N2 D2) v1.Dims,aN kT3 (.slice A3 N3 D3) v1.Strides] (fun (h:Unit)=>((.bool r),[])):=by
 unfold Zh at e
 refine aQ Tryz.func156 R 91 R R fun C V=>?_
 refine cL 0 aA ?_
 rintro rfl
 refine cL 1 aA ?_
 rintro rfl
 let W0:=RR kT3 A2 D2 v1.Dims::RR kT3 A3 D3 v1.Strides::V
 refine cN W0 ?_
 refine aU ?_
 refine eF R fun B=>?_
 refine aU ?_
 let q:=aJ B [(sc A2 v1.Dims D2),(sc A3 v1.Strides D3),(iv v1.Offset),(iv v1.Base)] 96::W0
 refine qN q ?_
 refine aP ?_
 obtain ⟨u,a0,e⟩:=bd e
 refine cQ [(1,(pt B 0)),(41,(.bool ((((((!u)||((v1.Strides.length:Int) != (v1.Dims.length:Int)))||(decide (v1.Base<1)))||(decide (v1.Base>4096)))||(decide (v1.Offset<0)))||(decide (v1.Offset≥v1.Base)))))] (q) ?_ ?_
 refine aP ?_
 refine lM _ (fun w s=>(s.d 1 R)) ?_
 refine lC 1 i' R (Zd_ok a0) R ?_
 rintro _
 refine lN q ?_
 refine aU ?_
 rcases bo (!u) with a1 | a1
 refine wB ?_
 exact qj tI
 refine cU ?_
 rcases bo ((!u)||((v1.Strides.length:Int) != (v1.Dims.length:Int))) with U | U
 refine yo ?_
 exact qj tI
 refine bZ ?_
 rcases bo (((!u)||((v1.Strides.length:Int) != (v1.Dims.length:Int)))||(decide (v1.Base<1))) with Y | Y
 refine om ?_
 exact qj tI
 refine bZ ?_
 rcases bo ((((!u)||((v1.Strides.length:Int) != (v1.Dims.length:Int)))||(decide (v1.Base<1)))||(decide (v1.Base>4096))) with O | O
 refine hH ?_
 exact qj tI
 refine bZ ?_
 rcases bo (((((!u)||((v1.Strides.length:Int) != (v1.Dims.length:Int)))||(decide (v1.Base<1)))||(decide (v1.Base>4096)))||(decide (v1.Offset<0))) with D | D
 refine dG ?_
 exact qj tI
 refine dG ?_
 exact qj tI
 rintro σ1
 refine bU ?_
 split at e
 refine cV ?_
 cases e
 exact qF () (tE 3 [])
 refine bG ?_
 refine dF 6 [] bP fun ht hn=>?_
 refine sf 0 [] ?_
 refine dD (aI (aO (aZ (A:=(Int×Int)×(Unit)) (fun a=>Zh_J1 v1 a.1.1 a.1.2=some r) (fun a=>[(1,(pt B 0)),(3,(iv a.1.1)),(4,(iv a.1.2))]) (fun a=>q) ?_ ?_)))
 refine cU ?_
 obtain ⟨e1,a2,J⟩:=bd e
 refine bD (A:=HH) a2 (fun s a=>[(1,(pt B 0)),(3,(iv s.1)),(4,(iv s.2.1)),(47,(s3 a)),(48,(il v1.Strides)),(49,(iv s.2.2))]) (fun s a=>aN kT3 (s3 a) v1.Strides::q) (A3,v1.Strides.length,D3) (aS R) (fun w s=>(s.d 2 R)) ?_
 rintro ⟨j,g,b⟩ ⟨a5,T,l⟩ σ1 a3 e E
 dsimp only [Zh_L1] at e
 refine bJ 0 aA (fun (hn:T=v1.Strides.length)=>?_)
 subst hn
 refine bT ?_
 split at e
 refine bT ?_
 obtain ⟨F,e⟩:=gd e
 refine aU ?_
 refine bA 0 aA (show 0<v1.Strides.length by have:=F; omega) (fun m o29 Z=>?_)
 subst Z
 refine cV ?_
 refine cQ [(1,(pt B 0)),(3,(iv j)),(4,(iv g)),(5,(iv b)),(6,(iv (ix v1.Strides b))),(47,(sc (ad m o29) v1.Strides l)),(48,(il v1.Strides)),(49,(iv b)),(59,(.bool ((decide ((ix v1.Strides b)<(-4096:Int)))||(decide ((ix v1.Strides b)>4096)))))] (RR kT3 (ad m o29) l v1.Strides::q) ?_ ?_
 refine bG ?_
 rcases bo (decide ((ix v1.Strides b)<(-4096:Int))) with G | G
 refine bG ?_
 exact qj tI
 refine bG ?_
 exact qj tI
 rintro σ1
 refine bU ?_
 split at e
 refine cP ?_
 cases e
 obtain rfl:=E _ R
 have e:=J
 refine aP ?_
 cases e
 exact qF () (tE 4 [])
 refine bG ?_
 obtain ⟨L,e⟩:=gd e
 refine bT ?_
 refine bA 2 aA (show 0<v1.Dims.length by have:=L; omega) (fun a4 o34 Z=>?_)
 subst Z
 refine bG ?_
 refine lO (vz (iv (if (aH ((ix v1.Strides b)*(aH ((ix v1.Dims b) - 1))))<0 then (aH ((ix v1.Strides b)*(aH ((ix v1.Dims b) - 1)))) else (0:Int))) (vo R R)) ?_
 refine oi ?_
 refine lO (vz (iv (if (aH ((ix v1.Strides b)*(aH ((ix v1.Dims b) - 1))))>0 then (aH ((ix v1.Strides b)*(aH ((ix v1.Dims b) - 1)))) else (0:Int))) (vn R R)) ?_
 refine cU ?_
 cases e
 exact qA ((ad m o29),v1.Strides.length,l) tI
 refine aP ?_
 cases e
 obtain rfl:=E _ R
 have e:=J
 refine aU ?_
 exact qI ((j,g),()) e (tE 1 [])
 rintro ⟨⟨i,M⟩,_⟩ σ1 e
 dsimp only [Zh_J1] at e
 refine aO (cQ [(2,(.bool ((decide (i≥0))&&(decide (M<v1.Base)))))] (q) ?_ ?_)
 refine bG ?_
 rcases bo (decide (i≥0)) with I | I
 refine dG ?_
 exact qj tI
 refine dG ?_
 exact qj tI
 rintro σ1
 refine aU ?_
 cases e
 exact qF () (tE 3 [])
end Go.Proofs.YtmpnollfdpdipaaGreat
