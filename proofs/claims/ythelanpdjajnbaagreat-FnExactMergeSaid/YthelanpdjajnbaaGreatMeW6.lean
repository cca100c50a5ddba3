import Derived.Test.YthelanpdjajnbaaGreatMeF
import Derived.Test.YthelanpdjajnbaaGreatMeW1
set_option linter.unusedVariables false
set_option maxRecDepth 20000
namespace Go.Proofs.YthelanpdjajnbaaGreat
open Go Go.Pg
variable {A2 A3 A4 A5 A6 A8 A9:Option Addr}{D2 D3 D4 D5 D6 D8 D9 N2 N3 N4 N5 N6 N8 N9:Nat}
theorem Z3j_ok  {a:Int}{b:Int}{r:Int×Int}(j:Z3j a b=some r) :
 FnOk Tryz.prog 106 [(iv a),(iv b),(.func (.func 107) [].toArray [].toArray)] [] (fun (h:Nat×Nat×Nat)=>((.func (.func 143) [].toArray [(pt h.1 0),(pt h.2.1 0),(pt h.2.2 0)].toArray),[aJ h.1 [(iv r.1)] 3,aJ h.2.1 [(iv r.2)] 3,aJ h.2.2 [(.func (.func 107) [].toArray [].toArray)] 136])):=by
 unfold Z3j at j
 refine aR Tryz.func106 R 8 R R fun C V=>?_
 refine cN V ?_
 refine bA ?_
 refine fR (cs:=[(iv a)]) R R R (fun e=>(fR (cs:=[(iv b)]) R R R (fun g=>(fR (cs:=[(.func (.func 107) [].toArray [].toArray)]) R R R (fun i=>(lO (vp _ R) (aB ?_)))))))
 let l:=aJ i [(.func (.func 107) [].toArray [].toArray)] 136::aJ g [(iv b)] 3::aJ e [(iv a)] 3::V
 refine qN l ?_
 refine aW ?_
 refine lO (vp (.func (.func 143) [].toArray [(pt e 0),(pt g 0),(pt i 0)].toArray) R) (lO (vp _ R) ?_)
 refine aW ?_
 cases j
 exact qF (e,g,i) (tE 3 [2,1,0])
theorem Z3k_ok  {a:Int}{b:Int}{r:Int×Int}(j:Z3k a b=some r) :
 FnOk Tryz.prog 106 [(iv a),(iv b),(.func (.func 109) [].toArray [].toArray)] [] (fun (h:Nat×Nat×Nat)=>((.func (.func 143) [].toArray [(pt h.1 0),(pt h.2.1 0),(pt h.2.2 0)].toArray),[aJ h.1 [(iv r.1)] 3,aJ h.2.1 [(iv r.2)] 3,aJ h.2.2 [(.func (.func 109) [].toArray [].toArray)] 136])):=by
 unfold Z3k at j
 refine aR Tryz.func106 R 8 R R fun C V=>?_
 refine cN V ?_
 refine bA ?_
 refine fR (cs:=[(iv a)]) R R R (fun e=>(fR (cs:=[(iv b)]) R R R (fun g=>(fR (cs:=[(.func (.func 109) [].toArray [].toArray)]) R R R (fun i=>(lO (vp _ R) (aB ?_)))))))
 let l:=aJ i [(.func (.func 109) [].toArray [].toArray)] 136::aJ g [(iv b)] 3::aJ e [(iv a)] 3::V
 refine qN l ?_
 refine aW ?_
 refine lO (vp (.func (.func 143) [].toArray [(pt e 0),(pt g 0),(pt i 0)].toArray) R) (lO (vp _ R) ?_)
 refine aW ?_
 cases j
 exact qF (e,g,i) (tE 3 [2,1,0])
theorem Z3l_ok  {a:Int}{b:Int}{r:Int×Int}(j:Z3l a b=some r) :
 FnOk Tryz.prog 106 [(iv a),(iv b),(.func (.func 111) [].toArray [].toArray)] [] (fun (h:Nat×Nat×Nat)=>((.func (.func 143) [].toArray [(pt h.1 0),(pt h.2.1 0),(pt h.2.2 0)].toArray),[aJ h.1 [(iv r.1)] 3,aJ h.2.1 [(iv r.2)] 3,aJ h.2.2 [(.func (.func 111) [].toArray [].toArray)] 136])):=by
 unfold Z3l at j
 refine aR Tryz.func106 R 8 R R fun C V=>?_
 refine cN V ?_
 refine bA ?_
 refine fR (cs:=[(iv a)]) R R R (fun e=>(fR (cs:=[(iv b)]) R R R (fun g=>(fR (cs:=[(.func (.func 111) [].toArray [].toArray)]) R R R (fun i=>(lO (vp _ R) (aB ?_)))))))
 let l:=aJ i [(.func (.func 111) [].toArray [].toArray)] 136::aJ g [(iv b)] 3::aJ e [(iv a)] 3::V
 refine qN l ?_
 refine aW ?_
 refine lO (vp (.func (.func 143) [].toArray [(pt e 0),(pt g 0),(pt i 0)].toArray) R) (lO (vp _ R) ?_)
 refine aW ?_
 cases j
 exact qF (e,g,i) (tE 3 [2,1,0])
theorem Z3m_ok  {a:Int}{b:Int}{r:Int×Int}(j:Z3m a b=some r) :
 FnOk Tryz.prog 106 [(iv a),(iv b),(.func (.func 113) [].toArray [].toArray)] [] (fun (h:Nat×Nat×Nat)=>((.func (.func 143) [].toArray [(pt h.1 0),(pt h.2.1 0),(pt h.2.2 0)].toArray),[aJ h.1 [(iv r.1)] 3,aJ h.2.1 [(iv r.2)] 3,aJ h.2.2 [(.func (.func 113) [].toArray [].toArray)] 136])):=by
 unfold Z3m at j
 refine aR Tryz.func106 R 8 R R fun C V=>?_
 refine cN V ?_
 refine bA ?_
 refine fR (cs:=[(iv a)]) R R R (fun e=>(fR (cs:=[(iv b)]) R R R (fun g=>(fR (cs:=[(.func (.func 113) [].toArray [].toArray)]) R R R (fun i=>(lO (vp _ R) (aB ?_)))))))
 let l:=aJ i [(.func (.func 113) [].toArray [].toArray)] 136::aJ g [(iv b)] 3::aJ e [(iv a)] 3::V
 refine qN l ?_
 refine aW ?_
 refine lO (vp (.func (.func 143) [].toArray [(pt e 0),(pt g 0),(pt i 0)].toArray) R) (lO (vp _ R) ?_)
 refine aW ?_
 cases j
 exact qF (e,g,i) (tE 3 [2,1,0])
theorem Zx_ok  {e:Int}{r:kindOfR}(b:Zx e=some r) :
 FnOk Tryz.prog 80 [(iv e)] [] (fun (h:Nat×Nat×Nat)=>((dG r (h.1,h.2.1,h.2.2)),[fJ r (h.1,h.2.1,h.2.2)])):=by
 unfold Zx at b
 refine aR Tryz.func80 R 72 R R fun C V=>?_
 refine cN V ?_
 refine bA ?_
 refine lO (vp _ R) ?_
 refine pb ?_
 split at b
 refine aW ?_
 refine lO (vz (.agg [(.bool false)].toArray) (aV wF wG R R)) (lO (vz (.iface 122 (.agg [(.bool false)].toArray)) (jA wH R)) (lO (vp _ R) ?_))
 refine cU ?_
 cases b
 exact qF (0,0,0) (fun w s=>St.pack (A:=[]) s)
 refine dX ?_
 split at b
 refine aW ?_
 refine lO (vz (.agg [(.bool true)].toArray) (aV wF wG R R)) (lO (vz (.iface 122 (.agg [(.bool true)].toArray)) (jA wH R)) (lO (vp _ R) ?_))
 refine cU ?_
 cases b
 exact qF (0,0,0) (fun w s=>St.pack (A:=[]) s)
 refine bA ?_
 refine bD (A:=(Bool)×(Unit)) (fun a=>Zx_J1 e a.1=some r) (fun a=>[(0,(iv e)),(3,(iv e)),(12,(.bool a.1))]) (fun a=>V) ?_ ?_
 refine cH ?_
 split at b
 refine bA ?_
 exact qI ((e==3),()) b tI
 refine dX ?_
 split at b
 refine bA ?_
 exact qI ((e==4),()) b tI
 refine cU ?_
 exact qI ((e==5),()) b tI
 rintro ⟨x6,_⟩ σ1 b
 dsimp only [Zx_J1] at b
 split at b
 refine cH ?_
 refine lO (vz (.agg [(iv (aK ((aK (e - 3))+1)))].toArray) (aV zK zL R R)) (lO (vz (.iface 124 (.agg [(iv (aK ((aK (e - 3))+1)))].toArray)) (jA zM R)) (lO (vp _ R) ?_))
 refine cU ?_
 cases b
 exact qF (0,0,0) (fun w s=>St.pack (A:=[]) s)
 refine bA ?_
 refine bD (A:=(Bool)×(Unit)) (fun a=>Zx_J2 e a.1=some r) (fun a=>[(0,(iv e)),(3,(iv e)),(21,(.bool a.1))]) (fun a=>V) ?_ ?_
 refine cH ?_
 split at b
 refine bA ?_
 exact qI ((e==6),()) b tI
 refine dX ?_
 split at b
 refine bA ?_
 exact qI ((e==7),()) b tI
 refine dX ?_
 split at b
 refine bA ?_
 exact qI ((e==8),()) b tI
 refine cU ?_
 exact qI ((e==9),()) b tI
 rintro ⟨Z,_⟩ σ1 b
 dsimp only [Zx_J2] at b
 split at b
 refine cH ?_
 refine lO (vz (.agg [(iv (aK ((aK (e - 6))+1)))].toArray) (aV zN zO R R)) (lO (vz (.iface 125 (.agg [(iv (aK ((aK (e - 6))+1)))].toArray)) (jA zP R)) (lO (vp _ R) ?_))
 refine cU ?_
 cases b
 exact qF (0,0,0) (fun w s=>St.pack (A:=[]) s)
 refine dX ?_
 split at b
 refine aW ?_
 refine lO (vz (.agg [].toArray) (aV zQ zR R R)) (lO (vz (.iface 127 (.agg [].toArray)) (jA zS R)) (lO (vp _ R) ?_))
 refine cU ?_
 cases b
 exact qF (0,0,0) (fun w s=>St.pack (A:=[]) s)
 refine dX ?_
 split at b
 refine aW ?_
 refine lO (vz (.agg [].toArray) (aV zT zU R R)) (lO (vz (.iface 128 (.agg [].toArray)) (jA zV R)) (lO (vp _ R) ?_))
 refine cU ?_
 cases b
 exact qF (0,0,0) (fun w s=>St.pack (A:=[]) s)
 refine dX ?_
 split at b
 refine aW ?_
 refine lO (vz (.agg [(aH hW),(.func (.func 104) [].toArray [].toArray)].toArray) (aV n5 n6 R R)) (lO (vz (.iface 131 (.agg [(aH hW),(.func (.func 104) [].toArray [].toArray)].toArray)) (jA n8 R)) (lO (vp _ R) ?_))
 refine cU ?_
 cases b
 exact qF (0,0,0) (fun w s=>St.pack (A:=[]) s)
 refine dX ?_
 split at b
 refine aW ?_
 refine lO (vz (.agg [(aH hW),(.func (.func 105) [].toArray [].toArray)].toArray) (aV n5 n6 R R)) (lO (vz (.iface 131 (.agg [(aH hW),(.func (.func 105) [].toArray [].toArray)].toArray)) (jA n8 R)) (lO (vp _ R) ?_))
 refine cU ?_
 cases b
 exact qF (0,0,0) (fun w s=>St.pack (A:=[]) s)
 refine bA ?_
 refine bD (A:=(Bool)×(Unit)) (fun a=>Zx_J3 e a.1=some r) (fun a=>[(3,(iv e)),(47,(.bool a.1))]) (fun a=>V) ?_ ?_
 refine cH ?_
 split at b
 refine bA ?_
 exact qI ((e==14),()) b tI
 refine cU ?_
 exact qI ((e==18),()) b tI
 rintro ⟨a0,_⟩ σ1 b
 dsimp only [Zx_J3] at b
 split at b
 refine aW ?_
 refine lO (vz (.agg [(aH fF),(.func (.func 104) [].toArray [].toArray)].toArray) (aV n5 n6 R R)) (lO (vz (.iface 131 (.agg [(aH fF),(.func (.func 104) [].toArray [].toArray)].toArray)) (jA n8 R)) (lO (vp _ R) ?_))
 refine cU ?_
 cases b
 exact qF (0,0,0) (fun w s=>St.pack (A:=[]) s)
 refine dX ?_
 split at b
 refine bA ?_
 obtain ⟨O,I,b⟩:=bd b
 refine aD (lC 0 qW R (Z3j_ok I) R ?_)
 rintro ⟨g,i,j⟩
 refine lO (vz (.agg [(aH fF),(.func (.func 143) [].toArray [(pt g 0),(pt i 0),(pt j 0)].toArray)].toArray) (aV n5 n6 R R)) (lO (vz (.iface 131 (.agg [(aH fF),(.func (.func 143) [].toArray [(pt g 0),(pt i 0),(pt j 0)].toArray)].toArray)) (jA n8 R)) (lO (vp _ R) ?_))
 refine cU ?_
 cases b
 exact qF (g,i,j) (fun w s=>St.pack (A:=[aJ g [(iv O.1)] 3,aJ i [(iv O.2)] 3,aJ j [(.func (.func 107) [].toArray [].toArray)] 136]) s)
 refine dX ?_
 split at b
 refine bA ?_
 obtain ⟨T,J,b⟩:=bd b
 refine aD (lC 0 qW R (Z3k_ok J) R ?_)
 rintro ⟨l,m,q⟩
 refine lO (vz (.agg [(aH fF),(.func (.func 143) [].toArray [(pt l 0),(pt m 0),(pt q 0)].toArray)].toArray) (aV n5 n6 R R)) (lO (vz (.iface 131 (.agg [(aH fF),(.func (.func 143) [].toArray [(pt l 0),(pt m 0),(pt q 0)].toArray)].toArray)) (jA n8 R)) (lO (vp _ R) ?_))
 refine cU ?_
 cases b
 exact qF (l,m,q) (fun w s=>St.pack (A:=[aJ l [(iv T.1)] 3,aJ m [(iv T.2)] 3,aJ q [(.func (.func 109) [].toArray [].toArray)] 136]) s)
 refine dX ?_
 split at b
 refine bA ?_
 obtain ⟨U,L,b⟩:=bd b
 refine aD (lC 0 qW R (Z3l_ok L) R ?_)
 rintro ⟨u,B,D⟩
 refine lO (vz (.agg [(aH fF),(.func (.func 143) [].toArray [(pt u 0),(pt B 0),(pt D 0)].toArray)].toArray) (aV n5 n6 R R)) (lO (vz (.iface 131 (.agg [(aH fF),(.func (.func 143) [].toArray [(pt u 0),(pt B 0),(pt D 0)].toArray)].toArray)) (jA n8 R)) (lO (vp _ R) ?_))
 refine cU ?_
 cases b
 exact qF (u,B,D) (fun w s=>St.pack (A:=[aJ u [(iv U.1)] 3,aJ B [(iv U.2)] 3,aJ D [(.func (.func 111) [].toArray [].toArray)] 136]) s)
 refine dX ?_
 split at b
 refine bA ?_
 obtain ⟨Y,M,b⟩:=bd b
 refine aD (lC 0 qW R (Z3m_ok M) R ?_)
 rintro ⟨E,F,G⟩
 refine lO (vz (.agg [(aH fF),(.func (.func 143) [].toArray [(pt E 0),(pt F 0),(pt G 0)].toArray)].toArray) (aV n5 n6 R R)) (lO (vz (.iface 131 (.agg [(aH fF),(.func (.func 143) [].toArray [(pt E 0),(pt F 0),(pt G 0)].toArray)].toArray)) (jA n8 R)) (lO (vp _ R) ?_))
 refine cU ?_
 cases b
 exact qF (E,F,G) (fun w s=>St.pack (A:=[aJ E [(iv Y.1)] 3,aJ F [(iv Y.2)] 3,aJ G [(.func (.func 113) [].toArray [].toArray)] 136]) s)
 refine cH ?_
 refine lO (vp _ R) ?_
 refine aW ?_
 cases b
 exact qF (0,0,0) (fun w s=>St.pack (A:=[]) s)
theorem Z3o_ok  {k1:leafKind}{r:aP}(a:Z3o k1=some r) :
 FnOk Tryz.prog 194 [(.agg [(.bool k1.data)].toArray)] [] (fun (h:Unit)=>((aH r),[])):=by
 unfold Z3o at a
 refine aR Tryz.func194 R 5 R R fun C V=>?_
 refine cN V ?_
 refine bA ?_
 refine eJ R fun e=>?_
 refine lO (vp (aH ([]:aP)) R) (aB ?_)
 let b:=aJ e [(.bool k1.data)] 122::V
 refine qN b ?_
 refine dM ?_
 split at a
 refine aW ?_
 refine lO (vp (aH pg) R) ?_
 refine bL ?_
 cases a
 exact qF () (tE 1 [])
 refine cU ?_
 refine lO (vp (aH hW) R) ?_
 refine aW ?_
 cases a
 exact qF () (tE 1 [])
theorem Z3p_ok  {k1:pairKind}{r:aP}(a:Z3p k1=some r) :
 FnOk Tryz.prog 196 [(.agg [(iv k1.op)].toArray)] [] (fun (h:Unit)=>((aH r),[])):=by
 unfold Z3p at a
 refine aR Tryz.func196 R 3 R R fun C V=>?_
 refine cN V ?_
 refine bA ?_
 refine eJ R fun e=>?_
 refine lO (vp (aH ([]:aP)) R) (aB ?_)
 let b:=aJ e [(iv k1.op)] 124::V
 refine qN b ?_
 refine aW ?_
 refine lO (vp (aH ([]:aP)) R) ?_
 refine aW ?_
 cases a
 exact qF () (tE 1 [])
theorem Z3w_ok  {k1:soloKind}{r:aP}(a:Z3w k1=some r) :
 FnOk Tryz.prog 198 [(.agg [(iv k1.op)].toArray)] [] (fun (h:Unit)=>((aH r),[])):=by
 unfold Z3w at a
 refine aR Tryz.func198 R 3 R R fun C V=>?_
 refine cN V ?_
 refine bA ?_
 refine eJ R fun e=>?_
 refine lO (vp (aH ([]:aP)) R) (aB ?_)
 let b:=aJ e [(iv k1.op)] 125::V
 refine qN b ?_
 refine aW ?_
 refine lO (vp (aH ([]:aP)) R) ?_
 refine aW ?_
 cases a
 exact qF () (tE 1 [])
theorem Z3x_ok  {k1:topKind}{r:aP}(a:Z3x k1=some r) :
 FnOk Tryz.prog 200 [(.agg [].toArray)] [] (fun (h:Unit)=>((aH r),[])):=by
 unfold Z3x at a
 refine aR Tryz.func200 R 3 R R fun C V=>?_
 refine cN V ?_
 refine bA ?_
 refine eJ R fun e=>?_
 refine lO (vp (aH ([]:aP)) R) (aB ?_)
 let b:=aJ e [] 127::V
 refine qN b ?_
 refine aW ?_
 refine lO (vp (aH fF) R) ?_
 refine aW ?_
 cases a
 exact qF () (tE 1 [])
theorem Z3n_ok  {k1:formKind}{r:aP}(a:Z3n k1=some r) :
 FnOk Tryz.prog 202 [(.agg [].toArray)] [] (fun (h:Unit)=>((aH r),[])):=by
 unfold Z3n at a
 refine aR Tryz.func202 R 3 R R fun C V=>?_
 refine cN V ?_
 refine bA ?_
 refine eJ R fun e=>?_
 refine lO (vp (aH ([]:aP)) R) (aB ?_)
 let b:=aJ e [] 128::V
 refine qN b ?_
 refine aW ?_
 refine lO (vp (aH kB) R) ?_
 refine aW ?_
 cases a
 exact qF () (tE 1 [])
theorem Z3u_ok  {k1:shiftKind}{r:aP}(a:Z3u k1=some r) :
 FnOk Tryz.prog 218 [(.agg [(aH k1.use),(.func (.func 104) [].toArray [].toArray)].toArray)] [] (fun (h:Unit)=>((aH r),[])):=by
 unfold Z3u at a
 refine aR Tryz.func218 R 5 R R fun C V=>?_
 refine cN V ?_
 refine bA ?_
 refine eJ R fun e=>?_
 refine lO (vp (aH ([]:aP)) R) (aB ?_)
 let b:=aJ e [(aH k1.use),(.func (.func 104) [].toArray [].toArray)] 131::V
 refine qN b ?_
 refine cU ?_
 refine lO (vp (aH k1.use) R) ?_
 refine aW ?_
 cases a
 exact qF () (tE 1 [])
theorem Z3v_ok  {k1:shiftKind}{r:aP}(a:Z3v k1=some r) :
 FnOk Tryz.prog 218 [(.agg [(aH k1.use),(.func (.func 105) [].toArray [].toArray)].toArray)] [] (fun (h:Unit)=>((aH r),[])):=by
 unfold Z3v at a
 refine aR Tryz.func218 R 5 R R fun C V=>?_
 refine cN V ?_
 refine bA ?_
 refine eJ R fun e=>?_
 refine lO (vp (aH ([]:aP)) R) (aB ?_)
 let b:=aJ e [(aH k1.use),(.func (.func 105) [].toArray [].toArray)] 131::V
 refine qN b ?_
 refine cU ?_
 refine lO (vp (aH k1.use) R) ?_
 refine aW ?_
 cases a
 exact qF () (tE 1 [])
theorem Z3q_ok  {k1:shiftKind}{g:Int}{i:Int}{a:Nat}{b:Nat}{e:Nat}{r:aP}(j:Z3q k1 g i=some r) :
 FnOk Tryz.prog 218 [(.agg [(aH k1.use),(.func (.func 143) [].toArray [(pt a 0),(pt b 0),(pt e 0)].toArray)].toArray)] [aJ a [(iv g)] 3,aJ b [(iv i)] 3,aJ e [(.func (.func 107) [].toArray [].toArray)] 136] (fun (h:Unit)=>((aH r),[aJ a [(iv g)] 3,aJ b [(iv i)] 3,aJ e [(.func (.func 107) [].toArray [].toArray)] 136])):=by
 unfold Z3q at j
 refine aR Tryz.func218 R 5 R R fun C V=>?_
 refine bA ?_
 refine eJ R fun m=>?_
 refine lO (vp (aH ([]:aP)) R) (aB ?_)
 let l:=aJ m [(aH k1.use),(.func (.func 143) [].toArray [(pt a 0),(pt b 0),(pt e 0)].toArray)] 131::aJ a [(iv g)] 3::aJ b [(iv i)] 3::aJ e [(.func (.func 107) [].toArray [].toArray)] 136::V
 refine qN l ?_
 refine cU ?_
 refine lO (vp (aH k1.use) R) ?_
 refine aW ?_
 cases j
 exact qF () (fun w s=>(s.f 4 [1,3]))
theorem Z3r_ok  {k1:shiftKind}{g:Int}{i:Int}{a:Nat}{b:Nat}{e:Nat}{r:aP}(j:Z3r k1 g i=some r) :
 FnOk Tryz.prog 218 [(.agg [(aH k1.use),(.func (.func 143) [].toArray [(pt a 0),(pt b 0),(pt e 0)].toArray)].toArray)] [aJ a [(iv g)] 3,aJ b [(iv i)] 3,aJ e [(.func (.func 109) [].toArray [].toArray)] 136] (fun (h:Unit)=>((aH r),[aJ a [(iv g)] 3,aJ b [(iv i)] 3,aJ e [(.func (.func 109) [].toArray [].toArray)] 136])):=by
 unfold Z3r at j
 refine aR Tryz.func218 R 5 R R fun C V=>?_
 refine bA ?_
 refine eJ R fun m=>?_
 refine lO (vp (aH ([]:aP)) R) (aB ?_)
 let l:=aJ m [(aH k1.use),(.func (.func 143) [].toArray [(pt a 0),(pt b 0),(pt e 0)].toArray)] 131::aJ a [(iv g)] 3::aJ b [(iv i)] 3::aJ e [(.func (.func 109) [].toArray [].toArray)] 136::V
 refine qN l ?_
 refine cU ?_
 refine lO (vp (aH k1.use) R) ?_
 refine aW ?_
 cases j
 exact qF () (fun w s=>(s.f 4 [1,3]))
theorem Z3s_ok  {k1:shiftKind}{g:Int}{i:Int}{a:Nat}{b:Nat}{e:Nat}{r:aP}(j:Z3s k1 g i=some r) :
 FnOk Tryz.prog 218 [(.agg [(aH k1.use),(.func (.func 143) [].toArray [(pt a 0),(pt b 0),(pt e 0)].toArray)].toArray)] [aJ a [(iv g)] 3,aJ b [(iv i)] 3,aJ e [(.func (.func 111) [].toArray [].toArray)] 136] (fun (h:Unit)=>((aH r),[aJ a [(iv g)] 3,aJ b [(iv i)] 3,aJ e [(.func (.func 111) [].toArray [].toArray)] 136])):=by
 unfold Z3s at j
 refine aR Tryz.func218 R 5 R R fun C V=>?_
 refine bA ?_
 refine eJ R fun m=>?_
 refine lO (vp (aH ([]:aP)) R) (aB ?_)
 let l:=aJ m [(aH k1.use),(.func (.func 143) [].toArray [(pt a 0),(pt b 0),(pt e 0)].toArray)] 131::aJ a [(iv g)] 3::aJ b [(iv i)] 3::aJ e [(.func (.func 111) [].toArray [].toArray)] 136::V
 refine qN l ?_
 refine cU ?_
 refine lO (vp (aH k1.use) R) ?_
 refine aW ?_
 cases j
 exact qF () (fun w s=>(s.f 4 [1,3]))
theorem Z3t_ok  {k1:shiftKind}{g:Int}{i:Int}{a:Nat}{b:Nat}{e:Nat}{r:aP}(j:Z3t k1 g i=some r) :
 FnOk Tryz.prog 218 [(.agg [(aH k1.use),(.func (.func 143) [].toArray [(pt a 0),(pt b 0),(pt e 0)].toArray)].toArray)] [aJ a [(iv g)] 3,aJ b [(iv i)] 3,aJ e [(.func (.func 113) [].toArray [].toArray)] 136] (fun (h:Unit)=>((aH r),[aJ a [(iv g)] 3,aJ b [(iv i)] 3,aJ e [(.func (.func 113) [].toArray [].toArray)] 136])):=by
 unfold Z3t at j
 refine aR Tryz.func218 R 5 R R fun C V=>?_
 refine bA ?_
 refine eJ R fun m=>?_
 refine lO (vp (aH ([]:aP)) R) (aB ?_)
 let l:=aJ m [(aH k1.use),(.func (.func 143) [].toArray [(pt a 0),(pt b 0),(pt e 0)].toArray)] 131::aJ a [(iv g)] 3::aJ b [(iv i)] 3::aJ e [(.func (.func 113) [].toArray [].toArray)] 136::V
 refine qN l ?_
 refine cU ?_
 refine lO (vp (aH k1.use) R) ?_
 refine aW ?_
 cases j
 exact qF () (fun w s=>(s.f 4 [1,3]))
theorem jY  {r:kindOfR}{b h1 h2:Nat}{q:aP}(a:gK r=some q) :
 InvOk Tryz.prog (dG r (b,h1,h2)) "loop.example/g00033/impl.uses" [] [fJ r (b,h1,h2)] (fun (h:Unit)=>((aH q),[fJ r (b,h1,h2)])):=by
 unfold gK at a
 rcases bY a with ⟨L,a⟩|⟨L,a⟩
 ·cases a
 rcases bY a with ⟨m,a⟩|⟨m,a⟩
 ·obtain ⟨t,i,e,g,l⟩:=r
  obtain rfl:=Nat.eq_of_beq_eq_true m
  exact InvOk.mk (pU _) (((Z3o_ok a).perm (Pre':=[pk []]) (fun _ _ _ s=>St.unpack (A:=[]) s)).post id (fun _=>rfl) (fun _ _ _ _ s=>St.pack (A:=[]) (s)))
 rcases bY a with ⟨u,a⟩|⟨u,a⟩
 ·obtain ⟨t,i,e,g,l⟩:=r
  obtain rfl:=Nat.eq_of_beq_eq_true u
  exact InvOk.mk (pV _) (((Z3p_ok a).perm (Pre':=[pk []]) (fun _ _ _ s=>St.unpack (A:=[]) s)).post id (fun _=>rfl) (fun _ _ _ _ s=>St.pack (A:=[]) (s)))
 rcases bY a with ⟨B,a⟩|⟨B,a⟩
 ·obtain ⟨t,i,e,g,l⟩:=r
  obtain rfl:=Nat.eq_of_beq_eq_true B
  exact InvOk.mk (pW _) (((Z3w_ok a).perm (Pre':=[pk []]) (fun _ _ _ s=>St.unpack (A:=[]) s)).post id (fun _=>rfl) (fun _ _ _ _ s=>St.pack (A:=[]) (s)))
 rcases bY a with ⟨D,a⟩|⟨D,a⟩
 ·obtain ⟨t,i,e,g,l⟩:=r
  obtain rfl:=Nat.eq_of_beq_eq_true D
  exact InvOk.mk (pX _) (((Z3x_ok (k1:=⟨⟩) a).perm (Pre':=[pk []]) (fun _ _ _ s=>St.unpack (A:=[]) s)).post id (fun _=>rfl) (fun _ _ _ _ s=>St.pack (A:=[]) (s)))
 rcases bY a with ⟨E,a⟩|⟨E,a⟩
 ·obtain ⟨t,i,e,g,l⟩:=r
  obtain rfl:=Nat.eq_of_beq_eq_true E
  exact InvOk.mk (pY _) (((Z3n_ok (k1:=⟨⟩) a).perm (Pre':=[pk []]) (fun _ _ _ s=>St.unpack (A:=[]) s)).post id (fun _=>rfl) (fun _ _ _ _ s=>St.pack (A:=[]) (s)))
 rcases bY a with ⟨F,a⟩|⟨F,a⟩
 ·obtain ⟨t,i,e,g,l⟩:=r
  obtain rfl:=Nat.eq_of_beq_eq_true F
  exact InvOk.mk (hY _) (((Z3u_ok a).perm (Pre':=[pk []]) (fun _ _ _ s=>St.unpack (A:=[]) s)).post id (fun _=>rfl) (fun _ _ _ _ s=>St.pack (A:=[]) (s)))
 rcases bY a with ⟨G,a⟩|⟨G,a⟩
 ·obtain ⟨t,i,e,g,l⟩:=r
  obtain rfl:=Nat.eq_of_beq_eq_true G
  exact InvOk.mk (hY _) (((Z3v_ok a).perm (Pre':=[pk []]) (fun _ _ _ s=>St.unpack (A:=[]) s)).post id (fun _=>rfl) (fun _ _ _ _ s=>St.pack (A:=[]) (s)))
 rcases bY a with ⟨I,a⟩|⟨I,a⟩
 ·obtain ⟨t,i,e,g,l⟩:=r
  obtain rfl:=Nat.eq_of_beq_eq_true I
  exact InvOk.mk (hY _) (((Z3q_ok a).perm (Pre':=[pk [aJ b [(iv e)] 3,aJ h1 [(iv g)] 3,aJ h2 [(.func (.func 107) [].toArray [].toArray)] 136]]) (fun _ _ _ s=>St.unpack (A:=[aJ b [(iv e)] 3,aJ h1 [(iv g)] 3,aJ h2 [(.func (.func 107) [].toArray [].toArray)] 136]) s)).post id (fun _=>rfl) (fun _ _ _ _ s=>St.pack (A:=[aJ b [(iv e)] 3,aJ h1 [(iv g)] 3,aJ h2 [(.func (.func 107) [].toArray [].toArray)] 136]) (s)))
 rcases bY a with ⟨J,a⟩|⟨J,a⟩
 ·obtain ⟨t,i,e,g,l⟩:=r
  obtain rfl:=Nat.eq_of_beq_eq_true J
  exact InvOk.mk (hY _) (((Z3r_ok a).perm (Pre':=[pk [aJ b [(iv e)] 3,aJ h1 [(iv g)] 3,aJ h2 [(.func (.func 109) [].toArray [].toArray)] 136]]) (fun _ _ _ s=>St.unpack (A:=[aJ b [(iv e)] 3,aJ h1 [(iv g)] 3,aJ h2 [(.func (.func 109) [].toArray [].toArray)] 136]) s)).post id (fun _=>rfl) (fun _ _ _ _ s=>St.pack (A:=[aJ b [(iv e)] 3,aJ h1 [(iv g)] 3,aJ h2 [(.func (.func 109) [].toArray [].toArray)] 136]) (s)))
 rcases bY a with ⟨j,a⟩|⟨j,a⟩
 ·obtain ⟨t,i,e,g,l⟩:=r
  obtain rfl:=Nat.eq_of_beq_eq_true j
  exact InvOk.mk (hY _) (((Z3s_ok a).perm (Pre':=[pk [aJ b [(iv e)] 3,aJ h1 [(iv g)] 3,aJ h2 [(.func (.func 111) [].toArray [].toArray)] 136]]) (fun _ _ _ s=>St.unpack (A:=[aJ b [(iv e)] 3,aJ h1 [(iv g)] 3,aJ h2 [(.func (.func 111) [].toArray [].toArray)] 136]) s)).post id (fun _=>rfl) (fun _ _ _ _ s=>St.pack (A:=[aJ b [(iv e)] 3,aJ h1 [(iv g)] 3,aJ h2 [(.func (.func 111) [].toArray [].toArray)] 136]) (s)))
 have O:dG r (b,h1,h2)=(.iface 131 (.agg [(aH r.s0),(.func (.func 143) [].toArray [(pt b 0),(pt h1 0),(pt h2 0)].toArray)].toArray)):=by simp only [dG,L,m,u,B,D,E,F,G,I,J,j,cond_false]
 have M:fJ r (b,h1,h2)=pk [aJ b [(iv r.i0)] 3,aJ h1 [(iv r.i1)] 3,aJ h2 [(.func (.func 113) [].toArray [].toArray)] 136]:=by simp only [fJ,L,m,u,B,D,E,F,G,I,J,j,cond_false]
 rw [O,M]
 exact InvOk.mk (hY _) (((Z3t_ok a).perm (Pre':=[pk [aJ b [(iv r.i0)] 3,aJ h1 [(iv r.i1)] 3,aJ h2 [(.func (.func 113) [].toArray [].toArray)] 136]]) (fun _ _ _ s=>St.unpack (A:=[aJ b [(iv r.i0)] 3,aJ h1 [(iv r.i1)] 3,aJ h2 [(.func (.func 113) [].toArray [].toArray)] 136]) s)).post id (fun _=>rfl) (fun _ _ _ _ s=>St.pack (A:=[aJ b [(iv r.i0)] 3,aJ h1 [(iv r.i1)] 3,aJ h2 [(.func (.func 113) [].toArray [].toArray)] 136]) (s)))
theorem Z7_ok  {g:aP}{e:aP}{mG:Int}{a:Nat}{r:Bool}(b:Z7 g e=some r) :
 FnOk Tryz.prog 115 [(aH g),(pt a 0)] [aJ a [(aH e)] 9,gl 0 mG] (fun (h:Unit)=>((.bool r),[aJ a [(aH e)] 9])):=by
 unfold Z7 at b
 refine aR Tryz.func115 R 7 R R fun C V=>?_
 let l:=gl 0 mG::V
 refine bL ?_
 let j:=aJ a [(aH e)] 9::l
 refine qN j ?_
 refine bA ?_
 obtain ⟨m,i,b⟩:=bd b
 refine bA ?_
 refine lO (vp (aH g) R) (lM _ (fun w s=>(s.dg 1 R)) ?_)
 refine lC 1 zW R (Z3z_ok i) R ?_
 rintro _
 refine lN j ?_
 refine bL ?_
 cases b
 exact qF () (tE 2 [0])
theorem Z22_ok  {a:Node}{Y:aP}{mG:Int}{r:Bool}(hr:Z22 a Y=some r) :
 FnOk Tryz.prog 81 [(.agg [(iv a.Op),(.slice A2 N2 D2),(.slice A3 N3 D3),(.slice A4 N4 D4),(aH a.Form),(.slice A5 N5 D5)].toArray),(aH Y)] [aO kT3 (.slice A2 N2 D2) a.Args,aO kT3 (.slice A3 N3 D3) a.Dims,aO kT3 (.slice A4 N4 D4) a.Ints,aO kT3 (.slice A5 N5 D5) a.Data,gl 0 mG] (fun (h:Unit)=>((.bool r),[])):=by
 unfold Z22 at hr
 refine aR Tryz.func81 R 44 R R fun C V=>?_
 refine cL 0 aA ?_
 rintro rfl
 refine cL 1 aA ?_
 rintro rfl
 refine cL 2 aA ?_
 rintro rfl
 refine cL 3 aA ?_
 rintro rfl
 let W0:=RR kT3 A2 D2 a.Args::RR kT3 A3 D3 a.Dims::RR kT3 A4 D4 a.Ints::RR kT3 A5 D5 a.Data::gl 0 mG::V
 refine cN W0 ?_
 refine bA ?_
 refine eJ R fun b7=>?_
 refine fR (cs:=[(aH Y)]) R R R (fun T=>(lB R (aB ?_)))
 let W1:=aJ b7 [(iv a.Op),(sc A2 a.Args D2),(sc A3 a.Dims D3),(sc A4 a.Ints D4),(aH a.Form),(sc A5 a.Data D5)] 65::W0
 refine aW ?_
 refine lO (vp (.func (.func 115) [].toArray [(pt T 0)].toArray) R) (lO (vp _ R) ?_)
 refine aW ?_
 obtain ⟨U,ah,hr⟩:=bd hr
 obtain ⟨j,ag,hr⟩:=bd hr
 obtain ⟨g,a3,hr⟩:=bd hr
 obtain ⟨b,O,hr⟩:=bd hr
 refine cQ [(4,(.bool ((((U||((a.Dims.length:Int)==0))&&(j||((a.Ints.length:Int)==0)))&&(g||(a.Form==([]:aP))))&&(b||((a.Data.length:Int)==0)))))] (W1) ?_ ?_
 refine aD (lO (vp _ R) (lM _ (fun w s=>((s.dg 6 R).e 2 [1,0])) ?_))
 refine cP (fs:=[]) (cs:=[(pt T 0)]) 2 R R j3 R R (Z7_ok ah) R ?_
 rintro _
 refine cE ?_
 rcases bo U with l | l
 refine bL ?_
 refine lO (fE ((a.Dims.length:Int)==0) R l) (lB R (lW (eM (oT l)) (vp _ R) (lM _ (fun w s=>((s.dg 6 R).e 2 [1,0])) ?_)))
 refine cP (fs:=[]) (cs:=[(pt T 0)]) 2 R (eM (oT l)) j3 R R (Z7_ok (bR ag (oT l))) R ?_
 rintro _
 refine cE ?_
 rcases bo j with a4 | a4
 refine bL ?_
 refine lW (eM (oT l)) (fE ((a.Ints.length:Int)==0) R a4) (lO (ji R (oT l) R) (lB R ?_))
 rcases bo ((U||((a.Dims.length:Int)==0))&&(j||((a.Ints.length:Int)==0))) with m | m
 refine lW (eM m) (vp _ R) (lM _ (fun w s=>((s.dg 6 R).e 2 [1,0])) ?_)
 refine cP (fs:=[]) (cs:=[(pt T 0)]) 2 R (eM m) j3 R R (Z7_ok (bR a3 m)) R ?_
 rintro _
 refine cE ?_
 rcases bo g with Z | Z
 refine aW ?_
 refine lW (eM m) (fE (a.Form==([]:aP)) R Z) (lO (ji R m R) (lB R ?_))
 rcases bo (((U||((a.Dims.length:Int)==0))&&(j||((a.Ints.length:Int)==0)))&&(g||(a.Form==([]:aP)))) with D | D
 refine lW (eM D) (vp _ R) (lM _ (fun w s=>((s.dg 6 R).e 2 [1,0])) ?_)
 refine cP (fs:=[]) (cs:=[(pt T 0)]) 2 R (eM D) j3 R R (Z7_ok (bR O D)) R ?_
 rintro _
 refine cE ?_
 rcases bo b with a5 | a5
 refine bL ?_
 refine lW (eM D) (fE ((a.Data.length:Int)==0) R a5) (lO (ji R D R) ?_)
 refine bA ?_
 exact qj (tE 1 [])
 refine bL ?_
 refine lW (eM D) (fZ R a5 R) (lO (ji R D R) ?_)
 refine bA ?_
 exact qj (tE 1 [])
 refine dM ?_
 refine lO (kA (b||((a.Data.length:Int)==0)) R D) ?_
 refine bA ?_
 exact qj (tE 1 [])
 refine bA ?_
 refine lW (cG Z) (vz (.bool (a.Form==([]:aP))) (jf R R R)) (lW (eM m) (fZ R Z R) (lO (ji R m R) (lB R ?_)))
 rcases bo (((U||((a.Dims.length:Int)==0))&&(j||((a.Ints.length:Int)==0)))&&(g||(a.Form==([]:aP)))) with E | E
 refine lW (eM E) (vp _ R) (lM _ (fun w s=>((s.dg 6 R).e 2 [1,0])) ?_)
 refine cP (fs:=[]) (cs:=[(pt T 0)]) 2 R (eM E) j3 R R (Z7_ok (bR O E)) R ?_
 rintro _
 refine cE ?_
 rcases bo b with a6 | a6
 refine bL ?_
 refine lW (eM E) (fE ((a.Data.length:Int)==0) R a6) (lO (ji R E R) ?_)
 refine bA ?_
 exact qj (tE 1 [])
 refine bL ?_
 refine lW (eM E) (fZ R a6 R) (lO (ji R E R) ?_)
 refine bA ?_
 exact qj (tE 1 [])
 refine dM ?_
 refine lO (kA (b||((a.Data.length:Int)==0)) R E) ?_
 refine bA ?_
 exact qj (tE 1 [])
 refine dX ?_
 refine lO (kA (g||(a.Form==([]:aP))) R m) ?_
 refine dJ ?_
 refine lO (kA (b||((a.Data.length:Int)==0)) R (aF m)) ?_
 refine bA ?_
 exact qj (tE 1 [])
 refine bL ?_
 refine lW (eM (oT l)) (fZ R a4 R) (lO (ji R (oT l) R) (lB R ?_))
 rcases bo ((U||((a.Dims.length:Int)==0))&&(j||((a.Ints.length:Int)==0))) with q | q
 refine lW (eM q) (vp _ R) (lM _ (fun w s=>((s.dg 6 R).e 2 [1,0])) ?_)
 refine cP (fs:=[]) (cs:=[(pt T 0)]) 2 R (eM q) j3 R R (Z7_ok (bR a3 q)) R ?_
 rintro _
 refine cE ?_
 rcases bo g with a0 | a0
 refine aW ?_
 refine lW (eM q) (fE (a.Form==([]:aP)) R a0) (lO (ji R q R) (lB R ?_))
 rcases bo (((U||((a.Dims.length:Int)==0))&&(j||((a.Ints.length:Int)==0)))&&(g||(a.Form==([]:aP)))) with F | F
 refine lW (eM F) (vp _ R) (lM _ (fun w s=>((s.dg 6 R).e 2 [1,0])) ?_)
 refine cP (fs:=[]) (cs:=[(pt T 0)]) 2 R (eM F) j3 R R (Z7_ok (bR O F)) R ?_
 rintro _
 refine cE ?_
 rcases bo b with a7 | a7
 refine bL ?_
 refine lW (eM F) (fE ((a.Data.length:Int)==0) R a7) (lO (ji R F R) ?_)
 refine bA ?_
 exact qj (tE 1 [])
 refine bL ?_
 refine lW (eM F) (fZ R a7 R) (lO (ji R F R) ?_)
 refine bA ?_
 exact qj (tE 1 [])
 refine dM ?_
 refine lO (kA (b||((a.Data.length:Int)==0)) R F) ?_
 refine bA ?_
 exact qj (tE 1 [])
 refine bA ?_
 refine lW (cG a0) (vz (.bool (a.Form==([]:aP))) (jf R R R)) (lW (eM q) (fZ R a0 R) (lO (ji R q R) (lB R ?_)))
 rcases bo (((U||((a.Dims.length:Int)==0))&&(j||((a.Ints.length:Int)==0)))&&(g||(a.Form==([]:aP)))) with G | G
 refine lW (eM G) (vp _ R) (lM _ (fun w s=>((s.dg 6 R).e 2 [1,0])) ?_)
 refine cP (fs:=[]) (cs:=[(pt T 0)]) 2 R (eM G) j3 R R (Z7_ok (bR O G)) R ?_
 rintro _
 refine cE ?_
 rcases bo b with a8 | a8
 refine bL ?_
 refine lW (eM G) (fE ((a.Data.length:Int)==0) R a8) (lO (ji R G R) ?_)
 refine bA ?_
 exact qj (tE 1 [])
 refine bL ?_
 refine lW (eM G) (fZ R a8 R) (lO (ji R G R) ?_)
 refine bA ?_
 exact qj (tE 1 [])
 refine dM ?_
 refine lO (kA (b||((a.Data.length:Int)==0)) R G) ?_
 refine bA ?_
 exact qj (tE 1 [])
 refine dX ?_
 refine lO (kA (g||(a.Form==([]:aP))) R q) ?_
 refine dJ ?_
 refine lO (kA (b||((a.Data.length:Int)==0)) R (aF q)) ?_
 refine bA ?_
 exact qj (tE 1 [])
 refine bL ?_
 refine lO (fZ R l R) (lB R ?_)
 rcases bo (U||((a.Dims.length:Int)==0)) with i | i
 refine lW (eM i) (vp _ R) (lM _ (fun w s=>((s.dg 6 R).e 2 [1,0])) ?_)
 refine cP (fs:=[]) (cs:=[(pt T 0)]) 2 R (eM i) j3 R R (Z7_ok (bR ag i)) R ?_
 rintro _
 refine cE ?_
 rcases bo j with a9 | a9
 refine bL ?_
 refine lW (eM i) (fE ((a.Ints.length:Int)==0) R a9) (lO (ji R i R) (lB R ?_))
 rcases bo ((U||((a.Dims.length:Int)==0))&&(j||((a.Ints.length:Int)==0))) with u | u
 refine lW (eM u) (vp _ R) (lM _ (fun w s=>((s.dg 6 R).e 2 [1,0])) ?_)
 refine cP (fs:=[]) (cs:=[(pt T 0)]) 2 R (eM u) j3 R R (Z7_ok (bR a3 u)) R ?_
 rintro _
 refine cE ?_
 rcases bo g with a1 | a1
 refine aW ?_
 refine lW (eM u) (fE (a.Form==([]:aP)) R a1) (lO (ji R u R) (lB R ?_))
 rcases bo (((U||((a.Dims.length:Int)==0))&&(j||((a.Ints.length:Int)==0)))&&(g||(a.Form==([]:aP)))) with I | I
 refine lW (eM I) (vp _ R) (lM _ (fun w s=>((s.dg 6 R).e 2 [1,0])) ?_)
 refine cP (fs:=[]) (cs:=[(pt T 0)]) 2 R (eM I) j3 R R (Z7_ok (bR O I)) R ?_
 rintro _
 refine cE ?_
 rcases bo b with aa | aa
 refine bL ?_
 refine lW (eM I) (fE ((a.Data.length:Int)==0) R aa) (lO (ji R I R) ?_)
 refine bA ?_
 exact qj (tE 1 [])
 refine bL ?_
 refine lW (eM I) (fZ R aa R) (lO (ji R I R) ?_)
 refine bA ?_
 exact qj (tE 1 [])
 refine dM ?_
 refine lO (kA (b||((a.Data.length:Int)==0)) R I) ?_
 refine bA ?_
 exact qj (tE 1 [])
 refine bA ?_
 refine lW (cG a1) (vz (.bool (a.Form==([]:aP))) (jf R R R)) (lW (eM u) (fZ R a1 R) (lO (ji R u R) (lB R ?_)))
 rcases bo (((U||((a.Dims.length:Int)==0))&&(j||((a.Ints.length:Int)==0)))&&(g||(a.Form==([]:aP)))) with J | J
 refine lW (eM J) (vp _ R) (lM _ (fun w s=>((s.dg 6 R).e 2 [1,0])) ?_)
 refine cP (fs:=[]) (cs:=[(pt T 0)]) 2 R (eM J) j3 R R (Z7_ok (bR O J)) R ?_
 rintro _
 refine cE ?_
 rcases bo b with ab | ab
 refine bL ?_
 refine lW (eM J) (fE ((a.Data.length:Int)==0) R ab) (lO (ji R J R) ?_)
 refine bA ?_
 exact qj (tE 1 [])
 refine bL ?_
 refine lW (eM J) (fZ R ab R) (lO (ji R J R) ?_)
 refine bA ?_
 exact qj (tE 1 [])
 refine dM ?_
 refine lO (kA (b||((a.Data.length:Int)==0)) R J) ?_
 refine bA ?_
 exact qj (tE 1 [])
 refine dX ?_
 refine lO (kA (g||(a.Form==([]:aP))) R u) ?_
 refine dJ ?_
 refine lO (kA (b||((a.Data.length:Int)==0)) R (aF u)) ?_
 refine bA ?_
 exact qj (tE 1 [])
 refine bL ?_
 refine lW (eM i) (fZ R a9 R) (lO (ji R i R) (lB R ?_))
 rcases bo ((U||((a.Dims.length:Int)==0))&&(j||((a.Ints.length:Int)==0))) with B | B
 refine lW (eM B) (vp _ R) (lM _ (fun w s=>((s.dg 6 R).e 2 [1,0])) ?_)
 refine cP (fs:=[]) (cs:=[(pt T 0)]) 2 R (eM B) j3 R R (Z7_ok (bR a3 B)) R ?_
 rintro _
 refine cE ?_
 rcases bo g with a2 | a2
 refine aW ?_
 refine lW (eM B) (fE (a.Form==([]:aP)) R a2) (lO (ji R B R) (lB R ?_))
 rcases bo (((U||((a.Dims.length:Int)==0))&&(j||((a.Ints.length:Int)==0)))&&(g||(a.Form==([]:aP)))) with L | L
 refine lW (eM L) (vp _ R) (lM _ (fun w s=>((s.dg 6 R).e 2 [1,0])) ?_)
 refine cP (fs:=[]) (cs:=[(pt T 0)]) 2 R (eM L) j3 R R (Z7_ok (bR O L)) R ?_
 rintro _
 refine cE ?_
 rcases bo b with ac | ac
 refine bL ?_
 refine lW (eM L) (fE ((a.Data.length:Int)==0) R ac) (lO (ji R L R) ?_)
 refine bA ?_
 exact qj (tE 1 [])
 refine bL ?_
 refine lW (eM L) (fZ R ac R) (lO (ji R L R) ?_)
 refine bA ?_
 exact qj (tE 1 [])
 refine dM ?_
 refine lO (kA (b||((a.Data.length:Int)==0)) R L) ?_
 refine bA ?_
 exact qj (tE 1 [])
 refine bA ?_
 refine lW (cG a2) (vz (.bool (a.Form==([]:aP))) (jf R R R)) (lW (eM B) (fZ R a2 R) (lO (ji R B R) (lB R ?_)))
 rcases bo (((U||((a.Dims.length:Int)==0))&&(j||((a.Ints.length:Int)==0)))&&(g||(a.Form==([]:aP)))) with M | M
 refine lW (eM M) (vp _ R) (lM _ (fun w s=>((s.dg 6 R).e 2 [1,0])) ?_)
 refine cP (fs:=[]) (cs:=[(pt T 0)]) 2 R (eM M) j3 R R (Z7_ok (bR O M)) R ?_
 rintro _
 refine cE ?_
 rcases bo b with ae | ae
 refine bL ?_
 refine lW (eM M) (fE ((a.Data.length:Int)==0) R ae) (lO (ji R M R) ?_)
 refine bA ?_
 exact qj (tE 1 [])
 refine bL ?_
 refine lW (eM M) (fZ R ae R) (lO (ji R M R) ?_)
 refine bA ?_
 exact qj (tE 1 [])
 refine dM ?_
 refine lO (kA (b||((a.Data.length:Int)==0)) R M) ?_
 refine bA ?_
 exact qj (tE 1 [])
 refine dX ?_
 refine lO (kA (g||(a.Form==([]:aP))) R B) ?_
 refine dJ ?_
 refine lO (kA (b||((a.Data.length:Int)==0)) R (aF B)) ?_
 refine bA ?_
 exact qj (tE 1 [])
 refine dM ?_
 refine lO (kA (j||((a.Ints.length:Int)==0)) R i) ?_
 refine dM ?_
 refine lO (kA (g||(a.Form==([]:aP))) R (aF i)) ?_
 refine dJ ?_
 refine lO (kA (b||((a.Data.length:Int)==0)) R (aF (aF i))) ?_
 refine bA ?_
 exact qj (tE 1 [])
 rintro σ1
 refine bA ?_
 cases hr
 exact qF () (tE 6 [])
theorem Zf_ok  {b:(List Int)}{r:Bool}(e:Zf b=some r) :
 FnOk Tryz.prog 72 [(.slice A2 N2 D2)] [aO kT3 (.slice A2 N2 D2) b] (fun (h:Unit)=>((.bool r),[])):=by
 unfold Zf at e
 refine aR Tryz.func72 R 27 R R fun C V=>?_
 refine cL 0 aA ?_
 rintro rfl
 let u:=RR kT3 A2 D2 b::V
 refine cN u ?_
 refine j9 ?_
 refine bD (A:=(Unit)×(HH)) (fun a=>Zf_J1 b=some r) (fun a=>[(0,(s3 a.2))]) (fun a=>aO kT3 (s3 a.2) b::u) ?_ ?_
 refine dM ?_
 obtain ⟨M,D,l⟩:=bd e
 refine bE (A:=HH) D (fun s a=>[(0,(s3 a)),(3,(iv s.1)),(6,(s3 a)),(7,(il b)),(8,(iv s.2))]) (fun s a=>aO kT3 (s3 a) b::u) (A2,b.length,D2) (aS R) (fun w s=>(s.d 0 R)) ?_
 rintro ⟨F,g⟩ ⟨A10,N10,D10⟩ σ1 G e j
 dsimp only [Zf_L1] at e
 refine bJ 0 aA (fun (E:N10=b.length)=>?_)
 subst E
 refine cH ?_
 split at e
 refine cH ?_
 obtain ⟨q,e⟩:=gd e
 refine aD (bC 0 aA (show 0<b.length by have:=q; omega) (fun i o16 L=>?_))
 subst L
 refine dX ?_
 refine cQ [(0,(sc (ad i o16) b D10)),(3,(iv F)),(5,(iv (ix b g))),(6,(sc (ad i o16) b D10)),(7,(il b)),(8,(iv g)),(17,(.bool ((decide ((ix b g)<1))||(decide ((ix b g)>4096)))))] (RR kT3 (ad i o16) D10 b::u) ?_ ?_
 refine bL ?_
 rcases bo (decide ((ix b g)<1)) with m | m
 refine bL ?_
 exact qj tI
 refine bL ?_
 exact qj tI
 rintro σ1
 refine cE ?_
 split at e
 refine dH ?_
 cases e
 obtain rfl:=j _ R
 have e:=l
 refine aW ?_
 cases e
 exact qF () (tE 2 [])
 refine rL ?_
 split at e
 refine dJ ?_
 cases e
 obtain rfl:=j _ R
 have e:=l
 refine aW ?_
 cases e
 exact qF () (tE 2 [])
 refine dM ?_
 cases e
 exact qA ((ad i o16),b.length,D10) tI
 refine aW ?_
 cases e
 obtain rfl:=j _ R
 have e:=l
 refine bA ?_
 exact qI ((),(A10,b.length,D10)) e tI
 rintro ⟨_,⟨I,B,J⟩⟩ σ1 e
 dsimp only [Zf_J1] at e
 refine bJ 0 aA (fun (E:B=b.length)=>?_)
 subst E
 refine dJ ?_
 cases e
 exact qF () (tE 2 [])
theorem Zo_ok  {b:(List Int)}{r:Int}(e:Zo b=some r) :
 FnOk Tryz.prog 65 [(.slice A2 N2 D2)] [aO kT3 (.slice A2 N2 D2) b] (fun (h:Unit)=>((iv r),[])):=by
 unfold Zo at e
 refine aR Tryz.func65 R 17 R R fun C V=>?_
 refine cL 0 aA ?_
 rintro rfl
 let i:=RR kT3 A2 D2 b::V
 refine cN i ?_
 refine j9 ?_
 refine bD (A:=(Int)×(Unit)) (fun a=>Zo_J1 a.1=some r) (fun a=>[(3,(iv a.1))]) (fun a=>i) ?_ ?_
 refine dM ?_
 obtain ⟨F,m,l⟩:=bd e
 refine bE (A:=Unit) m (fun s a=>[(3,(iv s.1)),(6,(sc A2 b D2)),(7,(il b)),(8,(iv s.2))]) (fun s a=>i) () (aS R) tI ?_
 rintro ⟨E,G⟩ _ σ1 q e j
 dsimp only [Zo_L1] at e
 refine cH ?_
 split at e
 refine cH ?_
 obtain ⟨g,e⟩:=gd e
 refine aD (bC 0 aA (show 0<b.length by have:=g; omega) (fun u o12 B=>?_))
 subst B
 refine rL ?_
 cases e
 exact qA () tI
 refine aW ?_
 cases e
 obtain rfl:=j _ R
 have e:=l
 refine bA ?_
 exact qI (E,()) e tI
 rintro ⟨D,_⟩ σ1 e
 dsimp only [Zo_J1] at e
 refine dX ?_
 cases e
 exact qF () (tE 1 [])
theorem Z3b_ok  {p1:Int}{r:Bool}(b:Z3b p1=some r) :
 FnOk Tryz.prog 84 [(iv p1)] [] (fun (h:Unit)=>((.bool r),[])):=by
 unfold Z3b at b
 refine aR Tryz.func84 R 9 R R fun C V=>?_
 refine cN V ?_
 refine cH ?_
 refine cQ [(2,(.bool ((decide (p1≥0))&&(decide (p1<2147483647)))))] (V) ?_ ?_
 refine bL ?_
 rcases bo (decide (p1≥0)) with a | a
 refine cU ?_
 exact qj tI
 refine cU ?_
 exact qj tI
 rintro σ1
 refine bA ?_
 cases b
 exact qF () tI
theorem Z1a_ok  {e:(List Int)}{r:Bool}(b:Z1a e=some r) :
 FnOk Tryz.prog 73 [(.slice A2 N2 D2)] [aO kT3 (.slice A2 N2 D2) e] (fun (h:Unit)=>((.bool r),[])):=by
 unfold Z1a at b
 refine aR Tryz.func73 R 15 R R fun C V=>?_
 refine cL 0 aA ?_
 rintro rfl
 let m:=RR kT3 A2 D2 e::V
 refine cN m ?_
 refine cH ?_
 refine bD (A:=(Unit)×(Unit)) (fun a=>Z1a_J1=some r) (fun a=>[]) (fun a=>m) ?_ ?_
 refine dM ?_
 obtain ⟨G,q,j⟩:=bd b
 refine bE (A:=Unit) q (fun s a=>[(5,(sc A2 e D2)),(6,(il e)),(7,(iv s))]) (fun s a=>m) () (aS R) tI ?_
 rintro F _ σ1 u b g
 dsimp only [Z1a_L1] at b
 refine cH ?_
 split at b
 refine cH ?_
 obtain ⟨i,b⟩:=gd b
 refine aD (bC 0 aA (show 0<e.length by have:=i; omega) (fun B o14 D=>?_))
 subst D
 refine cH ?_
 obtain ⟨E,l,b⟩:=bd b
 refine bA ?_
 refine lC 0 BU R (Z3b_ok l) R ?_
 rintro _
 refine aW ?_
 split at b
 refine dJ ?_
 cases b
 obtain rfl:=g _ R
 have b:=j
 refine aW ?_
 cases b
 exact qF () (tE 1 [])
 refine dM ?_
 cases b
 exact qA () tI
 refine aW ?_
 cases b
 obtain rfl:=g _ R
 have b:=j
 refine bA ?_
 exact cK ((),()) b trivial tI
 rintro ⟨_,_⟩ σ1 b
 dsimp only [Z1a_J1] at b
 refine cH ?_
 cases b
 exact qF () (tE 1 [])
theorem Z2t_ok  {t1:Tensor}{r:Bool}(g:Z2t t1=some r) :
 FnOk Tryz.prog 40 [(.agg [(.slice A2 N2 D2),(.slice A3 N3 D3)].toArray)] [aO kT3 (.slice A2 N2 D2) t1.Dims,aO kT3 (.slice A3 N3 D3) t1.Data] (fun (h:Unit)=>((.bool r),[])):=by
 unfold Z2t at g
 refine aR Tryz.func40 R 20 R R fun C V=>?_
 refine cL 0 aA ?_
 rintro rfl
 refine cL 1 aA ?_
 rintro rfl
 let q:=RR kT3 A2 D2 t1.Dims::RR kT3 A3 D3 t1.Data::V
 refine cN q ?_
 refine bA ?_
 refine eJ R fun E=>?_
 refine bA ?_
 let e:=aJ E [(sc A2 t1.Dims D2),(sc A3 t1.Data D3)] 42::q
 refine qN e ?_
 refine bA ?_
 obtain ⟨m,i,g⟩:=bd g
 obtain ⟨D,l,g⟩:=bd g
 obtain ⟨F,j,g⟩:=bd g
 refine cQ [(2,(.bool ((m&&((t1.Data.length:Int)==D))&&F)))] (e) ?_ ?_
 rcases bo m with a | a
 rcases bo (m&&((t1.Data.length:Int)==D)) with b | b
 refine dE 18 [] bQ fun B u=>?_
 refine iC 0 [] ?_
 refine d1 2 R (lM _ (fun w s=>(s.d 1 R)) ?_)
 refine lC 1 lR R (Zf_ok i) R ?_
 rintro _
 refine lN e ?_
 refine aB (aG (sL []) ?_)
 refine t2 3 [] ?_
 refine d1 9 R (lM _ (fun w s=>(s.d 1 R)) ?_)
 refine cD 1 R (eM a) mq R (Zo_ok (bR l a)) R ?_
 rintro _
 refine lN e ?_
 refine aB (aG (sL []) ?_)
 refine kM 10 [] ?_
 refine d1 15 R (lM _ (fun w s=>(s.d 2 R)) ?_)
 refine cD 1 R (eM b) BV R (Z1a_ok (bR j b)) R ?_
 rintro _
 refine lN e ?_
 refine aB (aG (sL []) ?_)
 refine iC 16 [] ?_
 refine dD ?_
 exact qj tI
 refine dE 18 [] bQ fun B u=>?_
 refine iC 0 [] ?_
 refine d1 2 R (lM _ (fun w s=>(s.d 1 R)) ?_)
 refine lC 1 lR R (Zf_ok i) R ?_
 rintro _
 refine lN e ?_
 refine aB (aG (sL []) ?_)
 refine t2 3 [] ?_
 refine d1 9 R (lM _ (fun w s=>(s.d 1 R)) ?_)
 refine cD 1 R (eM a) mq R (Zo_ok (bR l a)) R ?_
 rintro _
 refine lN e ?_
 refine aB (aG (sL []) ?_)
 refine v6 10 [] ?_
 refine dD ?_
 exact qj tI
 refine dE 18 [] bQ fun B u=>?_
 refine iC 0 [] ?_
 refine d1 2 R (lM _ (fun w s=>(s.d 1 R)) ?_)
 refine lC 1 lR R (Zf_ok i) R ?_
 rintro _
 refine lN e ?_
 refine aB (aG (sL []) ?_)
 refine xv 3 [] ?_
 refine dD ?_
 exact qj tI
 rintro σ1
 refine bA ?_
 cases g
 exact qF () (tE 3 [])
theorem Z1q_ok  {k1:leafKind}{b:Node}{a:(List (List Int))}{r:(List Int)×Bool}(l:Z1q k1 b a=some r) :
 FnOk Tryz.prog 193 [(.agg [(.bool k1.data)].toArray),(.agg [(iv b.Op),(.slice A3 N3 D3),(.slice A4 N4 D4),(.slice A5 N5 D5),(aH b.Form),(.slice A6 N6 D6)].toArray),(.slice A8 N8 D8)] [aO kT3 (.slice A3 N3 D3) b.Args,aO kT3 (.slice A4 N4 D4) b.Dims,aO kT3 (.slice A5 N5 D5) b.Ints,aO kT3 (.slice A6 N6 D6) b.Data,aO kT23 (.slice A8 N8 D8) a] (fun (h:HH)=>((.tuple [(s3 h),(.bool r.2)].toArray),[aO kT3 (s3 h) r.1])):=by
 unfold Z1q at l
 refine aR Tryz.func193 R 32 R R fun C V=>?_
 refine cL 0 aA ?_
 rintro rfl
 refine cL 1 aA ?_
 rintro rfl
 refine cL 2 aA ?_
 rintro rfl
 refine cL 3 aA ?_
 rintro rfl
 refine cL 4 aA ?_
 rintro rfl
 let F:=RR kT3 A3 D3 b.Args::RR kT3 A4 D4 b.Dims::RR kT3 A5 D5 b.Ints::RR kT3 A6 D6 b.Data::RR kT23 A8 D8 a::V
 refine cN F ?_
 refine bA ?_
 refine eJ R fun G=>?_
 refine eJ R fun m=>?_
 refine aW ?_
 let D:=aJ m [(iv b.Op),(sc A3 b.Args D3),(sc A4 b.Dims D4),(sc A5 b.Ints D5),(aH b.Form),(sc A6 b.Data D6)] 65::aJ G [(.bool k1.data)] 122::F
 refine qN D ?_
 refine aW ?_
 obtain ⟨B,q,l⟩:=bd l
 obtain ⟨E,u,l⟩:=bd l
 refine cQ [(4,(pt m 0)),(29,(.bool ((((a.length:Int) != 0)||(!B))||(k1.data&&(!E)))))] (D) ?_ ?_
 refine cU ?_
 rcases bo ((a.length:Int) != 0) with i | i
 refine Bn ?_
 exact qj tI
 refine bA ?_
 refine lM _ (fun w s=>(s.d 3 R)) ?_
 refine cD 1 R (cG i) lR R (Zf_ok (bR q (cY i))) R ?_
 rintro _
 refine lN D ?_
 refine aW ?_
 rcases bo (((a.length:Int) != 0)||(!B)) with j | j
 refine lL ?_
 exact qj tI
 refine aW ?_
 rcases bo k1.data with g | g
 refine bL ?_
 refine lW (eM g) (vz (.agg [(sc A4 b.Dims D4),(sc A6 b.Data D6)].toArray) (aV hM dZ R R)) (lM _ (fun w s=>(((s.d 3 R).d 6 R).e 2 [1,0])) ?_)
 refine cD 2 R (eM g) BW R (Z2t_ok (t1:=(⟨b.Dims,b.Data⟩:Tensor)) (bR u (xi (cY j) g))) R ?_
 rintro _
 refine lN D ?_
 refine bL ?_
 exact qj tI
 refine dH ?_
 exact qj tI
 rintro σ1
 refine cE ?_
 split at l
 refine dJ ?_
 cases l
 exact ka (none,0,0) (fun w s=>((s.nilr kT3).e 8 [0]))
 refine iZ ?_
 cases l
 exact ka (A4,b.Dims.length,D4) (tE 7 [3])
theorem Z2a_ok  {k1:pairKind}{g:Node}{b:(List (List Int))}{r:(List Int)×Bool}(j:Z2a k1 g b=some r) :
 FnOk Tryz.prog 195 [(.agg [(iv k1.op)].toArray),(.agg [(iv g.Op),(.slice A3 N3 D3),(.slice A4 N4 D4),(.slice A5 N5 D5),(aH g.Form),(.slice A6 N6 D6)].toArray),(.slice A8 N8 D8)] [aO kT3 (.slice A3 N3 D3) g.Args,aO kT3 (.slice A4 N4 D4) g.Dims,aO kT3 (.slice A5 N5 D5) g.Ints,aO kT3 (.slice A6 N6 D6) g.Data,aO kT23 (.slice A8 N8 D8) b] (fun (h:HH)=>((.tuple [(s3 h),(.bool r.2)].toArray),[aO kT3 (s3 h) r.1])):=by
 unfold Z2a at j
 refine aR Tryz.func195 R 24 R R fun C V=>?_
 refine cL 0 aA ?_
 rintro rfl
 refine cL 1 aA ?_
 rintro rfl
 refine cL 2 aA ?_
 rintro rfl
 refine cL 3 aA ?_
 rintro rfl
 refine cL 4 aA ?_
 rintro rfl
 let G:=RR kT3 A3 D3 g.Args::RR kT3 A4 D4 g.Dims::RR kT3 A5 D5 g.Ints::RR kT3 A6 D6 g.Data::RR kT23 A8 D8 b::V
 refine cN G ?_
 refine bA ?_
 refine eJ R fun M=>?_
 refine eJ R fun D=>?_
 refine aW ?_
 let I:=aJ D [(iv g.Op),(sc A3 g.Args D3),(sc A4 g.Dims D4),(sc A5 g.Ints D5),(aH g.Form),(sc A6 g.Data D6)] 65::aJ M [(iv k1.op)] 124::G
 refine qN I ?_
 refine aW ?_
 obtain ⟨i,j⟩:=gd j
 obtain ⟨l,j⟩:=gd j
 obtain ⟨F,q,j⟩:=bd j
 refine cQ [(2,(sc A8 b D8)),(20,(.bool (((b.length:Int) != 2)||(!F))))] (I) ?_ ?_
 rcases bo ((b.length:Int) != 2) with a | a
 refine dE 13 [] bQ fun Y U=>?_
 refine mY 0 [] ?_
 refine dD ?_
 exact qj tI
 refine bB 6 aA (show 0<b.length by have:=(i a); omega) (fun O o13 E=>?_)
 subst E
 refine dP (K:=kT23) 6 (0:Int) dT23.dec R (i a).1 (i a).2 ?_
 rintro ⟨A14,D14⟩
 refine dP (K:=kT23) 8 (1:Int) dT23.dec R (l a).1 (l a).2 ?_
 rintro ⟨J,L⟩
 refine dE 13 [] bQ fun Y U=>?_
 refine kM 0 [] ?_
 refine dW 5 R (cG a) (eA jp eX R R (i a)) (dW 6 R (cG a) (eO (fo:=0) 2 bZ R R R) (dW 7 R (cG a) (vS R) (dW 8 R (cG a) (eA jp eX R R (l a)) (dW 9 R (cG a) (eO (fo:=0) 0 bZ R R R) (d1 10 R (lM _ (fun w s=>(((s.d 3 R).d 2 R).e 6 [1,0,2,3,4,5])) ?_))))))
 refine cD 2 R (cG a) xF R (Z0u_ok (bR q (cY a))) R ?_
 rintro _
 refine aB (aG (sL []) ?_)
 refine iC 11 [] ?_
 refine dD ?_
 exact qj (tE 4 [])
 rintro σ1
 refine cE ?_
 split at j
 refine dJ ?_
 cases j
 exact ka (none,0,0) (fun w s=>((s.nilr kT3).e 8 [0]))
 refine bL ?_
 obtain ⟨m,j⟩:=gd j
 refine bA ?_
 refine bC 6 aA (show 0<b.length by have:=m; omega) (fun T o23 E=>?_)
 subst E
 refine cE ?_
 refine gO (K:=kT23) 6 (0:Int) dT23.dec R m.1 m.2 ?_
 rintro ⟨u,B⟩
 refine lO (eO (fo:=0) 0 bZ R R R) ?_
 refine cU ?_
 cases j
 exact ka (u,(ix b 0).length,B) (tE 9 [1])
theorem Z33_ok  {k1:soloKind}{b:Node}{a:(List (List Int))}{r:(List Int)×Bool}(i:Z33 k1 b a=some r) :
 FnOk Tryz.prog 197 [(.agg [(iv k1.op)].toArray),(.agg [(iv b.Op),(.slice A3 N3 D3),(.slice A4 N4 D4),(.slice A5 N5 D5),(aH b.Form),(.slice A6 N6 D6)].toArray),(.slice A8 N8 D8)] [aO kT3 (.slice A3 N3 D3) b.Args,aO kT3 (.slice A4 N4 D4) b.Dims,aO kT3 (.slice A5 N5 D5) b.Ints,aO kT3 (.slice A6 N6 D6) b.Data,aO kT23 (.slice A8 N8 D8) a] (fun (h:HH)=>((.tuple [(s3 h),(.bool r.2)].toArray),[aO kT3 (s3 h) r.1])):=by
 unfold Z33 at i
 refine aR Tryz.func197 R 14 R R fun C V=>?_
 refine cL 0 aA ?_
 rintro rfl
 refine cL 1 aA ?_
 rintro rfl
 refine cL 2 aA ?_
 rintro rfl
 refine cL 3 aA ?_
 rintro rfl
 refine cL 4 aA ?_
 rintro rfl
 let q:=RR kT3 A3 D3 b.Args::RR kT3 A4 D4 b.Dims::RR kT3 A5 D5 b.Ints::RR kT3 A6 D6 b.Data::RR kT23 A8 D8 a::V
 refine cN q ?_
 refine bA ?_
 refine eJ R fun B=>?_
 refine eJ R fun m=>?_
 refine aW ?_
 let u:=aJ m [(iv b.Op),(sc A3 b.Args D3),(sc A4 b.Dims D4),(sc A5 b.Ints D5),(aH b.Form),(sc A6 b.Data D6)] 65::aJ B [(iv k1.op)] 125::q
 refine qN u ?_
 refine dJ ?_
 split at i
 refine dJ ?_
 cases i
 exact ka (none,0,0) (fun w s=>((s.nilr kT3).e 8 [0]))
 refine bL ?_
 obtain ⟨g,i⟩:=gd i
 refine bA ?_
 refine bC 6 aA (show 0<a.length by have:=g; omega) (fun D o14 E=>?_)
 subst E
 refine cE ?_
 refine gO (K:=kT23) 6 (0:Int) dT23.dec R g.1 g.2 ?_
 rintro ⟨j,l⟩
 refine lO (eO (fo:=0) 0 bZ R R R) ?_
 refine cU ?_
 cases i
 exact ka (j,(ix a 0).length,l) (tE 9 [1])
theorem Zn_ok  {b:(List Int)}{a:Int}{r:Bool}(i:Zn b a=some r) :
 FnOk Tryz.prog 144 [(.slice A2 N2 D2),(iv a)] [aO kT3 (.slice A2 N2 D2) b] (fun (h:Unit)=>((.bool r),[])):=by
 unfold Zn at i
 refine aR Tryz.func144 R 13 R R fun C V=>?_
 refine cL 0 aA ?_
 rintro rfl
 let g:=RR kT3 A2 D2 b::V
 refine cN g ?_
 refine cH ?_
 refine cQ [(4,(.bool ((decide (a≥0))&&(decide (a<(b.length:Int))))))] (g) ?_ ?_
 refine bL ?_
 rcases bo (decide (a≥0)) with e | e
 refine dX ?_
 exact qj tI
 refine dX ?_
 exact qj tI
 rintro σ1
 refine bA ?_
 cases i
 exact qF () (tE 1 [])
theorem Z23_ok  {k1:topKind}{g:Node}{b:(List (List Int))}{r:(List Int)×Bool}(j:Z23 k1 g b=some r) :
 FnOk Tryz.prog 199 [(.agg [].toArray),(.agg [(iv g.Op),(.slice A3 N3 D3),(.slice A4 N4 D4),(.slice A5 N5 D5),(aH g.Form),(.slice A6 N6 D6)].toArray),(.slice A8 N8 D8)] [aO kT3 (.slice A3 N3 D3) g.Args,aO kT3 (.slice A4 N4 D4) g.Dims,aO kT3 (.slice A5 N5 D5) g.Ints,aO kT3 (.slice A6 N6 D6) g.Data,aO kT23 (.slice A8 N8 D8) b] (fun (h:HH)=>((.tuple [(s3 h),(.bool r.2)].toArray),[aO kT3 (s3 h) r.1])):=by
 unfold Z23 at j
 refine aR Tryz.func199 R 31 R R fun C V=>?_
 refine cL 0 aA ?_
 rintro rfl
 refine cL 1 aA ?_
 rintro rfl
 refine cL 2 aA ?_
 rintro rfl
 refine cL 3 aA ?_
 rintro rfl
 refine cL 4 aA ?_
 rintro rfl
 let I:=RR kT3 A3 D3 g.Args::RR kT3 A4 D4 g.Dims::RR kT3 A5 D5 g.Ints::RR kT3 A6 D6 g.Data::RR kT23 A8 D8 b::V
 refine cN I ?_
 refine bA ?_
 refine eJ R fun O=>?_
 refine eJ R fun F=>?_
 refine aW ?_
 let J:=aJ F [(iv g.Op),(sc A3 g.Args D3),(sc A4 g.Dims D4),(sc A5 g.Ints D5),(aH g.Form),(sc A6 g.Data D6)] 65::aJ O [] 127::I
 refine qN J ?_
 refine aW ?_
 obtain ⟨i,j⟩:=gd j
 obtain ⟨l,j⟩:=gd j
 obtain ⟨G,B,j⟩:=bd j
 refine cQ [(2,(sc A8 b D8)),(27,(.bool ((((b.length:Int) != 1)||((g.Ints.length:Int) != 1))||(!G))))] (J) ?_ ?_
 rcases bo ((b.length:Int) != 1) with u | u
 refine dE 20 [] bQ fun M L=>?_
 refine t7 0 [] ?_
 refine dD ?_
 exact qj tI
 rcases bo (((b.length:Int) != 1)||((g.Ints.length:Int) != 1)) with a | a
 refine dE 20 [] bQ fun M L=>?_
 refine t7 0 [] ?_
 refine dD ?_
 exact qj tI
 refine bB 6 aA (show 0<b.length by have:=(i a); omega) (fun T o13 q=>?_)
 subst q
 refine dP (K:=kT23) 6 (0:Int) dT23.dec R (i a).1 (i a).2 ?_
 rintro ⟨A14,D14⟩
 refine bB 6 aA (show 0<g.Ints.length by have:=(l a); omega) (fun U o17 q=>?_)
 subst q
 refine dE 20 [] bQ fun M L=>?_
 refine pS 0 [] ?_
 refine dW 11 R (cG a) (eA jp eX R R (i a)) (dW 12 R (cG a) (eO (fo:=0) 0 bZ R R R) ?_)
 refine iC 13 [] ?_
 refine dW 15 R (cG a) (eA bI cI R R (l a)) (dW 16 R (cG a) (gP 6 fC aA R (l a)) (d1 17 R (lM _ (fun w s=>(s.d 1 R)) ?_)))
 refine cD 1 R (cG a) hN R (Zn_ok (bR B (cY a))) R ?_
 rintro _
 refine aB (aG (sL []) ?_)
 refine iC 18 [] ?_
 refine dD ?_
 exact qj (tE 2 [])
 rintro σ1
 refine cE ?_
 split at j
 refine dJ ?_
 cases j
 exact ka (none,0,0) (fun w s=>((s.nilr kT3).e 8 [0]))
 refine bL ?_
 obtain ⟨m,j⟩:=gd j
 refine bA ?_
 refine bC 6 aA (show 0<b.length by have:=m; omega) (fun Y o25 q=>?_)
 subst q
 refine cE ?_
 refine gO (K:=kT23) 6 (0:Int) dT23.dec R m.1 m.2 ?_
 rintro ⟨D,E⟩
 refine lO (eO (fo:=0) 0 bZ R R R) ?_
 refine cU ?_
 cases j
 exact ka (D,(ix b 0).length,E) (tE 9 [1])
theorem Zg_ok  {L:aP}{mG:Int}{r:(List aP)×aP×Bool}(i:Zg L=some r) :
 FnOk Tryz.prog 204 [(aH L)] [gl 0 mG] (fun (h:HH)=>((.tuple [(s3 h),(aH r.2.1),(.bool r.2.2)].toArray),[aO kT9 (s3 h) r.1])):=by
 unfold Zg at i
 refine aR Tryz.func204 R 93 R R fun C V=>?_
 let T:=gl 0 mG::V
 refine cN T ?_
 refine aW ?_
 refine lO (vp (aH ([]:aP)) R) ?_
 refine bL ?_
 obtain ⟨b,al,i⟩:=bd i
 refine aD (lO (vp (aH L) R) (lM _ (fun w s=>(s.dg 0 R)) ?_))
 refine lC 1 zZ R (Z37_ok al) R ?_
 rintro _
 refine lN T ?_
 refine lO (vT R) (lO (vp (aH b.1) R) (lO (vp (aH b.2.1) R) (lB R (lO (vp (aH b.1) R) (lO (vp (aH b.2.1) R) ?_)))))
 refine cU ?_
 refine cQ [(5,(aH b.1)),(6,(aH b.2.1)),(25,(.bool ((!b.2.2)||(decide ((b.2.1.length:Int)>6)))))] (T) ?_ ?_
 refine bL ?_
 rcases bo (!b.2.2) with a0 | a0
 refine cU ?_
 exact qj tI
 refine lW (cG a0) (vp (aH b.2.1) R) (lW (cG a0) (vz (il b.2.1) (dT gH R)) ?_)
 refine aW ?_
 exact qj tI
 rintro σ1
 refine cE ?_
 split at i
 refine bL ?_
 refine lO (vp (aH ([]:aP)) R) ?_
 refine cU ?_
 cases i
 exact iL (none,0,0) (fun w s=>((s.nilr kT9).e 2 [0]))
 refine bL ?_
 obtain ⟨m,am,i⟩:=bd i
 refine aD (lO (vp (aH b.1) R) (lM _ (fun w s=>(s.dg 0 R)) ?_))
 refine lC 1 A1 R (Z38_ok am) R ?_
 rintro ⟨A8,N8,D8⟩
 refine aM 0 aA ?_
 rintro rfl
 refine j9 ?_
 split at i
 refine bL ?_
 refine lO (vp (aH ([]:aP)) R) ?_
 refine cU ?_
 cases i
 exact iL (none,0,0) (fun w s=>((s.nilr kT9).e 3 [0]))
 refine bL ?_
 refine bD (A:=(Unit)×(HH)) (fun a=>Zg_J3 b m=some r) (fun a=>[(5,(aH b.1)),(6,(aH b.2.1)),(8,(s3 a.2))]) (fun a=>aO kT9 (s3 a.2) m::T) ?_ ?_
 refine dM ?_
 obtain ⟨e1,ai,a2⟩:=bd i
 refine bE (A:=HH) ai (fun s a=>[(5,(aH b.1)),(6,(aH b.2.1)),(8,(s3 a)),(31,(s3 a)),(32,(il m)),(33,(iv s))]) (fun s a=>aO kT9 (s3 a) m::T) (A8,m.length,D8) (aS R) tI ?_
 rintro q ⟨aa,ae,E⟩ σ1 a8 i a1
 dsimp only [Zg_L1] at i
 refine bJ 0 aA (fun (Y:ae=m.length)=>?_)
 subst Y
 refine cH ?_
 split at i
 refine bL ?_
 refine bD (A:=(Unit)×(HH)) (fun a=>Zg_J2 q=some a8) (fun a=>[(5,(aH b.1)),(6,(aH b.2.1)),(8,(s3 a.2)),(31,(s3 a.2)),(32,(il m)),(33,(iv q))]) (fun a=>aO kT9 (s3 a.2) m::T) ?_ ?_
 refine bA ?_
 obtain ⟨U,i⟩:=gd i
 refine aD (bC 0 aA (show 0<m.length by have:=U; omega) (fun M o31 ha=>?_))
 subst ha
 refine cE ?_
 refine lO (vz (aH (ix m q)) (ja (K:=kT9) (fo:=0) (pr:=fun x=>(aH x)) 0 q pI (dT9.leaf fun _ _=>R) aA R U.1 U.2)) (lO (vp (aH (ix m q)) R) ?_)
 refine cU ?_
 refine lO (vp (aH (ix m q)) R) (lO (vz (il (ix m q)) (dT gH R)) ?_)
 refine aW ?_
 split at i
 refine bL ?_
 refine lO (vp (aH ([]:aP)) R) ?_
 refine dX ?_
 cases i
 obtain rfl:=a1 _ R
 have i:=a2
 refine aW ?_
 cases i
 exact iL (none,0,0) (fun w s=>((s.nilr kT9).e 3 [0]))
 refine dJ ?_
 obtain ⟨e2,aj,a5⟩:=bd i
 refine bE (A:=Unit) aj (fun s a=>[(5,(aH b.1)),(6,(aH b.2.1)),(8,(sc (ad M o31) m E)),(10,(aH (ix m q))),(11,(iv s)),(31,(sc (ad M o31) m E)),(32,(il m)),(33,(iv q))]) (fun s a=>RR kT9 (ad M o31) E m::T) () (aS R) tI ?_
 rintro G _ σ1 ao i a3
 dsimp only [Zg_L2] at i
 refine bL ?_
 refine lO (vp (aH (ix m q)) R) (lO (vz (il (ix m q)) (dT gH R)) ?_)
 refine aW ?_
 split at i
 refine cH ?_
 obtain ⟨O,i⟩:=gd i
 refine cQ [(5,(aH b.1)),(6,(aH b.2.1)),(8,(sc (ad M o31) m E)),(10,(aH (ix m q))),(11,(iv G)),(31,(sc (ad M o31) m E)),(32,(il m)),(33,(iv q)),(55,(.bool ((decide ((bt (ix m q) G)<97))||(decide ((bt (ix m q) G)>122)))))] (RR kT9 (ad M o31) E m::T) ?_ ?_
 refine aD (lO (vp (aH (ix m q)) R) (lI R (lO (vz (.int .u8 (bt (ix m q) G)) (cW gH R R O.1 O.2)) (lO (vp (.bool (decide ((bt (ix m q) G)<97))) R) (lB R ?_)))))
 rcases bo (decide ((bt (ix m q) G)<97)) with F | F
 refine cH ?_
 exact qj tI
 refine lW (cG F) (vp (aH (ix m q)) R) (lW (cG F) (vI R) (lW (cG F) (vz (.int .u8 (bt (ix m q) G)) (cW gH R R O.1 O.2)) (lW (cG F) (vp (.bool (decide ((bt (ix m q) G)>122))) R) ?_)))
 refine bA ?_
 exact qj tI
 rintro σ1
 refine cE ?_
 split at i
 refine bL ?_
 refine lO (vp (aH ([]:aP)) R) ?_
 refine cH ?_
 cases i
 obtain rfl:=a3 _ R
 have i:=a5
 refine bL ?_
 cases i
 obtain rfl:=a1 _ R
 have i:=a2
 refine aW ?_
 cases i
 exact iL (none,0,0) (fun w s=>((s.nilr kT9).e 3 [0]))
 refine dJ ?_
 cases i
 exact qA () tI
 refine aW ?_
 cases i
 obtain rfl:=a3 _ R
 have i:=a5
 refine aW ?_
 exact qI ((),((ad M o31),m.length,E)) i tI
 rintro ⟨_,⟨ab,ag,ac⟩⟩ σ1 i
 dsimp only [Zg_J2] at i
 refine bJ 0 aA (fun (Y:ag=m.length)=>?_)
 subst Y
 refine bL ?_
 cases i
 exact qA (ab,m.length,ac) tI
 refine aW ?_
 cases i
 obtain rfl:=a1 _ R
 have i:=a2
 refine bA ?_
 exact qI ((),(aa,m.length,E)) i tI
 rintro ⟨_,⟨I,ah,J⟩⟩ σ1 i
 dsimp only [Zg_J3] at i
 refine bJ 0 aA (fun (Y:ah=m.length)=>?_)
 subst Y
 refine aI (bD (A:=(Unit)×(Unit)) (fun a=>Zg_J4 b m=some r) (fun a=>[(6,(aH b.2.1)),(8,(sc I m J))]) (fun a=>RR kT9 I J m::T) ?_ ?_)
 refine cH ?_
 obtain ⟨e3,ak,a6⟩:=bd i
 refine bE (A:=Unit) ak (fun s a=>[(5,(aH b.1)),(6,(aH b.2.1)),(8,(sc I m J)),(12,(iv s))]) (fun s a=>RR kT9 I J m::T) () (aS R) tI ?_
 rintro l _ σ1 ap i a4
 dsimp only [Zg_L3] at i
 refine bL ?_
 refine lO (vp (aH b.2.1) R) (lO (vz (il b.2.1) (dT gH R)) ?_)
 refine aW ?_
 split at i
 refine cH ?_
 obtain ⟨j,i⟩:=gd i
 obtain ⟨D,i⟩:=gd i
 obtain ⟨a9,Z,i⟩:=bd i
 obtain ⟨an,a7,i⟩:=bd i
 refine cQ [(5,(aH b.1)),(6,(aH b.2.1)),(8,(sc I m J)),(12,(iv l)),(90,(.bool ((((decide ((bt b.2.1 l)<97))||(decide ((bt b.2.1 l)>122)))||(decide (a9≥0)))||(decide (an<0)))))] (RR kT9 I J m::T) ?_ ?_
 rcases bo (decide ((bt b.2.1 l)<97)) with u | u
 refine dE 28 [] bQ fun ht Y=>?_
 refine dR 0 R (vp (aH b.2.1) R) (dR 1 R (vI R) (dR 2 R (vz (.int .u8 (bt b.2.1 l)) (cW gH R R j.1 j.2)) (dR 3 R (vp (.bool (decide ((bt b.2.1 l)<97))) R) ?_)))
 refine Bs 4 [] ?_
 refine dD ?_
 exact qj tI
 rcases bo ((decide ((bt b.2.1 l)<97))||(decide ((bt b.2.1 l)>122))) with g | g
 refine dE 28 [] bQ fun ht Y=>?_
 refine dR 0 R (vp (aH b.2.1) R) (dR 1 R (vI R) (dR 2 R (vz (.int .u8 (bt b.2.1 l)) (cW gH R R j.1 j.2)) (dR 3 R (vp (.bool (decide ((bt b.2.1 l)<97))) R) (dR 4 R (vB R) (dW 5 R (cG u) (vp (aH b.2.1) R) (dW 6 R (cG u) (vI R) (dW 7 R (cG u) (vz (.int .u8 (bt b.2.1 l)) (cW gH R R j.1 j.2)) (dW 8 R (cG u) (vp (.bool (decide ((bt b.2.1 l)>122))) R) ?_))))))))
 refine zl 9 [] ?_
 refine dD ?_
 exact qj tI
 rcases bo (((decide ((bt b.2.1 l)<97))||(decide ((bt b.2.1 l)>122)))||(decide (a9≥0))) with B | B
 refine dE 28 [] bQ fun ht Y=>?_
 refine dR 0 R (vp (aH b.2.1) R) (dR 1 R (vI R) (dR 2 R (vz (.int .u8 (bt b.2.1 l)) (cW gH R R j.1 j.2)) (dR 3 R (vp (.bool (decide ((bt b.2.1 l)<97))) R) (dR 4 R (vB R) (dW 5 R (cG u) (vp (aH b.2.1) R) (dW 6 R (cG u) (vI R) (dW 7 R (cG u) (vz (.int .u8 (bt b.2.1 l)) (cW gH R R j.1 j.2)) (dW 8 R (cG u) (vp (.bool (decide ((bt b.2.1 l)>122))) R) ?_))))))))
 refine iC 9 [] ?_
 refine dW 11 R (cG g) (vp (aH b.2.1) R) (dW 12 R (cG g) (vI R) (dW 13 R (cG g) (vz (aH (sub b.2.1 (0:Int) l)) (iH (0:Int) l gH R R R (D g).1 (D g).2.1 (D g).2.2)) (dW 14 R (cG g) (vp (aH b.2.1) R) (dW 15 R (cG g) (vI R) (dW 16 R (cG g) (vz (.int .u8 (bt b.2.1 l)) (cW gH R R j.1 j.2)) (d1 17 R (cD 0 R (cG g) qX R (Z1z_ok (bR Z (cY g))) R ?_)))))))
 rintro _
 refine aB (aG (sL []) ?_)
 refine rM 18 [] ?_
 refine dD ?_
 exact qj tI
 refine dE 28 [] bQ fun ht Y=>?_
 refine dR 0 R (vp (aH b.2.1) R) (dR 1 R (vI R) (dR 2 R (vz (.int .u8 (bt b.2.1 l)) (cW gH R R j.1 j.2)) (dR 3 R (vp (.bool (decide ((bt b.2.1 l)<97))) R) (dR 4 R (vB R) (dW 5 R (cG u) (vp (aH b.2.1) R) (dW 6 R (cG u) (vI R) (dW 7 R (cG u) (vz (.int .u8 (bt b.2.1 l)) (cW gH R R j.1 j.2)) (dW 8 R (cG u) (vp (.bool (decide ((bt b.2.1 l)>122))) R) ?_))))))))
 refine iC 9 [] ?_
 refine dW 11 R (cG g) (vp (aH b.2.1) R) (dW 12 R (cG g) (vI R) (dW 13 R (cG g) (vz (aH (sub b.2.1 (0:Int) l)) (iH (0:Int) l gH R R R (D g).1 (D g).2.1 (D g).2.2)) (dW 14 R (cG g) (vp (aH b.2.1) R) (dW 15 R (cG g) (vI R) (dW 16 R (cG g) (vz (.int .u8 (bt b.2.1 l)) (cW gH R R j.1 j.2)) (d1 17 R (cD 0 R (cG g) qX R (Z1z_ok (bR Z (cY g))) R ?_)))))))
 rintro _
 refine aB (aG (sL []) ?_)
 refine iM 18 [] ?_
 refine dW 21 R (cG B) (vp (aH b.1) R) (dW 22 R (cG B) (vp (aH b.2.1) R) (dW 23 R (cG B) (vI R) (dW 24 R (cG B) (vz (.int .u8 (bt b.2.1 l)) (cW gH R R j.1 j.2)) (d1 25 R (cD 0 R (cG B) qX R (Z1z_ok (bR a7 (cY B))) R ?_)))))
 rintro _
 refine aB (aG (sL []) ?_)
 refine iC 26 [] ?_
 refine dD ?_
 exact qj tI
 rintro σ1
 refine cE ?_
 split at i
 refine bL ?_
 refine lO (vp (aH ([]:aP)) R) ?_
 refine cH ?_
 cases i
 obtain rfl:=a4 _ R
 have i:=a6
 refine aW ?_
 cases i
 exact iL (none,0,0) (fun w s=>((s.nilr kT9).e 3 [0]))
 refine dJ ?_
 cases i
 exact qA () tI
 refine aW ?_
 cases i
 obtain rfl:=a4 _ R
 have i:=a6
 refine bA ?_
 exact qI ((),()) i tI
 rintro ⟨_,_⟩ σ1 i
 dsimp only [Zg_J4] at i
 refine aW ?_
 refine lO (vp (aH b.2.1) R) (lS R (lO (vp (aH b.2.1) R) ?_))
 refine bL ?_
 cases i
 exact iL (I,m.length,J) (tE 2 [0])
theorem Z08_ok  {b:(List Int)}{r:(List Int)}(e:Z08 b=some r) :
 FnOk Tryz.prog 165 [(.slice A2 N2 D2)] [aO kT3 (.slice A2 N2 D2) b] (fun (h:HH)=>((s3 h),[ow kT3 3 (s3 h) r])):=by
 unfold Z08 at e
 refine aR Tryz.func165 R 32 R R fun C V=>?_
 refine cL 0 aA ?_
 rintro rfl
 let F:=RR kT3 A2 D2 b::V
 refine cN F ?_
 refine cH ?_
 obtain ⟨l,e⟩:=gd e
 refine aW ?_
 refine fH (K:=kT3) (m:=(b.length:Int)) (z:=(0:Int)) R R bI cI jN (Zr.zk zT3 gB) (by decide) R R l.1 l.2.1 l.2.2 (fun A4 D4=>(lS R (aB (aE (aI (aD (lI R (aB (aE (aI (bD (A:=((List Int))×(Unit)) (fun a=>Z08_J3 a.1=some r) (fun a=>[(3,(sc A4 (List.replicate (b.length:Int).toNat (0:Int)) D4))]) (fun a=>ow kT3 3 (.slice A4 (List.replicate (b.length:Int).toNat (0:Int)).length D4) a.1::F) ?_ ?_)))))))))))
 refine dJ ?_
 obtain ⟨Z,L,J⟩:=bd e
 refine bE (A:=Unit) L (fun s a=>[(0,(sc A2 b D2)),(3,(sc A4 (List.replicate (b.length:Int).toNat (0:Int)) D4)),(4,(iv s.2.1)),(5,(iv s.2.2))]) (fun s a=>ow kT3 3 (.slice A4 (List.replicate (b.length:Int).toNat (0:Int)).length D4) s.1::F) () (aS R) tI ?_
 rintro ⟨q,i,j⟩ _ σ1 E e G
 dsimp only [Z08_L1] at e
 refine dX ?_
 split at e
 refine cH ?_
 refine bD (A:=((List Int))×(Unit)) (fun a=>Z08_J2 b i j a.1=some E) (fun a=>[(0,(sc A2 b D2)),(3,(sc A4 (List.replicate (b.length:Int).toNat (0:Int)) D4)),(4,(iv i)),(5,(iv j))]) (fun a=>ow kT3 3 (.slice A4 (List.replicate (b.length:Int).toNat (0:Int)).length D4) a.1::F) ?_ ?_
 refine cE ?_
 obtain ⟨B,e⟩:=gd e
 refine aW ?_
 refine bC 1 aA (show 0<b.length by have:=B; omega) (fun M o25 u=>?_)
 subst u
 refine cU ?_
 split at e
 refine cE ?_
 obtain ⟨g,e⟩:=gd e
 refine bL ?_
 refine bC 0 aC (show 0<(List.replicate (b.length:Int).toNat (0:Int)).length by have:=g; omega) (fun O o29 u=>?_)
 subst u
 refine cE ?_
 refine eB (K:=kT3) (x':=i) 0 j R R cI R R g.1 g.2 ?_ ?_
 exact fun I h s=>(gF).put I h () i s
 refine cE ?_
 exact qI ((q.set j.toNat i),()) e tI
 refine bA ?_
 exact qI (q,()) e tI
 rintro ⟨U,_⟩ σ1 e
 dsimp only [Z08_J2] at e
 obtain ⟨D,e⟩:=gd e
 refine bL ?_
 refine bC 1 aA (show 0<b.length by have:=D; omega) (fun T o33 u=>?_)
 subst u
 refine iZ ?_
 cases e
 exact qA () tI
 refine aW ?_
 cases e
 obtain rfl:=G _ R
 have e:=J
 refine bA ?_
 exact qI (q,()) e tI
 rintro ⟨Y,_⟩ σ1 e
 dsimp only [Z08_J3] at e
 refine dX ?_
 cases e
 exact qF (A4,(List.replicate (b.length:Int).toNat (0:Int)).length,D4) (tE 2 [0])
theorem Zm_ok  {f1:form}{b:aP}{e:(List Int)}{r:(List Int)}(g:Zm f1 b e=some r) :
 FnOk Tryz.prog 206 [(.agg [(.slice A2 N2 D2),(aH f1.out_),(aH f1.order),(.slice A3 N3 D3),(.slice A4 N4 D4),(.slice A5 N5 D5),(.slice A6 N6 D6)].toArray),(aH b),(.slice A9 N9 D9)] [aO kT9 (.slice A2 N2 D2) f1.groups,aO kT3 (.slice A3 N3 D3) f1.loops,aO kT3 (.slice A4 N4 D4) f1.dims,aO kT23 (.slice A5 N5 D5) f1.steps,aO kT3 (.slice A6 N6 D6) f1.store,aO kT3 (.slice A9 N9 D9) e] (fun (h:HH)=>((s3 h),[ow kT3 3 (s3 h) r])):=by
 unfold Zm at g
 refine aR Tryz.func206 R 45 R R fun C V=>?_
 refine cL 0 aA ?_
 rintro rfl
 refine cL 1 aA ?_
 rintro rfl
 refine cL 2 aA ?_
 rintro rfl
 refine cL 3 aA ?_
 rintro rfl
 refine cL 4 aA ?_
 rintro rfl
 refine cL 5 aA ?_
 rintro rfl
 let W0:=RR kT9 A2 D2 f1.groups::RR kT3 A3 D3 f1.loops::RR kT3 A4 D4 f1.dims::RR kT23 A5 D5 f1.steps::RR kT3 A6 D6 f1.store::RR kT3 A9 D9 e::V
 refine cN W0 ?_
 refine bA ?_
 refine eJ R fun u=>?_
 refine bA ?_
 let F:=aJ u [(sc A2 f1.groups D2),(aH f1.out_),(aH f1.order),(sc A3 f1.loops D3),(sc A4 f1.dims D4),(sc A5 f1.steps D5),(sc A6 f1.store D6)] 198::W0
 refine qN F ?_
 refine bA ?_
 obtain ⟨B,g⟩:=gd g
 refine aW ?_
 refine lO (vz (il f1.order) (dT gH R)) (fH (K:=kT3) (m:=(f1.order.length:Int)) (z:=(0:Int)) R R bI cI jN (Zr.zk zT3 gB) (by decide) R R B.1 B.2.1 B.2.2 (fun A12 D12=>(lS R (aB (aE (aI (bD (A:=((List Int))×(Unit)) (fun a=>Zm_J7 a.1=some r) (fun a=>[(7,(sc A12 (List.replicate (f1.order.length:Int).toNat (0:Int)) D12))]) (fun a=>ow kT3 3 (.slice A12 (List.replicate (f1.order.length:Int).toNat (0:Int)).length D12) a.1::F) ?_ ?_)))))))
 refine dM ?_
 obtain ⟨e1,a0,Y⟩:=bd g
 refine bE (A:=Unit) a0 (fun s a=>[(1,(aH b)),(2,(sc A9 e D9)),(3,(pt u 0)),(7,(sc A12 (List.replicate (f1.order.length:Int).toNat (0:Int)) D12)),(15,(il (List.replicate (f1.order.length:Int).toNat (0:Int)))),(16,(iv s.2))]) (fun s a=>ow kT3 3 (.slice A12 (List.replicate (f1.order.length:Int).toNat (0:Int)).length D12) s.1::F) () (aS R) tI ?_
 rintro ⟨a2,i⟩ _ σ1 J g T
 dsimp only [Zm_L1] at g
 refine cH ?_
 split at g
 refine bL ?_
 refine bD (A:=((List Int))×(Unit)) (fun a=>Zm_J6 i a.1=some J) (fun a=>[(1,(aH b)),(2,(sc A9 e D9)),(3,(pt u 0)),(7,(sc A12 (List.replicate (f1.order.length:Int).toNat (0:Int)) D12)),(15,(il (List.replicate (f1.order.length:Int).toNat (0:Int)))),(16,(iv i))]) (fun a=>ow kT3 3 (.slice A12 (List.replicate (f1.order.length:Int).toNat (0:Int)).length D12) a.1::F) ?_ ?_
 refine lL ?_
 obtain ⟨e2,a1,Z⟩:=bd g
 refine bE (A:=Unit) a1 (fun s a=>[(1,(aH b)),(2,(sc A9 e D9)),(3,(pt u 0)),(7,(sc A12 (List.replicate (f1.order.length:Int).toNat (0:Int)) D12)),(8,(iv i)),(9,(iv s.2)),(15,(il (List.replicate (f1.order.length:Int).toNat (0:Int)))),(16,(iv i))]) (fun s a=>ow kT3 3 (.slice A12 (List.replicate (f1.order.length:Int).toNat (0:Int)).length D12) s.1::F) () (aS R) tI ?_
 rintro ⟨l,j⟩ _ σ1 L g U
 dsimp only [Zm_L2] at g
 refine bL ?_
 refine lO (vp (aH b) R) (lO (vz (il b) (dT gH R)) ?_)
 refine aW ?_
 split at g
 refine bL ?_
 refine bD (A:=((List Int))×(Unit)) (fun a=>Zm_J5 j a.1=some L) (fun a=>[(1,(aH b)),(2,(sc A9 e D9)),(3,(pt u 0)),(7,(sc A12 (List.replicate (f1.order.length:Int).toNat (0:Int)) D12)),(8,(iv i)),(9,(iv j)),(15,(il (List.replicate (f1.order.length:Int).toNat (0:Int)))),(16,(iv i))]) (fun a=>ow kT3 3 (.slice A12 (List.replicate (f1.order.length:Int).toNat (0:Int)).length D12) a.1::F) ?_ ?_
 refine bA ?_
 obtain ⟨D,g⟩:=gd g
 obtain ⟨E,g⟩:=gd g
 refine dE 8 [] bQ fun ht hn=>?_
 refine dR 0 R (vp (aH b) R) (dR 1 R (vI R) (dR 2 R (vz (.int .u8 (bt b j)) (cW gH R R D.1 D.2)) ?_))
 refine iM 3 [] ?_
 refine dR 6 R (vz (.int .u8 (bt f1.order i)) (cW gH R R E.1 E.2)) (dR 7 R (vp (.bool ((bt b j)==(bt f1.order i))) R) (dD (aE ?_)))
 split at g
 refine cE ?_
 obtain ⟨q,g⟩:=gd g
 obtain ⟨G,g⟩:=gd g
 refine bB 0 aC (show 0<(List.replicate (f1.order.length:Int).toNat (0:Int)).length by have:=q; omega) (fun M o69 O=>?_)
 subst O
 refine bB 7 aA (show 0<e.length by have:=G; omega) (fun a3 o72 O=>?_)
 subst O
 refine dE 11 [0] bQ fun ht hn=>?_
 refine iM 0 [0] ?_
 refine pd 4 [0] ?_
 refine d1 3 R (lO (gP 0 fC aC R q) (aB (aG (sL [0]) ?_)))
 refine iC 8 [0] ?_
 refine d1 10 R (lN (ow kT3 3 (.slice (ad M o69) (List.replicate (f1.order.length:Int).toNat (0:Int)).length D12) l::F) ?_)
 refine eB (K:=kT3) (x':=(aK ((ix l i)+(ix e j)))) 0 i R R cI R R q.1 q.2 ?_ ?_
 exact fun I h s=>(gF).put I h () (aK ((ix l i)+(ix e j))) s
 refine aB (aG (sL [0]) (dD (cT ?_)))
 exact qI ((l.set i.toNat (aK ((ix l i)+(ix e j)))),()) g tI
 refine aW ?_
 exact qI (l,()) g tI
 rintro ⟨a4,_⟩ σ1 g
 dsimp only [Zm_J5] at g
 refine cU ?_
 cases g
 exact qA () tI
 refine aW ?_
 cases g
 obtain rfl:=U _ R
 have g:=Z
 refine aW ?_
 exact qI (l,()) g tI
 rintro ⟨a5,_⟩ σ1 g
 dsimp only [Zm_J6] at g
 refine bL ?_
 cases g
 exact qA () tI
 refine aW ?_
 cases g
 obtain rfl:=T _ R
 have g:=Y
 refine bA ?_
 exact qI (a2,()) g tI
 rintro ⟨a6,_⟩ σ1 g
 dsimp only [Zm_J7] at g
 refine dX ?_
 cases g
 exact qF (A12,(List.replicate (f1.order.length:Int).toNat (0:Int)).length,D12) (tE 8 [0])
theorem Z4_ok  {ap:aP}{b:(List (List Int))}{mG:Int}{r:form×Bool}(i:Z4 ap b=some r) :
 FnOk Tryz.prog 203 [(aH ap),(.slice A3 N3 D3)] [aO kT23 (.slice A3 N3 D3) b,gl 0 mG] (fun (h:HH×HH×HH×HH×HH)=>((.tuple [(.agg [(s3 h.1),(aH r.1.out_),(aH r.1.order),(s3 h.2.1),(s3 h.2.2.1),(s3 h.2.2.2.1),(s3 h.2.2.2.2)].toArray),(.bool r.2)].toArray),[aO kT9 (s3 h.1) r.1.groups,aO kT3 (s3 h.2.1) r.1.loops,ow kT3 3 (s3 h.2.2.1) r.1.dims,ow kT23 23 (s3 h.2.2.2.1) r.1.steps,ow kT3 3 (s3 h.2.2.2.2) r.1.store])):=by
 unfold Z4 at i
 refine aR Tryz.func203 R 179 R R fun C V=>?_
 refine cL 0 aA ?_
 rintro rfl
 let Z:=RR kT23 A3 D3 b::gl 0 mG::V
 refine cN Z ?_
 refine bA ?_
 refine aY R R lc (fun b4=>(lB R (aB (aE (aI ?_)))))
 obtain ⟨g,d5,i⟩:=bd i
 refine aD (lO (vp (aH ap) R) (lM (gl 0 mG::_::Z) (fun w s=>(s.dg 2 R)) ?_))
 refine lC 1 Ab R (Zg_ok d5) R ?_
 rintro ⟨A7,N7,D7⟩
 refine aM 0 aA ?_
 rintro rfl
 refine lO (vT R) (lS R (lO (vp (aH g.2.1) R) (lB R (lS R (lO (vp (aH g.2.1) R) ?_)))))
 refine cU ?_
 refine cQ [(1,(sc A3 b D3)),(4,(pt b4 0)),(6,(sc A7 g.1 D7)),(7,(aH g.2.1)),(34,(.bool ((!g.2.2)||((g.1.length:Int) != (b.length:Int)))))] (aJ b4 [(.slice none 0 0),(aH ([]:aP)),(aH ([]:aP)),(.slice none 0 0),(.slice none 0 0),(.slice none 0 0),(.slice none 0 0)] 198::RR kT9 A7 D7 g.1::Z) ?_ ?_
 refine bL ?_
 rcases bo (!g.2.2) with cx | cx
 refine dX ?_
 exact qj (tE 2 [1,0])
 refine dX ?_
 exact qj (tE 2 [1,0])
 rintro σ1
 refine cE ?_
 split at i
 refine aW ?_
 refine lO (vz (.agg [(.slice none 0 0),(aH ([]:aP)),(aH ([]:aP)),(.slice none 0 0),(.slice none 0 0),(.slice none 0 0),(.slice none 0 0)].toArray) (aV nP lc R R)) (aL 0 R R j4 R R R R R R (lB R (aB (aE (bO (bP ?_))))))
 cases i
 exact cX (vs:=[(.agg [(.slice none 0 0),(aH ([]:aP)),(aH ([]:aP)),(.slice none 0 0),(.slice none 0 0),(.slice none 0 0),(.slice none 0 0)].toArray),(.bool false)]) (.inl R) ((none,0,0),(none,0,0),(none,0,0),(none,0,0),(none,0,0)) R ⟨⟨0,b4,_,_,R,R,.inl ⟨n9,j4,R⟩⟩,R,trivial⟩ R (fun w s=>((((((s.nilr kT9).nilr kT3).nilo kT3 3).nilo kT23 23).nilo kT3 3).e 9 [4,3,2,1,0]))
 refine cH ?_
 refine lO (vp (aH g.2.1) R) (lO (vp (aH g.2.1) R) (lO (vz (.agg [(sc A7 g.1 D7),(aH g.2.1),(aH g.2.1),(.slice none 0 0),(.slice none 0 0),(.slice none 0 0),(.slice none 0 0)].toArray) (aV nP lc R R)) (aY R R lc (fun J=>(aL 0 R R j4 R R R R R R (lN (aJ J [(sc A7 g.1 D7),(aH g.2.1),(aH g.2.1),(.slice none 0 0),(.slice none 0 0),(.slice none 0 0),(.slice none 0 0)] 198::_::_::Z) ?_))))))
 refine bL ?_
 refine lO (vz (.agg [(iv 0),(iv 0),(iv 0),(iv 0),(iv 0),(iv 0),(iv 0),(iv 0),(iv 0),(iv 0),(iv 0),(iv 0),(iv 0),(iv 0),(iv 0),(iv 0),(iv 0),(iv 0),(iv 0),(iv 0),(iv 0),(iv 0),(iv 0),(iv 0),(iv 0),(iv 0)].toArray) (xn tm wK cI)) (aY R R wK (fun T=>(aL 0 R R wL R R R R R R (aB (qM (ow kT3 201 (.slice (ad T 0) 26 26) (List.replicate 26 (0:Int))::_::_::_::Z) (fun w s=>s.b2o 0 (List.replicate 26 (0:Int)) R R R R) ?_)))))
 refine bA ?_
 refine bD (A:=(aP×(List Int))×(HH×HH)) (fun a=>Z4_J7 b g a.1.1 a.1.2=some r) (fun a=>[(1,(s3 a.2.1)),(4,(pt b4 0)),(6,(s3 a.2.2)),(7,(aH g.2.1)),(9,(pt J 0)),(10,(pt T 0))]) (fun a=>aO kT23 (s3 a.2.1) b::aJ b4 [(.slice none 0 0),(aH ([]:aP)),(aH ([]:aP)),(.slice none 0 0),(.slice none 0 0),(.slice none 0 0),(.slice none 0 0)] 198::aO kT9 (s3 a.2.2) g.1::aJ J [(s3 a.2.2),(aH g.2.1),(aH a.1.1),(.slice none 0 0),(.slice none 0 0),(.slice none 0 0),(.slice none 0 0)] 198::ow kT3 201 (.slice (ad T 0) 26 26) a.1.2::Z) ?_ ?_
 refine dM ?_
 obtain ⟨e1,d0,br⟩:=bd i
 refine bE (A:=HH×HH) d0 (fun s a=>[(1,(s3 a.1)),(4,(pt b4 0)),(6,(s3 a.2)),(7,(aH g.2.1)),(9,(pt J 0)),(10,(pt T 0)),(41,(s3 a.2)),(42,(il g.1)),(43,(iv s.2.2))]) (fun s a=>aO kT23 (s3 a.1) b::aJ b4 [(.slice none 0 0),(aH ([]:aP)),(aH ([]:aP)),(.slice none 0 0),(.slice none 0 0),(.slice none 0 0),(.slice none 0 0)] 198::aO kT9 (s3 a.2) g.1::aJ J [(s3 a.2),(aH g.2.1),(aH s.1),(.slice none 0 0),(.slice none 0 0),(.slice none 0 0),(.slice none 0 0)] 198::ow kT3 201 (.slice (ad T 0) 26 26) s.2.1::Z) ((A3,b.length,D3),(A7,g.1.length,D7)) (aS R) (fun w s=>((s.d 4 R).e 5 [0,3,4,2,1])) ?_
 rintro ⟨cw,bc,j⟩ ⟨⟨cs,cu,ae⟩,⟨ct,cv,a1⟩⟩ σ1 cp i bk
 dsimp only [Z4_L1] at i
 refine bJ 0 aA (fun (hn:cu=b.length)=>?_)
 subst hn
 refine bJ 2 aA (fun (hn:cv=g.1.length)=>?_)
 subst hn
 refine cH ?_
 split at i
 refine bL ?_
 refine bD (A:=(aP×(List Int))×(HH×HH)) (fun a=>Z4_J6 j a.1.1 a.1.2=some cp) (fun a=>[(1,(s3 a.2.1)),(4,(pt b4 0)),(6,(s3 a.2.2)),(7,(aH g.2.1)),(9,(pt J 0)),(10,(pt T 0)),(41,(s3 a.2.2)),(42,(il g.1)),(43,(iv j))]) (fun a=>aO kT23 (s3 a.2.1) b::aJ b4 [(.slice none 0 0),(aH ([]:aP)),(aH ([]:aP)),(.slice none 0 0),(.slice none 0 0),(.slice none 0 0),(.slice none 0 0)] 198::aO kT9 (s3 a.2.2) g.1::aJ J [(s3 a.2.2),(aH g.2.1),(aH a.1.1),(.slice none 0 0),(.slice none 0 0),(.slice none 0 0),(.slice none 0 0)] 198::ow kT3 201 (.slice (ad T 0) 26 26) a.1.2::Z) ?_ ?_
 refine bA ?_
 obtain ⟨b8,i⟩:=gd i
 refine bA ?_
 refine bC 2 aA (show 0<g.1.length by have:=b8; omega) (fun a4 o83 ha=>?_)
 subst ha
 refine cE ?_
 refine lO (vz (aH (ix g.1 j)) (ja (K:=kT9) (fo:=0) (pr:=fun x=>(aH x)) 2 j pI (dT9.leaf fun _ _=>R) aA R b8.1 b8.2)) (lI R (lO (vp (aH (ix g.1 j)) R) ?_))
 refine bL ?_
 obtain ⟨a6,i⟩:=gd i
 refine aD (lO (vp (aH (ix g.1 j)) R) (lO (vz (il (ix g.1 j)) (dT gH R)) (lS R (lI R (bC 0 aA (show 0<b.length by have:=a6; omega) (fun ag o86 ha=>?_))))))
 subst ha
 refine cE ?_
 refine gO (K:=kT23) 0 j dT23.dec R a6.1 a6.2 ?_
 rintro ⟨dv,dw⟩
 refine lO (eO (fo:=0) 0 bZ R R R) ?_
 refine bL ?_
 split at i
 refine aW ?_
 refine lO (vz (.agg [(.slice none 0 0),(aH ([]:aP)),(aH ([]:aP)),(.slice none 0 0),(.slice none 0 0),(.slice none 0 0),(.slice none 0 0)].toArray) (aV nP lc R R)) (aL 3 R R j4 R R R R R R (lB R (aB (aE (bO (bP (b' (bP ?_))))))))
 cases i
 obtain rfl:=bk _ R
 have i:=br
 refine aW ?_
 cases i
 exact cX (vs:=[(.agg [(.slice none 0 0),(aH ([]:aP)),(aH ([]:aP)),(.slice none 0 0),(.slice none 0 0),(.slice none 0 0),(.slice none 0 0)].toArray),(.bool false)]) (.inl R) ((none,0,0),(none,0,0),(none,0,0),(none,0,0),(none,0,0)) R ⟨⟨3,b4,_,_,R,R,.inl ⟨n9,j4,R⟩⟩,R,trivial⟩ R (fun w s=>((((((s.nilr kT9).nilr kT3).nilo kT3 3).nilo kT23 23).nilo kT3 3).e 14 [4,3,2,1,0]))
 refine dJ ?_
 obtain ⟨e2,d2,ck⟩:=bd i
 refine bE (A:=Unit) d2 (fun s a=>[(1,(sc (ad ag o86) b ae)),(4,(pt b4 0)),(6,(sc (ad a4 o83) g.1 a1)),(7,(aH g.2.1)),(9,(pt J 0)),(10,(pt T 0)),(11,(iv j)),(12,(aH (ix g.1 j))),(13,(iv s.2.2)),(41,(sc (ad a4 o83) g.1 a1)),(42,(il g.1)),(43,(iv j))]) (fun s a=>RR kT23 (ad ag o86) ae b::aJ b4 [(.slice none 0 0),(aH ([]:aP)),(aH ([]:aP)),(.slice none 0 0),(.slice none 0 0),(.slice none 0 0),(.slice none 0 0)] 198::RR kT9 (ad a4 o83) a1 g.1::aJ J [(sc (ad a4 o83) g.1 a1),(aH g.2.1),(aH s.1),(.slice none 0 0),(.slice none 0 0),(.slice none 0 0),(.slice none 0 0)] 198::ow kT3 201 (.slice (ad T 0) 26 26) s.2.1::Z) () (aS R) (fun w s=>(s.f 7 [2,5])) ?_
 rintro ⟨aa,Y,q⟩ _ σ1 cq i ci
 dsimp only [Z4_L2] at i
 refine bL ?_
 refine lO (vp (aH (ix g.1 j)) R) (lO (vz (il (ix g.1 j)) (dT gH R)) ?_)
 refine aW ?_
 split at i
 refine bL ?_
 refine bD (A:=(aP×(List Int))×(Unit)) (fun a=>Z4_J5 q a.1.1 a.1.2=some cq) (fun a=>[(1,(sc (ad ag o86) b ae)),(4,(pt b4 0)),(6,(sc (ad a4 o83) g.1 a1)),(7,(aH g.2.1)),(9,(pt J 0)),(10,(pt T 0)),(11,(iv j)),(12,(aH (ix g.1 j))),(13,(iv q)),(41,(sc (ad a4 o83) g.1 a1)),(42,(il g.1)),(43,(iv j))]) (fun a=>RR kT23 (ad ag o86) ae b::aJ b4 [(.slice none 0 0),(aH ([]:aP)),(aH ([]:aP)),(.slice none 0 0),(.slice none 0 0),(.slice none 0 0),(.slice none 0 0)] 198::RR kT9 (ad a4 o83) a1 g.1::aJ J [(sc (ad a4 o83) g.1 a1),(aH g.2.1),(aH a.1.1),(.slice none 0 0),(.slice none 0 0),(.slice none 0 0),(.slice none 0 0)] 198::ow kT3 201 (.slice (ad T 0) 26 26) a.1.2::Z) ?_ ?_
 refine bA ?_
 obtain ⟨ac,i⟩:=gd i
 obtain ⟨ai,i⟩:=gd i
 refine aD (lO (vp (aH (ix g.1 j)) R) (lI R (lO (vz (.int .u8 (bt (ix g.1 j) q)) (cW gH R R ac.1 ac.2)) (lO (vp (.int .u8 (IntKind.wrap .u8 ((bt (ix g.1 j) q) - 97))) R) (lO (vz (.pointer (some ⟨T,0+(IntKind.wrap .u8 ((bt (ix g.1 j) q) - 97)).toNat*1,none⟩)) (sT tm cI R R ai)) ?_)))))
 refine cU ?_
 obtain ⟨aj,i⟩:=gd i
 refine cQ [(1,(sc (ad ag o86) b ae)),(4,(pt b4 0)),(6,(sc (ad a4 o83) g.1 a1)),(7,(aH g.2.1)),(9,(pt J 0)),(10,(pt T 0)),(11,(iv j)),(12,(aH (ix g.1 j))),(13,(iv q)),(14,(.pointer (some ⟨T,0+(IntKind.wrap .u8 ((bt (ix g.1 j) q) - 97)).toNat*1,none⟩))),(41,(sc (ad a4 o83) g.1 a1)),(42,(il g.1)),(43,(iv j)),(84,(.bool (((ix Y (IntKind.wrap .u8 ((bt (ix g.1 j) q) - 97))) != 0)&&((ix Y (IntKind.wrap .u8 ((bt (ix g.1 j) q) - 97))) != (ix (ix b j) q)))))] (RR kT23 (ad ag o86) ae b::aJ b4 [(.slice none 0 0),(aH ([]:aP)),(aH ([]:aP)),(.slice none 0 0),(.slice none 0 0),(.slice none 0 0),(.slice none 0 0)] 198::RR kT9 (ad a4 o83) a1 g.1::aJ J [(sc (ad a4 o83) g.1 a1),(aH g.2.1),(aH aa),(.slice none 0 0),(.slice none 0 0),(.slice none 0 0),(.slice none 0 0)] 198::ow kT3 201 (.slice (ad T 0) 26 26) Y::Z) ?_ ?_
 rcases bo ((ix Y (IntKind.wrap .u8 ((bt (ix g.1 j) q) - 97))) != 0) with U | U
 refine dP (K:=kT23) 0 j dT23.dec R a6.1 a6.2 ?_
 rintro ⟨d6,db⟩
 refine bB 1 aA (show 0<(ix b j).length by have:=(aj U); omega) (fun dn o120 ha=>?_)
 subst ha
 refine dE 17 [] bQ fun ht hn=>?_
 refine pS 0 [] ?_
 refine dW 11 R (eM U) (eO (fo:=0) 0 bZ R R R) (dW 12 R (eM U) (vI R) (dW 13 R (eM U) (eA bI cI R R (aj U)) (dW 14 R (eM U) (gP 1 fC aA R (aj U)) ?_)))
 refine iC 15 [] ?_
 refine dD ?_
 exact qj (fun w s=>(s.f 7 [2,5]))
 refine dE 17 [] bQ fun ht hn=>?_
 refine zj 0 [] ?_
 refine dD ?_
 exact qj tI
 rintro σ1
 refine cE ?_
 split at i
 refine aW ?_
 refine lO (vz (.agg [(.slice none 0 0),(aH ([]:aP)),(aH ([]:aP)),(.slice none 0 0),(.slice none 0 0),(.slice none 0 0),(.slice none 0 0)].toArray) (aV nP lc R R)) (aL 1 R R j4 R R R R R R (lN (_::_::_::_::_::Z) ?_))
 refine dX ?_
 cases i
 obtain rfl:=ci _ R
 have i:=ck
 refine bL ?_
 cases i
 obtain rfl:=bk _ R
 have i:=br
 refine aW ?_
 cases i
 exact cX (vs:=[(.agg [(.slice none 0 0),(aH ([]:aP)),(aH ([]:aP)),(.slice none 0 0),(.slice none 0 0),(.slice none 0 0),(.slice none 0 0)].toArray),(.bool false)]) (.inl R) ((none,0,0),(none,0,0),(none,0,0),(none,0,0),(none,0,0)) R ⟨⟨1,b4,_,_,R,R,.inl ⟨n9,j4,R⟩⟩,R,trivial⟩ R (fun w s=>((((((s.nilr kT9).nilr kT3).nilo kT3 3).nilo kT23 23).nilo kT3 3).e 12 [4,3,2,1,0]))
 refine bL ?_
 obtain ⟨bl,i⟩:=gd i
 refine cU ?_
 refine gO (K:=kT23) 0 j dT23.dec R a6.1 a6.2 ?_
 rintro ⟨d7,bg⟩
 refine lO (eO (fo:=0) 0 bZ R R R) (lI R (bC 1 aA (show 0<(ix b j).length by have:=bl; omega) (fun bj o126 ha=>?_)))
 subst ha
 refine aW ?_
 refine lM (ow _ _ _ _::cl ag (o86+j.toNat*1) [(sc (ad bj o126) (ix b j) bg)]::RR kT3 (ad bj o126) bg (ix b j)::aO _ _ _::aJ _ _ _::aO _ _ _::aJ _ _ _::Z) (fun w s=>(s.f 7 [6,1,0,6])) ?_
 refine eB (K:=kT3) (x':=(ix (ix b j) q)) 0 (IntKind.wrap .u8 ((bt (ix g.1 j) q) - 97)) R R cI R R ai.1 ai.2 ?_ ?_
 exact fun I h s=>(gF).put I h () (ix (ix b j) q) s
 refine cE ?_
 obtain ⟨b9,ao,i⟩:=bd i
 replace ao:=Option.some.inj ao
 refine qM (ow kT3 201 (.slice (ad T 0) 26 26) b9::_::_::_::_::_::_::Z) (fun w s=>by rw [← ao]; exact s) ?_
 refine bA ?_
 obtain ⟨dt,bs,i⟩:=bd i
 refine dE 7 [] bQ fun ht hn=>?_
 refine iC 0 [] ?_
 refine dR 2 R (vp (aH (ix g.1 j)) R) (dR 3 R (vI R) (dR 4 R (vz (.int .u8 (bt (ix g.1 j) q)) (cW gH R R ac.1 ac.2)) (d1 5 R (lC 0 qX R (Z1z_ok bs) R ?_))))
 rintro _
 refine aB (aG (sL []) (dR 6 R (jz R R) (dD (aE ?_))))
 split at i
 refine cE ?_
 obtain ⟨ak,i⟩:=gd i
 obtain ⟨bm,i⟩:=gd i
 refine dE 10 [6] bQ fun ht hn=>?_
 refine pc 0 [6] ?_
 refine dR 2 R (vp (aH (ix g.1 j)) R) (hS:=(sL [6])) ?_
 refine iM 3 [6] ?_
 refine dR 6 R (vz (aH (sub (ix g.1 j) q (aK (q+1)))) (iH q (aK (q+1)) gH R R R ak.1 ak.2.1 ak.2.2)) (hS:=(sL [6])) (d1 1 R (lO (eH 6 pI R R R) (aB (aG (sL [6]) (dR 7 R (vz (aH (aa++(sub (ix g.1 j) q (aK (q+1))))) (o4 R R bm)) (hS:=(sL [6])) ?_)))))
 refine pc 8 [6] ?_
 refine d1 9 R (cO 6 R R rO R R R R R (lN (_::_::_::_::_::_::aJ J [(sc (ad a4 o83) g.1 a1),(aH g.2.1),(aH (aa++(sub (ix g.1 j) q (aK (q+1))))),(.slice none 0 0),(.slice none 0 0),(.slice none 0 0),(.slice none 0 0)] 198::Z) ?_))
 refine aB (aG (sL [6]) (dD (cT ?_)))
 exact qI (((aa++(sub (ix g.1 j) q (aK (q+1)))),b9),()) i (fun w s=>(s.f 7 [3,4,0,1]))
 refine aW ?_
 exact qI ((aa,b9),()) i (fun w s=>(s.f 7 [3,4,0,1]))
 rintro ⟨⟨dl,cn⟩,_⟩ σ1 i
 dsimp only [Z4_J5] at i
 refine cU ?_
 cases i
 exact qA () tI
 refine aW ?_
 cases i
 obtain rfl:=ci _ R
 have i:=ck
 refine aW ?_
 exact qI ((aa,Y),(((ad ag o86),b.length,ae),((ad a4 o83),g.1.length,a1))) i tI
 rintro ⟨⟨dm,co⟩,⟨⟨c2,c8,c5⟩,⟨c3,c9,c6⟩⟩⟩ σ1 i
 dsimp only [Z4_J6] at i
 refine bJ 0 aA (fun (hn:c8=b.length)=>?_)
 subst hn
 refine bJ 2 aA (fun (hn:c9=g.1.length)=>?_)
 subst hn
 refine bL ?_
 cases i
 exact qA ((c2,b.length,c5),(c3,g.1.length,c6)) tI
 refine aW ?_
 cases i
 obtain rfl:=bk _ R
 have i:=br
 refine bA ?_
 exact qI ((cw,bc),((cs,b.length,ae),(ct,g.1.length,a1))) i tI
 rintro ⟨⟨l,O⟩,⟨⟨a8,ca,a9⟩,⟨E,cb,m⟩⟩⟩ σ1 i
 dsimp only [Z4_J7] at i
 refine bJ 0 aA (fun (hn:ca=b.length)=>?_)
 subst hn
 refine bJ 2 aA (fun (hn:cb=g.1.length)=>?_)
 subst hn
 refine cH ?_
 refine bD (A:=((List Int))×(HH)) (fun a=>Z4_J8 b g l a.1=some r) (fun a=>[(1,(sc a8 b a9)),(4,(pt b4 0)),(6,(sc E g.1 m)),(7,(aH g.2.1)),(9,(pt J 0))]) (fun a=>RR kT23 a8 a9 b::aJ b4 [(.slice none 0 0),(aH ([]:aP)),(aH ([]:aP)),(.slice none 0 0),(.slice none 0 0),(.slice none 0 0),(.slice none 0 0)] 198::RR kT9 E m g.1::aJ J [(sc E g.1 m),(aH g.2.1),(aH l),(s3 a.2),(.slice none 0 0),(.slice none 0 0),(.slice none 0 0)] 198::ow kT3 3 (s3 a.2) a.1::Z) ?_ ?_
 refine cH ?_
 obtain ⟨e3,d3,cm⟩:=bd i
 refine bE (A:=HH) d3 (fun s a=>[(1,(sc a8 b a9)),(4,(pt b4 0)),(6,(sc E g.1 m)),(7,(aH g.2.1)),(9,(pt J 0)),(10,(pt T 0)),(15,(iv s.2.1)),(16,(iv s.2.2))]) (fun s a=>RR kT23 a8 a9 b::aJ b4 [(.slice none 0 0),(aH ([]:aP)),(aH ([]:aP)),(.slice none 0 0),(.slice none 0 0),(.slice none 0 0),(.slice none 0 0)] 198::RR kT9 E m g.1::aJ J [(sc E g.1 m),(aH g.2.1),(aH l),(s3 a),(.slice none 0 0),(.slice none 0 0),(.slice none 0 0)] 198::ow kT3 3 (s3 a) s.1::ow kT3 201 (.slice (ad T 0) 26 26) O::Z) (none,0,0) (aS R) (fun w s=>((s.nilo kT3 3).e 6 [1,2,3,4,0,5])) ?_
 rintro ⟨ab,cr,a5⟩ ⟨c4,cc,c7⟩ σ1 dr i cj
 dsimp only [Z4_L3] at i
 refine bJ 4 aC (fun (hn:cc=ab.length)=>?_)
 subst hn
 refine cH ?_
 refine lO (vz (il l) (dT gH R)) ?_
 refine aW ?_
 split at i
 refine cH ?_
 obtain ⟨b7,i⟩:=gd i
 obtain ⟨bn,i⟩:=gd i
 refine bL ?_
 refine lO (vz (.int .u8 (bt l a5)) (cW gH R R b7.1 b7.2)) (lO (vp (.int .u8 (IntKind.wrap .u8 ((bt l a5) - 97))) R) (lO (vz (.pointer (some ⟨T,0+(IntKind.wrap .u8 ((bt l a5) - 97)).toNat*1,none⟩)) (sT tm cI R R bn)) ?_))
 refine cU ?_
 obtain ⟨bp,i⟩:=gd i
 refine bL ?_
 refine bK (K:=kT3) (xs:=([(ix O (IntKind.wrap .u8 ((bt l a5) - 97)))]:List Int)) (vs:=[(iv (ix O (IntKind.wrap .u8 ((bt l a5) - 97))))]) 0 R R bI cI gB R R R R R R ?_ R (fun d8 dc=>?_)
 exact fun I h s=>(gF).list [((),(ix O (IntKind.wrap .u8 ((bt l a5) - 97))))] I h s
 refine lM (ow _ _ _ _::ow _ _ _ _::aO _ _ _::aJ _ _ _::aO _ _ _::aJ _ _ _::ow _ _ _ _::Z) (fun w s=>(s.f 7 [5,1,0,5,6,1])) ?_
 refine dV (K:=kT3) 17592186044416 R R bI cI jN (Zr.zk zT3 gB) R R R R R R dA bp (fun ax b1=>(lN (OO kT3 3 ax b1 (ab++([(ix O (IntKind.wrap .u8 ((bt l a5) - 97)))]:List Int))::_::_::_::_::_::Z) ?_))
 refine cE ?_
 refine cO 4 R R eX R R R R R (lN (_::_::_::_::aJ J [(sc E g.1 m),(aH g.2.1),(aH l),(sc ax (ab++([(ix O (IntKind.wrap .u8 ((bt l a5) - 97)))]:List Int)) b1),(.slice none 0 0),(.slice none 0 0),(.slice none 0 0)] 198::_::Z) ?_)
 refine xt ?_
 split at i
 refine aW ?_
 refine lO (vz (.agg [(.slice none 0 0),(aH ([]:aP)),(aH ([]:aP)),(.slice none 0 0),(.slice none 0 0),(.slice none 0 0),(.slice none 0 0)].toArray) (aV nP lc R R)) (aL 2 R R j4 R R R R R R (lB R (aB (aE (bO (b' (bP ?_)))))))
 cases i
 obtain rfl:=cj _ R
 have i:=cm
 refine aW ?_
 cases i
 exact cX (vs:=[(.agg [(.slice none 0 0),(aH ([]:aP)),(aH ([]:aP)),(.slice none 0 0),(.slice none 0 0),(.slice none 0 0),(.slice none 0 0)].toArray),(.bool false)]) (.inl R) ((none,0,0),(none,0,0),(none,0,0),(none,0,0),(none,0,0)) R ⟨⟨2,b4,_,_,R,R,.inl ⟨n9,j4,R⟩⟩,R,trivial⟩ R (fun w s=>((((((s.nilr kT9).nilr kT3).nilo kT3 3).nilo kT23 23).nilo kT3 3).e 13 [4,3,2,1,0]))
 refine dJ ?_
 cases i
 exact qA (ax,(ab++([(ix O (IntKind.wrap .u8 ((bt l a5) - 97)))]:List Int)).length,b1) (tE 6 [1,2,3,4,0,5])
 refine aW ?_
 cases i
 obtain rfl:=cj _ R
 have i:=cm
 refine bA ?_
 exact qI (ab,(c4,ab.length,c7)) i (fun w s=>(s.f 6 [0,5]))
 rintro ⟨D,⟨L,cf,M⟩⟩ σ1 i
 dsimp only [Z4_J8] at i
 refine bJ 4 aC (fun (hn:cf=D.length)=>?_)
 subst hn
 refine cE ?_
 obtain ⟨al,i⟩:=gd i
 obtain ⟨u,bu,i⟩:=bd i
 refine aW ?_
 refine lO (vp (aH g.2.1) R) (lO (vz (il g.2.1) (dT gH R)) (fS (fun w s=>s.shr 4 R) (gZ (K:=kT3) (0:Int) (g.2.1.length:Int) 0 R R bI cI R R R R al.1 al.2.1 al.2.2 (fun be bh=>(lM (RR kT3 be bh (sub D (0:Int) (g.2.1.length:Int))::RR kT3 be bh (sub D (0:Int) (g.2.1.length:Int))::RR kT3 L M D::_::_::_::aJ J [(sc E g.1 m),(aH g.2.1),(aH l),(sc L D M),(.slice none 0 0),(.slice none 0 0),(.slice none 0 0)] 198::Z) (fun w s=>(s.d 0 R)) ?_)))))
 refine lC 1 iQ R (Zc_ok bu) R ?_
 rintro ⟨F,df,G⟩
 refine aM 0 aC ?_
 rintro rfl
 refine cE ?_
 refine cO 6 R R eX R R R R R (lN (_::_::_::_::_::_::aJ J [(sc E g.1 m),(aH g.2.1),(aH l),(sc L D M),(sc F u G),(.slice none 0 0),(.slice none 0 0)] 198::Z) ?_)
 refine bL ?_
 obtain ⟨du,bv,i⟩:=bd i
 refine aW ?_
 refine lC 1 lR R (FnOk.lends (A':=[OO kT3 3 F G u]) (A:=[RR kT3 F G u]) (B:=[]) (Zf_ok bv) ⟨aQ,trivial⟩ (fun _=>trivial)) R ?_
 rintro _
 refine aW ?_
 split at i
 refine aW ?_
 refine lO (vz (.agg [(.slice none 0 0),(aH ([]:aP)),(aH ([]:aP)),(.slice none 0 0),(.slice none 0 0),(.slice none 0 0),(.slice none 0 0)].toArray) (aV nP lc R R)) (aL 4 R R j4 R R R R R R (lB R (aB (aE (bO (bP ?_))))))
 cases i
 exact cX (vs:=[(.agg [(.slice none 0 0),(aH ([]:aP)),(aH ([]:aP)),(.slice none 0 0),(.slice none 0 0),(.slice none 0 0),(.slice none 0 0)].toArray),(.bool false)]) (.inl R) ((none,0,0),(none,0,0),(none,0,0),(none,0,0),(none,0,0)) R ⟨⟨4,b4,_,_,R,R,.inl ⟨n9,j4,R⟩⟩,R,trivial⟩ R (fun w s=>((((((s.nilr kT9).nilr kT3).nilo kT3 3).nilo kT23 23).nilo kT3 3).e 14 [4,3,2,1,0]))
 refine bL ?_
 refine bD (A:=((List (List Int)))×(HH)) (fun a=>Z4_J9 g l D u a.1=some r) (fun a=>[(4,(pt b4 0)),(7,(aH g.2.1)),(9,(pt J 0))]) (fun a=>aJ b4 [(.slice none 0 0),(aH ([]:aP)),(aH ([]:aP)),(.slice none 0 0),(.slice none 0 0),(.slice none 0 0),(.slice none 0 0)] 198::aJ J [(sc E g.1 m),(aH g.2.1),(aH l),(sc L D M),(sc F u G),(s3 a.2),(.slice none 0 0)] 198::RR kT9 E m g.1::RR kT3 L M D::OO kT3 3 F G u::ow kT23 23 (s3 a.2) a.1::Z) ?_ ?_
 refine dM ?_
 obtain ⟨e4,d4,cz⟩:=bd i
 refine bE (A:=HH) d4 (fun s a=>[(1,(sc a8 b a9)),(4,(pt b4 0)),(7,(aH g.2.1)),(9,(pt J 0)),(150,(sc E g.1 m)),(151,(il g.1)),(152,(iv s.2))]) (fun s a=>RR kT23 a8 a9 b::aJ b4 [(.slice none 0 0),(aH ([]:aP)),(aH ([]:aP)),(.slice none 0 0),(.slice none 0 0),(.slice none 0 0),(.slice none 0 0)] 198::aJ J [(sc E g.1 m),(aH g.2.1),(aH l),(sc L D M),(sc F u G),(s3 a),(.slice none 0 0)] 198::RR kT9 E m g.1::RR kT3 L M D::OO kT3 3 F G u::ow kT23 23 (s3 a) s.1::Z) (none,0,0) (aS R) (fun w s=>((s.nilo kT23 23).e 8 [4,5,7,6,3,1,0])) ?_
 rintro ⟨a0,ah⟩ ⟨aq,cg,au⟩ σ1 ds i cy
 dsimp only [Z4_L4] at i
 refine bJ 6 aC (fun (hn:cg=a0.length)=>?_)
 subst hn
 refine cH ?_
 split at i
 refine cH ?_
 obtain ⟨am,i⟩:=gd i
 refine bA ?_
 refine bC 3 aA (show 0<g.1.length by have:=am; omega) (fun b6 o207 ha=>?_)
 subst ha
 refine cE ?_
 refine lO (vz (aH (ix g.1 ah)) (ja (K:=kT9) (fo:=0) (pr:=fun x=>(aH x)) 3 ah pI (dT9.leaf fun _ _=>R) aA R am.1 am.2)) (lI R (lO (vp (aH (ix g.1 ah)) R) ?_))
 refine bA ?_
 obtain ⟨an,i⟩:=gd i
 obtain ⟨ba,bw,i⟩:=bd i
 obtain ⟨a7,bz,i⟩:=bd i
 obtain ⟨bq,i⟩:=gd i
 refine bB 0 aA (show 0<b.length by have:=an; omega) (fun dq o210 ha=>?_)
 subst ha
 refine dP (K:=kT23) 0 ah dT23.dec R an.1 an.2 ?_
 rintro ⟨d9,dd⟩
 refine dE 11 [] bQ fun ht hn=>?_
 refine iM 0 [] ?_
 refine dR 3 R (vp (aH (ix g.1 ah)) R) ?_
 refine iM 4 [] ?_
 refine dR 7 R (eO (fo:=0) 0 bZ R R R) (d1 8 R (lM (_::_::_::_::_::_::_::_::_::_::Z) (fun w s=>(s.d 1 R)) ?_))
 refine lC 1 tn R (Z08_ok bw) R ?_
 rintro ⟨ay,dh,b2⟩
 refine aM 0 aC ?_
 rintro rfl
 refine aB (aG (sL [0]) (d1 9 R (lM (ow _ _ _ _::ow _ _ _ _::ow _ _ _ _::aO _ _ _::aO _ _ _::aO kT3 (.slice none 0 0) ([]:List Int)::cl _ _ _::aO _ _ _::aO _ _ _::aJ _ _ _::aJ _ _ _::aO _ _ _::aO _ _ _::Z) (fun w s=>((((s.d 6 R).d 8 R).nilr kT3).f 13 [11,2,3,1,2,1,1,1,0,1,4,7])) ?_)))
 refine lC 6 wM R (FnOk.lends (A':=[OO kT3 3 F G u,OO kT23 23 aq au a0,OO kT3 3 ay b2 ba]) (A:=[RR kT3 F G u,RR kT23 aq au a0,RR kT3 ay b2 ba]) (B:=[RR kT9 (ad b6 o207) m g.1,RR kT3 L M D,aO kT3 (.slice none 0 0) ([]:List Int)]) (FnOk.perm (Zm_ok (f1:=(⟨g.1,g.2.1,l,D,u,a0,([]:List Int)⟩:form)) bz) (Pre':=[RR kT3 F G u,RR kT23 aq au a0,RR kT3 ay b2 ba,RR kT9 (ad b6 o207) m g.1,RR kT3 L M D,aO kT3 (.slice none 0 0) ([]:List Int)]) (fun _ _ _ s=>(s.e 6 [3,4,0,1,5,2]))) ⟨aQ,aQ,aQ,trivial⟩ (fun _=>⟨(bH iP),trivial⟩)) R ?_
 rintro ⟨bf,di,bi⟩
 refine aM 3 aC ?_
 rintro rfl
 refine aB (aG (fun w s=>(s.f 11 [4,7,0,2])) (d1 10 R (lM (ow _ _ _ _::ow _ _ _ _::ow _ _ _ _::ow _ _ _ _::cl _ _ _::aO _ _ _::aO _ _ _::aJ _ _ _::aJ _ _ _::aO _ _ _::aO _ _ _::Z) (fun w s=>(s.f 11 [3,1,0,3,4,7])) ?_)))
 refine bK (K:=kT23) (xs:=([a7]:List (List Int))) (vs:=[(sc bf a7 bi)]) 1 R R jp eX kO R R R R R R ?_ R (fun da de=>?_)
 exact fun I h s=>(mZ).list [((sc bf a7 bi),a7)] I h s
 refine aB (aG (fun w s=>(s.f 11 [4,7,1,2])) (d1 11 R (lM (ow _ _ _ _::ow _ _ _ _::ow _ _ _ _::ow _ _ _ _::cl _ _ _::aO _ _ _::aO _ _ _::aJ _ _ _::aJ _ _ _::aO _ _ _::aO _ _ _::Z) (fun w s=>(s.f 11 [2,1,0,2,3,8])) ?_)))
 refine dV (K:=kT23) 5864062014805 R R jp eX tj (Zr.zk zT23 kO) R R R R R R dA bq (fun az b3=>(lN (OO kT23 23 az b3 (a0++([a7]:List (List Int)))::_::_::_::_::_::_::_::_::_::Z) ?_))
 refine aB (qE (d1 12 R (lO (eC 5 qY R) (aB (qE (d1 13 R (cO 7 R R Ac R R R R R (lN (_::_::_::_::_::_::_::aJ J [(sc (ad b6 o207) g.1 m),(aH g.2.1),(aH l),(sc L D M),(sc F u G),(sc az (a0++([a7]:List (List Int))) b3),(.slice none 0 0)] 198::_::_::Z) ?_))))))))
 refine aB (qE (dD ?_))
 refine cH ?_
 cases i
 exact qA (az,(a0++([a7]:List (List Int))).length,b3) (fun w s=>(s.f 10 [5,5,1,1,0,1]))
 refine aW ?_
 cases i
 obtain rfl:=cy _ R
 have i:=cz
 refine bA ?_
 exact qI (a0,(aq,a0.length,au)) i (fun w s=>(s.f 7 [1,6]))
 rintro ⟨f224,⟨a2,ch,a3⟩⟩ σ1 i
 dsimp only [Z4_J9] at i
 refine bJ 5 aC (fun (hn:ch=f224.length)=>?_)
 subst hn
 refine cE ?_
 obtain ⟨bb,c0,i⟩:=bd i
 obtain ⟨aw,c1,i⟩:=bd i
 refine dE 7 [] bQ fun ht hn=>?_
 refine pc 0 [] ?_
 refine dR 1 R (vp (aH g.2.1) R) ?_
 refine iC 2 [] ?_
 refine d1 4 R (lM (ow _ _ _ _::aJ _ _ _::aJ J [(sc E g.1 m),(aH g.2.1),(aH l),(sc L D M),(sc F u G),(sc a2 f224 a3),(.slice none 0 0)] 198::RR kT9 E m g.1::aO _ _ _::OO kT23 23 a2 a3 f224::Z) (tE 6 [4,0,1,2,3,5]) ?_)
 refine lC 1 tn R (FnOk.lends (A':=[OO kT3 3 F G u]) (A:=[RR kT3 F G u]) (B:=[]) (Z08_ok c0) ⟨aQ,trivial⟩ (fun _=>⟨(bH iP),trivial⟩)) R ?_
 rintro ⟨b0,dj,b5⟩
 refine aM 1 aC ?_
 rintro rfl
 refine aB (aG (tE 7 [2,3,4,5,0,6]) (d1 5 R (lM (ow _ _ _ _::ow _ _ _ _::ow _ _ _ _::aO _ _ _::aO _ _ _::aO kT3 (.slice none 0 0) ([]:List Int)::aJ _ _ _::aJ _ _ _::aO _ _ _::aO _ _ _::Z) (fun w s=>((((s.d 4 R).d 6 R).nilr kT3).e 10 [3,9,4,2,1,0,5,6,7,8])) ?_)))
 refine lC 6 wM R (FnOk.lends (A':=[OO kT3 3 F G u,OO kT23 23 a2 a3 f224,OO kT3 3 b0 b5 bb]) (A:=[RR kT3 F G u,RR kT23 a2 a3 f224,RR kT3 b0 b5 bb]) (B:=[RR kT9 E m g.1,RR kT3 L M D,aO kT3 (.slice none 0 0) ([]:List Int)]) (FnOk.perm (Zm_ok (f1:=(⟨g.1,g.2.1,l,D,u,f224,([]:List Int)⟩:form)) c1) (Pre':=[RR kT3 F G u,RR kT23 a2 a3 f224,RR kT3 b0 b5 bb,RR kT9 E m g.1,RR kT3 L M D,aO kT3 (.slice none 0 0) ([]:List Int)]) (fun _ _ _ s=>(s.e 6 [3,4,0,1,5,2]))) ⟨aQ,aQ,aQ,trivial⟩ (fun _=>⟨(bH iP),trivial⟩)) R ?_
 rintro ⟨ar,dk,av⟩
 refine aM 3 aC ?_
 rintro rfl
 refine aB (aG (fun w s=>(s.f 8 [4,4,0,2])) (dR 6 R (eC 6 qZ R) (hS:=(fun w s=>(s.f 8 [4,4,0,2]))) (d1 7 R (cO 5 R R eX R R R R R (lN (_::_::_::_::_::aJ J [(sc E g.1 m),(aH g.2.1),(aH l),(sc L D M),(sc F u G),(sc a2 f224 a3),(sc ar aw av)] 198::_::_::Z) ?_)))))
 refine aB (qE (dD ?_))
 refine bL ?_
 refine aL 4 R R j4 R R R R R R (lN (_::_::_::_::aJ b4 [(sc E g.1 m),(aH g.2.1),(aH l),(sc L D M),(sc F u G),(sc a2 f224 a3),(sc ar aw av)] 198::_::_::_::Z) ?_)
 refine bL ?_
 cases i
 exact cX (vs:=[(.agg [(sc E g.1 m),(aH g.2.1),(aH l),(sc L D M),(sc F u G),(sc a2 f224 a3),(sc ar aw av)].toArray),(.bool true)]) (.inl R) ((E,g.1.length,m),(L,D.length,M),(F,u.length,G),(a2,f224.length,a3),(ar,aw.length,av)) R ⟨⟨4,b4,_,_,R,R,.inl ⟨n9,j4,R⟩⟩,R,trivial⟩ R (tE 10 [6,7,0,1,3])
theorem Z32_ok  {k1:formKind}{a:Node}{g:(List (List Int))}{mG:Int}{r:(List Int)×Bool}(m:Z32 k1 a g=some r) :
 FnOk Tryz.prog 201 [(.agg [].toArray),(.agg [(iv a.Op),(.slice A3 N3 D3),(.slice A4 N4 D4),(.slice A5 N5 D5),(aH a.Form),(.slice A6 N6 D6)].toArray),(.slice A8 N8 D8)] [aO kT3 (.slice A3 N3 D3) a.Args,aO kT3 (.slice A4 N4 D4) a.Dims,aO kT3 (.slice A5 N5 D5) a.Ints,aO kT3 (.slice A6 N6 D6) a.Data,aO kT23 (.slice A8 N8 D8) g,gl 0 mG] (fun (h:HH)=>((.tuple [(s3 h),(.bool r.2)].toArray),[ow kT3 3 (s3 h) r.1])):=by
 unfold Z32 at m
 refine aR Tryz.func201 R 20 R R fun C V=>?_
 refine cL 0 aA ?_
 rintro rfl
 refine cL 1 aA ?_
 rintro rfl
 refine cL 2 aA ?_
 rintro rfl
 refine cL 3 aA ?_
 rintro rfl
 refine cL 4 aA ?_
 rintro rfl
 let J:=RR kT3 A3 D3 a.Args::RR kT3 A4 D4 a.Dims::RR kT3 A5 D5 a.Ints::RR kT3 A6 D6 a.Data::RR kT23 A8 D8 g::gl 0 mG::V
 refine cN J ?_
 refine bA ?_
 refine eJ R fun Y=>?_
 refine eJ R fun G=>?_
 refine aW ?_
 let L:=aJ G [(iv a.Op),(sc A3 a.Args D3),(sc A4 a.Dims D4),(sc A5 a.Ints D5),(aH a.Form),(sc A6 a.Data D6)] 65::aJ Y [] 128::J
 refine qN L ?_
 refine bA ?_
 obtain ⟨b,l,m⟩:=bd m
 refine bL ?_
 refine lM _ (fun w s=>(((s.d 6 R).dg 8 R).e 2 [1,0])) ?_
 refine lC 2 Ad R (Z4_ok l) R ?_
 rintro ⟨⟨q,M,D⟩,⟨A14,N14,D14⟩,⟨i,O,j⟩,⟨u,T,E⟩,⟨B,U,F⟩⟩
 refine aM 0 aA ?_
 rintro rfl
 refine aM 1 aA ?_
 rintro rfl
 refine aM 2 aC ?_
 rintro rfl
 refine aM 3 aC ?_
 rintro rfl
 refine aM 4 aC ?_
 rintro rfl
 refine lO (vT R) (lO (vA R) (lB R (aY R R lc (fun I=>(aL 0 R R j4 R R R R R R (lN (aJ I [(sc q b.1.groups D),(aH b.1.out_),(aH b.1.order),(sc A14 b.1.loops D14),(sc i b.1.dims j),(sc u b.1.steps E),(sc B b.1.store F)] 198::_::_::_::_::_::L) ?_))))))
 refine lL ?_
 cases m
 exact ka (i,b.1.dims.length,j) (tE 14 [3])
theorem Z2v_ok  {a:(List Int)}{r:View}(b:Z2v a=some r) :
 FnOk Tryz.prog 158 [(.slice A2 N2 D2)] [aO kT3 (.slice A2 N2 D2) a] (fun (h:HH×HH)=>((.agg [(s3 h.1),(s3 h.2),(iv r.Offset),(iv r.Base)].toArray),[ow kT3 3 (s3 h.1) r.Dims,ow kT3 3 (s3 h.2) r.Strides])):=by
 unfold Z2v at b
 refine aR Tryz.func158 R 14 R R fun C V=>?_
 refine cL 0 aA ?_
 rintro rfl
 let B:=RR kT3 A2 D2 a::V
 refine cN B ?_
 refine bA ?_
 refine aY R R cF (fun D=>(aB (aE (aI (aI ?_)))))
 obtain ⟨E,m,b⟩:=bd b
 refine bA ?_
 refine lM _ (fun w s=>(s.d 1 R)) ?_
 refine lC 1 lR R (Zf_ok m) R ?_
 rintro _
 refine aW ?_
 split at b
 refine aW ?_
 refine lO (vz (.agg [(.slice none 0 0),(.slice none 0 0),(iv 0),(iv 0)].toArray) (aV eE cF R R)) (aL 0 R R bW R R R R R R (aB (aE (bO (bP ?_)))))
 cases b
 exact qS ((none,0,0),(none,0,0)) (fun w s=>(((s.nilo kT3 3).nilo kT3 3).e 4 [1,0]))
 refine bL ?_
 obtain ⟨u,q,b⟩:=bd b
 obtain ⟨g,i,b⟩:=bd b
 obtain ⟨l,j,b⟩:=bd b
 refine bA ?_
 refine lM _ (fun w s=>(s.d 1 R)) ?_
 refine lC 1 iQ R (Zc_ok q) R ?_
 rintro ⟨A9,N9,D9⟩
 refine aM 0 aC ?_
 rintro rfl
 refine lS R (lM _ (fun w s=>(s.d 2 R)) ?_)
 refine lC 1 tn R (Z08_ok i) R ?_
 rintro ⟨A12,N12,D12⟩
 refine aM 0 aC ?_
 rintro rfl
 refine lS R (lM _ (fun w s=>(s.d 3 R)) ?_)
 refine lC 1 mq R (Zo_ok j) R ?_
 rintro _
 refine lO (vz (.agg [(sc A9 u D9),(sc A12 g D12),(iv 0),(iv l)].toArray) (aV eE cF R R)) (aL 2 R R bW R R R R R R (lN (_::_::aJ D [(sc A9 u D9),(sc A12 g D12),(iv 0),(iv l)] 111::B) ?_))
 refine aW ?_
 cases b
 exact qS ((A9,u.length,D9),(A12,g.length,D12)) (tE 4 [1,0])
theorem Zk_ok  {v1:View}{r:Bool}(e:Zk v1=some r) :
 FnOk Tryz.prog 156 [(.agg [(.slice A2 N2 D2),(.slice A3 N3 D3),(iv v1.Offset),(iv v1.Base)].toArray)] [aO kT3 (.slice A2 N2 D2) v1.Dims,aO kT3 (.slice A3 N3 D3) v1.Strides] (fun (h:Unit)=>((.bool r),[])):=by
 unfold Zk at e
 refine aR Tryz.func156 R 91 R R fun C V=>?_
 refine cL 0 aA ?_
 rintro rfl
 refine cL 1 aA ?_
 rintro rfl
 let W0:=RR kT3 A2 D2 v1.Dims::RR kT3 A3 D3 v1.Strides::V
 refine cN W0 ?_
 refine bA ?_
 refine eJ R fun B=>?_
 refine bA ?_
 let m:=aJ B [(sc A2 v1.Dims D2),(sc A3 v1.Strides D3),(iv v1.Offset),(iv v1.Base)] 111::W0
 refine qN m ?_
 refine aW ?_
 obtain ⟨u,a2,e⟩:=bd e
 refine cQ [(1,(pt B 0)),(41,(.bool ((((((!u)||((v1.Strides.length:Int) != (v1.Dims.length:Int)))||(decide (v1.Base<1)))||(decide (v1.Base>4096)))||(decide (v1.Offset<0)))||(decide (v1.Offset≥v1.Base)))))] (m) ?_ ?_
 refine aW ?_
 refine lM _ (fun w s=>(s.d 1 R)) ?_
 refine lC 1 lR R (Zf_ok a2) R ?_
 rintro _
 refine lN m ?_
 refine bA ?_
 rcases bo (!u) with Y | Y
 refine xu ?_
 exact qj tI
 refine dJ ?_
 rcases bo ((!u)||((v1.Strides.length:Int) != (v1.Dims.length:Int))) with Z | Z
 refine zi ?_
 exact qj tI
 refine cU ?_
 rcases bo (((!u)||((v1.Strides.length:Int) != (v1.Dims.length:Int)))||(decide (v1.Base<1))) with a0 | a0
 refine rL ?_
 exact qj tI
 refine cU ?_
 rcases bo ((((!u)||((v1.Strides.length:Int) != (v1.Dims.length:Int)))||(decide (v1.Base<1)))||(decide (v1.Base>4096))) with D | D
 refine iZ ?_
 exact qj tI
 refine cU ?_
 rcases bo (((((!u)||((v1.Strides.length:Int) != (v1.Dims.length:Int)))||(decide (v1.Base<1)))||(decide (v1.Base>4096)))||(decide (v1.Offset<0))) with E | E
 refine dX ?_
 exact qj tI
 refine dX ?_
 exact qj tI
 rintro σ1
 refine cE ?_
 split at e
 refine dM ?_
 cases e
 exact qF () (tE 3 [])
 refine bL ?_
 refine dE 6 [] bQ fun ht hn=>?_
 refine t2 0 [] ?_
 refine dD (aE (aI (bD (A:=(Int×Int)×(Unit)) (fun a=>Zk_J1 v1 a.1.1 a.1.2=some r) (fun a=>[(1,(pt B 0)),(3,(iv a.1.1)),(4,(iv a.1.2))]) (fun a=>m) ?_ ?_)))
 refine dJ ?_
 obtain ⟨e1,a1,O⟩:=bd e
 refine bE (A:=HH) a1 (fun s a=>[(1,(pt B 0)),(3,(iv s.1)),(4,(iv s.2.1)),(47,(s3 a)),(48,(il v1.Strides)),(49,(iv s.2.2))]) (fun s a=>aO kT3 (s3 a) v1.Strides::m) (A3,v1.Strides.length,D3) (aS R) (fun w s=>(s.d 2 R)) ?_
 rintro ⟨i,g,b⟩ ⟨a4,T,l⟩ σ1 a3 e I
 dsimp only [Zk_L1] at e
 refine bJ 0 aA (fun (hn:T=v1.Strides.length)=>?_)
 subst hn
 refine cH ?_
 split at e
 refine cH ?_
 obtain ⟨J,e⟩:=gd e
 refine bA ?_
 refine bC 0 aA (show 0<v1.Strides.length by have:=J; omega) (fun q o29 U=>?_)
 subst U
 refine dM ?_
 refine cQ [(1,(pt B 0)),(3,(iv i)),(4,(iv g)),(5,(iv b)),(6,(iv (ix v1.Strides b))),(47,(sc (ad q o29) v1.Strides l)),(48,(il v1.Strides)),(49,(iv b)),(59,(.bool ((decide ((ix v1.Strides b)<(-4096:Int)))||(decide ((ix v1.Strides b)>4096)))))] (RR kT3 (ad q o29) l v1.Strides::m) ?_ ?_
 refine bL ?_
 rcases bo (decide ((ix v1.Strides b)<(-4096:Int))) with F | F
 refine bL ?_
 exact qj tI
 refine bL ?_
 exact qj tI
 rintro σ1
 refine cE ?_
 split at e
 refine dH ?_
 cases e
 obtain rfl:=I _ R
 have e:=O
 refine aW ?_
 cases e
 exact qF () (tE 4 [])
 refine bL ?_
 obtain ⟨L,e⟩:=gd e
 refine cH ?_
 refine bC 2 aA (show 0<v1.Dims.length by have:=L; omega) (fun a5 o34 U=>?_)
 subst U
 refine bL ?_
 refine lO (vz (iv (if (aK ((ix v1.Strides b)*(aK ((ix v1.Dims b) - 1))))<0 then (aK ((ix v1.Strides b)*(aK ((ix v1.Dims b) - 1)))) else (0:Int))) (wr R R)) ?_
 refine pa ?_
 refine lO (vz (iv (if (aK ((ix v1.Strides b)*(aK ((ix v1.Dims b) - 1))))>0 then (aK ((ix v1.Strides b)*(aK ((ix v1.Dims b) - 1)))) else (0:Int))) (yW R R)) ?_
 refine dJ ?_
 cases e
 exact qA ((ad q o29),v1.Strides.length,l) tI
 refine aW ?_
 cases e
 obtain rfl:=I _ R
 have e:=O
 refine bA ?_
 exact qI ((i,g),()) e (tE 1 [])
 rintro ⟨⟨j,M⟩,_⟩ σ1 e
 dsimp only [Zk_J1] at e
 refine aI (cQ [(2,(.bool ((decide (j≥0))&&(decide (M<v1.Base)))))] (m) ?_ ?_)
 refine bL ?_
 rcases bo (decide (j≥0)) with G | G
 refine dX ?_
 exact qj tI
 refine dX ?_
 exact qj tI
 rintro σ1
 refine bA ?_
 cases e
 exact qF () (tE 3 [])
end Go.Proofs.YthelanpdjajnbaaGreat
