import Derived.Test.YtmpnollfdpdipaaGreatDoorCoF
import Derived.Test.YtmpnollfdpdipaaGreatDoorCoW1
set_option linter.unusedVariables false
set_option maxRecDepth 20000
namespace Go.Proofs.YtmpnollfdpdipaaGreatDoor
open Go Go.Pg
variable {A2 A3 A4 A5 A6 A8 A9:Option Addr}{D2 D3 D4 D5 D6 D8 D9 N2 N3 N4 N5 N6 N8 N9:Nat}
theorem Z37_ok  {a:Int}{b:Int}{r:Int×Int}(j:Z37 a b=some r) :
 FnOk Tryz.prog 244 [(iv a),(iv b),(.func (.func 245) [].toArray [].toArray)] [] (fun (h:Nat×Nat×Nat)=>((.func (.func 276) [].toArray [(pt h.1 0),(pt h.2.1 0),(pt h.2.2 0)].toArray),[aJ h.1 [(iv r.1)] 3,aJ h.2.1 [(iv r.2)] 3,aJ h.2.2 [(.func (.func 245) [].toArray [].toArray)] 273])):=by
 unfold Z37 at j
 refine aR Tryz.func244 R 8 R R fun C V=>?_
 refine cN V ?_
 refine aU ?_
 refine fA (cs:=[(iv a)]) R R R (fun e=>(fA (cs:=[(iv b)]) R R R (fun g=>(fA (cs:=[(.func (.func 245) [].toArray [].toArray)]) R R R (fun i=>(lO (vp _ R) (aC ?_)))))))
 let l:=aJ i [(.func (.func 245) [].toArray [].toArray)] 273::aJ g [(iv b)] 3::aJ e [(iv a)] 3::V
 refine qN l ?_
 refine aP ?_
 refine lO (vp (.func (.func 276) [].toArray [(pt e 0),(pt g 0),(pt i 0)].toArray) R) (lO (vp _ R) ?_)
 refine aP ?_
 cases j
 exact qF (e,g,i) (tE 3 [2,1,0])
theorem Z38_ok  {a:Int}{b:Int}{r:Int×Int}(j:Z38 a b=some r) :
 FnOk Tryz.prog 244 [(iv a),(iv b),(.func (.func 246) [].toArray [].toArray)] [] (fun (h:Nat×Nat×Nat)=>((.func (.func 276) [].toArray [(pt h.1 0),(pt h.2.1 0),(pt h.2.2 0)].toArray),[aJ h.1 [(iv r.1)] 3,aJ h.2.1 [(iv r.2)] 3,aJ h.2.2 [(.func (.func 246) [].toArray [].toArray)] 273])):=by
 unfold Z38 at j
 refine aR Tryz.func244 R 8 R R fun C V=>?_
 refine cN V ?_
 refine aU ?_
 refine fA (cs:=[(iv a)]) R R R (fun e=>(fA (cs:=[(iv b)]) R R R (fun g=>(fA (cs:=[(.func (.func 246) [].toArray [].toArray)]) R R R (fun i=>(lO (vp _ R) (aC ?_)))))))
 let l:=aJ i [(.func (.func 246) [].toArray [].toArray)] 273::aJ g [(iv b)] 3::aJ e [(iv a)] 3::V
 refine qN l ?_
 refine aP ?_
 refine lO (vp (.func (.func 276) [].toArray [(pt e 0),(pt g 0),(pt i 0)].toArray) R) (lO (vp _ R) ?_)
 refine aP ?_
 cases j
 exact qF (e,g,i) (tE 3 [2,1,0])
theorem Z39_ok  {a:Int}{b:Int}{r:Int×Int}(j:Z39 a b=some r) :
 FnOk Tryz.prog 244 [(iv a),(iv b),(.func (.func 248) [].toArray [].toArray)] [] (fun (h:Nat×Nat×Nat)=>((.func (.func 276) [].toArray [(pt h.1 0),(pt h.2.1 0),(pt h.2.2 0)].toArray),[aJ h.1 [(iv r.1)] 3,aJ h.2.1 [(iv r.2)] 3,aJ h.2.2 [(.func (.func 248) [].toArray [].toArray)] 273])):=by
 unfold Z39 at j
 refine aR Tryz.func244 R 8 R R fun C V=>?_
 refine cN V ?_
 refine aU ?_
 refine fA (cs:=[(iv a)]) R R R (fun e=>(fA (cs:=[(iv b)]) R R R (fun g=>(fA (cs:=[(.func (.func 248) [].toArray [].toArray)]) R R R (fun i=>(lO (vp _ R) (aC ?_)))))))
 let l:=aJ i [(.func (.func 248) [].toArray [].toArray)] 273::aJ g [(iv b)] 3::aJ e [(iv a)] 3::V
 refine qN l ?_
 refine aP ?_
 refine lO (vp (.func (.func 276) [].toArray [(pt e 0),(pt g 0),(pt i 0)].toArray) R) (lO (vp _ R) ?_)
 refine aP ?_
 cases j
 exact qF (e,g,i) (tE 3 [2,1,0])
theorem Z3a_ok  {a:Int}{b:Int}{r:Int×Int}(j:Z3a a b=some r) :
 FnOk Tryz.prog 244 [(iv a),(iv b),(.func (.func 250) [].toArray [].toArray)] [] (fun (h:Nat×Nat×Nat)=>((.func (.func 276) [].toArray [(pt h.1 0),(pt h.2.1 0),(pt h.2.2 0)].toArray),[aJ h.1 [(iv r.1)] 3,aJ h.2.1 [(iv r.2)] 3,aJ h.2.2 [(.func (.func 250) [].toArray [].toArray)] 273])):=by
 unfold Z3a at j
 refine aR Tryz.func244 R 8 R R fun C V=>?_
 refine cN V ?_
 refine aU ?_
 refine fA (cs:=[(iv a)]) R R R (fun e=>(fA (cs:=[(iv b)]) R R R (fun g=>(fA (cs:=[(.func (.func 250) [].toArray [].toArray)]) R R R (fun i=>(lO (vp _ R) (aC ?_)))))))
 let l:=aJ i [(.func (.func 250) [].toArray [].toArray)] 273::aJ g [(iv b)] 3::aJ e [(iv a)] 3::V
 refine qN l ?_
 refine aP ?_
 refine lO (vp (.func (.func 276) [].toArray [(pt e 0),(pt g 0),(pt i 0)].toArray) R) (lO (vp _ R) ?_)
 refine aP ?_
 cases j
 exact qF (e,g,i) (tE 3 [2,1,0])
theorem Zy_ok  {e:Int}{r:kindOfR}(b:Zy e=some r) :
 FnOk Tryz.prog 214 [(iv e)] [] (fun (h:Nat×Nat×Nat)=>((cV r (h.1,h.2.1,h.2.2)),[eS r (h.1,h.2.1,h.2.2)])):=by
 unfold Zy at b
 refine aR Tryz.func214 R 72 R R fun C V=>?_
 refine cN V ?_
 refine aU ?_
 refine lO (vp _ R) ?_
 refine oY ?_
 split at b
 refine aP ?_
 refine lO (vz (.agg [(.bool false)].toArray) (aV vE vF R R)) (lO (vz (.iface 262 (.agg [(.bool false)].toArray)) (j8 vG R)) (lO (vp _ R) ?_))
 refine b' ?_
 cases b
 exact qF (0,0,0) (fun w s=>St.pack (A:=[]) s)
 refine dO ?_
 split at b
 refine aP ?_
 refine lO (vz (.agg [(.bool true)].toArray) (aV vE vF R R)) (lO (vz (.iface 262 (.agg [(.bool true)].toArray)) (j8 vG R)) (lO (vp _ R) ?_))
 refine b' ?_
 cases b
 exact qF (0,0,0) (fun w s=>St.pack (A:=[]) s)
 refine aU ?_
 refine bC (A:=(Bool)×(Unit)) (fun a=>Zy_J1 e a.1=some r) (fun a=>[(0,(iv e)),(3,(iv e)),(12,(.bool a.1))]) (fun a=>V) ?_ ?_
 refine bV ?_
 split at b
 refine aU ?_
 exact qI ((e==3),()) b tI
 refine dO ?_
 split at b
 refine aU ?_
 exact qI ((e==4),()) b tI
 refine b' ?_
 exact qI ((e==5),()) b tI
 rintro ⟨x6,_⟩ σ1 b
 dsimp only [Zy_J1] at b
 split at b
 refine bV ?_
 refine lO (vz (.agg [(iv (aH ((aH (e - 3))+1)))].toArray) (aV z6 z7 R R)) (lO (vz (.iface 264 (.agg [(iv (aH ((aH (e - 3))+1)))].toArray)) (j8 z8 R)) (lO (vp _ R) ?_))
 refine b' ?_
 cases b
 exact qF (0,0,0) (fun w s=>St.pack (A:=[]) s)
 refine aU ?_
 refine bC (A:=(Bool)×(Unit)) (fun a=>Zy_J2 e a.1=some r) (fun a=>[(0,(iv e)),(3,(iv e)),(21,(.bool a.1))]) (fun a=>V) ?_ ?_
 refine bV ?_
 split at b
 refine aU ?_
 exact qI ((e==6),()) b tI
 refine dO ?_
 split at b
 refine aU ?_
 exact qI ((e==7),()) b tI
 refine dO ?_
 split at b
 refine aU ?_
 exact qI ((e==8),()) b tI
 refine b' ?_
 exact qI ((e==9),()) b tI
 rintro ⟨Z,_⟩ σ1 b
 dsimp only [Zy_J2] at b
 split at b
 refine bV ?_
 refine lO (vz (.agg [(iv (aH ((aH (e - 6))+1)))].toArray) (aV za zb R R)) (lO (vz (.iface 265 (.agg [(iv (aH ((aH (e - 6))+1)))].toArray)) (j8 zd R)) (lO (vp _ R) ?_))
 refine b' ?_
 cases b
 exact qF (0,0,0) (fun w s=>St.pack (A:=[]) s)
 refine dO ?_
 split at b
 refine aP ?_
 refine lO (vz (.agg [].toArray) (aV ze zf R R)) (lO (vz (.iface 267 (.agg [].toArray)) (j8 zg R)) (lO (vp _ R) ?_))
 refine b' ?_
 cases b
 exact qF (0,0,0) (fun w s=>St.pack (A:=[]) s)
 refine dO ?_
 split at b
 refine aP ?_
 refine lO (vz (.agg [].toArray) (aV zh zi R R)) (lO (vz (.iface 268 (.agg [].toArray)) (j8 zj R)) (lO (vp _ R) ?_))
 refine b' ?_
 cases b
 exact qF (0,0,0) (fun w s=>St.pack (A:=[]) s)
 refine dO ?_
 split at b
 refine aP ?_
 refine lO (vz (.agg [(aD gX),(.func (.func 242) [].toArray [].toArray)].toArray) (aV my mz R R)) (lO (vz (.iface 271 (.agg [(aD gX),(.func (.func 242) [].toArray [].toArray)].toArray)) (j8 mA R)) (lO (vp _ R) ?_))
 refine b' ?_
 cases b
 exact qF (0,0,0) (fun w s=>St.pack (A:=[]) s)
 refine dO ?_
 split at b
 refine aP ?_
 refine lO (vz (.agg [(aD gX),(.func (.func 243) [].toArray [].toArray)].toArray) (aV my mz R R)) (lO (vz (.iface 271 (.agg [(aD gX),(.func (.func 243) [].toArray [].toArray)].toArray)) (j8 mA R)) (lO (vp _ R) ?_))
 refine b' ?_
 cases b
 exact qF (0,0,0) (fun w s=>St.pack (A:=[]) s)
 refine aU ?_
 refine bC (A:=(Bool)×(Unit)) (fun a=>Zy_J3 e a.1=some r) (fun a=>[(3,(iv e)),(47,(.bool a.1))]) (fun a=>V) ?_ ?_
 refine bV ?_
 split at b
 refine aU ?_
 exact qI ((e==14),()) b tI
 refine b' ?_
 exact qI ((e==18),()) b tI
 rintro ⟨a0,_⟩ σ1 b
 dsimp only [Zy_J3] at b
 split at b
 refine aP ?_
 refine lO (vz (.agg [(aD eN),(.func (.func 242) [].toArray [].toArray)].toArray) (aV my mz R R)) (lO (vz (.iface 271 (.agg [(aD eN),(.func (.func 242) [].toArray [].toArray)].toArray)) (j8 mA R)) (lO (vp _ R) ?_))
 refine b' ?_
 cases b
 exact qF (0,0,0) (fun w s=>St.pack (A:=[]) s)
 refine dO ?_
 split at b
 refine aU ?_
 obtain ⟨O,I,b⟩:=bd b
 refine aE (lC 0 pX R (Z37_ok I) R ?_)
 rintro ⟨g,i,j⟩
 refine lO (vz (.agg [(aD eN),(.func (.func 276) [].toArray [(pt g 0),(pt i 0),(pt j 0)].toArray)].toArray) (aV my mz R R)) (lO (vz (.iface 271 (.agg [(aD eN),(.func (.func 276) [].toArray [(pt g 0),(pt i 0),(pt j 0)].toArray)].toArray)) (j8 mA R)) (lO (vp _ R) ?_))
 refine b' ?_
 cases b
 exact qF (g,i,j) (fun w s=>St.pack (A:=[aJ g [(iv O.1)] 3,aJ i [(iv O.2)] 3,aJ j [(.func (.func 245) [].toArray [].toArray)] 273]) s)
 refine dO ?_
 split at b
 refine aU ?_
 obtain ⟨T,J,b⟩:=bd b
 refine aE (lC 0 pX R (Z38_ok J) R ?_)
 rintro ⟨l,m,q⟩
 refine lO (vz (.agg [(aD eN),(.func (.func 276) [].toArray [(pt l 0),(pt m 0),(pt q 0)].toArray)].toArray) (aV my mz R R)) (lO (vz (.iface 271 (.agg [(aD eN),(.func (.func 276) [].toArray [(pt l 0),(pt m 0),(pt q 0)].toArray)].toArray)) (j8 mA R)) (lO (vp _ R) ?_))
 refine b' ?_
 cases b
 exact qF (l,m,q) (fun w s=>St.pack (A:=[aJ l [(iv T.1)] 3,aJ m [(iv T.2)] 3,aJ q [(.func (.func 246) [].toArray [].toArray)] 273]) s)
 refine dO ?_
 split at b
 refine aU ?_
 obtain ⟨U,L,b⟩:=bd b
 refine aE (lC 0 pX R (Z39_ok L) R ?_)
 rintro ⟨u,B,D⟩
 refine lO (vz (.agg [(aD eN),(.func (.func 276) [].toArray [(pt u 0),(pt B 0),(pt D 0)].toArray)].toArray) (aV my mz R R)) (lO (vz (.iface 271 (.agg [(aD eN),(.func (.func 276) [].toArray [(pt u 0),(pt B 0),(pt D 0)].toArray)].toArray)) (j8 mA R)) (lO (vp _ R) ?_))
 refine b' ?_
 cases b
 exact qF (u,B,D) (fun w s=>St.pack (A:=[aJ u [(iv U.1)] 3,aJ B [(iv U.2)] 3,aJ D [(.func (.func 248) [].toArray [].toArray)] 273]) s)
 refine dO ?_
 split at b
 refine aU ?_
 obtain ⟨Y,M,b⟩:=bd b
 refine aE (lC 0 pX R (Z3a_ok M) R ?_)
 rintro ⟨E,F,G⟩
 refine lO (vz (.agg [(aD eN),(.func (.func 276) [].toArray [(pt E 0),(pt F 0),(pt G 0)].toArray)].toArray) (aV my mz R R)) (lO (vz (.iface 271 (.agg [(aD eN),(.func (.func 276) [].toArray [(pt E 0),(pt F 0),(pt G 0)].toArray)].toArray)) (j8 mA R)) (lO (vp _ R) ?_))
 refine b' ?_
 cases b
 exact qF (E,F,G) (fun w s=>St.pack (A:=[aJ E [(iv Y.1)] 3,aJ F [(iv Y.2)] 3,aJ G [(.func (.func 250) [].toArray [].toArray)] 273]) s)
 refine bV ?_
 refine lO (vp _ R) ?_
 refine aP ?_
 cases b
 exact qF (0,0,0) (fun w s=>St.pack (A:=[]) s)
theorem Z3c_ok  {k1:leafKind}{r:aN}(a:Z3c k1=some r) :
 FnOk Tryz.prog 312 [(.agg [(.bool k1.data)].toArray)] [] (fun (h:Unit)=>((aD r),[])):=by
 unfold Z3c at a
 refine aR Tryz.func312 R 5 R R fun C V=>?_
 refine cN V ?_
 refine aU ?_
 refine eE R fun e=>?_
 refine lO (vp (aD ([]:aN)) R) (aC ?_)
 let b:=aJ e [(.bool k1.data)] 262::V
 refine qN b ?_
 refine dA ?_
 split at a
 refine aP ?_
 refine lO (vp (aD o9) R) ?_
 refine bH ?_
 cases a
 exact qF () (tE 1 [])
 refine b' ?_
 refine lO (vp (aD gX) R) ?_
 refine aP ?_
 cases a
 exact qF () (tE 1 [])
theorem Z3d_ok  {k1:pairKind}{r:aN}(a:Z3d k1=some r) :
 FnOk Tryz.prog 314 [(.agg [(iv k1.op)].toArray)] [] (fun (h:Unit)=>((aD r),[])):=by
 unfold Z3d at a
 refine aR Tryz.func314 R 3 R R fun C V=>?_
 refine cN V ?_
 refine aU ?_
 refine eE R fun e=>?_
 refine lO (vp (aD ([]:aN)) R) (aC ?_)
 let b:=aJ e [(iv k1.op)] 264::V
 refine qN b ?_
 refine aP ?_
 refine lO (vp (aD ([]:aN)) R) ?_
 refine aP ?_
 cases a
 exact qF () (tE 1 [])
theorem Z3k_ok  {k1:soloKind}{r:aN}(a:Z3k k1=some r) :
 FnOk Tryz.prog 316 [(.agg [(iv k1.op)].toArray)] [] (fun (h:Unit)=>((aD r),[])):=by
 unfold Z3k at a
 refine aR Tryz.func316 R 3 R R fun C V=>?_
 refine cN V ?_
 refine aU ?_
 refine eE R fun e=>?_
 refine lO (vp (aD ([]:aN)) R) (aC ?_)
 let b:=aJ e [(iv k1.op)] 265::V
 refine qN b ?_
 refine aP ?_
 refine lO (vp (aD ([]:aN)) R) ?_
 refine aP ?_
 cases a
 exact qF () (tE 1 [])
theorem Z3l_ok  {k1:topKind}{r:aN}(a:Z3l k1=some r) :
 FnOk Tryz.prog 318 [(.agg [].toArray)] [] (fun (h:Unit)=>((aD r),[])):=by
 unfold Z3l at a
 refine aR Tryz.func318 R 3 R R fun C V=>?_
 refine cN V ?_
 refine aU ?_
 refine eE R fun e=>?_
 refine lO (vp (aD ([]:aN)) R) (aC ?_)
 let b:=aJ e [] 267::V
 refine qN b ?_
 refine aP ?_
 refine lO (vp (aD eN) R) ?_
 refine aP ?_
 cases a
 exact qF () (tE 1 [])
theorem Z3b_ok  {k1:formKind}{r:aN}(a:Z3b k1=some r) :
 FnOk Tryz.prog 320 [(.agg [].toArray)] [] (fun (h:Unit)=>((aD r),[])):=by
 unfold Z3b at a
 refine aR Tryz.func320 R 3 R R fun C V=>?_
 refine cN V ?_
 refine aU ?_
 refine eE R fun e=>?_
 refine lO (vp (aD ([]:aN)) R) (aC ?_)
 let b:=aJ e [] 268::V
 refine qN b ?_
 refine aP ?_
 refine lO (vp (aD ki) R) ?_
 refine aP ?_
 cases a
 exact qF () (tE 1 [])
theorem Z3i_ok  {k1:shiftKind}{r:aN}(a:Z3i k1=some r) :
 FnOk Tryz.prog 322 [(.agg [(aD k1.use),(.func (.func 242) [].toArray [].toArray)].toArray)] [] (fun (h:Unit)=>((aD r),[])):=by
 unfold Z3i at a
 refine aR Tryz.func322 R 5 R R fun C V=>?_
 refine cN V ?_
 refine aU ?_
 refine eE R fun e=>?_
 refine lO (vp (aD ([]:aN)) R) (aC ?_)
 let b:=aJ e [(aD k1.use),(.func (.func 242) [].toArray [].toArray)] 271::V
 refine qN b ?_
 refine b' ?_
 refine lO (vp (aD k1.use) R) ?_
 refine aP ?_
 cases a
 exact qF () (tE 1 [])
theorem Z3j_ok  {k1:shiftKind}{r:aN}(a:Z3j k1=some r) :
 FnOk Tryz.prog 322 [(.agg [(aD k1.use),(.func (.func 243) [].toArray [].toArray)].toArray)] [] (fun (h:Unit)=>((aD r),[])):=by
 unfold Z3j at a
 refine aR Tryz.func322 R 5 R R fun C V=>?_
 refine cN V ?_
 refine aU ?_
 refine eE R fun e=>?_
 refine lO (vp (aD ([]:aN)) R) (aC ?_)
 let b:=aJ e [(aD k1.use),(.func (.func 243) [].toArray [].toArray)] 271::V
 refine qN b ?_
 refine b' ?_
 refine lO (vp (aD k1.use) R) ?_
 refine aP ?_
 cases a
 exact qF () (tE 1 [])
theorem Z3e_ok  {k1:shiftKind}{g:Int}{i:Int}{a:Nat}{b:Nat}{e:Nat}{r:aN}(j:Z3e k1 g i=some r) :
 FnOk Tryz.prog 322 [(.agg [(aD k1.use),(.func (.func 276) [].toArray [(pt a 0),(pt b 0),(pt e 0)].toArray)].toArray)] [aJ a [(iv g)] 3,aJ b [(iv i)] 3,aJ e [(.func (.func 245) [].toArray [].toArray)] 273] (fun (h:Unit)=>((aD r),[aJ a [(iv g)] 3,aJ b [(iv i)] 3,aJ e [(.func (.func 245) [].toArray [].toArray)] 273])):=by
 unfold Z3e at j
 refine aR Tryz.func322 R 5 R R fun C V=>?_
 refine aU ?_
 refine eE R fun m=>?_
 refine lO (vp (aD ([]:aN)) R) (aC ?_)
 let l:=aJ m [(aD k1.use),(.func (.func 276) [].toArray [(pt a 0),(pt b 0),(pt e 0)].toArray)] 271::aJ a [(iv g)] 3::aJ b [(iv i)] 3::aJ e [(.func (.func 245) [].toArray [].toArray)] 273::V
 refine qN l ?_
 refine b' ?_
 refine lO (vp (aD k1.use) R) ?_
 refine aP ?_
 cases j
 exact qF () (fun w s=>(s.f 4 [1,3]))
theorem Z3f_ok  {k1:shiftKind}{g:Int}{i:Int}{a:Nat}{b:Nat}{e:Nat}{r:aN}(j:Z3f k1 g i=some r) :
 FnOk Tryz.prog 322 [(.agg [(aD k1.use),(.func (.func 276) [].toArray [(pt a 0),(pt b 0),(pt e 0)].toArray)].toArray)] [aJ a [(iv g)] 3,aJ b [(iv i)] 3,aJ e [(.func (.func 246) [].toArray [].toArray)] 273] (fun (h:Unit)=>((aD r),[aJ a [(iv g)] 3,aJ b [(iv i)] 3,aJ e [(.func (.func 246) [].toArray [].toArray)] 273])):=by
 unfold Z3f at j
 refine aR Tryz.func322 R 5 R R fun C V=>?_
 refine aU ?_
 refine eE R fun m=>?_
 refine lO (vp (aD ([]:aN)) R) (aC ?_)
 let l:=aJ m [(aD k1.use),(.func (.func 276) [].toArray [(pt a 0),(pt b 0),(pt e 0)].toArray)] 271::aJ a [(iv g)] 3::aJ b [(iv i)] 3::aJ e [(.func (.func 246) [].toArray [].toArray)] 273::V
 refine qN l ?_
 refine b' ?_
 refine lO (vp (aD k1.use) R) ?_
 refine aP ?_
 cases j
 exact qF () (fun w s=>(s.f 4 [1,3]))
theorem Z3g_ok  {k1:shiftKind}{g:Int}{i:Int}{a:Nat}{b:Nat}{e:Nat}{r:aN}(j:Z3g k1 g i=some r) :
 FnOk Tryz.prog 322 [(.agg [(aD k1.use),(.func (.func 276) [].toArray [(pt a 0),(pt b 0),(pt e 0)].toArray)].toArray)] [aJ a [(iv g)] 3,aJ b [(iv i)] 3,aJ e [(.func (.func 248) [].toArray [].toArray)] 273] (fun (h:Unit)=>((aD r),[aJ a [(iv g)] 3,aJ b [(iv i)] 3,aJ e [(.func (.func 248) [].toArray [].toArray)] 273])):=by
 unfold Z3g at j
 refine aR Tryz.func322 R 5 R R fun C V=>?_
 refine aU ?_
 refine eE R fun m=>?_
 refine lO (vp (aD ([]:aN)) R) (aC ?_)
 let l:=aJ m [(aD k1.use),(.func (.func 276) [].toArray [(pt a 0),(pt b 0),(pt e 0)].toArray)] 271::aJ a [(iv g)] 3::aJ b [(iv i)] 3::aJ e [(.func (.func 248) [].toArray [].toArray)] 273::V
 refine qN l ?_
 refine b' ?_
 refine lO (vp (aD k1.use) R) ?_
 refine aP ?_
 cases j
 exact qF () (fun w s=>(s.f 4 [1,3]))
theorem Z3h_ok  {k1:shiftKind}{g:Int}{i:Int}{a:Nat}{b:Nat}{e:Nat}{r:aN}(j:Z3h k1 g i=some r) :
 FnOk Tryz.prog 322 [(.agg [(aD k1.use),(.func (.func 276) [].toArray [(pt a 0),(pt b 0),(pt e 0)].toArray)].toArray)] [aJ a [(iv g)] 3,aJ b [(iv i)] 3,aJ e [(.func (.func 250) [].toArray [].toArray)] 273] (fun (h:Unit)=>((aD r),[aJ a [(iv g)] 3,aJ b [(iv i)] 3,aJ e [(.func (.func 250) [].toArray [].toArray)] 273])):=by
 unfold Z3h at j
 refine aR Tryz.func322 R 5 R R fun C V=>?_
 refine aU ?_
 refine eE R fun m=>?_
 refine lO (vp (aD ([]:aN)) R) (aC ?_)
 let l:=aJ m [(aD k1.use),(.func (.func 276) [].toArray [(pt a 0),(pt b 0),(pt e 0)].toArray)] 271::aJ a [(iv g)] 3::aJ b [(iv i)] 3::aJ e [(.func (.func 250) [].toArray [].toArray)] 273::V
 refine qN l ?_
 refine b' ?_
 refine lO (vp (aD k1.use) R) ?_
 refine aP ?_
 cases j
 exact qF () (fun w s=>(s.f 4 [1,3]))
theorem jF  {r:kindOfR}{b h1 h2:Nat}{q:aN}(a:fM r=some q) :
 InvOk Tryz.prog (cV r (b,h1,h2)) "loop.example/g00033/impl.uses" [] [eS r (b,h1,h2)] (fun (h:Unit)=>((aD q),[eS r (b,h1,h2)])):=by
 unfold fM at a
 rcases cF a with ⟨L,a⟩|⟨L,a⟩
 ·cases a
 rcases cF a with ⟨m,a⟩|⟨m,a⟩
 ·obtain ⟨t,i,e,g,l⟩:=r
  obtain rfl:=Nat.eq_of_beq_eq_true m
  exact InvOk.mk (p8 _) (((Z3c_ok a).perm (Pre':=[pk []]) (fun _ _ _ s=>St.unpack (A:=[]) s)).post id (fun _=>rfl) (fun _ _ _ _ s=>St.pack (A:=[]) (s)))
 rcases cF a with ⟨u,a⟩|⟨u,a⟩
 ·obtain ⟨t,i,e,g,l⟩:=r
  obtain rfl:=Nat.eq_of_beq_eq_true u
  exact InvOk.mk (p9 _) (((Z3d_ok a).perm (Pre':=[pk []]) (fun _ _ _ s=>St.unpack (A:=[]) s)).post id (fun _=>rfl) (fun _ _ _ _ s=>St.pack (A:=[]) (s)))
 rcases cF a with ⟨B,a⟩|⟨B,a⟩
 ·obtain ⟨t,i,e,g,l⟩:=r
  obtain rfl:=Nat.eq_of_beq_eq_true B
  exact InvOk.mk (pa _) (((Z3k_ok a).perm (Pre':=[pk []]) (fun _ _ _ s=>St.unpack (A:=[]) s)).post id (fun _=>rfl) (fun _ _ _ _ s=>St.pack (A:=[]) (s)))
 rcases cF a with ⟨D,a⟩|⟨D,a⟩
 ·obtain ⟨t,i,e,g,l⟩:=r
  obtain rfl:=Nat.eq_of_beq_eq_true D
  exact InvOk.mk (pb _) (((Z3l_ok (k1:=⟨⟩) a).perm (Pre':=[pk []]) (fun _ _ _ s=>St.unpack (A:=[]) s)).post id (fun _=>rfl) (fun _ _ _ _ s=>St.pack (A:=[]) (s)))
 rcases cF a with ⟨E,a⟩|⟨E,a⟩
 ·obtain ⟨t,i,e,g,l⟩:=r
  obtain rfl:=Nat.eq_of_beq_eq_true E
  exact InvOk.mk (pc _) (((Z3b_ok (k1:=⟨⟩) a).perm (Pre':=[pk []]) (fun _ _ _ s=>St.unpack (A:=[]) s)).post id (fun _=>rfl) (fun _ _ _ _ s=>St.pack (A:=[]) (s)))
 rcases cF a with ⟨F,a⟩|⟨F,a⟩
 ·obtain ⟨t,i,e,g,l⟩:=r
  obtain rfl:=Nat.eq_of_beq_eq_true F
  exact InvOk.mk (gY _) (((Z3i_ok a).perm (Pre':=[pk []]) (fun _ _ _ s=>St.unpack (A:=[]) s)).post id (fun _=>rfl) (fun _ _ _ _ s=>St.pack (A:=[]) (s)))
 rcases cF a with ⟨G,a⟩|⟨G,a⟩
 ·obtain ⟨t,i,e,g,l⟩:=r
  obtain rfl:=Nat.eq_of_beq_eq_true G
  exact InvOk.mk (gY _) (((Z3j_ok a).perm (Pre':=[pk []]) (fun _ _ _ s=>St.unpack (A:=[]) s)).post id (fun _=>rfl) (fun _ _ _ _ s=>St.pack (A:=[]) (s)))
 rcases cF a with ⟨I,a⟩|⟨I,a⟩
 ·obtain ⟨t,i,e,g,l⟩:=r
  obtain rfl:=Nat.eq_of_beq_eq_true I
  exact InvOk.mk (gY _) (((Z3e_ok a).perm (Pre':=[pk [aJ b [(iv e)] 3,aJ h1 [(iv g)] 3,aJ h2 [(.func (.func 245) [].toArray [].toArray)] 273]]) (fun _ _ _ s=>St.unpack (A:=[aJ b [(iv e)] 3,aJ h1 [(iv g)] 3,aJ h2 [(.func (.func 245) [].toArray [].toArray)] 273]) s)).post id (fun _=>rfl) (fun _ _ _ _ s=>St.pack (A:=[aJ b [(iv e)] 3,aJ h1 [(iv g)] 3,aJ h2 [(.func (.func 245) [].toArray [].toArray)] 273]) (s)))
 rcases cF a with ⟨J,a⟩|⟨J,a⟩
 ·obtain ⟨t,i,e,g,l⟩:=r
  obtain rfl:=Nat.eq_of_beq_eq_true J
  exact InvOk.mk (gY _) (((Z3f_ok a).perm (Pre':=[pk [aJ b [(iv e)] 3,aJ h1 [(iv g)] 3,aJ h2 [(.func (.func 246) [].toArray [].toArray)] 273]]) (fun _ _ _ s=>St.unpack (A:=[aJ b [(iv e)] 3,aJ h1 [(iv g)] 3,aJ h2 [(.func (.func 246) [].toArray [].toArray)] 273]) s)).post id (fun _=>rfl) (fun _ _ _ _ s=>St.pack (A:=[aJ b [(iv e)] 3,aJ h1 [(iv g)] 3,aJ h2 [(.func (.func 246) [].toArray [].toArray)] 273]) (s)))
 rcases cF a with ⟨j,a⟩|⟨j,a⟩
 ·obtain ⟨t,i,e,g,l⟩:=r
  obtain rfl:=Nat.eq_of_beq_eq_true j
  exact InvOk.mk (gY _) (((Z3g_ok a).perm (Pre':=[pk [aJ b [(iv e)] 3,aJ h1 [(iv g)] 3,aJ h2 [(.func (.func 248) [].toArray [].toArray)] 273]]) (fun _ _ _ s=>St.unpack (A:=[aJ b [(iv e)] 3,aJ h1 [(iv g)] 3,aJ h2 [(.func (.func 248) [].toArray [].toArray)] 273]) s)).post id (fun _=>rfl) (fun _ _ _ _ s=>St.pack (A:=[aJ b [(iv e)] 3,aJ h1 [(iv g)] 3,aJ h2 [(.func (.func 248) [].toArray [].toArray)] 273]) (s)))
 have O:cV r (b,h1,h2)=(.iface 271 (.agg [(aD r.s0),(.func (.func 276) [].toArray [(pt b 0),(pt h1 0),(pt h2 0)].toArray)].toArray)):=by simp only [cV,L,m,u,B,D,E,F,G,I,J,j,cond_false]
 have M:eS r (b,h1,h2)=pk [aJ b [(iv r.i0)] 3,aJ h1 [(iv r.i1)] 3,aJ h2 [(.func (.func 250) [].toArray [].toArray)] 273]:=by simp only [eS,L,m,u,B,D,E,F,G,I,J,j,cond_false]
 rw [O,M]
 exact InvOk.mk (gY _) (((Z3h_ok a).perm (Pre':=[pk [aJ b [(iv r.i0)] 3,aJ h1 [(iv r.i1)] 3,aJ h2 [(.func (.func 250) [].toArray [].toArray)] 273]]) (fun _ _ _ s=>St.unpack (A:=[aJ b [(iv r.i0)] 3,aJ h1 [(iv r.i1)] 3,aJ h2 [(.func (.func 250) [].toArray [].toArray)] 273]) s)).post id (fun _=>rfl) (fun _ _ _ _ s=>St.pack (A:=[aJ b [(iv r.i0)] 3,aJ h1 [(iv r.i1)] 3,aJ h2 [(.func (.func 250) [].toArray [].toArray)] 273]) (s)))
theorem Z7_ok  {g:aN}{e:aN}{mG:Int}{a:Nat}{r:Bool}(b:Z7 g e=some r) :
 FnOk Tryz.prog 252 [(aD g),(pt a 0)] [aJ a [(aD e)] 9,gl 0 mG] (fun (h:Unit)=>((.bool r),[aJ a [(aD e)] 9])):=by
 unfold Z7 at b
 refine aR Tryz.func252 R 7 R R fun C V=>?_
 let l:=gl 0 mG::V
 refine bH ?_
 let j:=aJ a [(aD e)] 9::l
 refine qN j ?_
 refine aU ?_
 obtain ⟨m,i,b⟩:=bd b
 refine aU ?_
 refine lO (vp (aD g) R) (lM _ (fun w s=>(s.dg 1 R)) ?_)
 refine lC 1 zn R (Z3n_ok i) R ?_
 rintro _
 refine lN j ?_
 refine bH ?_
 cases b
 exact qF () (tE 2 [0])
theorem Z1u_ok  {a:Node}{Y:aN}{mG:Int}{r:Bool}(hr:Z1u a Y=some r) :
 FnOk Tryz.prog 215 [(.agg [(iv a.Op),(.slice A2 N2 D2),(.slice A3 N3 D3),(.slice A4 N4 D4),(aD a.Form),(.slice A5 N5 D5)].toArray),(aD Y)] [aO kT3 (.slice A2 N2 D2) a.Args,aO kT3 (.slice A3 N3 D3) a.Dims,aO kT3 (.slice A4 N4 D4) a.Ints,aO kT3 (.slice A5 N5 D5) a.Data,gl 0 mG] (fun (h:Unit)=>((.bool r),[])):=by
 unfold Z1u at hr
 refine aR Tryz.func215 R 44 R R fun C V=>?_
 refine cL 0 aA ?_
 rintro rfl
 refine cL 1 aA ?_
 rintro rfl
 refine cL 2 aA ?_
 rintro rfl
 refine cL 3 aA ?_
 rintro rfl
 let W0:=RR kT3 A2 D2 a.Args::RR kT3 A3 D3 a.Dims::RR kT3 A4 D4 a.Ints::RR kT3 A5 D5 a.Data::gl 0 mG::V
 refine cN W0 ?_
 refine aU ?_
 refine eE R fun b7=>?_
 refine fA (cs:=[(aD Y)]) R R R (fun T=>(lB R (aC ?_)))
 let W1:=aJ b7 [(iv a.Op),(sc A2 a.Args D2),(sc A3 a.Dims D3),(sc A4 a.Ints D4),(aD a.Form),(sc A5 a.Data D5)] 171::W0
 refine aP ?_
 refine lO (vp (.func (.func 252) [].toArray [(pt T 0)].toArray) R) (lO (vp _ R) ?_)
 refine aP ?_
 obtain ⟨U,ah,hr⟩:=bd hr
 obtain ⟨j,ag,hr⟩:=bd hr
 obtain ⟨g,a3,hr⟩:=bd hr
 obtain ⟨b,O,hr⟩:=bd hr
 refine cQ [(4,(.bool ((((U||((a.Dims.length:Int)==0))&&(j||((a.Ints.length:Int)==0)))&&(g||(a.Form==([]:aN))))&&(b||((a.Data.length:Int)==0)))))] (W1) ?_ ?_
 refine aE (lO (vp _ R) (lM _ (fun w s=>((s.dg 6 R).e 2 [1,0])) ?_))
 refine cC (fs:=[]) (cs:=[(pt T 0)]) 2 R R iN R R (Z7_ok ah) R ?_
 rintro _
 refine bT ?_
 rcases bo U with l | l
 refine bH ?_
 refine lO (fB ((a.Dims.length:Int)==0) R l) (lB R (lW (eG (oT l)) (vp _ R) (lM _ (fun w s=>((s.dg 6 R).e 2 [1,0])) ?_)))
 refine cC (fs:=[]) (cs:=[(pt T 0)]) 2 R (eG (oT l)) iN R R (Z7_ok (bN ag (oT l))) R ?_
 rintro _
 refine bT ?_
 rcases bo j with a4 | a4
 refine bH ?_
 refine lW (eG (oT l)) (fB ((a.Ints.length:Int)==0) R a4) (lO (j4 R (oT l) R) (lB R ?_))
 rcases bo ((U||((a.Dims.length:Int)==0))&&(j||((a.Ints.length:Int)==0))) with m | m
 refine lW (eG m) (vp _ R) (lM _ (fun w s=>((s.dg 6 R).e 2 [1,0])) ?_)
 refine cC (fs:=[]) (cs:=[(pt T 0)]) 2 R (eG m) iN R R (Z7_ok (bN a3 m)) R ?_
 rintro _
 refine bT ?_
 rcases bo g with Z | Z
 refine aP ?_
 refine lW (eG m) (fB (a.Form==([]:aN)) R Z) (lO (j4 R m R) (lB R ?_))
 rcases bo (((U||((a.Dims.length:Int)==0))&&(j||((a.Ints.length:Int)==0)))&&(g||(a.Form==([]:aN)))) with D | D
 refine lW (eG D) (vp _ R) (lM _ (fun w s=>((s.dg 6 R).e 2 [1,0])) ?_)
 refine cC (fs:=[]) (cs:=[(pt T 0)]) 2 R (eG D) iN R R (Z7_ok (bN O D)) R ?_
 rintro _
 refine bT ?_
 rcases bo b with a5 | a5
 refine bH ?_
 refine lW (eG D) (fB ((a.Data.length:Int)==0) R a5) (lO (j4 R D R) ?_)
 refine aU ?_
 exact qj (tE 1 [])
 refine bH ?_
 refine lW (eG D) (fU R a5 R) (lO (j4 R D R) ?_)
 refine aU ?_
 exact qj (tE 1 [])
 refine dA ?_
 refine lO (kk (b||((a.Data.length:Int)==0)) R D) ?_
 refine aU ?_
 exact qj (tE 1 [])
 refine aU ?_
 refine lW (cA Z) (vz (.bool (a.Form==([]:aN))) (js R R R)) (lW (eG m) (fU R Z R) (lO (j4 R m R) (lB R ?_)))
 rcases bo (((U||((a.Dims.length:Int)==0))&&(j||((a.Ints.length:Int)==0)))&&(g||(a.Form==([]:aN)))) with E | E
 refine lW (eG E) (vp _ R) (lM _ (fun w s=>((s.dg 6 R).e 2 [1,0])) ?_)
 refine cC (fs:=[]) (cs:=[(pt T 0)]) 2 R (eG E) iN R R (Z7_ok (bN O E)) R ?_
 rintro _
 refine bT ?_
 rcases bo b with a6 | a6
 refine bH ?_
 refine lW (eG E) (fB ((a.Data.length:Int)==0) R a6) (lO (j4 R E R) ?_)
 refine aU ?_
 exact qj (tE 1 [])
 refine bH ?_
 refine lW (eG E) (fU R a6 R) (lO (j4 R E R) ?_)
 refine aU ?_
 exact qj (tE 1 [])
 refine dA ?_
 refine lO (kk (b||((a.Data.length:Int)==0)) R E) ?_
 refine aU ?_
 exact qj (tE 1 [])
 refine dO ?_
 refine lO (kk (g||(a.Form==([]:aN))) R m) ?_
 refine cY ?_
 refine lO (kk (b||((a.Data.length:Int)==0)) R (aF m)) ?_
 refine aU ?_
 exact qj (tE 1 [])
 refine bH ?_
 refine lW (eG (oT l)) (fU R a4 R) (lO (j4 R (oT l) R) (lB R ?_))
 rcases bo ((U||((a.Dims.length:Int)==0))&&(j||((a.Ints.length:Int)==0))) with q | q
 refine lW (eG q) (vp _ R) (lM _ (fun w s=>((s.dg 6 R).e 2 [1,0])) ?_)
 refine cC (fs:=[]) (cs:=[(pt T 0)]) 2 R (eG q) iN R R (Z7_ok (bN a3 q)) R ?_
 rintro _
 refine bT ?_
 rcases bo g with a0 | a0
 refine aP ?_
 refine lW (eG q) (fB (a.Form==([]:aN)) R a0) (lO (j4 R q R) (lB R ?_))
 rcases bo (((U||((a.Dims.length:Int)==0))&&(j||((a.Ints.length:Int)==0)))&&(g||(a.Form==([]:aN)))) with F | F
 refine lW (eG F) (vp _ R) (lM _ (fun w s=>((s.dg 6 R).e 2 [1,0])) ?_)
 refine cC (fs:=[]) (cs:=[(pt T 0)]) 2 R (eG F) iN R R (Z7_ok (bN O F)) R ?_
 rintro _
 refine bT ?_
 rcases bo b with a7 | a7
 refine bH ?_
 refine lW (eG F) (fB ((a.Data.length:Int)==0) R a7) (lO (j4 R F R) ?_)
 refine aU ?_
 exact qj (tE 1 [])
 refine bH ?_
 refine lW (eG F) (fU R a7 R) (lO (j4 R F R) ?_)
 refine aU ?_
 exact qj (tE 1 [])
 refine dA ?_
 refine lO (kk (b||((a.Data.length:Int)==0)) R F) ?_
 refine aU ?_
 exact qj (tE 1 [])
 refine aU ?_
 refine lW (cA a0) (vz (.bool (a.Form==([]:aN))) (js R R R)) (lW (eG q) (fU R a0 R) (lO (j4 R q R) (lB R ?_)))
 rcases bo (((U||((a.Dims.length:Int)==0))&&(j||((a.Ints.length:Int)==0)))&&(g||(a.Form==([]:aN)))) with G | G
 refine lW (eG G) (vp _ R) (lM _ (fun w s=>((s.dg 6 R).e 2 [1,0])) ?_)
 refine cC (fs:=[]) (cs:=[(pt T 0)]) 2 R (eG G) iN R R (Z7_ok (bN O G)) R ?_
 rintro _
 refine bT ?_
 rcases bo b with a8 | a8
 refine bH ?_
 refine lW (eG G) (fB ((a.Data.length:Int)==0) R a8) (lO (j4 R G R) ?_)
 refine aU ?_
 exact qj (tE 1 [])
 refine bH ?_
 refine lW (eG G) (fU R a8 R) (lO (j4 R G R) ?_)
 refine aU ?_
 exact qj (tE 1 [])
 refine dA ?_
 refine lO (kk (b||((a.Data.length:Int)==0)) R G) ?_
 refine aU ?_
 exact qj (tE 1 [])
 refine dO ?_
 refine lO (kk (g||(a.Form==([]:aN))) R q) ?_
 refine cY ?_
 refine lO (kk (b||((a.Data.length:Int)==0)) R (aF q)) ?_
 refine aU ?_
 exact qj (tE 1 [])
 refine bH ?_
 refine lO (fU R l R) (lB R ?_)
 rcases bo (U||((a.Dims.length:Int)==0)) with i | i
 refine lW (eG i) (vp _ R) (lM _ (fun w s=>((s.dg 6 R).e 2 [1,0])) ?_)
 refine cC (fs:=[]) (cs:=[(pt T 0)]) 2 R (eG i) iN R R (Z7_ok (bN ag i)) R ?_
 rintro _
 refine bT ?_
 rcases bo j with a9 | a9
 refine bH ?_
 refine lW (eG i) (fB ((a.Ints.length:Int)==0) R a9) (lO (j4 R i R) (lB R ?_))
 rcases bo ((U||((a.Dims.length:Int)==0))&&(j||((a.Ints.length:Int)==0))) with u | u
 refine lW (eG u) (vp _ R) (lM _ (fun w s=>((s.dg 6 R).e 2 [1,0])) ?_)
 refine cC (fs:=[]) (cs:=[(pt T 0)]) 2 R (eG u) iN R R (Z7_ok (bN a3 u)) R ?_
 rintro _
 refine bT ?_
 rcases bo g with a1 | a1
 refine aP ?_
 refine lW (eG u) (fB (a.Form==([]:aN)) R a1) (lO (j4 R u R) (lB R ?_))
 rcases bo (((U||((a.Dims.length:Int)==0))&&(j||((a.Ints.length:Int)==0)))&&(g||(a.Form==([]:aN)))) with I | I
 refine lW (eG I) (vp _ R) (lM _ (fun w s=>((s.dg 6 R).e 2 [1,0])) ?_)
 refine cC (fs:=[]) (cs:=[(pt T 0)]) 2 R (eG I) iN R R (Z7_ok (bN O I)) R ?_
 rintro _
 refine bT ?_
 rcases bo b with aa | aa
 refine bH ?_
 refine lW (eG I) (fB ((a.Data.length:Int)==0) R aa) (lO (j4 R I R) ?_)
 refine aU ?_
 exact qj (tE 1 [])
 refine bH ?_
 refine lW (eG I) (fU R aa R) (lO (j4 R I R) ?_)
 refine aU ?_
 exact qj (tE 1 [])
 refine dA ?_
 refine lO (kk (b||((a.Data.length:Int)==0)) R I) ?_
 refine aU ?_
 exact qj (tE 1 [])
 refine aU ?_
 refine lW (cA a1) (vz (.bool (a.Form==([]:aN))) (js R R R)) (lW (eG u) (fU R a1 R) (lO (j4 R u R) (lB R ?_)))
 rcases bo (((U||((a.Dims.length:Int)==0))&&(j||((a.Ints.length:Int)==0)))&&(g||(a.Form==([]:aN)))) with J | J
 refine lW (eG J) (vp _ R) (lM _ (fun w s=>((s.dg 6 R).e 2 [1,0])) ?_)
 refine cC (fs:=[]) (cs:=[(pt T 0)]) 2 R (eG J) iN R R (Z7_ok (bN O J)) R ?_
 rintro _
 refine bT ?_
 rcases bo b with ab | ab
 refine bH ?_
 refine lW (eG J) (fB ((a.Data.length:Int)==0) R ab) (lO (j4 R J R) ?_)
 refine aU ?_
 exact qj (tE 1 [])
 refine bH ?_
 refine lW (eG J) (fU R ab R) (lO (j4 R J R) ?_)
 refine aU ?_
 exact qj (tE 1 [])
 refine dA ?_
 refine lO (kk (b||((a.Data.length:Int)==0)) R J) ?_
 refine aU ?_
 exact qj (tE 1 [])
 refine dO ?_
 refine lO (kk (g||(a.Form==([]:aN))) R u) ?_
 refine cY ?_
 refine lO (kk (b||((a.Data.length:Int)==0)) R (aF u)) ?_
 refine aU ?_
 exact qj (tE 1 [])
 refine bH ?_
 refine lW (eG i) (fU R a9 R) (lO (j4 R i R) (lB R ?_))
 rcases bo ((U||((a.Dims.length:Int)==0))&&(j||((a.Ints.length:Int)==0))) with B | B
 refine lW (eG B) (vp _ R) (lM _ (fun w s=>((s.dg 6 R).e 2 [1,0])) ?_)
 refine cC (fs:=[]) (cs:=[(pt T 0)]) 2 R (eG B) iN R R (Z7_ok (bN a3 B)) R ?_
 rintro _
 refine bT ?_
 rcases bo g with a2 | a2
 refine aP ?_
 refine lW (eG B) (fB (a.Form==([]:aN)) R a2) (lO (j4 R B R) (lB R ?_))
 rcases bo (((U||((a.Dims.length:Int)==0))&&(j||((a.Ints.length:Int)==0)))&&(g||(a.Form==([]:aN)))) with L | L
 refine lW (eG L) (vp _ R) (lM _ (fun w s=>((s.dg 6 R).e 2 [1,0])) ?_)
 refine cC (fs:=[]) (cs:=[(pt T 0)]) 2 R (eG L) iN R R (Z7_ok (bN O L)) R ?_
 rintro _
 refine bT ?_
 rcases bo b with ac | ac
 refine bH ?_
 refine lW (eG L) (fB ((a.Data.length:Int)==0) R ac) (lO (j4 R L R) ?_)
 refine aU ?_
 exact qj (tE 1 [])
 refine bH ?_
 refine lW (eG L) (fU R ac R) (lO (j4 R L R) ?_)
 refine aU ?_
 exact qj (tE 1 [])
 refine dA ?_
 refine lO (kk (b||((a.Data.length:Int)==0)) R L) ?_
 refine aU ?_
 exact qj (tE 1 [])
 refine aU ?_
 refine lW (cA a2) (vz (.bool (a.Form==([]:aN))) (js R R R)) (lW (eG B) (fU R a2 R) (lO (j4 R B R) (lB R ?_)))
 rcases bo (((U||((a.Dims.length:Int)==0))&&(j||((a.Ints.length:Int)==0)))&&(g||(a.Form==([]:aN)))) with M | M
 refine lW (eG M) (vp _ R) (lM _ (fun w s=>((s.dg 6 R).e 2 [1,0])) ?_)
 refine cC (fs:=[]) (cs:=[(pt T 0)]) 2 R (eG M) iN R R (Z7_ok (bN O M)) R ?_
 rintro _
 refine bT ?_
 rcases bo b with ae | ae
 refine bH ?_
 refine lW (eG M) (fB ((a.Data.length:Int)==0) R ae) (lO (j4 R M R) ?_)
 refine aU ?_
 exact qj (tE 1 [])
 refine bH ?_
 refine lW (eG M) (fU R ae R) (lO (j4 R M R) ?_)
 refine aU ?_
 exact qj (tE 1 [])
 refine dA ?_
 refine lO (kk (b||((a.Data.length:Int)==0)) R M) ?_
 refine aU ?_
 exact qj (tE 1 [])
 refine dO ?_
 refine lO (kk (g||(a.Form==([]:aN))) R B) ?_
 refine cY ?_
 refine lO (kk (b||((a.Data.length:Int)==0)) R (aF B)) ?_
 refine aU ?_
 exact qj (tE 1 [])
 refine dA ?_
 refine lO (kk (j||((a.Ints.length:Int)==0)) R i) ?_
 refine dA ?_
 refine lO (kk (g||(a.Form==([]:aN))) R (aF i)) ?_
 refine cY ?_
 refine lO (kk (b||((a.Data.length:Int)==0)) R (aF (aF i))) ?_
 refine aU ?_
 exact qj (tE 1 [])
 rintro σ1
 refine aU ?_
 cases hr
 exact qF () (tE 6 [])
theorem Zd_ok  {b:(List Int)}{r:Bool}(e:Zd b=some r) :
 FnOk Tryz.prog 96 [(.slice A2 N2 D2)] [aO kT3 (.slice A2 N2 D2) b] (fun (h:Unit)=>((.bool r),[])):=by
 unfold Zd at e
 refine aR Tryz.func96 R 27 R R fun C V=>?_
 refine cL 0 aA ?_
 rintro rfl
 let u:=RR kT3 A2 D2 b::V
 refine cN u ?_
 refine iD ?_
 refine bC (A:=(Unit)×(HH)) (fun a=>Zd_J1 b=some r) (fun a=>[(0,(s3 a.2))]) (fun a=>aO kT3 (s3 a.2) b::u) ?_ ?_
 refine dA ?_
 obtain ⟨M,D,l⟩:=bd e
 refine bF (A:=HH) D (fun s a=>[(0,(s3 a)),(3,(iv s.1)),(6,(s3 a)),(7,(il b)),(8,(iv s.2))]) (fun s a=>aO kT3 (s3 a) b::u) (A2,b.length,D2) (aS R) (fun w s=>(s.d 0 R)) ?_
 rintro ⟨F,g⟩ ⟨A10,N10,D10⟩ σ1 G e j
 dsimp only [Zd_L1] at e
 refine bI 0 aA (fun (E:N10=b.length)=>?_)
 subst E
 refine bV ?_
 split at e
 refine bV ?_
 obtain ⟨q,e⟩:=gd e
 refine aE (bA 0 aA (show 0<b.length by have:=q; omega) (fun i o16 L=>?_))
 subst L
 refine dO ?_
 refine cQ [(0,(sc (ad i o16) b D10)),(3,(iv F)),(5,(iv (ix b g))),(6,(sc (ad i o16) b D10)),(7,(il b)),(8,(iv g)),(17,(.bool ((decide ((ix b g)<1))||(decide ((ix b g)>4096)))))] (RR kT3 (ad i o16) D10 b::u) ?_ ?_
 refine bH ?_
 rcases bo (decide ((ix b g)<1)) with m | m
 refine bH ?_
 exact qj tI
 refine bH ?_
 exact qj tI
 rintro σ1
 refine bT ?_
 split at e
 refine cU ?_
 cases e
 obtain rfl:=j _ R
 have e:=l
 refine aP ?_
 cases e
 exact qF () (tE 2 [])
 refine qD ?_
 split at e
 refine cY ?_
 cases e
 obtain rfl:=j _ R
 have e:=l
 refine aP ?_
 cases e
 exact qF () (tE 2 [])
 refine dA ?_
 cases e
 exact qA ((ad i o16),b.length,D10) tI
 refine aP ?_
 cases e
 obtain rfl:=j _ R
 have e:=l
 refine aU ?_
 exact qI ((),(A10,b.length,D10)) e tI
 rintro ⟨_,⟨I,B,J⟩⟩ σ1 e
 dsimp only [Zd_J1] at e
 refine bI 0 aA (fun (E:B=b.length)=>?_)
 subst E
 refine cY ?_
 cases e
 exact qF () (tE 2 [])
theorem Z9_ok  {b:(List Int)}{r:Int}(e:Z9 b=some r) :
 FnOk Tryz.prog 99 [(.slice A2 N2 D2)] [aO kT3 (.slice A2 N2 D2) b] (fun (h:Unit)=>((iv r),[])):=by
 unfold Z9 at e
 refine aR Tryz.func99 R 17 R R fun C V=>?_
 refine cL 0 aA ?_
 rintro rfl
 let i:=RR kT3 A2 D2 b::V
 refine cN i ?_
 refine iD ?_
 refine bC (A:=(Int)×(Unit)) (fun a=>Z9_J1 a.1=some r) (fun a=>[(3,(iv a.1))]) (fun a=>i) ?_ ?_
 refine dA ?_
 obtain ⟨F,m,l⟩:=bd e
 refine bF (A:=Unit) m (fun s a=>[(3,(iv s.1)),(6,(sc A2 b D2)),(7,(il b)),(8,(iv s.2))]) (fun s a=>i) () (aS R) tI ?_
 rintro ⟨E,G⟩ _ σ1 q e j
 dsimp only [Z9_L1] at e
 refine bV ?_
 split at e
 refine bV ?_
 obtain ⟨g,e⟩:=gd e
 refine aE (bA 0 aA (show 0<b.length by have:=g; omega) (fun u o12 B=>?_))
 subst B
 refine qD ?_
 cases e
 exact qA () tI
 refine aP ?_
 cases e
 obtain rfl:=j _ R
 have e:=l
 refine aU ?_
 exact qI (E,()) e tI
 rintro ⟨D,_⟩ σ1 e
 dsimp only [Z9_J1] at e
 refine dO ?_
 cases e
 exact qF () (tE 1 [])
theorem Z2z_ok  {p1:Int}{r:Bool}(b:Z2z p1=some r) :
 FnOk Tryz.prog 196 [(iv p1)] [] (fun (h:Unit)=>((.bool r),[])):=by
 unfold Z2z at b
 refine aR Tryz.func196 R 9 R R fun C V=>?_
 refine cN V ?_
 refine bV ?_
 refine cQ [(2,(.bool ((decide (p1≥0))&&(decide (p1<2147483647)))))] (V) ?_ ?_
 refine bH ?_
 rcases bo (decide (p1≥0)) with a | a
 refine b' ?_
 exact qj tI
 refine b' ?_
 exact qj tI
 rintro σ1
 refine aU ?_
 cases b
 exact qF () tI
theorem Z13_ok  {e:(List Int)}{r:Bool}(b:Z13 e=some r) :
 FnOk Tryz.prog 167 [(.slice A2 N2 D2)] [aO kT3 (.slice A2 N2 D2) e] (fun (h:Unit)=>((.bool r),[])):=by
 unfold Z13 at b
 refine aR Tryz.func167 R 15 R R fun C V=>?_
 refine cL 0 aA ?_
 rintro rfl
 let m:=RR kT3 A2 D2 e::V
 refine cN m ?_
 refine bV ?_
 refine bC (A:=(Unit)×(Unit)) (fun a=>Z13_J1=some r) (fun a=>[]) (fun a=>m) ?_ ?_
 refine dA ?_
 obtain ⟨G,q,j⟩:=bd b
 refine bF (A:=Unit) q (fun s a=>[(5,(sc A2 e D2)),(6,(il e)),(7,(iv s))]) (fun s a=>m) () (aS R) tI ?_
 rintro F _ σ1 u b g
 dsimp only [Z13_L1] at b
 refine bV ?_
 split at b
 refine bV ?_
 obtain ⟨i,b⟩:=gd b
 refine aE (bA 0 aA (show 0<e.length by have:=i; omega) (fun B o14 D=>?_))
 subst D
 refine bV ?_
 obtain ⟨E,l,b⟩:=bd b
 refine aU ?_
 refine lC 0 zo R (Z2z_ok l) R ?_
 rintro _
 refine aP ?_
 split at b
 refine cY ?_
 cases b
 obtain rfl:=g _ R
 have b:=j
 refine aP ?_
 cases b
 exact qF () (tE 1 [])
 refine dA ?_
 cases b
 exact qA () tI
 refine aP ?_
 cases b
 obtain rfl:=g _ R
 have b:=j
 refine aU ?_
 exact cJ ((),()) b trivial tI
 rintro ⟨_,_⟩ σ1 b
 dsimp only [Z13_J1] at b
 refine bV ?_
 cases b
 exact qF () (tE 1 [])
theorem Z2g_ok  {t1:Tensor}{r:Bool}(g:Z2g t1=some r) :
 FnOk Tryz.prog 89 [(.agg [(.slice A2 N2 D2),(.slice A3 N3 D3)].toArray)] [aO kT3 (.slice A2 N2 D2) t1.Dims,aO kT3 (.slice A3 N3 D3) t1.Data] (fun (h:Unit)=>((.bool r),[])):=by
 unfold Z2g at g
 refine aR Tryz.func89 R 20 R R fun C V=>?_
 refine cL 0 aA ?_
 rintro rfl
 refine cL 1 aA ?_
 rintro rfl
 let q:=RR kT3 A2 D2 t1.Dims::RR kT3 A3 D3 t1.Data::V
 refine cN q ?_
 refine aU ?_
 refine eE R fun E=>?_
 refine aU ?_
 let e:=aJ E [(sc A2 t1.Dims D2),(sc A3 t1.Data D3)] 38::q
 refine qN e ?_
 refine aU ?_
 obtain ⟨m,i,g⟩:=bd g
 obtain ⟨D,l,g⟩:=bd g
 obtain ⟨F,j,g⟩:=bd g
 refine cQ [(2,(.bool ((m&&((t1.Data.length:Int)==D))&&F)))] (e) ?_ ?_
 rcases bo m with a | a
 rcases bo (m&&((t1.Data.length:Int)==D)) with b | b
 refine dF 18 [] bO fun B u=>?_
 refine gW 0 [] ?_
 refine d1 2 R (lM _ (fun w s=>(s.d 1 R)) ?_)
 refine lC 1 lg R (Zd_ok i) R ?_
 rintro _
 refine lN e ?_
 refine aC (aG (sL []) ?_)
 refine rZ 3 [] ?_
 refine d1 9 R (lM _ (fun w s=>(s.d 1 R)) ?_)
 refine bX 1 R (eG a) kL R (Z9_ok (bN l a)) R ?_
 rintro _
 refine lN e ?_
 refine aC (aG (sL []) ?_)
 refine kq 10 [] ?_
 refine d1 15 R (lM _ (fun w s=>(s.d 2 R)) ?_)
 refine bX 1 R (eG b) zp R (Z13_ok (bN j b)) R ?_
 rintro _
 refine lN e ?_
 refine aC (aG (sL []) ?_)
 refine gW 16 [] ?_
 refine dD ?_
 exact qj tI
 refine dF 18 [] bO fun B u=>?_
 refine gW 0 [] ?_
 refine d1 2 R (lM _ (fun w s=>(s.d 1 R)) ?_)
 refine lC 1 lg R (Zd_ok i) R ?_
 rintro _
 refine lN e ?_
 refine aC (aG (sL []) ?_)
 refine rZ 3 [] ?_
 refine d1 9 R (lM _ (fun w s=>(s.d 1 R)) ?_)
 refine bX 1 R (eG a) kL R (Z9_ok (bN l a)) R ?_
 rintro _
 refine lN e ?_
 refine aC (aG (sL []) ?_)
 refine ub 10 [] ?_
 refine dD ?_
 exact qj tI
 refine dF 18 [] bO fun B u=>?_
 refine gW 0 [] ?_
 refine d1 2 R (lM _ (fun w s=>(s.d 1 R)) ?_)
 refine lC 1 lg R (Zd_ok i) R ?_
 rintro _
 refine lN e ?_
 refine aC (aG (sL []) ?_)
 refine wz 3 [] ?_
 refine dD ?_
 exact qj tI
 rintro σ1
 refine aU ?_
 cases g
 exact qF () (tE 3 [])
theorem Z1i_ok  {k1:leafKind}{b:Node}{a:(List (List Int))}{r:(List Int)×Bool}(l:Z1i k1 b a=some r) :
 FnOk Tryz.prog 311 [(.agg [(.bool k1.data)].toArray),(.agg [(iv b.Op),(.slice A3 N3 D3),(.slice A4 N4 D4),(.slice A5 N5 D5),(aD b.Form),(.slice A6 N6 D6)].toArray),(.slice A8 N8 D8)] [aO kT3 (.slice A3 N3 D3) b.Args,aO kT3 (.slice A4 N4 D4) b.Dims,aO kT3 (.slice A5 N5 D5) b.Ints,aO kT3 (.slice A6 N6 D6) b.Data,aO bG (.slice A8 N8 D8) a] (fun (h:HH)=>((.tuple [(s3 h),(.bool r.2)].toArray),[aO kT3 (s3 h) r.1])):=by
 unfold Z1i at l
 refine aR Tryz.func311 R 32 R R fun C V=>?_
 refine cL 0 aA ?_
 rintro rfl
 refine cL 1 aA ?_
 rintro rfl
 refine cL 2 aA ?_
 rintro rfl
 refine cL 3 aA ?_
 rintro rfl
 refine cL 4 aA ?_
 rintro rfl
 let F:=RR kT3 A3 D3 b.Args::RR kT3 A4 D4 b.Dims::RR kT3 A5 D5 b.Ints::RR kT3 A6 D6 b.Data::RR bG A8 D8 a::V
 refine cN F ?_
 refine aU ?_
 refine eE R fun G=>?_
 refine eE R fun m=>?_
 refine aP ?_
 let D:=aJ m [(iv b.Op),(sc A3 b.Args D3),(sc A4 b.Dims D4),(sc A5 b.Ints D5),(aD b.Form),(sc A6 b.Data D6)] 171::aJ G [(.bool k1.data)] 262::F
 refine qN D ?_
 refine aP ?_
 obtain ⟨B,q,l⟩:=bd l
 obtain ⟨E,u,l⟩:=bd l
 refine cQ [(4,(pt m 0)),(29,(.bool ((((a.length:Int) != 0)||(!B))||(k1.data&&(!E)))))] (D) ?_ ?_
 refine b' ?_
 rcases bo ((a.length:Int) != 0) with i | i
 refine AL ?_
 exact qj tI
 refine aU ?_
 refine lM _ (fun w s=>(s.d 3 R)) ?_
 refine bX 1 R (cA i) lg R (Zd_ok (bN q (cT i))) R ?_
 rintro _
 refine lN D ?_
 refine aP ?_
 rcases bo (((a.length:Int) != 0)||(!B)) with j | j
 refine lK ?_
 exact qj tI
 refine aP ?_
 rcases bo k1.data with g | g
 refine bH ?_
 refine lW (eG g) (vz (.agg [(sc A4 b.Dims D4),(sc A6 b.Data D6)].toArray) (aV gS dS R R)) (lM _ (fun w s=>(((s.d 3 R).d 6 R).e 2 [1,0])) ?_)
 refine bX 2 R (eG g) B1 R (Z2g_ok (t1:=(⟨b.Dims,b.Data⟩:Tensor)) (bN u (wn (cT j) g))) R ?_
 rintro _
 refine lN D ?_
 refine bH ?_
 exact qj tI
 refine cU ?_
 exact qj tI
 rintro σ1
 refine bT ?_
 split at l
 refine cY ?_
 cases l
 exact jI (none,0,0) (fun w s=>((s.nilr kT3).e 8 [0]))
 refine iE ?_
 cases l
 exact jI (A4,b.Dims.length,D4) (tE 7 [3])
theorem Z21_ok  {k1:pairKind}{g:Node}{b:(List (List Int))}{r:(List Int)×Bool}(j:Z21 k1 g b=some r) :
 FnOk Tryz.prog 313 [(.agg [(iv k1.op)].toArray),(.agg [(iv g.Op),(.slice A3 N3 D3),(.slice A4 N4 D4),(.slice A5 N5 D5),(aD g.Form),(.slice A6 N6 D6)].toArray),(.slice A8 N8 D8)] [aO kT3 (.slice A3 N3 D3) g.Args,aO kT3 (.slice A4 N4 D4) g.Dims,aO kT3 (.slice A5 N5 D5) g.Ints,aO kT3 (.slice A6 N6 D6) g.Data,aO bG (.slice A8 N8 D8) b] (fun (h:HH)=>((.tuple [(s3 h),(.bool r.2)].toArray),[aO kT3 (s3 h) r.1])):=by
 unfold Z21 at j
 refine aR Tryz.func313 R 24 R R fun C V=>?_
 refine cL 0 aA ?_
 rintro rfl
 refine cL 1 aA ?_
 rintro rfl
 refine cL 2 aA ?_
 rintro rfl
 refine cL 3 aA ?_
 rintro rfl
 refine cL 4 aA ?_
 rintro rfl
 let G:=RR kT3 A3 D3 g.Args::RR kT3 A4 D4 g.Dims::RR kT3 A5 D5 g.Ints::RR kT3 A6 D6 g.Data::RR bG A8 D8 b::V
 refine cN G ?_
 refine aU ?_
 refine eE R fun M=>?_
 refine eE R fun D=>?_
 refine aP ?_
 let I:=aJ D [(iv g.Op),(sc A3 g.Args D3),(sc A4 g.Dims D4),(sc A5 g.Ints D5),(aD g.Form),(sc A6 g.Data D6)] 171::aJ M [(iv k1.op)] 264::G
 refine qN I ?_
 refine aP ?_
 obtain ⟨i,j⟩:=gd j
 obtain ⟨l,j⟩:=gd j
 obtain ⟨F,q,j⟩:=bd j
 refine cQ [(2,(sc A8 b D8)),(20,(.bool (((b.length:Int) != 2)||(!F))))] (I) ?_ ?_
 rcases bo ((b.length:Int) != 2) with a | a
 refine dF 13 [] bO fun Y U=>?_
 refine mu 0 [] ?_
 refine dD ?_
 exact qj tI
 refine aZ 6 aA (show 0<b.length by have:=(i a); omega) (fun O o13 E=>?_)
 subst E
 refine dI (K:=bG) 6 (0:Int) dT36.dec R (i a).1 (i a).2 ?_
 rintro ⟨A14,D14⟩
 refine dI (K:=bG) 8 (1:Int) dT36.dec R (l a).1 (l a).2 ?_
 rintro ⟨J,L⟩
 refine dF 13 [] bO fun Y U=>?_
 refine kq 0 [] ?_
 refine dW 5 R (cA a) (eJ iT eR R R (i a)) (dW 6 R (cA a) (eD (fo:=0) 2 cK R R R) (dW 7 R (cA a) (vS R) (dW 8 R (cA a) (eJ iT eR R R (l a)) (dW 9 R (cA a) (eD (fo:=0) 0 cK R R R) (d1 10 R (lM _ (fun w s=>(((s.d 3 R).d 2 R).e 6 [1,0,2,3,4,5])) ?_))))))
 refine bX 2 R (cA a) zq R (Z10_ok (bN q (cT a))) R ?_
 rintro _
 refine aC (aG (sL []) ?_)
 refine gW 11 [] ?_
 refine dD ?_
 exact qj (tE 4 [])
 rintro σ1
 refine bT ?_
 split at j
 refine cY ?_
 cases j
 exact jI (none,0,0) (fun w s=>((s.nilr kT3).e 8 [0]))
 refine bH ?_
 obtain ⟨m,j⟩:=gd j
 refine aU ?_
 refine bA 6 aA (show 0<b.length by have:=m; omega) (fun T o23 E=>?_)
 subst E
 refine bT ?_
 refine fS (K:=bG) 6 (0:Int) dT36.dec R m.1 m.2 ?_
 rintro ⟨u,B⟩
 refine lO (eD (fo:=0) 0 cK R R R) ?_
 refine b' ?_
 cases j
 exact jI (u,(ix b 0).length,B) (tE 9 [1])
theorem Z2p_ok  {k1:soloKind}{b:Node}{a:(List (List Int))}{r:(List Int)×Bool}(i:Z2p k1 b a=some r) :
 FnOk Tryz.prog 315 [(.agg [(iv k1.op)].toArray),(.agg [(iv b.Op),(.slice A3 N3 D3),(.slice A4 N4 D4),(.slice A5 N5 D5),(aD b.Form),(.slice A6 N6 D6)].toArray),(.slice A8 N8 D8)] [aO kT3 (.slice A3 N3 D3) b.Args,aO kT3 (.slice A4 N4 D4) b.Dims,aO kT3 (.slice A5 N5 D5) b.Ints,aO kT3 (.slice A6 N6 D6) b.Data,aO bG (.slice A8 N8 D8) a] (fun (h:HH)=>((.tuple [(s3 h),(.bool r.2)].toArray),[aO kT3 (s3 h) r.1])):=by
 unfold Z2p at i
 refine aR Tryz.func315 R 14 R R fun C V=>?_
 refine cL 0 aA ?_
 rintro rfl
 refine cL 1 aA ?_
 rintro rfl
 refine cL 2 aA ?_
 rintro rfl
 refine cL 3 aA ?_
 rintro rfl
 refine cL 4 aA ?_
 rintro rfl
 let q:=RR kT3 A3 D3 b.Args::RR kT3 A4 D4 b.Dims::RR kT3 A5 D5 b.Ints::RR kT3 A6 D6 b.Data::RR bG A8 D8 a::V
 refine cN q ?_
 refine aU ?_
 refine eE R fun B=>?_
 refine eE R fun m=>?_
 refine aP ?_
 let u:=aJ m [(iv b.Op),(sc A3 b.Args D3),(sc A4 b.Dims D4),(sc A5 b.Ints D5),(aD b.Form),(sc A6 b.Data D6)] 171::aJ B [(iv k1.op)] 265::q
 refine qN u ?_
 refine cY ?_
 split at i
 refine cY ?_
 cases i
 exact jI (none,0,0) (fun w s=>((s.nilr kT3).e 8 [0]))
 refine bH ?_
 obtain ⟨g,i⟩:=gd i
 refine aU ?_
 refine bA 6 aA (show 0<a.length by have:=g; omega) (fun D o14 E=>?_)
 subst E
 refine bT ?_
 refine fS (K:=bG) 6 (0:Int) dT36.dec R g.1 g.2 ?_
 rintro ⟨j,l⟩
 refine lO (eD (fo:=0) 0 cK R R R) ?_
 refine b' ?_
 cases i
 exact jI (j,(ix a 0).length,l) (tE 9 [1])
theorem Zm_ok  {b:(List Int)}{a:Int}{r:Bool}(i:Zm b a=some r) :
 FnOk Tryz.prog 93 [(.slice A2 N2 D2),(iv a)] [aO kT3 (.slice A2 N2 D2) b] (fun (h:Unit)=>((.bool r),[])):=by
 unfold Zm at i
 refine aR Tryz.func93 R 13 R R fun C V=>?_
 refine cL 0 aA ?_
 rintro rfl
 let g:=RR kT3 A2 D2 b::V
 refine cN g ?_
 refine bV ?_
 refine cQ [(4,(.bool ((decide (a≥0))&&(decide (a<(b.length:Int))))))] (g) ?_ ?_
 refine bH ?_
 rcases bo (decide (a≥0)) with e | e
 refine dO ?_
 exact qj tI
 refine dO ?_
 exact qj tI
 rintro σ1
 refine aU ?_
 cases i
 exact qF () (tE 1 [])
theorem Z1v_ok  {k1:topKind}{g:Node}{b:(List (List Int))}{r:(List Int)×Bool}(j:Z1v k1 g b=some r) :
 FnOk Tryz.prog 317 [(.agg [].toArray),(.agg [(iv g.Op),(.slice A3 N3 D3),(.slice A4 N4 D4),(.slice A5 N5 D5),(aD g.Form),(.slice A6 N6 D6)].toArray),(.slice A8 N8 D8)] [aO kT3 (.slice A3 N3 D3) g.Args,aO kT3 (.slice A4 N4 D4) g.Dims,aO kT3 (.slice A5 N5 D5) g.Ints,aO kT3 (.slice A6 N6 D6) g.Data,aO bG (.slice A8 N8 D8) b] (fun (h:HH)=>((.tuple [(s3 h),(.bool r.2)].toArray),[aO kT3 (s3 h) r.1])):=by
 unfold Z1v at j
 refine aR Tryz.func317 R 31 R R fun C V=>?_
 refine cL 0 aA ?_
 rintro rfl
 refine cL 1 aA ?_
 rintro rfl
 refine cL 2 aA ?_
 rintro rfl
 refine cL 3 aA ?_
 rintro rfl
 refine cL 4 aA ?_
 rintro rfl
 let I:=RR kT3 A3 D3 g.Args::RR kT3 A4 D4 g.Dims::RR kT3 A5 D5 g.Ints::RR kT3 A6 D6 g.Data::RR bG A8 D8 b::V
 refine cN I ?_
 refine aU ?_
 refine eE R fun O=>?_
 refine eE R fun F=>?_
 refine aP ?_
 let J:=aJ F [(iv g.Op),(sc A3 g.Args D3),(sc A4 g.Dims D4),(sc A5 g.Ints D5),(aD g.Form),(sc A6 g.Data D6)] 171::aJ O [] 267::I
 refine qN J ?_
 refine aP ?_
 obtain ⟨i,j⟩:=gd j
 obtain ⟨l,j⟩:=gd j
 obtain ⟨G,B,j⟩:=bd j
 refine cQ [(2,(sc A8 b D8)),(27,(.bool ((((b.length:Int) != 1)||((g.Ints.length:Int) != 1))||(!G))))] (J) ?_ ?_
 rcases bo ((b.length:Int) != 1) with u | u
 refine dF 20 [] bO fun M L=>?_
 refine r' 0 [] ?_
 refine dD ?_
 exact qj tI
 rcases bo (((b.length:Int) != 1)||((g.Ints.length:Int) != 1)) with a | a
 refine dF 20 [] bO fun M L=>?_
 refine r' 0 [] ?_
 refine dD ?_
 exact qj tI
 refine aZ 6 aA (show 0<b.length by have:=(i a); omega) (fun T o13 q=>?_)
 subst q
 refine dI (K:=bG) 6 (0:Int) dT36.dec R (i a).1 (i a).2 ?_
 rintro ⟨A14,D14⟩
 refine aZ 6 aA (show 0<g.Ints.length by have:=(l a); omega) (fun U o17 q=>?_)
 subst q
 refine dF 20 [] bO fun M L=>?_
 refine oZ 0 [] ?_
 refine dW 11 R (cA a) (eJ iT eR R R (i a)) (dW 12 R (cA a) (eD (fo:=0) 0 cK R R R) ?_)
 refine gW 13 [] ?_
 refine dW 15 R (cA a) (eJ bM cE R R (l a)) (dW 16 R (cA a) (gU 6 fO aA R (l a)) (d1 17 R (lM _ (fun w s=>(s.d 1 R)) ?_)))
 refine bX 1 R (cA a) jL R (Zm_ok (bN B (cT a))) R ?_
 rintro _
 refine aC (aG (sL []) ?_)
 refine gW 18 [] ?_
 refine dD ?_
 exact qj (tE 2 [])
 rintro σ1
 refine bT ?_
 split at j
 refine cY ?_
 cases j
 exact jI (none,0,0) (fun w s=>((s.nilr kT3).e 8 [0]))
 refine bH ?_
 obtain ⟨m,j⟩:=gd j
 refine aU ?_
 refine bA 6 aA (show 0<b.length by have:=m; omega) (fun Y o25 q=>?_)
 subst q
 refine bT ?_
 refine fS (K:=bG) 6 (0:Int) dT36.dec R m.1 m.2 ?_
 rintro ⟨D,E⟩
 refine lO (eD (fo:=0) 0 cK R R R) ?_
 refine b' ?_
 cases j
 exact jI (D,(ix b 0).length,E) (tE 9 [1])
theorem Zf_ok  {L:aN}{mG:Int}{r:(List aN)×aN×Bool}(i:Zf L=some r) :
 FnOk Tryz.prog 149 [(aD L)] [gl 0 mG] (fun (h:HH)=>((.tuple [(s3 h),(aD r.2.1),(.bool r.2.2)].toArray),[aO dQ (s3 h) r.1])):=by
 unfold Zf at i
 refine aR Tryz.func149 R 93 R R fun C V=>?_
 let T:=gl 0 mG::V
 refine cN T ?_
 refine aP ?_
 refine lO (vp (aD ([]:aN)) R) ?_
 refine bH ?_
 obtain ⟨b,al,i⟩:=bd i
 refine aE (lO (vp (aD L) R) (lM _ (fun w s=>(s.dg 0 R)) ?_))
 refine lC 1 zt R (Z2w_ok al) R ?_
 rintro _
 refine lN T ?_
 refine lO (vT R) (lO (vp (aD b.1) R) (lO (vp (aD b.2.1) R) (lB R (lO (vp (aD b.1) R) (lO (vp (aD b.2.1) R) ?_)))))
 refine b' ?_
 refine cQ [(5,(aD b.1)),(6,(aD b.2.1)),(25,(.bool ((!b.2.2)||(decide ((b.2.1.length:Int)>6)))))] (T) ?_ ?_
 refine bH ?_
 rcases bo (!b.2.2) with a0 | a0
 refine b' ?_
 exact qj tI
 refine lW (cA a0) (vp (aD b.2.1) R) (lW (cA a0) (vz (il b.2.1) (dN fK R)) ?_)
 refine aP ?_
 exact qj tI
 rintro σ1
 refine bT ?_
 split at i
 refine bH ?_
 refine lO (vp (aD ([]:aN)) R) ?_
 refine b' ?_
 cases i
 exact iu (none,0,0) (fun w s=>((s.nilr dQ).e 2 [0]))
 refine bH ?_
 obtain ⟨m,am,i⟩:=bd i
 refine aE (lO (vp (aD b.1) R) (lM _ (fun w s=>(s.dg 0 R)) ?_))
 refine lC 1 zx R (Z2x_ok am) R ?_
 rintro ⟨A8,N8,D8⟩
 refine aL 0 aA ?_
 rintro rfl
 refine iD ?_
 split at i
 refine bH ?_
 refine lO (vp (aD ([]:aN)) R) ?_
 refine b' ?_
 cases i
 exact iu (none,0,0) (fun w s=>((s.nilr dQ).e 3 [0]))
 refine bH ?_
 refine bC (A:=(Unit)×(HH)) (fun a=>Zf_J3 b m=some r) (fun a=>[(5,(aD b.1)),(6,(aD b.2.1)),(8,(s3 a.2))]) (fun a=>aO dQ (s3 a.2) m::T) ?_ ?_
 refine dA ?_
 obtain ⟨e1,ai,a2⟩:=bd i
 refine bF (A:=HH) ai (fun s a=>[(5,(aD b.1)),(6,(aD b.2.1)),(8,(s3 a)),(31,(s3 a)),(32,(il m)),(33,(iv s))]) (fun s a=>aO dQ (s3 a) m::T) (A8,m.length,D8) (aS R) tI ?_
 rintro q ⟨aa,ae,E⟩ σ1 a8 i a1
 dsimp only [Zf_L1] at i
 refine bI 0 aA (fun (Y:ae=m.length)=>?_)
 subst Y
 refine bV ?_
 split at i
 refine bH ?_
 refine bC (A:=(Unit)×(HH)) (fun a=>Zf_J2 q=some a8) (fun a=>[(5,(aD b.1)),(6,(aD b.2.1)),(8,(s3 a.2)),(31,(s3 a.2)),(32,(il m)),(33,(iv q))]) (fun a=>aO dQ (s3 a.2) m::T) ?_ ?_
 refine aU ?_
 obtain ⟨U,i⟩:=gd i
 refine aE (bA 0 aA (show 0<m.length by have:=U; omega) (fun M o31 ha=>?_))
 subst ha
 refine bT ?_
 refine lO (vz (aD (ix m q)) (hY (K:=dQ) (fo:=0) (pr:=fun x=>(aD x)) 0 q qH (dT9.leaf fun _ _=>R) aA R U.1 U.2)) (lO (vp (aD (ix m q)) R) ?_)
 refine b' ?_
 refine lO (vp (aD (ix m q)) R) (lO (vz (il (ix m q)) (dN fK R)) ?_)
 refine aP ?_
 split at i
 refine bH ?_
 refine lO (vp (aD ([]:aN)) R) ?_
 refine dO ?_
 cases i
 obtain rfl:=a1 _ R
 have i:=a2
 refine aP ?_
 cases i
 exact iu (none,0,0) (fun w s=>((s.nilr dQ).e 3 [0]))
 refine cY ?_
 obtain ⟨e2,aj,a5⟩:=bd i
 refine bF (A:=Unit) aj (fun s a=>[(5,(aD b.1)),(6,(aD b.2.1)),(8,(sc (ad M o31) m E)),(10,(aD (ix m q))),(11,(iv s)),(31,(sc (ad M o31) m E)),(32,(il m)),(33,(iv q))]) (fun s a=>RR dQ (ad M o31) E m::T) () (aS R) tI ?_
 rintro G _ σ1 ao i a3
 dsimp only [Zf_L2] at i
 refine bH ?_
 refine lO (vp (aD (ix m q)) R) (lO (vz (il (ix m q)) (dN fK R)) ?_)
 refine aP ?_
 split at i
 refine bV ?_
 obtain ⟨O,i⟩:=gd i
 refine cQ [(5,(aD b.1)),(6,(aD b.2.1)),(8,(sc (ad M o31) m E)),(10,(aD (ix m q))),(11,(iv G)),(31,(sc (ad M o31) m E)),(32,(il m)),(33,(iv q)),(55,(.bool ((decide ((bt (ix m q) G)<97))||(decide ((bt (ix m q) G)>122)))))] (RR dQ (ad M o31) E m::T) ?_ ?_
 refine aE (lO (vp (aD (ix m q)) R) (lI R (lO (vz (.int .u8 (bt (ix m q) G)) (cI fK R R O.1 O.2)) (lO (vp (.bool (decide ((bt (ix m q) G)<97))) R) (lB R ?_)))))
 rcases bo (decide ((bt (ix m q) G)<97)) with F | F
 refine bV ?_
 exact qj tI
 refine lW (cA F) (vp (aD (ix m q)) R) (lW (cA F) (vI R) (lW (cA F) (vz (.int .u8 (bt (ix m q) G)) (cI fK R R O.1 O.2)) (lW (cA F) (vp (.bool (decide ((bt (ix m q) G)>122))) R) ?_)))
 refine aU ?_
 exact qj tI
 rintro σ1
 refine bT ?_
 split at i
 refine bH ?_
 refine lO (vp (aD ([]:aN)) R) ?_
 refine bV ?_
 cases i
 obtain rfl:=a3 _ R
 have i:=a5
 refine bH ?_
 cases i
 obtain rfl:=a1 _ R
 have i:=a2
 refine aP ?_
 cases i
 exact iu (none,0,0) (fun w s=>((s.nilr dQ).e 3 [0]))
 refine cY ?_
 cases i
 exact qA () tI
 refine aP ?_
 cases i
 obtain rfl:=a3 _ R
 have i:=a5
 refine aP ?_
 exact qI ((),((ad M o31),m.length,E)) i tI
 rintro ⟨_,⟨ab,ag,ac⟩⟩ σ1 i
 dsimp only [Zf_J2] at i
 refine bI 0 aA (fun (Y:ag=m.length)=>?_)
 subst Y
 refine bH ?_
 cases i
 exact qA (ab,m.length,ac) tI
 refine aP ?_
 cases i
 obtain rfl:=a1 _ R
 have i:=a2
 refine aU ?_
 exact qI ((),(aa,m.length,E)) i tI
 rintro ⟨_,⟨I,ah,J⟩⟩ σ1 i
 dsimp only [Zf_J3] at i
 refine bI 0 aA (fun (Y:ah=m.length)=>?_)
 subst Y
 refine aM (bC (A:=(Unit)×(Unit)) (fun a=>Zf_J4 b m=some r) (fun a=>[(6,(aD b.2.1)),(8,(sc I m J))]) (fun a=>RR dQ I J m::T) ?_ ?_)
 refine bV ?_
 obtain ⟨e3,ak,a6⟩:=bd i
 refine bF (A:=Unit) ak (fun s a=>[(5,(aD b.1)),(6,(aD b.2.1)),(8,(sc I m J)),(12,(iv s))]) (fun s a=>RR dQ I J m::T) () (aS R) tI ?_
 rintro l _ σ1 ap i a4
 dsimp only [Zf_L3] at i
 refine bH ?_
 refine lO (vp (aD b.2.1) R) (lO (vz (il b.2.1) (dN fK R)) ?_)
 refine aP ?_
 split at i
 refine bV ?_
 obtain ⟨j,i⟩:=gd i
 obtain ⟨D,i⟩:=gd i
 obtain ⟨a9,Z,i⟩:=bd i
 obtain ⟨an,a7,i⟩:=bd i
 refine cQ [(5,(aD b.1)),(6,(aD b.2.1)),(8,(sc I m J)),(12,(iv l)),(90,(.bool ((((decide ((bt b.2.1 l)<97))||(decide ((bt b.2.1 l)>122)))||(decide (a9≥0)))||(decide (an<0)))))] (RR dQ I J m::T) ?_ ?_
 rcases bo (decide ((bt b.2.1 l)<97)) with u | u
 refine dF 28 [] bO fun ht Y=>?_
 refine dR 0 R (vp (aD b.2.1) R) (dR 1 R (vI R) (dR 2 R (vz (.int .u8 (bt b.2.1 l)) (cI fK R R j.1 j.2)) (dR 3 R (vp (.bool (decide ((bt b.2.1 l)<97))) R) ?_)))
 refine AQ 4 [] ?_
 refine dD ?_
 exact qj tI
 rcases bo ((decide ((bt b.2.1 l)<97))||(decide ((bt b.2.1 l)>122))) with g | g
 refine dF 28 [] bO fun ht Y=>?_
 refine dR 0 R (vp (aD b.2.1) R) (dR 1 R (vI R) (dR 2 R (vz (.int .u8 (bt b.2.1 l)) (cI fK R R j.1 j.2)) (dR 3 R (vp (.bool (decide ((bt b.2.1 l)<97))) R) (dR 4 R (vB R) (dW 5 R (cA u) (vp (aD b.2.1) R) (dW 6 R (cA u) (vI R) (dW 7 R (cA u) (vz (.int .u8 (bt b.2.1 l)) (cI fK R R j.1 j.2)) (dW 8 R (cA u) (vp (.bool (decide ((bt b.2.1 l)>122))) R) ?_))))))))
 refine ym 9 [] ?_
 refine dD ?_
 exact qj tI
 rcases bo (((decide ((bt b.2.1 l)<97))||(decide ((bt b.2.1 l)>122)))||(decide (a9≥0))) with B | B
 refine dF 28 [] bO fun ht Y=>?_
 refine dR 0 R (vp (aD b.2.1) R) (dR 1 R (vI R) (dR 2 R (vz (.int .u8 (bt b.2.1 l)) (cI fK R R j.1 j.2)) (dR 3 R (vp (.bool (decide ((bt b.2.1 l)<97))) R) (dR 4 R (vB R) (dW 5 R (cA u) (vp (aD b.2.1) R) (dW 6 R (cA u) (vI R) (dW 7 R (cA u) (vz (.int .u8 (bt b.2.1 l)) (cI fK R R j.1 j.2)) (dW 8 R (cA u) (vp (.bool (decide ((bt b.2.1 l)>122))) R) ?_))))))))
 refine gW 9 [] ?_
 refine dW 11 R (cA g) (vp (aD b.2.1) R) (dW 12 R (cA g) (vI R) (dW 13 R (cA g) (vz (aD (sub b.2.1 (0:Int) l)) (hU (0:Int) l fK R R R (D g).1 (D g).2.1 (D g).2.2)) (dW 14 R (cA g) (vp (aD b.2.1) R) (dW 15 R (cA g) (vI R) (dW 16 R (cA g) (vz (.int .u8 (bt b.2.1 l)) (cI fK R R j.1 j.2)) (d1 17 R (bX 0 R (cA g) pY R (Z1r_ok (bN Z (cT g))) R ?_)))))))
 rintro _
 refine aC (aG (sL []) ?_)
 refine qG 18 [] ?_
 refine dD ?_
 exact qj tI
 refine dF 28 [] bO fun ht Y=>?_
 refine dR 0 R (vp (aD b.2.1) R) (dR 1 R (vI R) (dR 2 R (vz (.int .u8 (bt b.2.1 l)) (cI fK R R j.1 j.2)) (dR 3 R (vp (.bool (decide ((bt b.2.1 l)<97))) R) (dR 4 R (vB R) (dW 5 R (cA u) (vp (aD b.2.1) R) (dW 6 R (cA u) (vI R) (dW 7 R (cA u) (vz (.int .u8 (bt b.2.1 l)) (cI fK R R j.1 j.2)) (dW 8 R (cA u) (vp (.bool (decide ((bt b.2.1 l)>122))) R) ?_))))))))
 refine gW 9 [] ?_
 refine dW 11 R (cA g) (vp (aD b.2.1) R) (dW 12 R (cA g) (vI R) (dW 13 R (cA g) (vz (aD (sub b.2.1 (0:Int) l)) (hU (0:Int) l fK R R R (D g).1 (D g).2.1 (D g).2.2)) (dW 14 R (cA g) (vp (aD b.2.1) R) (dW 15 R (cA g) (vI R) (dW 16 R (cA g) (vz (.int .u8 (bt b.2.1 l)) (cI fK R R j.1 j.2)) (d1 17 R (bX 0 R (cA g) pY R (Z1r_ok (bN Z (cT g))) R ?_)))))))
 rintro _
 refine aC (aG (sL []) ?_)
 refine iw 18 [] ?_
 refine dW 21 R (cA B) (vp (aD b.1) R) (dW 22 R (cA B) (vp (aD b.2.1) R) (dW 23 R (cA B) (vI R) (dW 24 R (cA B) (vz (.int .u8 (bt b.2.1 l)) (cI fK R R j.1 j.2)) (d1 25 R (bX 0 R (cA B) pY R (Z1r_ok (bN a7 (cT B))) R ?_)))))
 rintro _
 refine aC (aG (sL []) ?_)
 refine gW 26 [] ?_
 refine dD ?_
 exact qj tI
 rintro σ1
 refine bT ?_
 split at i
 refine bH ?_
 refine lO (vp (aD ([]:aN)) R) ?_
 refine bV ?_
 cases i
 obtain rfl:=a4 _ R
 have i:=a6
 refine aP ?_
 cases i
 exact iu (none,0,0) (fun w s=>((s.nilr dQ).e 3 [0]))
 refine cY ?_
 cases i
 exact qA () tI
 refine aP ?_
 cases i
 obtain rfl:=a4 _ R
 have i:=a6
 refine aU ?_
 exact qI ((),()) i tI
 rintro ⟨_,_⟩ σ1 i
 dsimp only [Zf_J4] at i
 refine aP ?_
 refine lO (vp (aD b.2.1) R) (lS R (lO (vp (aD b.2.1) R) ?_))
 refine bH ?_
 cases i
 exact iu (I,m.length,J) (tE 2 [0])
theorem Z05_ok  {b:(List Int)}{r:(List Int)}(e:Z05 b=some r) :
 FnOk Tryz.prog 98 [(.slice A2 N2 D2)] [aO kT3 (.slice A2 N2 D2) b] (fun (h:HH)=>((s3 h),[ow kT3 3 (s3 h) r])):=by
 unfold Z05 at e
 refine aR Tryz.func98 R 32 R R fun C V=>?_
 refine cL 0 aA ?_
 rintro rfl
 let F:=RR kT3 A2 D2 b::V
 refine cN F ?_
 refine bV ?_
 obtain ⟨l,e⟩:=gd e
 refine aP ?_
 refine eW (K:=kT3) (m:=(b.length:Int)) (z:=(0:Int)) R R bM cE kr (Zr.zk zT3 gR) (by decide) R R l.1 l.2.1 l.2.2 (fun A4 D4=>(lS R (aC (aI (aM (aE (lI R (aC (aI (aM (bC (A:=((List Int))×(Unit)) (fun a=>Z05_J3 a.1=some r) (fun a=>[(3,(sc A4 (List.replicate (b.length:Int).toNat (0:Int)) D4))]) (fun a=>ow kT3 3 (.slice A4 (List.replicate (b.length:Int).toNat (0:Int)).length D4) a.1::F) ?_ ?_)))))))))))
 refine cY ?_
 obtain ⟨Z,L,J⟩:=bd e
 refine bF (A:=Unit) L (fun s a=>[(0,(sc A2 b D2)),(3,(sc A4 (List.replicate (b.length:Int).toNat (0:Int)) D4)),(4,(iv s.2.1)),(5,(iv s.2.2))]) (fun s a=>ow kT3 3 (.slice A4 (List.replicate (b.length:Int).toNat (0:Int)).length D4) s.1::F) () (aS R) tI ?_
 rintro ⟨q,i,j⟩ _ σ1 E e G
 dsimp only [Z05_L1] at e
 refine dO ?_
 split at e
 refine bV ?_
 refine bC (A:=((List Int))×(Unit)) (fun a=>Z05_J2 b i j a.1=some E) (fun a=>[(0,(sc A2 b D2)),(3,(sc A4 (List.replicate (b.length:Int).toNat (0:Int)) D4)),(4,(iv i)),(5,(iv j))]) (fun a=>ow kT3 3 (.slice A4 (List.replicate (b.length:Int).toNat (0:Int)).length D4) a.1::F) ?_ ?_
 refine bT ?_
 obtain ⟨B,e⟩:=gd e
 refine aP ?_
 refine bA 1 aA (show 0<b.length by have:=B; omega) (fun M o25 u=>?_)
 subst u
 refine b' ?_
 split at e
 refine bT ?_
 obtain ⟨g,e⟩:=gd e
 refine bH ?_
 refine bA 0 aB (show 0<(List.replicate (b.length:Int).toNat (0:Int)).length by have:=g; omega) (fun O o29 u=>?_)
 subst u
 refine bT ?_
 refine dX (K:=kT3) (x':=i) 0 j R R cE R R g.1 g.2 ?_ ?_
 exact fun I h s=>(gO).put I h () i s
 refine bT ?_
 exact qI ((q.set j.toNat i),()) e tI
 refine aU ?_
 exact qI (q,()) e tI
 rintro ⟨U,_⟩ σ1 e
 dsimp only [Z05_J2] at e
 obtain ⟨D,e⟩:=gd e
 refine bH ?_
 refine bA 1 aA (show 0<b.length by have:=D; omega) (fun T o33 u=>?_)
 subst u
 refine iE ?_
 cases e
 exact qA () tI
 refine aP ?_
 cases e
 obtain rfl:=G _ R
 have e:=J
 refine aU ?_
 exact qI (q,()) e tI
 rintro ⟨Y,_⟩ σ1 e
 dsimp only [Z05_J3] at e
 refine dO ?_
 cases e
 exact qF (A4,(List.replicate (b.length:Int).toNat (0:Int)).length,D4) (tE 2 [0])
theorem Zl_ok  {f1:form}{b:aN}{e:(List Int)}{r:(List Int)}(g:Zl f1 b e=some r) :
 FnOk Tryz.prog 153 [(.agg [(.slice A2 N2 D2),(aD f1.out_),(aD f1.order),(.slice A3 N3 D3),(.slice A4 N4 D4),(.slice A5 N5 D5),(.slice A6 N6 D6)].toArray),(aD b),(.slice A9 N9 D9)] [aO dQ (.slice A2 N2 D2) f1.groups,aO kT3 (.slice A3 N3 D3) f1.loops,aO kT3 (.slice A4 N4 D4) f1.dims,aO bG (.slice A5 N5 D5) f1.steps,aO kT3 (.slice A6 N6 D6) f1.store,aO kT3 (.slice A9 N9 D9) e] (fun (h:HH)=>((s3 h),[ow kT3 3 (s3 h) r])):=by
 unfold Zl at g
 refine aR Tryz.func153 R 45 R R fun C V=>?_
 refine cL 0 aA ?_
 rintro rfl
 refine cL 1 aA ?_
 rintro rfl
 refine cL 2 aA ?_
 rintro rfl
 refine cL 3 aA ?_
 rintro rfl
 refine cL 4 aA ?_
 rintro rfl
 refine cL 5 aA ?_
 rintro rfl
 let W0:=RR dQ A2 D2 f1.groups::RR kT3 A3 D3 f1.loops::RR kT3 A4 D4 f1.dims::RR bG A5 D5 f1.steps::RR kT3 A6 D6 f1.store::RR kT3 A9 D9 e::V
 refine cN W0 ?_
 refine aU ?_
 refine eE R fun q=>?_
 refine aU ?_
 let E:=aJ q [(sc A2 f1.groups D2),(aD f1.out_),(aD f1.order),(sc A3 f1.loops D3),(sc A4 f1.dims D4),(sc A5 f1.steps D5),(sc A6 f1.store D6)] 86::W0
 refine qN E ?_
 refine aU ?_
 obtain ⟨u,g⟩:=gd g
 refine aP ?_
 refine lO (vz (il f1.order) (dN fK R)) (eW (K:=kT3) (m:=(f1.order.length:Int)) (z:=(0:Int)) R R bM cE kr (Zr.zk zT3 gR) (by decide) R R u.1 u.2.1 u.2.2 (fun A12 D12=>(lS R (aC (aI (aM (bC (A:=((List Int))×(Unit)) (fun a=>Zl_J7 a.1=some r) (fun a=>[(7,(sc A12 (List.replicate (f1.order.length:Int).toNat (0:Int)) D12))]) (fun a=>ow kT3 3 (.slice A12 (List.replicate (f1.order.length:Int).toNat (0:Int)).length D12) a.1::E) ?_ ?_)))))))
 refine dA ?_
 obtain ⟨e1,Z,U⟩:=bd g
 refine bF (A:=Unit) Z (fun s a=>[(1,(aD b)),(2,(sc A9 e D9)),(3,(pt q 0)),(7,(sc A12 (List.replicate (f1.order.length:Int).toNat (0:Int)) D12)),(15,(il (List.replicate (f1.order.length:Int).toNat (0:Int)))),(16,(iv s.2))]) (fun s a=>ow kT3 3 (.slice A12 (List.replicate (f1.order.length:Int).toNat (0:Int)).length D12) s.1::E) () (aS R) tI ?_
 rintro ⟨a1,i⟩ _ σ1 G g O
 dsimp only [Zl_L1] at g
 refine bV ?_
 split at g
 refine bH ?_
 refine bC (A:=((List Int))×(Unit)) (fun a=>Zl_J6 i a.1=some G) (fun a=>[(1,(aD b)),(2,(sc A9 e D9)),(3,(pt q 0)),(7,(sc A12 (List.replicate (f1.order.length:Int).toNat (0:Int)) D12)),(15,(il (List.replicate (f1.order.length:Int).toNat (0:Int)))),(16,(iv i))]) (fun a=>ow kT3 3 (.slice A12 (List.replicate (f1.order.length:Int).toNat (0:Int)).length D12) a.1::E) ?_ ?_
 refine lK ?_
 obtain ⟨e2,a0,Y⟩:=bd g
 refine bF (A:=Unit) a0 (fun s a=>[(1,(aD b)),(2,(sc A9 e D9)),(3,(pt q 0)),(7,(sc A12 (List.replicate (f1.order.length:Int).toNat (0:Int)) D12)),(8,(iv i)),(9,(iv s.2)),(15,(il (List.replicate (f1.order.length:Int).toNat (0:Int)))),(16,(iv i))]) (fun s a=>ow kT3 3 (.slice A12 (List.replicate (f1.order.length:Int).toNat (0:Int)).length D12) s.1::E) () (aS R) tI ?_
 rintro ⟨j,mZ⟩ _ σ1 J g T
 dsimp only [Zl_L2] at g
 refine bH ?_
 refine lO (vp (aD b) R) (lO (vz (il b) (dN fK R)) ?_)
 refine aP ?_
 split at g
 refine bH ?_
 refine bC (A:=((List Int))×(Unit)) (fun a=>Zl_J5 mZ a.1=some J) (fun a=>[(1,(aD b)),(2,(sc A9 e D9)),(3,(pt q 0)),(7,(sc A12 (List.replicate (f1.order.length:Int).toNat (0:Int)) D12)),(8,(iv i)),(9,(iv mZ)),(15,(il (List.replicate (f1.order.length:Int).toNat (0:Int)))),(16,(iv i))]) (fun a=>ow kT3 3 (.slice A12 (List.replicate (f1.order.length:Int).toNat (0:Int)).length D12) a.1::E) ?_ ?_
 refine aU ?_
 obtain ⟨B,g⟩:=gd g
 obtain ⟨D,g⟩:=gd g
 refine dF 8 [] bO fun ht hn=>?_
 refine dR 0 R (vp (aD b) R) (dR 1 R (vI R) (dR 2 R (vz (.int .u8 (bt b mZ)) (cI fK R R B.1 B.2)) ?_))
 refine iw 3 [] ?_
 refine dR 6 R (vz (.int .u8 (bt f1.order i)) (cI fK R R D.1 D.2)) (dR 7 R (vp (.bool ((bt b mZ)==(bt f1.order i))) R) (dD (aI ?_)))
 split at g
 refine bT ?_
 obtain ⟨l,g⟩:=gd g
 obtain ⟨F,g⟩:=gd g
 refine aZ 0 aB (show 0<(List.replicate (f1.order.length:Int).toNat (0:Int)).length by have:=l; omega) (fun L o69 M=>?_)
 subst M
 refine aZ 7 aA (show 0<e.length by have:=F; omega) (fun a2 o72 M=>?_)
 subst M
 refine dF 11 [0] bO fun ht hn=>?_
 refine iw 0 [0] ?_
 refine nQ 4 [0] ?_
 refine d1 3 R (lO (gU 0 fO aB R l) (aC (aG (sL [0]) ?_)))
 refine gW 8 [0] ?_
 refine d1 10 R (lN (ow kT3 3 (.slice (ad L o69) (List.replicate (f1.order.length:Int).toNat (0:Int)).length D12) j::E) ?_)
 refine dX (K:=kT3) (x':=(aH ((ix j i)+(ix e mZ)))) 0 i R R cE R R l.1 l.2 ?_ ?_
 exact fun I h s=>(gO).put I h () (aH ((ix j i)+(ix e mZ))) s
 refine aC (aG (sL [0]) (dD (dT ?_)))
 exact qI ((j.set i.toNat (aH ((ix j i)+(ix e mZ)))),()) g tI
 refine aP ?_
 exact qI (j,()) g tI
 rintro ⟨a3,_⟩ σ1 g
 dsimp only [Zl_J5] at g
 refine b' ?_
 cases g
 exact qA () tI
 refine aP ?_
 cases g
 obtain rfl:=T _ R
 have g:=Y
 refine aP ?_
 exact qI (j,()) g tI
 rintro ⟨a4,_⟩ σ1 g
 dsimp only [Zl_J6] at g
 refine bH ?_
 cases g
 exact qA () tI
 refine aP ?_
 cases g
 obtain rfl:=O _ R
 have g:=U
 refine aU ?_
 exact qI (a1,()) g tI
 rintro ⟨a5,_⟩ σ1 g
 dsimp only [Zl_J7] at g
 refine dO ?_
 cases g
 exact qF (A12,(List.replicate (f1.order.length:Int).toNat (0:Int)).length,D12) (tE 8 [0])
theorem Z0_ok  {ap:aN}{b:(List (List Int))}{mG:Int}{r:form×Bool}(i:Z0 ap b=some r) :
 FnOk Tryz.prog 56 [(aD ap),(.slice A3 N3 D3)] [aO bG (.slice A3 N3 D3) b,gl 0 mG] (fun (h:HH×HH×HH×HH×HH)=>((.tuple [(.agg [(s3 h.1),(aD r.1.out_),(aD r.1.order),(s3 h.2.1),(s3 h.2.2.1),(s3 h.2.2.2.1),(s3 h.2.2.2.2)].toArray),(.bool r.2)].toArray),[aO dQ (s3 h.1) r.1.groups,aO kT3 (s3 h.2.1) r.1.loops,ow kT3 3 (s3 h.2.2.1) r.1.dims,ow bG 36 (s3 h.2.2.2.1) r.1.steps,ow kT3 3 (s3 h.2.2.2.2) r.1.store])):=by
 unfold Z0 at i
 refine aR Tryz.func56 R 179 R R fun C V=>?_
 refine cL 0 aA ?_
 rintro rfl
 let Z:=RR bG A3 D3 b::gl 0 mG::V
 refine cN Z ?_
 refine aU ?_
 refine bD R R lQ (fun b4=>(lB R (aC (aI (aM ?_)))))
 obtain ⟨g,d5,i⟩:=bd i
 refine aE (lO (vp (aD ap) R) (lM (gl 0 mG::_::Z) (fun w s=>(s.dg 2 R)) ?_))
 refine lC 1 zz R (Zf_ok d5) R ?_
 rintro ⟨A7,N7,D7⟩
 refine aL 0 aA ?_
 rintro rfl
 refine lO (vT R) (lS R (lO (vp (aD g.2.1) R) (lB R (lS R (lO (vp (aD g.2.1) R) ?_)))))
 refine b' ?_
 refine cQ [(1,(sc A3 b D3)),(4,(pt b4 0)),(6,(sc A7 g.1 D7)),(7,(aD g.2.1)),(34,(.bool ((!g.2.2)||((g.1.length:Int) != (b.length:Int)))))] (aJ b4 [(.slice none 0 0),(aD ([]:aN)),(aD ([]:aN)),(.slice none 0 0),(.slice none 0 0),(.slice none 0 0),(.slice none 0 0)] 86::RR dQ A7 D7 g.1::Z) ?_ ?_
 refine bH ?_
 rcases bo (!g.2.2) with cx | cx
 refine dO ?_
 exact qj (tE 2 [1,0])
 refine dO ?_
 exact qj (tE 2 [1,0])
 rintro σ1
 refine bT ?_
 split at i
 refine aP ?_
 refine lO (vz (.agg [(.slice none 0 0),(aD ([]:aN)),(aD ([]:aN)),(.slice none 0 0),(.slice none 0 0),(.slice none 0 0),(.slice none 0 0)].toArray) (aV qO lQ R R)) (aK 0 R R jM R R R R R R (lB R (aC (aI (bW (cD ?_))))))
 cases i
 exact dJ (vs:=[(.agg [(.slice none 0 0),(aD ([]:aN)),(aD ([]:aN)),(.slice none 0 0),(.slice none 0 0),(.slice none 0 0),(.slice none 0 0)].toArray),(.bool false)]) (.inl R) ((none,0,0),(none,0,0),(none,0,0),(none,0,0),(none,0,0)) R ⟨⟨0,b4,_,_,R,R,.inl ⟨pd,jM,R⟩⟩,R,trivial⟩ R (fun w s=>((((((s.nilr dQ).nilr kT3).nilo kT3 3).nilo bG 36).nilo kT3 3).e 9 [4,3,2,1,0]))
 refine bV ?_
 refine lO (vp (aD g.2.1) R) (lO (vp (aD g.2.1) R) (lO (vz (.agg [(sc A7 g.1 D7),(aD g.2.1),(aD g.2.1),(.slice none 0 0),(.slice none 0 0),(.slice none 0 0),(.slice none 0 0)].toArray) (aV qO lQ R R)) (bD R R lQ (fun J=>(aK 0 R R jM R R R R R R (lN (aJ J [(sc A7 g.1 D7),(aD g.2.1),(aD g.2.1),(.slice none 0 0),(.slice none 0 0),(.slice none 0 0),(.slice none 0 0)] 86::_::_::Z) ?_))))))
 refine bH ?_
 refine lO (vz (.agg [(iv 0),(iv 0),(iv 0),(iv 0),(iv 0),(iv 0),(iv 0),(iv 0),(iv 0),(iv 0),(iv 0),(iv 0),(iv 0),(iv 0),(iv 0),(iv 0),(iv 0),(iv 0),(iv 0),(iv 0),(iv 0),(iv 0),(iv 0),(iv 0),(iv 0),(iv 0)].toArray) (ws sn vK cE)) (bD R R vK (fun T=>(aK 0 R R vL R R R R R R (aC (qM (ow kT3 184 (.slice (ad T 0) 26 26) (List.replicate 26 (0:Int))::_::_::_::Z) (fun w s=>s.b2o 0 (List.replicate 26 (0:Int)) R R R R) ?_)))))
 refine aU ?_
 refine bC (A:=(aN×(List Int))×(HH×HH)) (fun a=>Z0_J7 b g a.1.1 a.1.2=some r) (fun a=>[(1,(s3 a.2.1)),(4,(pt b4 0)),(6,(s3 a.2.2)),(7,(aD g.2.1)),(9,(pt J 0)),(10,(pt T 0))]) (fun a=>aO bG (s3 a.2.1) b::aJ b4 [(.slice none 0 0),(aD ([]:aN)),(aD ([]:aN)),(.slice none 0 0),(.slice none 0 0),(.slice none 0 0),(.slice none 0 0)] 86::aO dQ (s3 a.2.2) g.1::aJ J [(s3 a.2.2),(aD g.2.1),(aD a.1.1),(.slice none 0 0),(.slice none 0 0),(.slice none 0 0),(.slice none 0 0)] 86::ow kT3 184 (.slice (ad T 0) 26 26) a.1.2::Z) ?_ ?_
 refine dA ?_
 obtain ⟨e1,d0,br⟩:=bd i
 refine bF (A:=HH×HH) d0 (fun s a=>[(1,(s3 a.1)),(4,(pt b4 0)),(6,(s3 a.2)),(7,(aD g.2.1)),(9,(pt J 0)),(10,(pt T 0)),(41,(s3 a.2)),(42,(il g.1)),(43,(iv s.2.2))]) (fun s a=>aO bG (s3 a.1) b::aJ b4 [(.slice none 0 0),(aD ([]:aN)),(aD ([]:aN)),(.slice none 0 0),(.slice none 0 0),(.slice none 0 0),(.slice none 0 0)] 86::aO dQ (s3 a.2) g.1::aJ J [(s3 a.2),(aD g.2.1),(aD s.1),(.slice none 0 0),(.slice none 0 0),(.slice none 0 0),(.slice none 0 0)] 86::ow kT3 184 (.slice (ad T 0) 26 26) s.2.1::Z) ((A3,b.length,D3),(A7,g.1.length,D7)) (aS R) (fun w s=>((s.d 4 R).e 5 [0,3,4,2,1])) ?_
 rintro ⟨cw,bc,j⟩ ⟨⟨cs,cu,ae⟩,⟨ct,cv,a1⟩⟩ σ1 cp i bk
 dsimp only [Z0_L1] at i
 refine bI 0 aA (fun (hn:cu=b.length)=>?_)
 subst hn
 refine bI 2 aA (fun (hn:cv=g.1.length)=>?_)
 subst hn
 refine bV ?_
 split at i
 refine bH ?_
 refine bC (A:=(aN×(List Int))×(HH×HH)) (fun a=>Z0_J6 j a.1.1 a.1.2=some cp) (fun a=>[(1,(s3 a.2.1)),(4,(pt b4 0)),(6,(s3 a.2.2)),(7,(aD g.2.1)),(9,(pt J 0)),(10,(pt T 0)),(41,(s3 a.2.2)),(42,(il g.1)),(43,(iv j))]) (fun a=>aO bG (s3 a.2.1) b::aJ b4 [(.slice none 0 0),(aD ([]:aN)),(aD ([]:aN)),(.slice none 0 0),(.slice none 0 0),(.slice none 0 0),(.slice none 0 0)] 86::aO dQ (s3 a.2.2) g.1::aJ J [(s3 a.2.2),(aD g.2.1),(aD a.1.1),(.slice none 0 0),(.slice none 0 0),(.slice none 0 0),(.slice none 0 0)] 86::ow kT3 184 (.slice (ad T 0) 26 26) a.1.2::Z) ?_ ?_
 refine aU ?_
 obtain ⟨b8,i⟩:=gd i
 refine aU ?_
 refine bA 2 aA (show 0<g.1.length by have:=b8; omega) (fun a4 o83 ha=>?_)
 subst ha
 refine bT ?_
 refine lO (vz (aD (ix g.1 j)) (hY (K:=dQ) (fo:=0) (pr:=fun x=>(aD x)) 2 j qH (dT9.leaf fun _ _=>R) aA R b8.1 b8.2)) (lI R (lO (vp (aD (ix g.1 j)) R) ?_))
 refine bH ?_
 obtain ⟨a6,i⟩:=gd i
 refine aE (lO (vp (aD (ix g.1 j)) R) (lO (vz (il (ix g.1 j)) (dN fK R)) (lS R (lI R (bA 0 aA (show 0<b.length by have:=a6; omega) (fun ag o86 ha=>?_))))))
 subst ha
 refine bT ?_
 refine fS (K:=bG) 0 j dT36.dec R a6.1 a6.2 ?_
 rintro ⟨dv,dw⟩
 refine lO (eD (fo:=0) 0 cK R R R) ?_
 refine bH ?_
 split at i
 refine aP ?_
 refine lO (vz (.agg [(.slice none 0 0),(aD ([]:aN)),(aD ([]:aN)),(.slice none 0 0),(.slice none 0 0),(.slice none 0 0),(.slice none 0 0)].toArray) (aV qO lQ R R)) (aK 3 R R jM R R R R R R (lB R (aC (aI (bW (cD (dG (cD ?_))))))))
 cases i
 obtain rfl:=bk _ R
 have i:=br
 refine aP ?_
 cases i
 exact dJ (vs:=[(.agg [(.slice none 0 0),(aD ([]:aN)),(aD ([]:aN)),(.slice none 0 0),(.slice none 0 0),(.slice none 0 0),(.slice none 0 0)].toArray),(.bool false)]) (.inl R) ((none,0,0),(none,0,0),(none,0,0),(none,0,0),(none,0,0)) R ⟨⟨3,b4,_,_,R,R,.inl ⟨pd,jM,R⟩⟩,R,trivial⟩ R (fun w s=>((((((s.nilr dQ).nilr kT3).nilo kT3 3).nilo bG 36).nilo kT3 3).e 14 [4,3,2,1,0]))
 refine cY ?_
 obtain ⟨e2,d2,ck⟩:=bd i
 refine bF (A:=Unit) d2 (fun s a=>[(1,(sc (ad ag o86) b ae)),(4,(pt b4 0)),(6,(sc (ad a4 o83) g.1 a1)),(7,(aD g.2.1)),(9,(pt J 0)),(10,(pt T 0)),(11,(iv j)),(12,(aD (ix g.1 j))),(13,(iv s.2.2)),(41,(sc (ad a4 o83) g.1 a1)),(42,(il g.1)),(43,(iv j))]) (fun s a=>RR bG (ad ag o86) ae b::aJ b4 [(.slice none 0 0),(aD ([]:aN)),(aD ([]:aN)),(.slice none 0 0),(.slice none 0 0),(.slice none 0 0),(.slice none 0 0)] 86::RR dQ (ad a4 o83) a1 g.1::aJ J [(sc (ad a4 o83) g.1 a1),(aD g.2.1),(aD s.1),(.slice none 0 0),(.slice none 0 0),(.slice none 0 0),(.slice none 0 0)] 86::ow kT3 184 (.slice (ad T 0) 26 26) s.2.1::Z) () (aS R) (fun w s=>(s.f 7 [2,5])) ?_
 rintro ⟨aa,Y,q⟩ _ σ1 cq i ci
 dsimp only [Z0_L2] at i
 refine bH ?_
 refine lO (vp (aD (ix g.1 j)) R) (lO (vz (il (ix g.1 j)) (dN fK R)) ?_)
 refine aP ?_
 split at i
 refine bH ?_
 refine bC (A:=(aN×(List Int))×(Unit)) (fun a=>Z0_J5 q a.1.1 a.1.2=some cq) (fun a=>[(1,(sc (ad ag o86) b ae)),(4,(pt b4 0)),(6,(sc (ad a4 o83) g.1 a1)),(7,(aD g.2.1)),(9,(pt J 0)),(10,(pt T 0)),(11,(iv j)),(12,(aD (ix g.1 j))),(13,(iv q)),(41,(sc (ad a4 o83) g.1 a1)),(42,(il g.1)),(43,(iv j))]) (fun a=>RR bG (ad ag o86) ae b::aJ b4 [(.slice none 0 0),(aD ([]:aN)),(aD ([]:aN)),(.slice none 0 0),(.slice none 0 0),(.slice none 0 0),(.slice none 0 0)] 86::RR dQ (ad a4 o83) a1 g.1::aJ J [(sc (ad a4 o83) g.1 a1),(aD g.2.1),(aD a.1.1),(.slice none 0 0),(.slice none 0 0),(.slice none 0 0),(.slice none 0 0)] 86::ow kT3 184 (.slice (ad T 0) 26 26) a.1.2::Z) ?_ ?_
 refine aU ?_
 obtain ⟨ac,i⟩:=gd i
 obtain ⟨ai,i⟩:=gd i
 refine aE (lO (vp (aD (ix g.1 j)) R) (lI R (lO (vz (.int .u8 (bt (ix g.1 j) q)) (cI fK R R ac.1 ac.2)) (lO (vp (.int .u8 (IntKind.wrap .u8 ((bt (ix g.1 j) q) - 97))) R) (lO (vz (.pointer (some ⟨T,0+(IntKind.wrap .u8 ((bt (ix g.1 j) q) - 97)).toNat*1,none⟩)) (rT sn cE R R ai)) ?_)))))
 refine b' ?_
 obtain ⟨aj,i⟩:=gd i
 refine cQ [(1,(sc (ad ag o86) b ae)),(4,(pt b4 0)),(6,(sc (ad a4 o83) g.1 a1)),(7,(aD g.2.1)),(9,(pt J 0)),(10,(pt T 0)),(11,(iv j)),(12,(aD (ix g.1 j))),(13,(iv q)),(14,(.pointer (some ⟨T,0+(IntKind.wrap .u8 ((bt (ix g.1 j) q) - 97)).toNat*1,none⟩))),(41,(sc (ad a4 o83) g.1 a1)),(42,(il g.1)),(43,(iv j)),(84,(.bool (((ix Y (IntKind.wrap .u8 ((bt (ix g.1 j) q) - 97))) != 0)&&((ix Y (IntKind.wrap .u8 ((bt (ix g.1 j) q) - 97))) != (ix (ix b j) q)))))] (RR bG (ad ag o86) ae b::aJ b4 [(.slice none 0 0),(aD ([]:aN)),(aD ([]:aN)),(.slice none 0 0),(.slice none 0 0),(.slice none 0 0),(.slice none 0 0)] 86::RR dQ (ad a4 o83) a1 g.1::aJ J [(sc (ad a4 o83) g.1 a1),(aD g.2.1),(aD aa),(.slice none 0 0),(.slice none 0 0),(.slice none 0 0),(.slice none 0 0)] 86::ow kT3 184 (.slice (ad T 0) 26 26) Y::Z) ?_ ?_
 rcases bo ((ix Y (IntKind.wrap .u8 ((bt (ix g.1 j) q) - 97))) != 0) with U | U
 refine dI (K:=bG) 0 j dT36.dec R a6.1 a6.2 ?_
 rintro ⟨d6,db⟩
 refine aZ 1 aA (show 0<(ix b j).length by have:=(aj U); omega) (fun dn o120 ha=>?_)
 subst ha
 refine dF 17 [] bO fun ht hn=>?_
 refine oZ 0 [] ?_
 refine dW 11 R (eG U) (eD (fo:=0) 0 cK R R R) (dW 12 R (eG U) (vI R) (dW 13 R (eG U) (eJ bM cE R R (aj U)) (dW 14 R (eG U) (gU 1 fO aA R (aj U)) ?_)))
 refine gW 15 [] ?_
 refine dD ?_
 exact qj (fun w s=>(s.f 7 [2,5]))
 refine dF 17 [] bO fun ht hn=>?_
 refine yk 0 [] ?_
 refine dD ?_
 exact qj tI
 rintro σ1
 refine bT ?_
 split at i
 refine aP ?_
 refine lO (vz (.agg [(.slice none 0 0),(aD ([]:aN)),(aD ([]:aN)),(.slice none 0 0),(.slice none 0 0),(.slice none 0 0),(.slice none 0 0)].toArray) (aV qO lQ R R)) (aK 1 R R jM R R R R R R (lN (_::_::_::_::_::Z) ?_))
 refine dO ?_
 cases i
 obtain rfl:=ci _ R
 have i:=ck
 refine bH ?_
 cases i
 obtain rfl:=bk _ R
 have i:=br
 refine aP ?_
 cases i
 exact dJ (vs:=[(.agg [(.slice none 0 0),(aD ([]:aN)),(aD ([]:aN)),(.slice none 0 0),(.slice none 0 0),(.slice none 0 0),(.slice none 0 0)].toArray),(.bool false)]) (.inl R) ((none,0,0),(none,0,0),(none,0,0),(none,0,0),(none,0,0)) R ⟨⟨1,b4,_,_,R,R,.inl ⟨pd,jM,R⟩⟩,R,trivial⟩ R (fun w s=>((((((s.nilr dQ).nilr kT3).nilo kT3 3).nilo bG 36).nilo kT3 3).e 12 [4,3,2,1,0]))
 refine bH ?_
 obtain ⟨bl,i⟩:=gd i
 refine b' ?_
 refine fS (K:=bG) 0 j dT36.dec R a6.1 a6.2 ?_
 rintro ⟨d7,bg⟩
 refine lO (eD (fo:=0) 0 cK R R R) (lI R (bA 1 aA (show 0<(ix b j).length by have:=bl; omega) (fun bj o126 ha=>?_)))
 subst ha
 refine aP ?_
 refine lM (ow _ _ _ _::cl ag (o86+j.toNat*1) [(sc (ad bj o126) (ix b j) bg)]::RR kT3 (ad bj o126) bg (ix b j)::aO _ _ _::aJ _ _ _::aO _ _ _::aJ _ _ _::Z) (fun w s=>(s.f 7 [6,1,0,6])) ?_
 refine dX (K:=kT3) (x':=(ix (ix b j) q)) 0 (IntKind.wrap .u8 ((bt (ix g.1 j) q) - 97)) R R cE R R ai.1 ai.2 ?_ ?_
 exact fun I h s=>(gO).put I h () (ix (ix b j) q) s
 refine bT ?_
 obtain ⟨b9,ao,i⟩:=bd i
 replace ao:=Option.some.inj ao
 refine qM (ow kT3 184 (.slice (ad T 0) 26 26) b9::_::_::_::_::_::_::Z) (fun w s=>by rw [← ao]; exact s) ?_
 refine aU ?_
 obtain ⟨dt,bs,i⟩:=bd i
 refine dF 7 [] bO fun ht hn=>?_
 refine gW 0 [] ?_
 refine dR 2 R (vp (aD (ix g.1 j)) R) (dR 3 R (vI R) (dR 4 R (vz (.int .u8 (bt (ix g.1 j) q)) (cI fK R R ac.1 ac.2)) (d1 5 R (lC 0 pY R (Z1r_ok bs) R ?_))))
 rintro _
 refine aC (aG (sL []) (dR 6 R (mT R R) (dD (aI ?_))))
 split at i
 refine bT ?_
 obtain ⟨ak,i⟩:=gd i
 obtain ⟨bm,i⟩:=gd i
 refine dF 10 [6] bO fun ht hn=>?_
 refine m6 0 [6] ?_
 refine dR 2 R (vp (aD (ix g.1 j)) R) (hS:=(sL [6])) ?_
 refine iw 3 [6] ?_
 refine dR 6 R (vz (aD (sub (ix g.1 j) q (aH (q+1)))) (hU q (aH (q+1)) fK R R R ak.1 ak.2.1 ak.2.2)) (hS:=(sL [6])) (d1 1 R (lO (gD 6 qH R R R) (aC (aG (sL [6]) (dR 7 R (vz (aD (aa++(sub (ix g.1 j) q (aH (q+1))))) (rK R R bm)) (hS:=(sL [6])) ?_)))))
 refine m6 8 [6] ?_
 refine d1 9 R (cP 6 R R rr R R R R R (lN (_::_::_::_::_::_::aJ J [(sc (ad a4 o83) g.1 a1),(aD g.2.1),(aD (aa++(sub (ix g.1 j) q (aH (q+1))))),(.slice none 0 0),(.slice none 0 0),(.slice none 0 0),(.slice none 0 0)] 86::Z) ?_))
 refine aC (aG (sL [6]) (dD (dT ?_)))
 exact qI (((aa++(sub (ix g.1 j) q (aH (q+1)))),b9),()) i (fun w s=>(s.f 7 [3,4,0,1]))
 refine aP ?_
 exact qI ((aa,b9),()) i (fun w s=>(s.f 7 [3,4,0,1]))
 rintro ⟨⟨dl,cn⟩,_⟩ σ1 i
 dsimp only [Z0_J5] at i
 refine b' ?_
 cases i
 exact qA () tI
 refine aP ?_
 cases i
 obtain rfl:=ci _ R
 have i:=ck
 refine aP ?_
 exact qI ((aa,Y),(((ad ag o86),b.length,ae),((ad a4 o83),g.1.length,a1))) i tI
 rintro ⟨⟨dm,co⟩,⟨⟨c2,c8,c5⟩,⟨c3,c9,c6⟩⟩⟩ σ1 i
 dsimp only [Z0_J6] at i
 refine bI 0 aA (fun (hn:c8=b.length)=>?_)
 subst hn
 refine bI 2 aA (fun (hn:c9=g.1.length)=>?_)
 subst hn
 refine bH ?_
 cases i
 exact qA ((c2,b.length,c5),(c3,g.1.length,c6)) tI
 refine aP ?_
 cases i
 obtain rfl:=bk _ R
 have i:=br
 refine aU ?_
 exact qI ((cw,bc),((cs,b.length,ae),(ct,g.1.length,a1))) i tI
 rintro ⟨⟨l,O⟩,⟨⟨a8,ca,a9⟩,⟨E,cb,m⟩⟩⟩ σ1 i
 dsimp only [Z0_J7] at i
 refine bI 0 aA (fun (hn:ca=b.length)=>?_)
 subst hn
 refine bI 2 aA (fun (hn:cb=g.1.length)=>?_)
 subst hn
 refine bV ?_
 refine bC (A:=((List Int))×(HH)) (fun a=>Z0_J8 b g l a.1=some r) (fun a=>[(1,(sc a8 b a9)),(4,(pt b4 0)),(6,(sc E g.1 m)),(7,(aD g.2.1)),(9,(pt J 0))]) (fun a=>RR bG a8 a9 b::aJ b4 [(.slice none 0 0),(aD ([]:aN)),(aD ([]:aN)),(.slice none 0 0),(.slice none 0 0),(.slice none 0 0),(.slice none 0 0)] 86::RR dQ E m g.1::aJ J [(sc E g.1 m),(aD g.2.1),(aD l),(s3 a.2),(.slice none 0 0),(.slice none 0 0),(.slice none 0 0)] 86::ow kT3 3 (s3 a.2) a.1::Z) ?_ ?_
 refine bV ?_
 obtain ⟨e3,d3,cm⟩:=bd i
 refine bF (A:=HH) d3 (fun s a=>[(1,(sc a8 b a9)),(4,(pt b4 0)),(6,(sc E g.1 m)),(7,(aD g.2.1)),(9,(pt J 0)),(10,(pt T 0)),(15,(iv s.2.1)),(16,(iv s.2.2))]) (fun s a=>RR bG a8 a9 b::aJ b4 [(.slice none 0 0),(aD ([]:aN)),(aD ([]:aN)),(.slice none 0 0),(.slice none 0 0),(.slice none 0 0),(.slice none 0 0)] 86::RR dQ E m g.1::aJ J [(sc E g.1 m),(aD g.2.1),(aD l),(s3 a),(.slice none 0 0),(.slice none 0 0),(.slice none 0 0)] 86::ow kT3 3 (s3 a) s.1::ow kT3 184 (.slice (ad T 0) 26 26) O::Z) (none,0,0) (aS R) (fun w s=>((s.nilo kT3 3).e 6 [1,2,3,4,0,5])) ?_
 rintro ⟨ab,cr,a5⟩ ⟨c4,cc,c7⟩ σ1 dr i cj
 dsimp only [Z0_L3] at i
 refine bI 4 aB (fun (hn:cc=ab.length)=>?_)
 subst hn
 refine bV ?_
 refine lO (vz (il l) (dN fK R)) ?_
 refine aP ?_
 split at i
 refine bV ?_
 obtain ⟨b7,i⟩:=gd i
 obtain ⟨bn,i⟩:=gd i
 refine bH ?_
 refine lO (vz (.int .u8 (bt l a5)) (cI fK R R b7.1 b7.2)) (lO (vp (.int .u8 (IntKind.wrap .u8 ((bt l a5) - 97))) R) (lO (vz (.pointer (some ⟨T,0+(IntKind.wrap .u8 ((bt l a5) - 97)).toNat*1,none⟩)) (rT sn cE R R bn)) ?_))
 refine b' ?_
 obtain ⟨bp,i⟩:=gd i
 refine bH ?_
 refine bL (K:=kT3) (xs:=([(ix O (IntKind.wrap .u8 ((bt l a5) - 97)))]:List Int)) (vs:=[(iv (ix O (IntKind.wrap .u8 ((bt l a5) - 97))))]) 0 R R bM cE gR R R R R R R ?_ R (fun d8 dc=>?_)
 exact fun I h s=>(gO).list [((),(ix O (IntKind.wrap .u8 ((bt l a5) - 97))))] I h s
 refine lM (ow _ _ _ _::ow _ _ _ _::aO _ _ _::aJ _ _ _::aO _ _ _::aJ _ _ _::ow _ _ _ _::Z) (fun w s=>(s.f 7 [5,1,0,5,6,1])) ?_
 refine eC (K:=kT3) 17592186044416 R R bM cE kr (Zr.zk zT3 gR) R R R R R R dM bp (fun ax b1=>(lN (OO kT3 3 ax b1 (ab++([(ix O (IntKind.wrap .u8 ((bt l a5) - 97)))]:List Int))::_::_::_::_::_::Z) ?_))
 refine bT ?_
 refine cP 4 R R eR R R R R R (lN (_::_::_::_::aJ J [(sc E g.1 m),(aD g.2.1),(aD l),(sc ax (ab++([(ix O (IntKind.wrap .u8 ((bt l a5) - 97)))]:List Int)) b1),(.slice none 0 0),(.slice none 0 0),(.slice none 0 0)] 86::_::Z) ?_)
 refine wx ?_
 split at i
 refine aP ?_
 refine lO (vz (.agg [(.slice none 0 0),(aD ([]:aN)),(aD ([]:aN)),(.slice none 0 0),(.slice none 0 0),(.slice none 0 0),(.slice none 0 0)].toArray) (aV qO lQ R R)) (aK 2 R R jM R R R R R R (lB R (aC (aI (bW (dG (cD ?_)))))))
 cases i
 obtain rfl:=cj _ R
 have i:=cm
 refine aP ?_
 cases i
 exact dJ (vs:=[(.agg [(.slice none 0 0),(aD ([]:aN)),(aD ([]:aN)),(.slice none 0 0),(.slice none 0 0),(.slice none 0 0),(.slice none 0 0)].toArray),(.bool false)]) (.inl R) ((none,0,0),(none,0,0),(none,0,0),(none,0,0),(none,0,0)) R ⟨⟨2,b4,_,_,R,R,.inl ⟨pd,jM,R⟩⟩,R,trivial⟩ R (fun w s=>((((((s.nilr dQ).nilr kT3).nilo kT3 3).nilo bG 36).nilo kT3 3).e 13 [4,3,2,1,0]))
 refine cY ?_
 cases i
 exact qA (ax,(ab++([(ix O (IntKind.wrap .u8 ((bt l a5) - 97)))]:List Int)).length,b1) (tE 6 [1,2,3,4,0,5])
 refine aP ?_
 cases i
 obtain rfl:=cj _ R
 have i:=cm
 refine aU ?_
 exact qI (ab,(c4,ab.length,c7)) i (fun w s=>(s.f 6 [0,5]))
 rintro ⟨D,⟨L,cf,M⟩⟩ σ1 i
 dsimp only [Z0_J8] at i
 refine bI 4 aB (fun (hn:cf=D.length)=>?_)
 subst hn
 refine bT ?_
 obtain ⟨al,i⟩:=gd i
 obtain ⟨u,bu,i⟩:=bd i
 refine aP ?_
 refine lO (vp (aD g.2.1) R) (lO (vz (il g.2.1) (dN fK R)) (hW (fun w s=>s.shr 4 R) (gC (K:=kT3) (0:Int) (g.2.1.length:Int) 0 R R bM cE R R R R al.1 al.2.1 al.2.2 (fun be bh=>(lM (RR kT3 be bh (sub D (0:Int) (g.2.1.length:Int))::RR kT3 be bh (sub D (0:Int) (g.2.1.length:Int))::RR kT3 L M D::_::_::_::aJ J [(sc E g.1 m),(aD g.2.1),(aD l),(sc L D M),(.slice none 0 0),(.slice none 0 0),(.slice none 0 0)] 86::Z) (fun w s=>(s.d 0 R)) ?_)))))
 refine lC 1 jw R (Zp_ok bu) R ?_
 rintro ⟨F,df,G⟩
 refine aL 0 aB ?_
 rintro rfl
 refine bT ?_
 refine cP 6 R R eR R R R R R (lN (_::_::_::_::_::_::aJ J [(sc E g.1 m),(aD g.2.1),(aD l),(sc L D M),(sc F u G),(.slice none 0 0),(.slice none 0 0)] 86::Z) ?_)
 refine bH ?_
 obtain ⟨du,bv,i⟩:=bd i
 refine aP ?_
 refine lC 1 lg R (FnOk.lends (A':=[OO kT3 3 F G u]) (A:=[RR kT3 F G u]) (B:=[]) (Zd_ok bv) ⟨aY,trivial⟩ (fun _=>trivial)) R ?_
 rintro _
 refine aP ?_
 split at i
 refine aP ?_
 refine lO (vz (.agg [(.slice none 0 0),(aD ([]:aN)),(aD ([]:aN)),(.slice none 0 0),(.slice none 0 0),(.slice none 0 0),(.slice none 0 0)].toArray) (aV qO lQ R R)) (aK 4 R R jM R R R R R R (lB R (aC (aI (bW (cD ?_))))))
 cases i
 exact dJ (vs:=[(.agg [(.slice none 0 0),(aD ([]:aN)),(aD ([]:aN)),(.slice none 0 0),(.slice none 0 0),(.slice none 0 0),(.slice none 0 0)].toArray),(.bool false)]) (.inl R) ((none,0,0),(none,0,0),(none,0,0),(none,0,0),(none,0,0)) R ⟨⟨4,b4,_,_,R,R,.inl ⟨pd,jM,R⟩⟩,R,trivial⟩ R (fun w s=>((((((s.nilr dQ).nilr kT3).nilo kT3 3).nilo bG 36).nilo kT3 3).e 14 [4,3,2,1,0]))
 refine bH ?_
 refine bC (A:=((List (List Int)))×(HH)) (fun a=>Z0_J9 g l D u a.1=some r) (fun a=>[(4,(pt b4 0)),(7,(aD g.2.1)),(9,(pt J 0))]) (fun a=>aJ b4 [(.slice none 0 0),(aD ([]:aN)),(aD ([]:aN)),(.slice none 0 0),(.slice none 0 0),(.slice none 0 0),(.slice none 0 0)] 86::aJ J [(sc E g.1 m),(aD g.2.1),(aD l),(sc L D M),(sc F u G),(s3 a.2),(.slice none 0 0)] 86::RR dQ E m g.1::RR kT3 L M D::OO kT3 3 F G u::ow bG 36 (s3 a.2) a.1::Z) ?_ ?_
 refine dA ?_
 obtain ⟨e4,d4,cz⟩:=bd i
 refine bF (A:=HH) d4 (fun s a=>[(1,(sc a8 b a9)),(4,(pt b4 0)),(7,(aD g.2.1)),(9,(pt J 0)),(150,(sc E g.1 m)),(151,(il g.1)),(152,(iv s.2))]) (fun s a=>RR bG a8 a9 b::aJ b4 [(.slice none 0 0),(aD ([]:aN)),(aD ([]:aN)),(.slice none 0 0),(.slice none 0 0),(.slice none 0 0),(.slice none 0 0)] 86::aJ J [(sc E g.1 m),(aD g.2.1),(aD l),(sc L D M),(sc F u G),(s3 a),(.slice none 0 0)] 86::RR dQ E m g.1::RR kT3 L M D::OO kT3 3 F G u::ow bG 36 (s3 a) s.1::Z) (none,0,0) (aS R) (fun w s=>((s.nilo bG 36).e 8 [4,5,7,6,3,1,0])) ?_
 rintro ⟨a0,ah⟩ ⟨aq,cg,au⟩ σ1 ds i cy
 dsimp only [Z0_L4] at i
 refine bI 6 aB (fun (hn:cg=a0.length)=>?_)
 subst hn
 refine bV ?_
 split at i
 refine bV ?_
 obtain ⟨am,i⟩:=gd i
 refine aU ?_
 refine bA 3 aA (show 0<g.1.length by have:=am; omega) (fun b6 o207 ha=>?_)
 subst ha
 refine bT ?_
 refine lO (vz (aD (ix g.1 ah)) (hY (K:=dQ) (fo:=0) (pr:=fun x=>(aD x)) 3 ah qH (dT9.leaf fun _ _=>R) aA R am.1 am.2)) (lI R (lO (vp (aD (ix g.1 ah)) R) ?_))
 refine aU ?_
 obtain ⟨an,i⟩:=gd i
 obtain ⟨ba,bw,i⟩:=bd i
 obtain ⟨a7,bz,i⟩:=bd i
 obtain ⟨bq,i⟩:=gd i
 refine aZ 0 aA (show 0<b.length by have:=an; omega) (fun dq o210 ha=>?_)
 subst ha
 refine dI (K:=bG) 0 ah dT36.dec R an.1 an.2 ?_
 rintro ⟨d9,dd⟩
 refine dF 11 [] bO fun ht hn=>?_
 refine iw 0 [] ?_
 refine dR 3 R (vp (aD (ix g.1 ah)) R) ?_
 refine iw 4 [] ?_
 refine dR 7 R (eD (fo:=0) 0 cK R R R) (d1 8 R (lM (_::_::_::_::_::_::_::_::_::_::Z) (fun w s=>(s.d 1 R)) ?_))
 refine lC 1 wJ R (Z05_ok bw) R ?_
 rintro ⟨ay,dh,b2⟩
 refine aL 0 aB ?_
 rintro rfl
 refine aC (aG (sL [0]) (d1 9 R (lM (ow _ _ _ _::ow _ _ _ _::ow _ _ _ _::aO _ _ _::aO _ _ _::aO kT3 (.slice none 0 0) ([]:List Int)::cl _ _ _::aO _ _ _::aO _ _ _::aJ _ _ _::aJ _ _ _::aO _ _ _::aO _ _ _::Z) (fun w s=>((((s.d 6 R).d 8 R).nilr kT3).f 13 [11,2,3,1,2,1,1,1,0,1,4,7])) ?_)))
 refine lC 6 vM R (FnOk.lends (A':=[OO kT3 3 F G u,OO bG 36 aq au a0,OO kT3 3 ay b2 ba]) (A:=[RR kT3 F G u,RR bG aq au a0,RR kT3 ay b2 ba]) (B:=[RR dQ (ad b6 o207) m g.1,RR kT3 L M D,aO kT3 (.slice none 0 0) ([]:List Int)]) (FnOk.perm (Zl_ok (f1:=(⟨g.1,g.2.1,l,D,u,a0,([]:List Int)⟩:form)) bz) (Pre':=[RR kT3 F G u,RR bG aq au a0,RR kT3 ay b2 ba,RR dQ (ad b6 o207) m g.1,RR kT3 L M D,aO kT3 (.slice none 0 0) ([]:List Int)]) (fun _ _ _ s=>(s.e 6 [3,4,0,1,5,2]))) ⟨aY,aY,aY,trivial⟩ (fun _=>⟨(bK j9),trivial⟩)) R ?_
 rintro ⟨bf,di,bi⟩
 refine aL 3 aB ?_
 rintro rfl
 refine aC (aG (fun w s=>(s.f 11 [4,7,0,2])) (d1 10 R (lM (ow _ _ _ _::ow _ _ _ _::ow _ _ _ _::ow _ _ _ _::cl _ _ _::aO _ _ _::aO _ _ _::aJ _ _ _::aJ _ _ _::aO _ _ _::aO _ _ _::Z) (fun w s=>(s.f 11 [3,1,0,3,4,7])) ?_)))
 refine bL (K:=bG) (xs:=([a7]:List (List Int))) (vs:=[(sc bf a7 bi)]) 1 R R iT eR jK R R R R R R ?_ R (fun da de=>?_)
 exact fun I h s=>(lL).list [((sc bf a7 bi),a7)] I h s
 refine aC (aG (fun w s=>(s.f 11 [4,7,1,2])) (d1 11 R (lM (ow _ _ _ _::ow _ _ _ _::ow _ _ _ _::ow _ _ _ _::cl _ _ _::aO _ _ _::aO _ _ _::aJ _ _ _::aJ _ _ _::aO _ _ _::aO _ _ _::Z) (fun w s=>(s.f 11 [2,1,0,2,3,8])) ?_)))
 refine eC (K:=bG) 5864062014805 R R iT eR p7 (Zr.zk zT36 jK) R R R R R R dM bq (fun az b3=>(lN (OO bG 36 az b3 (a0++([a7]:List (List Int)))::_::_::_::_::_::_::_::_::_::Z) ?_))
 refine aC (qE (d1 12 R (lO (fT 5 sq R) (aC (qE (d1 13 R (cP 7 R R wI R R R R R (lN (_::_::_::_::_::_::_::aJ J [(sc (ad b6 o207) g.1 m),(aD g.2.1),(aD l),(sc L D M),(sc F u G),(sc az (a0++([a7]:List (List Int))) b3),(.slice none 0 0)] 86::_::_::Z) ?_))))))))
 refine aC (qE (dD ?_))
 refine bV ?_
 cases i
 exact qA (az,(a0++([a7]:List (List Int))).length,b3) (fun w s=>(s.f 10 [5,5,1,1,0,1]))
 refine aP ?_
 cases i
 obtain rfl:=cy _ R
 have i:=cz
 refine aU ?_
 exact qI (a0,(aq,a0.length,au)) i (fun w s=>(s.f 7 [1,6]))
 rintro ⟨f224,⟨a2,ch,a3⟩⟩ σ1 i
 dsimp only [Z0_J9] at i
 refine bI 5 aB (fun (hn:ch=f224.length)=>?_)
 subst hn
 refine bT ?_
 obtain ⟨bb,c0,i⟩:=bd i
 obtain ⟨aw,c1,i⟩:=bd i
 refine dF 7 [] bO fun ht hn=>?_
 refine m6 0 [] ?_
 refine dR 1 R (vp (aD g.2.1) R) ?_
 refine gW 2 [] ?_
 refine d1 4 R (lM (ow _ _ _ _::aJ _ _ _::aJ J [(sc E g.1 m),(aD g.2.1),(aD l),(sc L D M),(sc F u G),(sc a2 f224 a3),(.slice none 0 0)] 86::RR dQ E m g.1::aO _ _ _::OO bG 36 a2 a3 f224::Z) (tE 6 [4,0,1,2,3,5]) ?_)
 refine lC 1 wJ R (FnOk.lends (A':=[OO kT3 3 F G u]) (A:=[RR kT3 F G u]) (B:=[]) (Z05_ok c0) ⟨aY,trivial⟩ (fun _=>⟨(bK j9),trivial⟩)) R ?_
 rintro ⟨b0,dj,b5⟩
 refine aL 1 aB ?_
 rintro rfl
 refine aC (aG (tE 7 [2,3,4,5,0,6]) (d1 5 R (lM (ow _ _ _ _::ow _ _ _ _::ow _ _ _ _::aO _ _ _::aO _ _ _::aO kT3 (.slice none 0 0) ([]:List Int)::aJ _ _ _::aJ _ _ _::aO _ _ _::aO _ _ _::Z) (fun w s=>((((s.d 4 R).d 6 R).nilr kT3).e 10 [3,9,4,2,1,0,5,6,7,8])) ?_)))
 refine lC 6 vM R (FnOk.lends (A':=[OO kT3 3 F G u,OO bG 36 a2 a3 f224,OO kT3 3 b0 b5 bb]) (A:=[RR kT3 F G u,RR bG a2 a3 f224,RR kT3 b0 b5 bb]) (B:=[RR dQ E m g.1,RR kT3 L M D,aO kT3 (.slice none 0 0) ([]:List Int)]) (FnOk.perm (Zl_ok (f1:=(⟨g.1,g.2.1,l,D,u,f224,([]:List Int)⟩:form)) c1) (Pre':=[RR kT3 F G u,RR bG a2 a3 f224,RR kT3 b0 b5 bb,RR dQ E m g.1,RR kT3 L M D,aO kT3 (.slice none 0 0) ([]:List Int)]) (fun _ _ _ s=>(s.e 6 [3,4,0,1,5,2]))) ⟨aY,aY,aY,trivial⟩ (fun _=>⟨(bK j9),trivial⟩)) R ?_
 rintro ⟨ar,dk,av⟩
 refine aL 3 aB ?_
 rintro rfl
 refine aC (aG (fun w s=>(s.f 8 [4,4,0,2])) (dR 6 R (fT 6 sr R) (hS:=(fun w s=>(s.f 8 [4,4,0,2]))) (d1 7 R (cP 5 R R eR R R R R R (lN (_::_::_::_::_::aJ J [(sc E g.1 m),(aD g.2.1),(aD l),(sc L D M),(sc F u G),(sc a2 f224 a3),(sc ar aw av)] 86::_::_::Z) ?_)))))
 refine aC (qE (dD ?_))
 refine bH ?_
 refine aK 4 R R jM R R R R R R (lN (_::_::_::_::aJ b4 [(sc E g.1 m),(aD g.2.1),(aD l),(sc L D M),(sc F u G),(sc a2 f224 a3),(sc ar aw av)] 86::_::_::_::Z) ?_)
 refine bH ?_
 cases i
 exact dJ (vs:=[(.agg [(sc E g.1 m),(aD g.2.1),(aD l),(sc L D M),(sc F u G),(sc a2 f224 a3),(sc ar aw av)].toArray),(.bool true)]) (.inl R) ((E,g.1.length,m),(L,D.length,M),(F,u.length,G),(a2,f224.length,a3),(ar,aw.length,av)) R ⟨⟨4,b4,_,_,R,R,.inl ⟨pd,jM,R⟩⟩,R,trivial⟩ R (tE 10 [6,7,0,1,3])
theorem Z2o_ok  {k1:formKind}{a:Node}{g:(List (List Int))}{mG:Int}{r:(List Int)×Bool}(m:Z2o k1 a g=some r) :
 FnOk Tryz.prog 319 [(.agg [].toArray),(.agg [(iv a.Op),(.slice A3 N3 D3),(.slice A4 N4 D4),(.slice A5 N5 D5),(aD a.Form),(.slice A6 N6 D6)].toArray),(.slice A8 N8 D8)] [aO kT3 (.slice A3 N3 D3) a.Args,aO kT3 (.slice A4 N4 D4) a.Dims,aO kT3 (.slice A5 N5 D5) a.Ints,aO kT3 (.slice A6 N6 D6) a.Data,aO bG (.slice A8 N8 D8) g,gl 0 mG] (fun (h:HH)=>((.tuple [(s3 h),(.bool r.2)].toArray),[ow kT3 3 (s3 h) r.1])):=by
 unfold Z2o at m
 refine aR Tryz.func319 R 20 R R fun C V=>?_
 refine cL 0 aA ?_
 rintro rfl
 refine cL 1 aA ?_
 rintro rfl
 refine cL 2 aA ?_
 rintro rfl
 refine cL 3 aA ?_
 rintro rfl
 refine cL 4 aA ?_
 rintro rfl
 let J:=RR kT3 A3 D3 a.Args::RR kT3 A4 D4 a.Dims::RR kT3 A5 D5 a.Ints::RR kT3 A6 D6 a.Data::RR bG A8 D8 g::gl 0 mG::V
 refine cN J ?_
 refine aU ?_
 refine eE R fun Y=>?_
 refine eE R fun G=>?_
 refine aP ?_
 let L:=aJ G [(iv a.Op),(sc A3 a.Args D3),(sc A4 a.Dims D4),(sc A5 a.Ints D5),(aD a.Form),(sc A6 a.Data D6)] 171::aJ Y [] 268::J
 refine qN L ?_
 refine aU ?_
 obtain ⟨b,l,m⟩:=bd m
 refine bH ?_
 refine lM _ (fun w s=>(((s.d 6 R).dg 8 R).e 2 [1,0])) ?_
 refine lC 2 uu R (Z0_ok l) R ?_
 rintro ⟨⟨q,M,D⟩,⟨A14,N14,D14⟩,⟨i,O,j⟩,⟨u,T,E⟩,⟨B,U,F⟩⟩
 refine aL 0 aA ?_
 rintro rfl
 refine aL 1 aA ?_
 rintro rfl
 refine aL 2 aB ?_
 rintro rfl
 refine aL 3 aB ?_
 rintro rfl
 refine aL 4 aB ?_
 rintro rfl
 refine lO (vT R) (lO (vA R) (lB R (bD R R lQ (fun I=>(aK 0 R R jM R R R R R R (lN (aJ I [(sc q b.1.groups D),(aD b.1.out_),(aD b.1.order),(sc A14 b.1.loops D14),(sc i b.1.dims j),(sc u b.1.steps E),(sc B b.1.store F)] 86::_::_::_::_::_::L) ?_))))))
 refine lK ?_
 cases m
 exact jI (i,b.1.dims.length,j) (tE 14 [3])
theorem Z2i_ok  {a:(List Int)}{r:View}(b:Z2i a=some r) :
 FnOk Tryz.prog 26 [(.slice A2 N2 D2)] [aO kT3 (.slice A2 N2 D2) a] (fun (h:HH×HH)=>((.agg [(s3 h.1),(s3 h.2),(iv r.Offset),(iv r.Base)].toArray),[ow kT3 3 (s3 h.1) r.Dims,ow kT3 3 (s3 h.2) r.Strides])):=by
 unfold Z2i at b
 refine aR Tryz.func26 R 14 R R fun C V=>?_
 refine cL 0 aA ?_
 rintro rfl
 let B:=RR kT3 A2 D2 a::V
 refine cN B ?_
 refine aU ?_
 refine bD R R cX (fun D=>(aC (aI (aM (aM ?_)))))
 obtain ⟨E,m,b⟩:=bd b
 refine aU ?_
 refine lM _ (fun w s=>(s.d 1 R)) ?_
 refine lC 1 lg R (Zd_ok m) R ?_
 rintro _
 refine aP ?_
 split at b
 refine aP ?_
 refine lO (vz (.agg [(.slice none 0 0),(.slice none 0 0),(iv 0),(iv 0)].toArray) (aV fF cX R R)) (aK 0 R R cG R R R R R R (aC (aI (bW (cD ?_)))))
 cases b
 exact qS ((none,0,0),(none,0,0)) (fun w s=>(((s.nilo kT3 3).nilo kT3 3).e 4 [1,0]))
 refine bH ?_
 obtain ⟨u,q,b⟩:=bd b
 obtain ⟨g,i,b⟩:=bd b
 obtain ⟨l,j,b⟩:=bd b
 refine aU ?_
 refine lM _ (fun w s=>(s.d 1 R)) ?_
 refine lC 1 jw R (Zp_ok q) R ?_
 rintro ⟨A9,N9,D9⟩
 refine aL 0 aB ?_
 rintro rfl
 refine lS R (lM _ (fun w s=>(s.d 2 R)) ?_)
 refine lC 1 wJ R (Z05_ok i) R ?_
 rintro ⟨A12,N12,D12⟩
 refine aL 0 aB ?_
 rintro rfl
 refine lS R (lM _ (fun w s=>(s.d 3 R)) ?_)
 refine lC 1 kL R (Z9_ok j) R ?_
 rintro _
 refine lO (vz (.agg [(sc A9 u D9),(sc A12 g D12),(iv 0),(iv l)].toArray) (aV fF cX R R)) (aK 2 R R cG R R R R R R (lN (_::_::aJ D [(sc A9 u D9),(sc A12 g D12),(iv 0),(iv l)] 47::B) ?_))
 refine aP ?_
 cases b
 exact qS ((A9,u.length,D9),(A12,g.length,D12)) (tE 4 [1,0])
theorem Zi_ok  {v1:View}{r:Bool}(e:Zi v1=some r) :
 FnOk Tryz.prog 90 [(.agg [(.slice A2 N2 D2),(.slice A3 N3 D3),(iv v1.Offset),(iv v1.Base)].toArray)] [aO kT3 (.slice A2 N2 D2) v1.Dims,aO kT3 (.slice A3 N3 D3) v1.Strides] (fun (h:Unit)=>((.bool r),[])):=by
 unfold Zi at e
 refine aR Tryz.func90 R 91 R R fun C V=>?_
 refine cL 0 aA ?_
 rintro rfl
 refine cL 1 aA ?_
 rintro rfl
 let W0:=RR kT3 A2 D2 v1.Dims::RR kT3 A3 D3 v1.Strides::V
 refine cN W0 ?_
 refine aU ?_
 refine eE R fun B=>?_
 refine aU ?_
 let m:=aJ B [(sc A2 v1.Dims D2),(sc A3 v1.Strides D3),(iv v1.Offset),(iv v1.Base)] 47::W0
 refine qN m ?_
 refine aP ?_
 obtain ⟨u,a2,e⟩:=bd e
 refine cQ [(1,(pt B 0)),(41,(.bool ((((((!u)||((v1.Strides.length:Int) != (v1.Dims.length:Int)))||(decide (v1.Base<1)))||(decide (v1.Base>4096)))||(decide (v1.Offset<0)))||(decide (v1.Offset≥v1.Base)))))] (m) ?_ ?_
 refine aP ?_
 refine lM _ (fun w s=>(s.d 1 R)) ?_
 refine lC 1 lg R (Zd_ok a2) R ?_
 rintro _
 refine lN m ?_
 refine aU ?_
 rcases bo (!u) with Y | Y
 refine wy ?_
 exact qj tI
 refine cY ?_
 rcases bo ((!u)||((v1.Strides.length:Int) != (v1.Dims.length:Int))) with Z | Z
 refine yj ?_
 exact qj tI
 refine b' ?_
 rcases bo (((!u)||((v1.Strides.length:Int) != (v1.Dims.length:Int)))||(decide (v1.Base<1))) with a0 | a0
 refine qD ?_
 exact qj tI
 refine b' ?_
 rcases bo ((((!u)||((v1.Strides.length:Int) != (v1.Dims.length:Int)))||(decide (v1.Base<1)))||(decide (v1.Base>4096))) with D | D
 refine iE ?_
 exact qj tI
 refine b' ?_
 rcases bo (((((!u)||((v1.Strides.length:Int) != (v1.Dims.length:Int)))||(decide (v1.Base<1)))||(decide (v1.Base>4096)))||(decide (v1.Offset<0))) with E | E
 refine dO ?_
 exact qj tI
 refine dO ?_
 exact qj tI
 rintro σ1
 refine bT ?_
 split at e
 refine dA ?_
 cases e
 exact qF () (tE 3 [])
 refine bH ?_
 refine dF 6 [] bO fun ht hn=>?_
 refine rZ 0 [] ?_
 refine dD (aI (aM (bC (A:=(Int×Int)×(Unit)) (fun a=>Zi_J1 v1 a.1.1 a.1.2=some r) (fun a=>[(1,(pt B 0)),(3,(iv a.1.1)),(4,(iv a.1.2))]) (fun a=>m) ?_ ?_)))
 refine cY ?_
 obtain ⟨e1,a1,O⟩:=bd e
 refine bF (A:=HH) a1 (fun s a=>[(1,(pt B 0)),(3,(iv s.1)),(4,(iv s.2.1)),(47,(s3 a)),(48,(il v1.Strides)),(49,(iv s.2.2))]) (fun s a=>aO kT3 (s3 a) v1.Strides::m) (A3,v1.Strides.length,D3) (aS R) (fun w s=>(s.d 2 R)) ?_
 rintro ⟨i,g,b⟩ ⟨a4,T,l⟩ σ1 a3 e I
 dsimp only [Zi_L1] at e
 refine bI 0 aA (fun (hn:T=v1.Strides.length)=>?_)
 subst hn
 refine bV ?_
 split at e
 refine bV ?_
 obtain ⟨J,e⟩:=gd e
 refine aU ?_
 refine bA 0 aA (show 0<v1.Strides.length by have:=J; omega) (fun q o29 U=>?_)
 subst U
 refine dA ?_
 refine cQ [(1,(pt B 0)),(3,(iv i)),(4,(iv g)),(5,(iv b)),(6,(iv (ix v1.Strides b))),(47,(sc (ad q o29) v1.Strides l)),(48,(il v1.Strides)),(49,(iv b)),(59,(.bool ((decide ((ix v1.Strides b)<(-4096:Int)))||(decide ((ix v1.Strides b)>4096)))))] (RR kT3 (ad q o29) l v1.Strides::m) ?_ ?_
 refine bH ?_
 rcases bo (decide ((ix v1.Strides b)<(-4096:Int))) with F | F
 refine bH ?_
 exact qj tI
 refine bH ?_
 exact qj tI
 rintro σ1
 refine bT ?_
 split at e
 refine cU ?_
 cases e
 obtain rfl:=I _ R
 have e:=O
 refine aP ?_
 cases e
 exact qF () (tE 4 [])
 refine bH ?_
 obtain ⟨L,e⟩:=gd e
 refine bV ?_
 refine bA 2 aA (show 0<v1.Dims.length by have:=L; omega) (fun a5 o34 U=>?_)
 subst U
 refine bH ?_
 refine lO (vz (iv (if (aH ((ix v1.Strides b)*(aH ((ix v1.Dims b) - 1))))<0 then (aH ((ix v1.Strides b)*(aH ((ix v1.Dims b) - 1)))) else (0:Int))) (vj R R)) ?_
 refine oX ?_
 refine lO (vz (iv (if (aH ((ix v1.Strides b)*(aH ((ix v1.Dims b) - 1))))>0 then (aH ((ix v1.Strides b)*(aH ((ix v1.Dims b) - 1)))) else (0:Int))) (xZ R R)) ?_
 refine cY ?_
 cases e
 exact qA ((ad q o29),v1.Strides.length,l) tI
 refine aP ?_
 cases e
 obtain rfl:=I _ R
 have e:=O
 refine aU ?_
 exact qI ((i,g),()) e (tE 1 [])
 rintro ⟨⟨j,M⟩,_⟩ σ1 e
 dsimp only [Zi_J1] at e
 refine aM (cQ [(2,(.bool ((decide (j≥0))&&(decide (M<v1.Base)))))] (m) ?_ ?_)
 refine bH ?_
 rcases bo (decide (j≥0)) with G | G
 refine dO ?_
 exact qj tI
 refine dO ?_
 exact qj tI
 rintro σ1
 refine aU ?_
 cases e
 exact qF () (tE 3 [])
end Go.Proofs.YtmpnollfdpdipaaGreatDoor
