import Derived.Test.YtmpnollfdpdipaaGreatGkF
import Derived.Test.YtmpnollfdpdipaaGreatGkW1
set_option linter.unusedVariables false
set_option maxRecDepth 20000
namespace Go.Proofs.YtmpnollfdpdipaaGreat
open Go Go.Pg
variable {A2 A3 A4 A5 A6 A8 A9:Option Addr}{D2 D3 D4 D5 D6 D8 D9 N2 N3 N4 N5 N6 N8 N9:Nat}
theorem Z3e_ok  {a:Int}{b:Int}{r:Int×Int}(j:Z3e a b=some r) :
 FnOk Tryz.prog 126 [(iv a),(iv b),(.func (.func 127) [].toArray [].toArray)] [] (fun (h:Nat×Nat×Nat)=>((.func (.func 149) [].toArray [(pt h.1 0),(pt h.2.1 0),(pt h.2.2 0)].toArray),[aI h.1 [(iv r.1)] 3,aI h.2.1 [(iv r.2)] 3,aI h.2.2 [(.func (.func 127) [].toArray [].toArray)] 150])):=by
 unfold Z3e at j
 refine aQ Tryz.func126 R 8 R R fun C V=>?_
 refine cN V ?_
 refine aR ?_
 refine eT (cs:=[(iv a)]) R R R (fun e=>(eT (cs:=[(iv b)]) R R R (fun g=>(eT (cs:=[(.func (.func 127) [].toArray [].toArray)]) R R R (fun i=>(lO (vp _ R) (aC ?_)))))))
 let l:=aI i [(.func (.func 127) [].toArray [].toArray)] 150::aI g [(iv b)] 3::aI e [(iv a)] 3::V
 refine qN l ?_
 refine aP ?_
 refine lO (vp (.func (.func 149) [].toArray [(pt e 0),(pt g 0),(pt i 0)].toArray) R) (lO (vp _ R) ?_)
 refine aP ?_
 cases j
 exact qF (e,g,i) (tE 3 [2,1,0])
theorem Z3f_ok  {a:Int}{b:Int}{r:Int×Int}(j:Z3f a b=some r) :
 FnOk Tryz.prog 126 [(iv a),(iv b),(.func (.func 129) [].toArray [].toArray)] [] (fun (h:Nat×Nat×Nat)=>((.func (.func 149) [].toArray [(pt h.1 0),(pt h.2.1 0),(pt h.2.2 0)].toArray),[aI h.1 [(iv r.1)] 3,aI h.2.1 [(iv r.2)] 3,aI h.2.2 [(.func (.func 129) [].toArray [].toArray)] 150])):=by
 unfold Z3f at j
 refine aQ Tryz.func126 R 8 R R fun C V=>?_
 refine cN V ?_
 refine aR ?_
 refine eT (cs:=[(iv a)]) R R R (fun e=>(eT (cs:=[(iv b)]) R R R (fun g=>(eT (cs:=[(.func (.func 129) [].toArray [].toArray)]) R R R (fun i=>(lO (vp _ R) (aC ?_)))))))
 let l:=aI i [(.func (.func 129) [].toArray [].toArray)] 150::aI g [(iv b)] 3::aI e [(iv a)] 3::V
 refine qN l ?_
 refine aP ?_
 refine lO (vp (.func (.func 149) [].toArray [(pt e 0),(pt g 0),(pt i 0)].toArray) R) (lO (vp _ R) ?_)
 refine aP ?_
 cases j
 exact qF (e,g,i) (tE 3 [2,1,0])
theorem Z3g_ok  {a:Int}{b:Int}{r:Int×Int}(j:Z3g a b=some r) :
 FnOk Tryz.prog 126 [(iv a),(iv b),(.func (.func 131) [].toArray [].toArray)] [] (fun (h:Nat×Nat×Nat)=>((.func (.func 149) [].toArray [(pt h.1 0),(pt h.2.1 0),(pt h.2.2 0)].toArray),[aI h.1 [(iv r.1)] 3,aI h.2.1 [(iv r.2)] 3,aI h.2.2 [(.func (.func 131) [].toArray [].toArray)] 150])):=by
 unfold Z3g at j
 refine aQ Tryz.func126 R 8 R R fun C V=>?_
 refine cN V ?_
 refine aR ?_
 refine eT (cs:=[(iv a)]) R R R (fun e=>(eT (cs:=[(iv b)]) R R R (fun g=>(eT (cs:=[(.func (.func 131) [].toArray [].toArray)]) R R R (fun i=>(lO (vp _ R) (aC ?_)))))))
 let l:=aI i [(.func (.func 131) [].toArray [].toArray)] 150::aI g [(iv b)] 3::aI e [(iv a)] 3::V
 refine qN l ?_
 refine aP ?_
 refine lO (vp (.func (.func 149) [].toArray [(pt e 0),(pt g 0),(pt i 0)].toArray) R) (lO (vp _ R) ?_)
 refine aP ?_
 cases j
 exact qF (e,g,i) (tE 3 [2,1,0])
theorem Z3h_ok  {a:Int}{b:Int}{r:Int×Int}(j:Z3h a b=some r) :
 FnOk Tryz.prog 126 [(iv a),(iv b),(.func (.func 133) [].toArray [].toArray)] [] (fun (h:Nat×Nat×Nat)=>((.func (.func 149) [].toArray [(pt h.1 0),(pt h.2.1 0),(pt h.2.2 0)].toArray),[aI h.1 [(iv r.1)] 3,aI h.2.1 [(iv r.2)] 3,aI h.2.2 [(.func (.func 133) [].toArray [].toArray)] 150])):=by
 unfold Z3h at j
 refine aQ Tryz.func126 R 8 R R fun C V=>?_
 refine cN V ?_
 refine aR ?_
 refine eT (cs:=[(iv a)]) R R R (fun e=>(eT (cs:=[(iv b)]) R R R (fun g=>(eT (cs:=[(.func (.func 133) [].toArray [].toArray)]) R R R (fun i=>(lO (vp _ R) (aC ?_)))))))
 let l:=aI i [(.func (.func 133) [].toArray [].toArray)] 150::aI g [(iv b)] 3::aI e [(iv a)] 3::V
 refine qN l ?_
 refine aP ?_
 refine lO (vp (.func (.func 149) [].toArray [(pt e 0),(pt g 0),(pt i 0)].toArray) R) (lO (vp _ R) ?_)
 refine aP ?_
 cases j
 exact qF (e,g,i) (tE 3 [2,1,0])
theorem Zw_ok  {e:Int}{r:kindOfR}(b:Zw e=some r) :
 FnOk Tryz.prog 96 [(iv e)] [] (fun (h:Nat×Nat×Nat)=>((cV r (h.1,h.2.1,h.2.2)),[eQ r (h.1,h.2.1,h.2.2)])):=by
 unfold Zw at b
 refine aQ Tryz.func96 R 72 R R fun C V=>?_
 refine cN V ?_
 refine aR ?_
 refine lO (vp _ R) ?_
 refine nU ?_
 split at b
 refine aP ?_
 refine lO (vz (.agg [(.bool false)].toArray) (aW uZ u' R R)) (lO (vz (.iface 136 (.agg [(.bool false)].toArray)) (iU v2 R)) (lO (vp _ R) ?_))
 refine cB ?_
 cases b
 exact qF (0,0,0) (fun w s=>St.pack (A:=[]) s)
 refine dJ ?_
 split at b
 refine aP ?_
 refine lO (vz (.agg [(.bool true)].toArray) (aW uZ u' R R)) (lO (vz (.iface 136 (.agg [(.bool true)].toArray)) (iU v2 R)) (lO (vp _ R) ?_))
 refine cB ?_
 cases b
 exact qF (0,0,0) (fun w s=>St.pack (A:=[]) s)
 refine aR ?_
 refine bA (A:=(Bool)×(Unit)) (fun a=>Zw_J1 e a.1=some r) (fun a=>[(0,(iv e)),(3,(iv e)),(12,(.bool a.1))]) (fun a=>V) ?_ ?_
 refine bT ?_
 split at b
 refine aR ?_
 exact qI ((e==3),()) b tI
 refine dJ ?_
 split at b
 refine aR ?_
 exact qI ((e==4),()) b tI
 refine cB ?_
 exact qI ((e==5),()) b tI
 rintro ⟨x6,_⟩ σ1 b
 dsimp only [Zw_J1] at b
 split at b
 refine bT ?_
 refine lO (vz (.agg [(iv (aG ((aG (e - 3))+1)))].toArray) (aW yh yi R R)) (lO (vz (.iface 138 (.agg [(iv (aG ((aG (e - 3))+1)))].toArray)) (iU yj R)) (lO (vp _ R) ?_))
 refine cB ?_
 cases b
 exact qF (0,0,0) (fun w s=>St.pack (A:=[]) s)
 refine aR ?_
 refine bA (A:=(Bool)×(Unit)) (fun a=>Zw_J2 e a.1=some r) (fun a=>[(0,(iv e)),(3,(iv e)),(21,(.bool a.1))]) (fun a=>V) ?_ ?_
 refine bT ?_
 split at b
 refine aR ?_
 exact qI ((e==6),()) b tI
 refine dJ ?_
 split at b
 refine aR ?_
 exact qI ((e==7),()) b tI
 refine dJ ?_
 split at b
 refine aR ?_
 exact qI ((e==8),()) b tI
 refine cB ?_
 exact qI ((e==9),()) b tI
 rintro ⟨Z,_⟩ σ1 b
 dsimp only [Zw_J2] at b
 split at b
 refine bT ?_
 refine lO (vz (.agg [(iv (aG ((aG (e - 6))+1)))].toArray) (aW yk ym R R)) (lO (vz (.iface 139 (.agg [(iv (aG ((aG (e - 6))+1)))].toArray)) (iU yn R)) (lO (vp _ R) ?_))
 refine cB ?_
 cases b
 exact qF (0,0,0) (fun w s=>St.pack (A:=[]) s)
 refine dJ ?_
 split at b
 refine aP ?_
 refine lO (vz (.agg [].toArray) (aW yo yp R R)) (lO (vz (.iface 141 (.agg [].toArray)) (iU yq R)) (lO (vp _ R) ?_))
 refine cB ?_
 cases b
 exact qF (0,0,0) (fun w s=>St.pack (A:=[]) s)
 refine dJ ?_
 split at b
 refine aP ?_
 refine lO (vz (.agg [].toArray) (aW yr yt R R)) (lO (vz (.iface 142 (.agg [].toArray)) (iU yu R)) (lO (vp _ R) ?_))
 refine cB ?_
 cases b
 exact qF (0,0,0) (fun w s=>St.pack (A:=[]) s)
 refine dJ ?_
 split at b
 refine aP ?_
 refine lO (vz (.agg [(aD gQ),(.func (.func 124) [].toArray [].toArray)].toArray) (aW mf mg R R)) (lO (vz (.iface 145 (.agg [(aD gQ),(.func (.func 124) [].toArray [].toArray)].toArray)) (iU mh R)) (lO (vp _ R) ?_))
 refine cB ?_
 cases b
 exact qF (0,0,0) (fun w s=>St.pack (A:=[]) s)
 refine dJ ?_
 split at b
 refine aP ?_
 refine lO (vz (.agg [(aD gQ),(.func (.func 125) [].toArray [].toArray)].toArray) (aW mf mg R R)) (lO (vz (.iface 145 (.agg [(aD gQ),(.func (.func 125) [].toArray [].toArray)].toArray)) (iU mh R)) (lO (vp _ R) ?_))
 refine cB ?_
 cases b
 exact qF (0,0,0) (fun w s=>St.pack (A:=[]) s)
 refine aR ?_
 refine bA (A:=(Bool)×(Unit)) (fun a=>Zw_J3 e a.1=some r) (fun a=>[(3,(iv e)),(47,(.bool a.1))]) (fun a=>V) ?_ ?_
 refine bT ?_
 split at b
 refine aR ?_
 exact qI ((e==14),()) b tI
 refine cB ?_
 exact qI ((e==18),()) b tI
 rintro ⟨a0,_⟩ σ1 b
 dsimp only [Zw_J3] at b
 split at b
 refine aP ?_
 refine lO (vz (.agg [(aD eM),(.func (.func 124) [].toArray [].toArray)].toArray) (aW mf mg R R)) (lO (vz (.iface 145 (.agg [(aD eM),(.func (.func 124) [].toArray [].toArray)].toArray)) (iU mh R)) (lO (vp _ R) ?_))
 refine cB ?_
 cases b
 exact qF (0,0,0) (fun w s=>St.pack (A:=[]) s)
 refine dJ ?_
 split at b
 refine aR ?_
 obtain ⟨O,I,b⟩:=bd b
 refine aH (lC 0 pJ R (Z3e_ok I) R ?_)
 rintro ⟨g,i,j⟩
 refine lO (vz (.agg [(aD eM),(.func (.func 149) [].toArray [(pt g 0),(pt i 0),(pt j 0)].toArray)].toArray) (aW mf mg R R)) (lO (vz (.iface 145 (.agg [(aD eM),(.func (.func 149) [].toArray [(pt g 0),(pt i 0),(pt j 0)].toArray)].toArray)) (iU mh R)) (lO (vp _ R) ?_))
 refine cB ?_
 cases b
 exact qF (g,i,j) (fun w s=>St.pack (A:=[aI g [(iv O.1)] 3,aI i [(iv O.2)] 3,aI j [(.func (.func 127) [].toArray [].toArray)] 150]) s)
 refine dJ ?_
 split at b
 refine aR ?_
 obtain ⟨T,J,b⟩:=bd b
 refine aH (lC 0 pJ R (Z3f_ok J) R ?_)
 rintro ⟨l,m,q⟩
 refine lO (vz (.agg [(aD eM),(.func (.func 149) [].toArray [(pt l 0),(pt m 0),(pt q 0)].toArray)].toArray) (aW mf mg R R)) (lO (vz (.iface 145 (.agg [(aD eM),(.func (.func 149) [].toArray [(pt l 0),(pt m 0),(pt q 0)].toArray)].toArray)) (iU mh R)) (lO (vp _ R) ?_))
 refine cB ?_
 cases b
 exact qF (l,m,q) (fun w s=>St.pack (A:=[aI l [(iv T.1)] 3,aI m [(iv T.2)] 3,aI q [(.func (.func 129) [].toArray [].toArray)] 150]) s)
 refine dJ ?_
 split at b
 refine aR ?_
 obtain ⟨U,L,b⟩:=bd b
 refine aH (lC 0 pJ R (Z3g_ok L) R ?_)
 rintro ⟨u,B,D⟩
 refine lO (vz (.agg [(aD eM),(.func (.func 149) [].toArray [(pt u 0),(pt B 0),(pt D 0)].toArray)].toArray) (aW mf mg R R)) (lO (vz (.iface 145 (.agg [(aD eM),(.func (.func 149) [].toArray [(pt u 0),(pt B 0),(pt D 0)].toArray)].toArray)) (iU mh R)) (lO (vp _ R) ?_))
 refine cB ?_
 cases b
 exact qF (u,B,D) (fun w s=>St.pack (A:=[aI u [(iv U.1)] 3,aI B [(iv U.2)] 3,aI D [(.func (.func 131) [].toArray [].toArray)] 150]) s)
 refine dJ ?_
 split at b
 refine aR ?_
 obtain ⟨Y,M,b⟩:=bd b
 refine aH (lC 0 pJ R (Z3h_ok M) R ?_)
 rintro ⟨E,F,G⟩
 refine lO (vz (.agg [(aD eM),(.func (.func 149) [].toArray [(pt E 0),(pt F 0),(pt G 0)].toArray)].toArray) (aW mf mg R R)) (lO (vz (.iface 145 (.agg [(aD eM),(.func (.func 149) [].toArray [(pt E 0),(pt F 0),(pt G 0)].toArray)].toArray)) (iU mh R)) (lO (vp _ R) ?_))
 refine cB ?_
 cases b
 exact qF (E,F,G) (fun w s=>St.pack (A:=[aI E [(iv Y.1)] 3,aI F [(iv Y.2)] 3,aI G [(.func (.func 133) [].toArray [].toArray)] 150]) s)
 refine bT ?_
 refine lO (vp _ R) ?_
 refine aP ?_
 cases b
 exact qF (0,0,0) (fun w s=>St.pack (A:=[]) s)
theorem Z3j_ok  {k1:leafKind}{r:aM}(a:Z3j k1=some r) :
 FnOk Tryz.prog 193 [(.agg [(.bool k1.data)].toArray)] [] (fun (h:Unit)=>((aD r),[])):=by
 unfold Z3j at a
 refine aQ Tryz.func193 R 5 R R fun C V=>?_
 refine cN V ?_
 refine aR ?_
 refine eA R fun e=>?_
 refine lO (vp (aD ([]:aM)) R) (aC ?_)
 let b:=aI e [(.bool k1.data)] 136::V
 refine qN b ?_
 refine cU ?_
 split at a
 refine aP ?_
 refine lO (vp (aD nY) R) ?_
 refine bF ?_
 cases a
 exact qF () (tE 1 [])
 refine cB ?_
 refine lO (vp (aD gQ) R) ?_
 refine aP ?_
 cases a
 exact qF () (tE 1 [])
theorem Z3k_ok  {k1:pairKind}{r:aM}(a:Z3k k1=some r) :
 FnOk Tryz.prog 198 [(.agg [(iv k1.op)].toArray)] [] (fun (h:Unit)=>((aD r),[])):=by
 unfold Z3k at a
 refine aQ Tryz.func198 R 3 R R fun C V=>?_
 refine cN V ?_
 refine aR ?_
 refine eA R fun e=>?_
 refine lO (vp (aD ([]:aM)) R) (aC ?_)
 let b:=aI e [(iv k1.op)] 138::V
 refine qN b ?_
 refine aP ?_
 refine lO (vp (aD ([]:aM)) R) ?_
 refine aP ?_
 cases a
 exact qF () (tE 1 [])
theorem Z3r_ok  {k1:soloKind}{r:aM}(a:Z3r k1=some r) :
 FnOk Tryz.prog 201 [(.agg [(iv k1.op)].toArray)] [] (fun (h:Unit)=>((aD r),[])):=by
 unfold Z3r at a
 refine aQ Tryz.func201 R 3 R R fun C V=>?_
 refine cN V ?_
 refine aR ?_
 refine eA R fun e=>?_
 refine lO (vp (aD ([]:aM)) R) (aC ?_)
 let b:=aI e [(iv k1.op)] 139::V
 refine qN b ?_
 refine aP ?_
 refine lO (vp (aD ([]:aM)) R) ?_
 refine aP ?_
 cases a
 exact qF () (tE 1 [])
theorem Z3s_ok  {k1:topKind}{r:aM}(a:Z3s k1=some r) :
 FnOk Tryz.prog 203 [(.agg [].toArray)] [] (fun (h:Unit)=>((aD r),[])):=by
 unfold Z3s at a
 refine aQ Tryz.func203 R 3 R R fun C V=>?_
 refine cN V ?_
 refine aR ?_
 refine eA R fun e=>?_
 refine lO (vp (aD ([]:aM)) R) (aC ?_)
 let b:=aI e [] 141::V
 refine qN b ?_
 refine aP ?_
 refine lO (vp (aD eM) R) ?_
 refine aP ?_
 cases a
 exact qF () (tE 1 [])
theorem Z3i_ok  {k1:formKind}{r:aM}(a:Z3i k1=some r) :
 FnOk Tryz.prog 205 [(.agg [].toArray)] [] (fun (h:Unit)=>((aD r),[])):=by
 unfold Z3i at a
 refine aQ Tryz.func205 R 3 R R fun C V=>?_
 refine cN V ?_
 refine aR ?_
 refine eA R fun e=>?_
 refine lO (vp (aD ([]:aM)) R) (aC ?_)
 let b:=aI e [] 142::V
 refine qN b ?_
 refine aP ?_
 refine lO (vp (aD jU) R) ?_
 refine aP ?_
 cases a
 exact qF () (tE 1 [])
theorem Z3p_ok  {k1:shiftKind}{r:aM}(a:Z3p k1=some r) :
 FnOk Tryz.prog 221 [(.agg [(aD k1.use),(.func (.func 124) [].toArray [].toArray)].toArray)] [] (fun (h:Unit)=>((aD r),[])):=by
 unfold Z3p at a
 refine aQ Tryz.func221 R 5 R R fun C V=>?_
 refine cN V ?_
 refine aR ?_
 refine eA R fun e=>?_
 refine lO (vp (aD ([]:aM)) R) (aC ?_)
 let b:=aI e [(aD k1.use),(.func (.func 124) [].toArray [].toArray)] 145::V
 refine qN b ?_
 refine cB ?_
 refine lO (vp (aD k1.use) R) ?_
 refine aP ?_
 cases a
 exact qF () (tE 1 [])
theorem Z3q_ok  {k1:shiftKind}{r:aM}(a:Z3q k1=some r) :
 FnOk Tryz.prog 221 [(.agg [(aD k1.use),(.func (.func 125) [].toArray [].toArray)].toArray)] [] (fun (h:Unit)=>((aD r),[])):=by
 unfold Z3q at a
 refine aQ Tryz.func221 R 5 R R fun C V=>?_
 refine cN V ?_
 refine aR ?_
 refine eA R fun e=>?_
 refine lO (vp (aD ([]:aM)) R) (aC ?_)
 let b:=aI e [(aD k1.use),(.func (.func 125) [].toArray [].toArray)] 145::V
 refine qN b ?_
 refine cB ?_
 refine lO (vp (aD k1.use) R) ?_
 refine aP ?_
 cases a
 exact qF () (tE 1 [])
theorem Z3l_ok  {k1:shiftKind}{g:Int}{i:Int}{a:Nat}{b:Nat}{e:Nat}{r:aM}(j:Z3l k1 g i=some r) :
 FnOk Tryz.prog 221 [(.agg [(aD k1.use),(.func (.func 149) [].toArray [(pt a 0),(pt b 0),(pt e 0)].toArray)].toArray)] [aI a [(iv g)] 3,aI b [(iv i)] 3,aI e [(.func (.func 127) [].toArray [].toArray)] 150] (fun (h:Unit)=>((aD r),[aI a [(iv g)] 3,aI b [(iv i)] 3,aI e [(.func (.func 127) [].toArray [].toArray)] 150])):=by
 unfold Z3l at j
 refine aQ Tryz.func221 R 5 R R fun C V=>?_
 refine aR ?_
 refine eA R fun m=>?_
 refine lO (vp (aD ([]:aM)) R) (aC ?_)
 let l:=aI m [(aD k1.use),(.func (.func 149) [].toArray [(pt a 0),(pt b 0),(pt e 0)].toArray)] 145::aI a [(iv g)] 3::aI b [(iv i)] 3::aI e [(.func (.func 127) [].toArray [].toArray)] 150::V
 refine qN l ?_
 refine cB ?_
 refine lO (vp (aD k1.use) R) ?_
 refine aP ?_
 cases j
 exact qF () (fun w s=>(s.f 4 [1,3]))
theorem Z3m_ok  {k1:shiftKind}{g:Int}{i:Int}{a:Nat}{b:Nat}{e:Nat}{r:aM}(j:Z3m k1 g i=some r) :
 FnOk Tryz.prog 221 [(.agg [(aD k1.use),(.func (.func 149) [].toArray [(pt a 0),(pt b 0),(pt e 0)].toArray)].toArray)] [aI a [(iv g)] 3,aI b [(iv i)] 3,aI e [(.func (.func 129) [].toArray [].toArray)] 150] (fun (h:Unit)=>((aD r),[aI a [(iv g)] 3,aI b [(iv i)] 3,aI e [(.func (.func 129) [].toArray [].toArray)] 150])):=by
 unfold Z3m at j
 refine aQ Tryz.func221 R 5 R R fun C V=>?_
 refine aR ?_
 refine eA R fun m=>?_
 refine lO (vp (aD ([]:aM)) R) (aC ?_)
 let l:=aI m [(aD k1.use),(.func (.func 149) [].toArray [(pt a 0),(pt b 0),(pt e 0)].toArray)] 145::aI a [(iv g)] 3::aI b [(iv i)] 3::aI e [(.func (.func 129) [].toArray [].toArray)] 150::V
 refine qN l ?_
 refine cB ?_
 refine lO (vp (aD k1.use) R) ?_
 refine aP ?_
 cases j
 exact qF () (fun w s=>(s.f 4 [1,3]))
theorem Z3n_ok  {k1:shiftKind}{g:Int}{i:Int}{a:Nat}{b:Nat}{e:Nat}{r:aM}(j:Z3n k1 g i=some r) :
 FnOk Tryz.prog 221 [(.agg [(aD k1.use),(.func (.func 149) [].toArray [(pt a 0),(pt b 0),(pt e 0)].toArray)].toArray)] [aI a [(iv g)] 3,aI b [(iv i)] 3,aI e [(.func (.func 131) [].toArray [].toArray)] 150] (fun (h:Unit)=>((aD r),[aI a [(iv g)] 3,aI b [(iv i)] 3,aI e [(.func (.func 131) [].toArray [].toArray)] 150])):=by
 unfold Z3n at j
 refine aQ Tryz.func221 R 5 R R fun C V=>?_
 refine aR ?_
 refine eA R fun m=>?_
 refine lO (vp (aD ([]:aM)) R) (aC ?_)
 let l:=aI m [(aD k1.use),(.func (.func 149) [].toArray [(pt a 0),(pt b 0),(pt e 0)].toArray)] 145::aI a [(iv g)] 3::aI b [(iv i)] 3::aI e [(.func (.func 131) [].toArray [].toArray)] 150::V
 refine qN l ?_
 refine cB ?_
 refine lO (vp (aD k1.use) R) ?_
 refine aP ?_
 cases j
 exact qF () (fun w s=>(s.f 4 [1,3]))
theorem Z3o_ok  {k1:shiftKind}{g:Int}{i:Int}{a:Nat}{b:Nat}{e:Nat}{r:aM}(j:Z3o k1 g i=some r) :
 FnOk Tryz.prog 221 [(.agg [(aD k1.use),(.func (.func 149) [].toArray [(pt a 0),(pt b 0),(pt e 0)].toArray)].toArray)] [aI a [(iv g)] 3,aI b [(iv i)] 3,aI e [(.func (.func 133) [].toArray [].toArray)] 150] (fun (h:Unit)=>((aD r),[aI a [(iv g)] 3,aI b [(iv i)] 3,aI e [(.func (.func 133) [].toArray [].toArray)] 150])):=by
 unfold Z3o at j
 refine aQ Tryz.func221 R 5 R R fun C V=>?_
 refine aR ?_
 refine eA R fun m=>?_
 refine lO (vp (aD ([]:aM)) R) (aC ?_)
 let l:=aI m [(aD k1.use),(.func (.func 149) [].toArray [(pt a 0),(pt b 0),(pt e 0)].toArray)] 145::aI a [(iv g)] 3::aI b [(iv i)] 3::aI e [(.func (.func 133) [].toArray [].toArray)] 150::V
 refine qN l ?_
 refine cB ?_
 refine lO (vp (aD k1.use) R) ?_
 refine aP ?_
 cases j
 exact qF () (fun w s=>(s.f 4 [1,3]))
theorem jr  {r:kindOfR}{b h1 h2:Nat}{q:aM}(a:fN r=some q) :
 InvOk Tryz.prog (cV r (b,h1,h2)) "loop.example/g00033/impl.uses" [] [eQ r (b,h1,h2)] (fun (h:Unit)=>((aD q),[eQ r (b,h1,h2)])):=by
 unfold fN at a
 rcases cR a with ⟨L,a⟩|⟨L,a⟩
 ·cases a
 rcases cR a with ⟨m,a⟩|⟨m,a⟩
 ·obtain ⟨t,i,e,g,l⟩:=r
  obtain rfl:=Nat.eq_of_beq_eq_true m
  exact InvOk.mk (oP _) (((Z3j_ok a).perm (Pre':=[pk []]) (fun _ _ _ s=>St.unpack (A:=[]) s)).post id (fun _=>rfl) (fun _ _ _ _ s=>St.pack (A:=[]) (s)))
 rcases cR a with ⟨u,a⟩|⟨u,a⟩
 ·obtain ⟨t,i,e,g,l⟩:=r
  obtain rfl:=Nat.eq_of_beq_eq_true u
  exact InvOk.mk (oQ _) (((Z3k_ok a).perm (Pre':=[pk []]) (fun _ _ _ s=>St.unpack (A:=[]) s)).post id (fun _=>rfl) (fun _ _ _ _ s=>St.pack (A:=[]) (s)))
 rcases cR a with ⟨B,a⟩|⟨B,a⟩
 ·obtain ⟨t,i,e,g,l⟩:=r
  obtain rfl:=Nat.eq_of_beq_eq_true B
  exact InvOk.mk (oR _) (((Z3r_ok a).perm (Pre':=[pk []]) (fun _ _ _ s=>St.unpack (A:=[]) s)).post id (fun _=>rfl) (fun _ _ _ _ s=>St.pack (A:=[]) (s)))
 rcases cR a with ⟨D,a⟩|⟨D,a⟩
 ·obtain ⟨t,i,e,g,l⟩:=r
  obtain rfl:=Nat.eq_of_beq_eq_true D
  exact InvOk.mk (oS _) (((Z3s_ok (k1:=⟨⟩) a).perm (Pre':=[pk []]) (fun _ _ _ s=>St.unpack (A:=[]) s)).post id (fun _=>rfl) (fun _ _ _ _ s=>St.pack (A:=[]) (s)))
 rcases cR a with ⟨E,a⟩|⟨E,a⟩
 ·obtain ⟨t,i,e,g,l⟩:=r
  obtain rfl:=Nat.eq_of_beq_eq_true E
  exact InvOk.mk (oU _) (((Z3i_ok (k1:=⟨⟩) a).perm (Pre':=[pk []]) (fun _ _ _ s=>St.unpack (A:=[]) s)).post id (fun _=>rfl) (fun _ _ _ _ s=>St.pack (A:=[]) (s)))
 rcases cR a with ⟨F,a⟩|⟨F,a⟩
 ·obtain ⟨t,i,e,g,l⟩:=r
  obtain rfl:=Nat.eq_of_beq_eq_true F
  exact InvOk.mk (gS _) (((Z3p_ok a).perm (Pre':=[pk []]) (fun _ _ _ s=>St.unpack (A:=[]) s)).post id (fun _=>rfl) (fun _ _ _ _ s=>St.pack (A:=[]) (s)))
 rcases cR a with ⟨G,a⟩|⟨G,a⟩
 ·obtain ⟨t,i,e,g,l⟩:=r
  obtain rfl:=Nat.eq_of_beq_eq_true G
  exact InvOk.mk (gS _) (((Z3q_ok a).perm (Pre':=[pk []]) (fun _ _ _ s=>St.unpack (A:=[]) s)).post id (fun _=>rfl) (fun _ _ _ _ s=>St.pack (A:=[]) (s)))
 rcases cR a with ⟨I,a⟩|⟨I,a⟩
 ·obtain ⟨t,i,e,g,l⟩:=r
  obtain rfl:=Nat.eq_of_beq_eq_true I
  exact InvOk.mk (gS _) (((Z3l_ok a).perm (Pre':=[pk [aI b [(iv e)] 3,aI h1 [(iv g)] 3,aI h2 [(.func (.func 127) [].toArray [].toArray)] 150]]) (fun _ _ _ s=>St.unpack (A:=[aI b [(iv e)] 3,aI h1 [(iv g)] 3,aI h2 [(.func (.func 127) [].toArray [].toArray)] 150]) s)).post id (fun _=>rfl) (fun _ _ _ _ s=>St.pack (A:=[aI b [(iv e)] 3,aI h1 [(iv g)] 3,aI h2 [(.func (.func 127) [].toArray [].toArray)] 150]) (s)))
 rcases cR a with ⟨J,a⟩|⟨J,a⟩
 ·obtain ⟨t,i,e,g,l⟩:=r
  obtain rfl:=Nat.eq_of_beq_eq_true J
  exact InvOk.mk (gS _) (((Z3m_ok a).perm (Pre':=[pk [aI b [(iv e)] 3,aI h1 [(iv g)] 3,aI h2 [(.func (.func 129) [].toArray [].toArray)] 150]]) (fun _ _ _ s=>St.unpack (A:=[aI b [(iv e)] 3,aI h1 [(iv g)] 3,aI h2 [(.func (.func 129) [].toArray [].toArray)] 150]) s)).post id (fun _=>rfl) (fun _ _ _ _ s=>St.pack (A:=[aI b [(iv e)] 3,aI h1 [(iv g)] 3,aI h2 [(.func (.func 129) [].toArray [].toArray)] 150]) (s)))
 rcases cR a with ⟨j,a⟩|⟨j,a⟩
 ·obtain ⟨t,i,e,g,l⟩:=r
  obtain rfl:=Nat.eq_of_beq_eq_true j
  exact InvOk.mk (gS _) (((Z3n_ok a).perm (Pre':=[pk [aI b [(iv e)] 3,aI h1 [(iv g)] 3,aI h2 [(.func (.func 131) [].toArray [].toArray)] 150]]) (fun _ _ _ s=>St.unpack (A:=[aI b [(iv e)] 3,aI h1 [(iv g)] 3,aI h2 [(.func (.func 131) [].toArray [].toArray)] 150]) s)).post id (fun _=>rfl) (fun _ _ _ _ s=>St.pack (A:=[aI b [(iv e)] 3,aI h1 [(iv g)] 3,aI h2 [(.func (.func 131) [].toArray [].toArray)] 150]) (s)))
 have O:cV r (b,h1,h2)=(.iface 145 (.agg [(aD r.s0),(.func (.func 149) [].toArray [(pt b 0),(pt h1 0),(pt h2 0)].toArray)].toArray)):=by simp only [cV,L,m,u,B,D,E,F,G,I,J,j,cond_false]
 have M:eQ r (b,h1,h2)=pk [aI b [(iv r.i0)] 3,aI h1 [(iv r.i1)] 3,aI h2 [(.func (.func 133) [].toArray [].toArray)] 150]:=by simp only [eQ,L,m,u,B,D,E,F,G,I,J,j,cond_false]
 rw [O,M]
 exact InvOk.mk (gS _) (((Z3o_ok a).perm (Pre':=[pk [aI b [(iv r.i0)] 3,aI h1 [(iv r.i1)] 3,aI h2 [(.func (.func 133) [].toArray [].toArray)] 150]]) (fun _ _ _ s=>St.unpack (A:=[aI b [(iv r.i0)] 3,aI h1 [(iv r.i1)] 3,aI h2 [(.func (.func 133) [].toArray [].toArray)] 150]) s)).post id (fun _=>rfl) (fun _ _ _ _ s=>St.pack (A:=[aI b [(iv r.i0)] 3,aI h1 [(iv r.i1)] 3,aI h2 [(.func (.func 133) [].toArray [].toArray)] 150]) (s)))
theorem Z6_ok  {g:aM}{e:aM}{mG:Int}{a:Nat}{r:Bool}(b:Z6 g e=some r) :
 FnOk Tryz.prog 135 [(aD g),(pt a 0)] [aI a [(aD e)] 9,gl 0 mG] (fun (h:Unit)=>((.bool r),[aI a [(aD e)] 9])):=by
 unfold Z6 at b
 refine aQ Tryz.func135 R 7 R R fun C V=>?_
 let l:=gl 0 mG::V
 refine bF ?_
 let j:=aI a [(aD e)] 9::l
 refine qN j ?_
 refine aR ?_
 obtain ⟨m,i,b⟩:=bd b
 refine aR ?_
 refine lO (vp (aD g) R) (lM _ (fun w s=>(s.dg 1 R)) ?_)
 refine lC 1 yv R (Z3u_ok i) R ?_
 rintro _
 refine lN j ?_
 refine bF ?_
 cases b
 exact qF () (tE 2 [0])
theorem Z1u_ok  {a:Node}{Y:aM}{mG:Int}{r:Bool}(hr:Z1u a Y=some r) :
 FnOk Tryz.prog 97 [(.agg [(iv a.Op),(.slice A2 N2 D2),(.slice A3 N3 D3),(.slice A4 N4 D4),(aD a.Form),(.slice A5 N5 D5)].toArray),(aD Y)] [aN kT3 (.slice A2 N2 D2) a.Args,aN kT3 (.slice A3 N3 D3) a.Dims,aN kT3 (.slice A4 N4 D4) a.Ints,aN kT3 (.slice A5 N5 D5) a.Data,gl 0 mG] (fun (h:Unit)=>((.bool r),[])):=by
 unfold Z1u at hr
 refine aQ Tryz.func97 R 44 R R fun C V=>?_
 refine cL 0 aA ?_
 rintro rfl
 refine cL 1 aA ?_
 rintro rfl
 refine cL 2 aA ?_
 rintro rfl
 refine cL 3 aA ?_
 rintro rfl
 let W0:=RR kT3 A2 D2 a.Args::RR kT3 A3 D3 a.Dims::RR kT3 A4 D4 a.Ints::RR kT3 A5 D5 a.Data::gl 0 mG::V
 refine cN W0 ?_
 refine aR ?_
 refine eA R fun b7=>?_
 refine eT (cs:=[(aD Y)]) R R R (fun T=>(lB R (aC ?_)))
 let W1:=aI b7 [(iv a.Op),(sc A2 a.Args D2),(sc A3 a.Dims D3),(sc A4 a.Ints D4),(aD a.Form),(sc A5 a.Data D5)] 54::W0
 refine aP ?_
 refine lO (vp (.func (.func 135) [].toArray [(pt T 0)].toArray) R) (lO (vp _ R) ?_)
 refine aP ?_
 obtain ⟨U,ah,hr⟩:=bd hr
 obtain ⟨j,ag,hr⟩:=bd hr
 obtain ⟨g,a3,hr⟩:=bd hr
 obtain ⟨b,O,hr⟩:=bd hr
 refine cQ [(4,(.bool ((((U||((a.Dims.length:Int)==0))&&(j||((a.Ints.length:Int)==0)))&&(g||(a.Form==([]:aM))))&&(b||((a.Data.length:Int)==0)))))] (W1) ?_ ?_
 refine aH (lO (vp _ R) (lM _ (fun w s=>((s.dg 6 R).e 2 [1,0])) ?_))
 refine b' (fs:=[]) (cs:=[(pt T 0)]) 2 R R iD R R (Z6_ok ah) R ?_
 rintro _
 refine bU ?_
 rcases bo U with l | l
 refine bF ?_
 refine lO (eW ((a.Dims.length:Int)==0) R l) (lB R (lW (dI (oT l)) (vp _ R) (lM _ (fun w s=>((s.dg 6 R).e 2 [1,0])) ?_)))
 refine b' (fs:=[]) (cs:=[(pt T 0)]) 2 R (dI (oT l)) iD R R (Z6_ok (bG ag (oT l))) R ?_
 rintro _
 refine bU ?_
 rcases bo j with a4 | a4
 refine bF ?_
 refine lW (dI (oT l)) (eW ((a.Ints.length:Int)==0) R a4) (lO (iy R (oT l) R) (lB R ?_))
 rcases bo ((U||((a.Dims.length:Int)==0))&&(j||((a.Ints.length:Int)==0))) with m | m
 refine lW (dI m) (vp _ R) (lM _ (fun w s=>((s.dg 6 R).e 2 [1,0])) ?_)
 refine b' (fs:=[]) (cs:=[(pt T 0)]) 2 R (dI m) iD R R (Z6_ok (bG a3 m)) R ?_
 rintro _
 refine bU ?_
 rcases bo g with Z | Z
 refine aP ?_
 refine lW (dI m) (eW (a.Form==([]:aM)) R Z) (lO (iy R m R) (lB R ?_))
 rcases bo (((U||((a.Dims.length:Int)==0))&&(j||((a.Ints.length:Int)==0)))&&(g||(a.Form==([]:aM)))) with D | D
 refine lW (dI D) (vp _ R) (lM _ (fun w s=>((s.dg 6 R).e 2 [1,0])) ?_)
 refine b' (fs:=[]) (cs:=[(pt T 0)]) 2 R (dI D) iD R R (Z6_ok (bG O D)) R ?_
 rintro _
 refine bU ?_
 rcases bo b with a5 | a5
 refine bF ?_
 refine lW (dI D) (eW ((a.Data.length:Int)==0) R a5) (lO (iy R D R) ?_)
 refine aR ?_
 exact qj (tE 1 [])
 refine bF ?_
 refine lW (dI D) (fK R a5 R) (lO (iy R D R) ?_)
 refine aR ?_
 exact qj (tE 1 [])
 refine cU ?_
 refine lO (jP (b||((a.Data.length:Int)==0)) R D) ?_
 refine aR ?_
 exact qj (tE 1 [])
 refine aR ?_
 refine lW (bZ Z) (vz (.bool (a.Form==([]:aM))) (j7 R R R)) (lW (dI m) (fK R Z R) (lO (iy R m R) (lB R ?_)))
 rcases bo (((U||((a.Dims.length:Int)==0))&&(j||((a.Ints.length:Int)==0)))&&(g||(a.Form==([]:aM)))) with E | E
 refine lW (dI E) (vp _ R) (lM _ (fun w s=>((s.dg 6 R).e 2 [1,0])) ?_)
 refine b' (fs:=[]) (cs:=[(pt T 0)]) 2 R (dI E) iD R R (Z6_ok (bG O E)) R ?_
 rintro _
 refine bU ?_
 rcases bo b with a6 | a6
 refine bF ?_
 refine lW (dI E) (eW ((a.Data.length:Int)==0) R a6) (lO (iy R E R) ?_)
 refine aR ?_
 exact qj (tE 1 [])
 refine bF ?_
 refine lW (dI E) (fK R a6 R) (lO (iy R E R) ?_)
 refine aR ?_
 exact qj (tE 1 [])
 refine cU ?_
 refine lO (jP (b||((a.Data.length:Int)==0)) R E) ?_
 refine aR ?_
 exact qj (tE 1 [])
 refine dJ ?_
 refine lO (jP (g||(a.Form==([]:aM))) R m) ?_
 refine cO ?_
 refine lO (jP (b||((a.Data.length:Int)==0)) R (aF m)) ?_
 refine aR ?_
 exact qj (tE 1 [])
 refine bF ?_
 refine lW (dI (oT l)) (fK R a4 R) (lO (iy R (oT l) R) (lB R ?_))
 rcases bo ((U||((a.Dims.length:Int)==0))&&(j||((a.Ints.length:Int)==0))) with q | q
 refine lW (dI q) (vp _ R) (lM _ (fun w s=>((s.dg 6 R).e 2 [1,0])) ?_)
 refine b' (fs:=[]) (cs:=[(pt T 0)]) 2 R (dI q) iD R R (Z6_ok (bG a3 q)) R ?_
 rintro _
 refine bU ?_
 rcases bo g with a0 | a0
 refine aP ?_
 refine lW (dI q) (eW (a.Form==([]:aM)) R a0) (lO (iy R q R) (lB R ?_))
 rcases bo (((U||((a.Dims.length:Int)==0))&&(j||((a.Ints.length:Int)==0)))&&(g||(a.Form==([]:aM)))) with F | F
 refine lW (dI F) (vp _ R) (lM _ (fun w s=>((s.dg 6 R).e 2 [1,0])) ?_)
 refine b' (fs:=[]) (cs:=[(pt T 0)]) 2 R (dI F) iD R R (Z6_ok (bG O F)) R ?_
 rintro _
 refine bU ?_
 rcases bo b with a7 | a7
 refine bF ?_
 refine lW (dI F) (eW ((a.Data.length:Int)==0) R a7) (lO (iy R F R) ?_)
 refine aR ?_
 exact qj (tE 1 [])
 refine bF ?_
 refine lW (dI F) (fK R a7 R) (lO (iy R F R) ?_)
 refine aR ?_
 exact qj (tE 1 [])
 refine cU ?_
 refine lO (jP (b||((a.Data.length:Int)==0)) R F) ?_
 refine aR ?_
 exact qj (tE 1 [])
 refine aR ?_
 refine lW (bZ a0) (vz (.bool (a.Form==([]:aM))) (j7 R R R)) (lW (dI q) (fK R a0 R) (lO (iy R q R) (lB R ?_)))
 rcases bo (((U||((a.Dims.length:Int)==0))&&(j||((a.Ints.length:Int)==0)))&&(g||(a.Form==([]:aM)))) with G | G
 refine lW (dI G) (vp _ R) (lM _ (fun w s=>((s.dg 6 R).e 2 [1,0])) ?_)
 refine b' (fs:=[]) (cs:=[(pt T 0)]) 2 R (dI G) iD R R (Z6_ok (bG O G)) R ?_
 rintro _
 refine bU ?_
 rcases bo b with a8 | a8
 refine bF ?_
 refine lW (dI G) (eW ((a.Data.length:Int)==0) R a8) (lO (iy R G R) ?_)
 refine aR ?_
 exact qj (tE 1 [])
 refine bF ?_
 refine lW (dI G) (fK R a8 R) (lO (iy R G R) ?_)
 refine aR ?_
 exact qj (tE 1 [])
 refine cU ?_
 refine lO (jP (b||((a.Data.length:Int)==0)) R G) ?_
 refine aR ?_
 exact qj (tE 1 [])
 refine dJ ?_
 refine lO (jP (g||(a.Form==([]:aM))) R q) ?_
 refine cO ?_
 refine lO (jP (b||((a.Data.length:Int)==0)) R (aF q)) ?_
 refine aR ?_
 exact qj (tE 1 [])
 refine bF ?_
 refine lO (fK R l R) (lB R ?_)
 rcases bo (U||((a.Dims.length:Int)==0)) with i | i
 refine lW (dI i) (vp _ R) (lM _ (fun w s=>((s.dg 6 R).e 2 [1,0])) ?_)
 refine b' (fs:=[]) (cs:=[(pt T 0)]) 2 R (dI i) iD R R (Z6_ok (bG ag i)) R ?_
 rintro _
 refine bU ?_
 rcases bo j with a9 | a9
 refine bF ?_
 refine lW (dI i) (eW ((a.Ints.length:Int)==0) R a9) (lO (iy R i R) (lB R ?_))
 rcases bo ((U||((a.Dims.length:Int)==0))&&(j||((a.Ints.length:Int)==0))) with u | u
 refine lW (dI u) (vp _ R) (lM _ (fun w s=>((s.dg 6 R).e 2 [1,0])) ?_)
 refine b' (fs:=[]) (cs:=[(pt T 0)]) 2 R (dI u) iD R R (Z6_ok (bG a3 u)) R ?_
 rintro _
 refine bU ?_
 rcases bo g with a1 | a1
 refine aP ?_
 refine lW (dI u) (eW (a.Form==([]:aM)) R a1) (lO (iy R u R) (lB R ?_))
 rcases bo (((U||((a.Dims.length:Int)==0))&&(j||((a.Ints.length:Int)==0)))&&(g||(a.Form==([]:aM)))) with I | I
 refine lW (dI I) (vp _ R) (lM _ (fun w s=>((s.dg 6 R).e 2 [1,0])) ?_)
 refine b' (fs:=[]) (cs:=[(pt T 0)]) 2 R (dI I) iD R R (Z6_ok (bG O I)) R ?_
 rintro _
 refine bU ?_
 rcases bo b with aa | aa
 refine bF ?_
 refine lW (dI I) (eW ((a.Data.length:Int)==0) R aa) (lO (iy R I R) ?_)
 refine aR ?_
 exact qj (tE 1 [])
 refine bF ?_
 refine lW (dI I) (fK R aa R) (lO (iy R I R) ?_)
 refine aR ?_
 exact qj (tE 1 [])
 refine cU ?_
 refine lO (jP (b||((a.Data.length:Int)==0)) R I) ?_
 refine aR ?_
 exact qj (tE 1 [])
 refine aR ?_
 refine lW (bZ a1) (vz (.bool (a.Form==([]:aM))) (j7 R R R)) (lW (dI u) (fK R a1 R) (lO (iy R u R) (lB R ?_)))
 rcases bo (((U||((a.Dims.length:Int)==0))&&(j||((a.Ints.length:Int)==0)))&&(g||(a.Form==([]:aM)))) with J | J
 refine lW (dI J) (vp _ R) (lM _ (fun w s=>((s.dg 6 R).e 2 [1,0])) ?_)
 refine b' (fs:=[]) (cs:=[(pt T 0)]) 2 R (dI J) iD R R (Z6_ok (bG O J)) R ?_
 rintro _
 refine bU ?_
 rcases bo b with ab | ab
 refine bF ?_
 refine lW (dI J) (eW ((a.Data.length:Int)==0) R ab) (lO (iy R J R) ?_)
 refine aR ?_
 exact qj (tE 1 [])
 refine bF ?_
 refine lW (dI J) (fK R ab R) (lO (iy R J R) ?_)
 refine aR ?_
 exact qj (tE 1 [])
 refine cU ?_
 refine lO (jP (b||((a.Data.length:Int)==0)) R J) ?_
 refine aR ?_
 exact qj (tE 1 [])
 refine dJ ?_
 refine lO (jP (g||(a.Form==([]:aM))) R u) ?_
 refine cO ?_
 refine lO (jP (b||((a.Data.length:Int)==0)) R (aF u)) ?_
 refine aR ?_
 exact qj (tE 1 [])
 refine bF ?_
 refine lW (dI i) (fK R a9 R) (lO (iy R i R) (lB R ?_))
 rcases bo ((U||((a.Dims.length:Int)==0))&&(j||((a.Ints.length:Int)==0))) with B | B
 refine lW (dI B) (vp _ R) (lM _ (fun w s=>((s.dg 6 R).e 2 [1,0])) ?_)
 refine b' (fs:=[]) (cs:=[(pt T 0)]) 2 R (dI B) iD R R (Z6_ok (bG a3 B)) R ?_
 rintro _
 refine bU ?_
 rcases bo g with a2 | a2
 refine aP ?_
 refine lW (dI B) (eW (a.Form==([]:aM)) R a2) (lO (iy R B R) (lB R ?_))
 rcases bo (((U||((a.Dims.length:Int)==0))&&(j||((a.Ints.length:Int)==0)))&&(g||(a.Form==([]:aM)))) with L | L
 refine lW (dI L) (vp _ R) (lM _ (fun w s=>((s.dg 6 R).e 2 [1,0])) ?_)
 refine b' (fs:=[]) (cs:=[(pt T 0)]) 2 R (dI L) iD R R (Z6_ok (bG O L)) R ?_
 rintro _
 refine bU ?_
 rcases bo b with ac | ac
 refine bF ?_
 refine lW (dI L) (eW ((a.Data.length:Int)==0) R ac) (lO (iy R L R) ?_)
 refine aR ?_
 exact qj (tE 1 [])
 refine bF ?_
 refine lW (dI L) (fK R ac R) (lO (iy R L R) ?_)
 refine aR ?_
 exact qj (tE 1 [])
 refine cU ?_
 refine lO (jP (b||((a.Data.length:Int)==0)) R L) ?_
 refine aR ?_
 exact qj (tE 1 [])
 refine aR ?_
 refine lW (bZ a2) (vz (.bool (a.Form==([]:aM))) (j7 R R R)) (lW (dI B) (fK R a2 R) (lO (iy R B R) (lB R ?_)))
 rcases bo (((U||((a.Dims.length:Int)==0))&&(j||((a.Ints.length:Int)==0)))&&(g||(a.Form==([]:aM)))) with M | M
 refine lW (dI M) (vp _ R) (lM _ (fun w s=>((s.dg 6 R).e 2 [1,0])) ?_)
 refine b' (fs:=[]) (cs:=[(pt T 0)]) 2 R (dI M) iD R R (Z6_ok (bG O M)) R ?_
 rintro _
 refine bU ?_
 rcases bo b with ae | ae
 refine bF ?_
 refine lW (dI M) (eW ((a.Data.length:Int)==0) R ae) (lO (iy R M R) ?_)
 refine aR ?_
 exact qj (tE 1 [])
 refine bF ?_
 refine lW (dI M) (fK R ae R) (lO (iy R M R) ?_)
 refine aR ?_
 exact qj (tE 1 [])
 refine cU ?_
 refine lO (jP (b||((a.Data.length:Int)==0)) R M) ?_
 refine aR ?_
 exact qj (tE 1 [])
 refine dJ ?_
 refine lO (jP (g||(a.Form==([]:aM))) R B) ?_
 refine cO ?_
 refine lO (jP (b||((a.Data.length:Int)==0)) R (aF B)) ?_
 refine aR ?_
 exact qj (tE 1 [])
 refine cU ?_
 refine lO (jP (j||((a.Ints.length:Int)==0)) R i) ?_
 refine cU ?_
 refine lO (jP (g||(a.Form==([]:aM))) R (aF i)) ?_
 refine cO ?_
 refine lO (jP (b||((a.Data.length:Int)==0)) R (aF (aF i))) ?_
 refine aR ?_
 exact qj (tE 1 [])
 rintro σ1
 refine aR ?_
 cases hr
 exact qF () (tE 6 [])
theorem Zc_ok  {b:(List Int)}{r:Bool}(e:Zc b=some r) :
 FnOk Tryz.prog 147 [(.slice A2 N2 D2)] [aN kT3 (.slice A2 N2 D2) b] (fun (h:Unit)=>((.bool r),[])):=by
 unfold Zc at e
 refine aQ Tryz.func147 R 27 R R fun C V=>?_
 refine cL 0 aA ?_
 rintro rfl
 let u:=RR kT3 A2 D2 b::V
 refine cN u ?_
 refine hW ?_
 refine bA (A:=(Unit)×(HH)) (fun a=>Zc_J1 b=some r) (fun a=>[(0,(s3 a.2))]) (fun a=>aN kT3 (s3 a.2) b::u) ?_ ?_
 refine cU ?_
 obtain ⟨M,D,l⟩:=bd e
 refine bC (A:=HH) D (fun s a=>[(0,(s3 a)),(3,(iv s.1)),(6,(s3 a)),(7,(il b)),(8,(iv s.2))]) (fun s a=>aN kT3 (s3 a) b::u) (A2,b.length,D2) (aS R) (fun w s=>(s.d 0 R)) ?_
 rintro ⟨F,g⟩ ⟨A10,N10,D10⟩ σ1 G e j
 dsimp only [Zc_L1] at e
 refine bJ 0 aA (fun (E:N10=b.length)=>?_)
 subst E
 refine bT ?_
 split at e
 refine bT ?_
 obtain ⟨q,e⟩:=gd e
 refine aH (bB 0 aA (show 0<b.length by have:=q; omega) (fun i o16 L=>?_))
 subst L
 refine dJ ?_
 refine cQ [(0,(sc (ad i o16) b D10)),(3,(iv F)),(5,(iv (ix b g))),(6,(sc (ad i o16) b D10)),(7,(il b)),(8,(iv g)),(17,(.bool ((decide ((ix b g)<1))||(decide ((ix b g)>4096)))))] (RR kT3 (ad i o16) D10 b::u) ?_ ?_
 refine bF ?_
 rcases bo (decide ((ix b g)<1)) with m | m
 refine bF ?_
 exact qj tI
 refine bF ?_
 exact qj tI
 rintro σ1
 refine bU ?_
 split at e
 refine cW ?_
 cases e
 obtain rfl:=j _ R
 have e:=l
 refine aP ?_
 cases e
 exact qF () (tE 2 [])
 refine oM ?_
 split at e
 refine cO ?_
 cases e
 obtain rfl:=j _ R
 have e:=l
 refine aP ?_
 cases e
 exact qF () (tE 2 [])
 refine cU ?_
 cases e
 exact qA ((ad i o16),b.length,D10) tI
 refine aP ?_
 cases e
 obtain rfl:=j _ R
 have e:=l
 refine aR ?_
 exact qI ((),(A10,b.length,D10)) e tI
 rintro ⟨_,⟨I,B,J⟩⟩ σ1 e
 dsimp only [Zc_J1] at e
 refine bJ 0 aA (fun (E:B=b.length)=>?_)
 subst E
 refine cO ?_
 cases e
 exact qF () (tE 2 [])
theorem Zm_ok  {b:(List Int)}{r:Int}(e:Zm b=some r) :
 FnOk Tryz.prog 148 [(.slice A2 N2 D2)] [aN kT3 (.slice A2 N2 D2) b] (fun (h:Unit)=>((iv r),[])):=by
 unfold Zm at e
 refine aQ Tryz.func148 R 17 R R fun C V=>?_
 refine cL 0 aA ?_
 rintro rfl
 let i:=RR kT3 A2 D2 b::V
 refine cN i ?_
 refine hW ?_
 refine bA (A:=(Int)×(Unit)) (fun a=>Zm_J1 a.1=some r) (fun a=>[(3,(iv a.1))]) (fun a=>i) ?_ ?_
 refine cU ?_
 obtain ⟨F,m,l⟩:=bd e
 refine bC (A:=Unit) m (fun s a=>[(3,(iv s.1)),(6,(sc A2 b D2)),(7,(il b)),(8,(iv s.2))]) (fun s a=>i) () (aS R) tI ?_
 rintro ⟨E,G⟩ _ σ1 q e j
 dsimp only [Zm_L1] at e
 refine bT ?_
 split at e
 refine bT ?_
 obtain ⟨g,e⟩:=gd e
 refine aH (bB 0 aA (show 0<b.length by have:=g; omega) (fun u o12 B=>?_))
 subst B
 refine oM ?_
 cases e
 exact qA () tI
 refine aP ?_
 cases e
 obtain rfl:=j _ R
 have e:=l
 refine aR ?_
 exact qI (E,()) e tI
 rintro ⟨D,_⟩ σ1 e
 dsimp only [Zm_J1] at e
 refine dJ ?_
 cases e
 exact qF () (tE 1 [])
theorem Z34_ok  {p1:Int}{r:Bool}(b:Z34 p1=some r) :
 FnOk Tryz.prog 196 [(iv p1)] [] (fun (h:Unit)=>((.bool r),[])):=by
 unfold Z34 at b
 refine aQ Tryz.func196 R 9 R R fun C V=>?_
 refine cN V ?_
 refine bT ?_
 refine cQ [(2,(.bool ((decide (p1≥0))&&(decide (p1<2147483647)))))] (V) ?_ ?_
 refine bF ?_
 rcases bo (decide (p1≥0)) with a | a
 refine cB ?_
 exact qj tI
 refine cB ?_
 exact qj tI
 rintro σ1
 refine aR ?_
 cases b
 exact qF () tI
theorem Z12_ok  {e:(List Int)}{r:Bool}(b:Z12 e=some r) :
 FnOk Tryz.prog 195 [(.slice A2 N2 D2)] [aN kT3 (.slice A2 N2 D2) e] (fun (h:Unit)=>((.bool r),[])):=by
 unfold Z12 at b
 refine aQ Tryz.func195 R 15 R R fun C V=>?_
 refine cL 0 aA ?_
 rintro rfl
 let m:=RR kT3 A2 D2 e::V
 refine cN m ?_
 refine bT ?_
 refine bA (A:=(Unit)×(Unit)) (fun a=>Z12_J1=some r) (fun a=>[]) (fun a=>m) ?_ ?_
 refine cU ?_
 obtain ⟨G,q,j⟩:=bd b
 refine bC (A:=Unit) q (fun s a=>[(5,(sc A2 e D2)),(6,(il e)),(7,(iv s))]) (fun s a=>m) () (aS R) tI ?_
 rintro F _ σ1 u b g
 dsimp only [Z12_L1] at b
 refine bT ?_
 split at b
 refine bT ?_
 obtain ⟨i,b⟩:=gd b
 refine aH (bB 0 aA (show 0<e.length by have:=i; omega) (fun B o14 D=>?_))
 subst D
 refine bT ?_
 obtain ⟨E,l,b⟩:=bd b
 refine aR ?_
 refine lC 0 yx R (Z34_ok l) R ?_
 rintro _
 refine aP ?_
 split at b
 refine cO ?_
 cases b
 obtain rfl:=g _ R
 have b:=j
 refine aP ?_
 cases b
 exact qF () (tE 1 [])
 refine cU ?_
 cases b
 exact qA () tI
 refine aP ?_
 cases b
 obtain rfl:=g _ R
 have b:=j
 refine aR ?_
 exact cI ((),()) b trivial tI
 rintro ⟨_,_⟩ σ1 b
 dsimp only [Z12_J1] at b
 refine bT ?_
 cases b
 exact qF () (tE 1 [])
theorem Z2k_ok  {t1:Tensor}{r:Bool}(g:Z2k t1=some r) :
 FnOk Tryz.prog 194 [(.agg [(.slice A2 N2 D2),(.slice A3 N3 D3)].toArray)] [aN kT3 (.slice A2 N2 D2) t1.Dims,aN kT3 (.slice A3 N3 D3) t1.Data] (fun (h:Unit)=>((.bool r),[])):=by
 unfold Z2k at g
 refine aQ Tryz.func194 R 20 R R fun C V=>?_
 refine cL 0 aA ?_
 rintro rfl
 refine cL 1 aA ?_
 rintro rfl
 let q:=RR kT3 A2 D2 t1.Dims::RR kT3 A3 D3 t1.Data::V
 refine cN q ?_
 refine aR ?_
 refine eA R fun E=>?_
 refine aR ?_
 let e:=aI E [(sc A2 t1.Dims D2),(sc A3 t1.Data D3)] 58::q
 refine qN e ?_
 refine aR ?_
 obtain ⟨m,i,g⟩:=bd g
 obtain ⟨D,l,g⟩:=bd g
 obtain ⟨F,j,g⟩:=bd g
 refine cQ [(2,(.bool ((m&&((t1.Data.length:Int)==D))&&F)))] (e) ?_ ?_
 rcases bo m with a | a
 rcases bo (m&&((t1.Data.length:Int)==D)) with b | b
 refine cZ 18 [] bN fun B u=>?_
 refine gN 0 [] ?_
 refine d1 2 R (lM _ (fun w s=>(s.d 1 R)) ?_)
 refine lC 1 iW R (Zc_ok i) R ?_
 rintro _
 refine lN e ?_
 refine aC (aE (sL []) ?_)
 refine rN 3 [] ?_
 refine d1 9 R (lM _ (fun w s=>(s.d 1 R)) ?_)
 refine bS 1 R (dI a) jp R (Zm_ok (bG l a)) R ?_
 rintro _
 refine lN e ?_
 refine aC (aE (sL []) ?_)
 refine kb 10 [] ?_
 refine d1 15 R (lM _ (fun w s=>(s.d 2 R)) ?_)
 refine bS 1 R (dI b) yy R (Z12_ok (bG j b)) R ?_
 rintro _
 refine lN e ?_
 refine aC (aE (sL []) ?_)
 refine gN 16 [] ?_
 refine dD ?_
 exact qj tI
 refine cZ 18 [] bN fun B u=>?_
 refine gN 0 [] ?_
 refine d1 2 R (lM _ (fun w s=>(s.d 1 R)) ?_)
 refine lC 1 iW R (Zc_ok i) R ?_
 rintro _
 refine lN e ?_
 refine aC (aE (sL []) ?_)
 refine rN 3 [] ?_
 refine d1 9 R (lM _ (fun w s=>(s.d 1 R)) ?_)
 refine bS 1 R (dI a) jp R (Zm_ok (bG l a)) R ?_
 rintro _
 refine lN e ?_
 refine aC (aE (sL []) ?_)
 refine tO 10 [] ?_
 refine dD ?_
 exact qj tI
 refine cZ 18 [] bN fun B u=>?_
 refine gN 0 [] ?_
 refine d1 2 R (lM _ (fun w s=>(s.d 1 R)) ?_)
 refine lC 1 iW R (Zc_ok i) R ?_
 rintro _
 refine lN e ?_
 refine aC (aE (sL []) ?_)
 refine vW 3 [] ?_
 refine dD ?_
 exact qj tI
 rintro σ1
 refine aR ?_
 cases g
 exact qF () (tE 3 [])
theorem Z1h_ok  {k1:leafKind}{b:Node}{a:(List (List Int))}{r:(List Int)×Bool}(l:Z1h k1 b a=some r) :
 FnOk Tryz.prog 192 [(.agg [(.bool k1.data)].toArray),(.agg [(iv b.Op),(.slice A3 N3 D3),(.slice A4 N4 D4),(.slice A5 N5 D5),(aD b.Form),(.slice A6 N6 D6)].toArray),(.slice A8 N8 D8)] [aN kT3 (.slice A3 N3 D3) b.Args,aN kT3 (.slice A4 N4 D4) b.Dims,aN kT3 (.slice A5 N5 D5) b.Ints,aN kT3 (.slice A6 N6 D6) b.Data,aN bL (.slice A8 N8 D8) a] (fun (h:HH)=>((.tuple [(s3 h),(.bool r.2)].toArray),[aN kT3 (s3 h) r.1])):=by
 unfold Z1h at l
 refine aQ Tryz.func192 R 32 R R fun C V=>?_
 refine cL 0 aA ?_
 rintro rfl
 refine cL 1 aA ?_
 rintro rfl
 refine cL 2 aA ?_
 rintro rfl
 refine cL 3 aA ?_
 rintro rfl
 refine cL 4 aA ?_
 rintro rfl
 let F:=RR kT3 A3 D3 b.Args::RR kT3 A4 D4 b.Dims::RR kT3 A5 D5 b.Ints::RR kT3 A6 D6 b.Data::RR bL A8 D8 a::V
 refine cN F ?_
 refine aR ?_
 refine eA R fun G=>?_
 refine eA R fun m=>?_
 refine aP ?_
 let D:=aI m [(iv b.Op),(sc A3 b.Args D3),(sc A4 b.Dims D4),(sc A5 b.Ints D5),(aD b.Form),(sc A6 b.Data D6)] 54::aI G [(.bool k1.data)] 136::F
 refine qN D ?_
 refine aP ?_
 obtain ⟨B,q,l⟩:=bd l
 obtain ⟨E,u,l⟩:=bd l
 refine cQ [(4,(pt m 0)),(29,(.bool ((((a.length:Int) != 0)||(!B))||(k1.data&&(!E)))))] (D) ?_ ?_
 refine cB ?_
 rcases bo ((a.length:Int) != 0) with i | i
 refine Ac ?_
 exact qj tI
 refine aR ?_
 refine lM _ (fun w s=>(s.d 3 R)) ?_
 refine bS 1 R (bZ i) iW R (Zc_ok (bG q (cK i))) R ?_
 rintro _
 refine lN D ?_
 refine aP ?_
 rcases bo (((a.length:Int) != 0)||(!B)) with j | j
 refine ka ?_
 exact qj tI
 refine aP ?_
 rcases bo k1.data with g | g
 refine bF ?_
 refine lW (dI g) (vz (.agg [(sc A4 b.Dims D4),(sc A6 b.Data D6)].toArray) (aW gM dM R R)) (lM _ (fun w s=>(((s.d 3 R).d 6 R).e 2 [1,0])) ?_)
 refine bS 2 R (dI g) yz R (Z2k_ok (t1:=(⟨b.Dims,b.Data⟩:Tensor)) (bG u (n9 (cK j) g))) R ?_
 rintro _
 refine lN D ?_
 refine bF ?_
 exact qj tI
 refine cW ?_
 exact qj tI
 rintro σ1
 refine bU ?_
 split at l
 refine cO ?_
 cases l
 exact jl (none,0,0) (fun w s=>((s.nilr kT3).e 8 [0]))
 refine iC ?_
 cases l
 exact jl (A4,b.Dims.length,D4) (tE 7 [3])
theorem Z21_ok  {k1:pairKind}{g:Node}{b:(List (List Int))}{r:(List Int)×Bool}(j:Z21 k1 g b=some r) :
 FnOk Tryz.prog 197 [(.agg [(iv k1.op)].toArray),(.agg [(iv g.Op),(.slice A3 N3 D3),(.slice A4 N4 D4),(.slice A5 N5 D5),(aD g.Form),(.slice A6 N6 D6)].toArray),(.slice A8 N8 D8)] [aN kT3 (.slice A3 N3 D3) g.Args,aN kT3 (.slice A4 N4 D4) g.Dims,aN kT3 (.slice A5 N5 D5) g.Ints,aN kT3 (.slice A6 N6 D6) g.Data,aN bL (.slice A8 N8 D8) b] (fun (h:HH)=>((.tuple [(s3 h),(.bool r.2)].toArray),[aN kT3 (s3 h) r.1])):=by
 unfold Z21 at j
 refine aQ Tryz.func197 R 24 R R fun C V=>?_
 refine cL 0 aA ?_
 rintro rfl
 refine cL 1 aA ?_
 rintro rfl
 refine cL 2 aA ?_
 rintro rfl
 refine cL 3 aA ?_
 rintro rfl
 refine cL 4 aA ?_
 rintro rfl
 let G:=RR kT3 A3 D3 g.Args::RR kT3 A4 D4 g.Dims::RR kT3 A5 D5 g.Ints::RR kT3 A6 D6 g.Data::RR bL A8 D8 b::V
 refine cN G ?_
 refine aR ?_
 refine eA R fun M=>?_
 refine eA R fun D=>?_
 refine aP ?_
 let I:=aI D [(iv g.Op),(sc A3 g.Args D3),(sc A4 g.Dims D4),(sc A5 g.Ints D5),(aD g.Form),(sc A6 g.Data D6)] 54::aI M [(iv k1.op)] 138::G
 refine qN I ?_
 refine aP ?_
 obtain ⟨i,j⟩:=gd j
 obtain ⟨l,j⟩:=gd j
 obtain ⟨F,q,j⟩:=bd j
 refine cQ [(2,(sc A8 b D8)),(20,(.bool (((b.length:Int) != 2)||(!F))))] (I) ?_ ?_
 rcases bo ((b.length:Int) != 2) with a | a
 refine cZ 13 [] bN fun Y U=>?_
 refine md 0 [] ?_
 refine dD ?_
 exact qj tI
 refine aY 6 aA (show 0<b.length by have:=(i a); omega) (fun O o13 E=>?_)
 subst E
 refine dE (K:=bL) 6 (0:Int) dT23.dec R (i a).1 (i a).2 ?_
 rintro ⟨A14,D14⟩
 refine dE (K:=bL) 8 (1:Int) dT23.dec R (l a).1 (l a).2 ?_
 rintro ⟨J,L⟩
 refine cZ 13 [] bN fun Y U=>?_
 refine kb 0 [] ?_
 refine dW 5 R (bZ a) (eI ke fR R R (i a)) (dW 6 R (bZ a) (eG (fo:=0) 2 cT R R R) (dW 7 R (bZ a) (vS R) (dW 8 R (bZ a) (eI ke fR R R (l a)) (dW 9 R (bZ a) (eG (fo:=0) 0 cT R R R) (d1 10 R (lM _ (fun w s=>(((s.d 3 R).d 2 R).e 6 [1,0,2,3,4,5])) ?_))))))
 refine bS 2 R (bZ a) yA R (Z0y_ok (bG q (cK a))) R ?_
 rintro _
 refine aC (aE (sL []) ?_)
 refine gN 11 [] ?_
 refine dD ?_
 exact qj (tE 4 [])
 rintro σ1
 refine bU ?_
 split at j
 refine cO ?_
 cases j
 exact jl (none,0,0) (fun w s=>((s.nilr kT3).e 8 [0]))
 refine bF ?_
 obtain ⟨m,j⟩:=gd j
 refine aR ?_
 refine bB 6 aA (show 0<b.length by have:=m; omega) (fun T o23 E=>?_)
 subst E
 refine bU ?_
 refine gB (K:=bL) 6 (0:Int) dT23.dec R m.1 m.2 ?_
 rintro ⟨u,B⟩
 refine lO (eG (fo:=0) 0 cT R R R) ?_
 refine cB ?_
 cases j
 exact jl (u,(ix b 0).length,B) (tE 9 [1])
theorem Z2t_ok  {k1:soloKind}{b:Node}{a:(List (List Int))}{r:(List Int)×Bool}(i:Z2t k1 b a=some r) :
 FnOk Tryz.prog 200 [(.agg [(iv k1.op)].toArray),(.agg [(iv b.Op),(.slice A3 N3 D3),(.slice A4 N4 D4),(.slice A5 N5 D5),(aD b.Form),(.slice A6 N6 D6)].toArray),(.slice A8 N8 D8)] [aN kT3 (.slice A3 N3 D3) b.Args,aN kT3 (.slice A4 N4 D4) b.Dims,aN kT3 (.slice A5 N5 D5) b.Ints,aN kT3 (.slice A6 N6 D6) b.Data,aN bL (.slice A8 N8 D8) a] (fun (h:HH)=>((.tuple [(s3 h),(.bool r.2)].toArray),[aN kT3 (s3 h) r.1])):=by
 unfold Z2t at i
 refine aQ Tryz.func200 R 14 R R fun C V=>?_
 refine cL 0 aA ?_
 rintro rfl
 refine cL 1 aA ?_
 rintro rfl
 refine cL 2 aA ?_
 rintro rfl
 refine cL 3 aA ?_
 rintro rfl
 refine cL 4 aA ?_
 rintro rfl
 let q:=RR kT3 A3 D3 b.Args::RR kT3 A4 D4 b.Dims::RR kT3 A5 D5 b.Ints::RR kT3 A6 D6 b.Data::RR bL A8 D8 a::V
 refine cN q ?_
 refine aR ?_
 refine eA R fun B=>?_
 refine eA R fun m=>?_
 refine aP ?_
 let u:=aI m [(iv b.Op),(sc A3 b.Args D3),(sc A4 b.Dims D4),(sc A5 b.Ints D5),(aD b.Form),(sc A6 b.Data D6)] 54::aI B [(iv k1.op)] 139::q
 refine qN u ?_
 refine cO ?_
 split at i
 refine cO ?_
 cases i
 exact jl (none,0,0) (fun w s=>((s.nilr kT3).e 8 [0]))
 refine bF ?_
 obtain ⟨g,i⟩:=gd i
 refine aR ?_
 refine bB 6 aA (show 0<a.length by have:=g; omega) (fun D o14 E=>?_)
 subst E
 refine bU ?_
 refine gB (K:=bL) 6 (0:Int) dT23.dec R g.1 g.2 ?_
 rintro ⟨j,l⟩
 refine lO (eG (fo:=0) 0 cT R R R) ?_
 refine cB ?_
 cases i
 exact jl (j,(ix a 0).length,l) (tE 9 [1])
theorem Zl_ok  {b:(List Int)}{a:Int}{r:Bool}(i:Zl b a=some r) :
 FnOk Tryz.prog 150 [(.slice A2 N2 D2),(iv a)] [aN kT3 (.slice A2 N2 D2) b] (fun (h:Unit)=>((.bool r),[])):=by
 unfold Zl at i
 refine aQ Tryz.func150 R 13 R R fun C V=>?_
 refine cL 0 aA ?_
 rintro rfl
 let g:=RR kT3 A2 D2 b::V
 refine cN g ?_
 refine bT ?_
 refine cQ [(4,(.bool ((decide (a≥0))&&(decide (a<(b.length:Int))))))] (g) ?_ ?_
 refine bF ?_
 rcases bo (decide (a≥0)) with e | e
 refine dJ ?_
 exact qj tI
 refine dJ ?_
 exact qj tI
 rintro σ1
 refine aR ?_
 cases i
 exact qF () (tE 1 [])
theorem Z1v_ok  {k1:topKind}{g:Node}{b:(List (List Int))}{r:(List Int)×Bool}(j:Z1v k1 g b=some r) :
 FnOk Tryz.prog 202 [(.agg [].toArray),(.agg [(iv g.Op),(.slice A3 N3 D3),(.slice A4 N4 D4),(.slice A5 N5 D5),(aD g.Form),(.slice A6 N6 D6)].toArray),(.slice A8 N8 D8)] [aN kT3 (.slice A3 N3 D3) g.Args,aN kT3 (.slice A4 N4 D4) g.Dims,aN kT3 (.slice A5 N5 D5) g.Ints,aN kT3 (.slice A6 N6 D6) g.Data,aN bL (.slice A8 N8 D8) b] (fun (h:HH)=>((.tuple [(s3 h),(.bool r.2)].toArray),[aN kT3 (s3 h) r.1])):=by
 unfold Z1v at j
 refine aQ Tryz.func202 R 31 R R fun C V=>?_
 refine cL 0 aA ?_
 rintro rfl
 refine cL 1 aA ?_
 rintro rfl
 refine cL 2 aA ?_
 rintro rfl
 refine cL 3 aA ?_
 rintro rfl
 refine cL 4 aA ?_
 rintro rfl
 let I:=RR kT3 A3 D3 g.Args::RR kT3 A4 D4 g.Dims::RR kT3 A5 D5 g.Ints::RR kT3 A6 D6 g.Data::RR bL A8 D8 b::V
 refine cN I ?_
 refine aR ?_
 refine eA R fun O=>?_
 refine eA R fun F=>?_
 refine aP ?_
 let J:=aI F [(iv g.Op),(sc A3 g.Args D3),(sc A4 g.Dims D4),(sc A5 g.Ints D5),(aD g.Form),(sc A6 g.Data D6)] 54::aI O [] 141::I
 refine qN J ?_
 refine aP ?_
 obtain ⟨i,j⟩:=gd j
 obtain ⟨l,j⟩:=gd j
 obtain ⟨G,B,j⟩:=bd j
 refine cQ [(2,(sc A8 b D8)),(27,(.bool ((((b.length:Int) != 1)||((g.Ints.length:Int) != 1))||(!G))))] (J) ?_ ?_
 rcases bo ((b.length:Int) != 1) with u | u
 refine cZ 20 [] bN fun M L=>?_
 refine rO 0 [] ?_
 refine dD ?_
 exact qj tI
 rcases bo (((b.length:Int) != 1)||((g.Ints.length:Int) != 1)) with a | a
 refine cZ 20 [] bN fun M L=>?_
 refine rO 0 [] ?_
 refine dD ?_
 exact qj tI
 refine aY 6 aA (show 0<b.length by have:=(i a); omega) (fun T o13 q=>?_)
 subst q
 refine dE (K:=bL) 6 (0:Int) dT23.dec R (i a).1 (i a).2 ?_
 rintro ⟨A14,D14⟩
 refine aY 6 aA (show 0<g.Ints.length by have:=(l a); omega) (fun U o17 q=>?_)
 subst q
 refine cZ 20 [] bN fun M L=>?_
 refine nX 0 [] ?_
 refine dW 11 R (bZ a) (eI ke fR R R (i a)) (dW 12 R (bZ a) (eG (fo:=0) 0 cT R R R) ?_)
 refine gN 13 [] ?_
 refine dW 15 R (bZ a) (eI bM cC R R (l a)) (dW 16 R (bZ a) (gI 6 fM aA R (l a)) (d1 17 R (lM _ (fun w s=>(s.d 1 R)) ?_)))
 refine bS 1 R (bZ a) gO R (Zl_ok (bG B (cK a))) R ?_
 rintro _
 refine aC (aE (sL []) ?_)
 refine gN 18 [] ?_
 refine dD ?_
 exact qj (tE 2 [])
 rintro σ1
 refine bU ?_
 split at j
 refine cO ?_
 cases j
 exact jl (none,0,0) (fun w s=>((s.nilr kT3).e 8 [0]))
 refine bF ?_
 obtain ⟨m,j⟩:=gd j
 refine aR ?_
 refine bB 6 aA (show 0<b.length by have:=m; omega) (fun Y o25 q=>?_)
 subst q
 refine bU ?_
 refine gB (K:=bL) 6 (0:Int) dT23.dec R m.1 m.2 ?_
 rintro ⟨D,E⟩
 refine lO (eG (fo:=0) 0 cT R R R) ?_
 refine cB ?_
 cases j
 exact jl (D,(ix b 0).length,E) (tE 9 [1])
theorem Zd_ok  {L:aM}{mG:Int}{r:(List aM)×aM×Bool}(i:Zd L=some r) :
 FnOk Tryz.prog 207 [(aD L)] [gl 0 mG] (fun (h:HH)=>((.tuple [(s3 h),(aD r.2.1),(.bool r.2.2)].toArray),[aN dK (s3 h) r.1])):=by
 unfold Zd at i
 refine aQ Tryz.func207 R 93 R R fun C V=>?_
 let T:=gl 0 mG::V
 refine cN T ?_
 refine aP ?_
 refine lO (vp (aD ([]:aM)) R) ?_
 refine bF ?_
 obtain ⟨b,al,i⟩:=bd i
 refine aH (lO (vp (aD L) R) (lM _ (fun w s=>(s.dg 0 R)) ?_))
 refine lC 1 yC R (Z30_ok al) R ?_
 rintro _
 refine lN T ?_
 refine lO (vT R) (lO (vp (aD b.1) R) (lO (vp (aD b.2.1) R) (lB R (lO (vp (aD b.1) R) (lO (vp (aD b.2.1) R) ?_)))))
 refine cB ?_
 refine cQ [(5,(aD b.1)),(6,(aD b.2.1)),(25,(.bool ((!b.2.2)||(decide ((b.2.1.length:Int)>6)))))] (T) ?_ ?_
 refine bF ?_
 rcases bo (!b.2.2) with a0 | a0
 refine cB ?_
 exact qj tI
 refine lW (bZ a0) (vp (aD b.2.1) R) (lW (bZ a0) (vz (il b.2.1) (dH fL R)) ?_)
 refine aP ?_
 exact qj tI
 rintro σ1
 refine bU ?_
 split at i
 refine bF ?_
 refine lO (vp (aD ([]:aM)) R) ?_
 refine cB ?_
 cases i
 exact hN (none,0,0) (fun w s=>((s.nilr dK).e 2 [0]))
 refine bF ?_
 obtain ⟨m,am,i⟩:=bd i
 refine aH (lO (vp (aD b.1) R) (lM _ (fun w s=>(s.dg 0 R)) ?_))
 refine lC 1 yF R (Z31_ok am) R ?_
 rintro ⟨A8,N8,D8⟩
 refine aL 0 aA ?_
 rintro rfl
 refine hW ?_
 split at i
 refine bF ?_
 refine lO (vp (aD ([]:aM)) R) ?_
 refine cB ?_
 cases i
 exact hN (none,0,0) (fun w s=>((s.nilr dK).e 3 [0]))
 refine bF ?_
 refine bA (A:=(Unit)×(HH)) (fun a=>Zd_J3 b m=some r) (fun a=>[(5,(aD b.1)),(6,(aD b.2.1)),(8,(s3 a.2))]) (fun a=>aN dK (s3 a.2) m::T) ?_ ?_
 refine cU ?_
 obtain ⟨e1,ai,a2⟩:=bd i
 refine bC (A:=HH) ai (fun s a=>[(5,(aD b.1)),(6,(aD b.2.1)),(8,(s3 a)),(31,(s3 a)),(32,(il m)),(33,(iv s))]) (fun s a=>aN dK (s3 a) m::T) (A8,m.length,D8) (aS R) tI ?_
 rintro q ⟨aa,ae,E⟩ σ1 a8 i a1
 dsimp only [Zd_L1] at i
 refine bJ 0 aA (fun (Y:ae=m.length)=>?_)
 subst Y
 refine bT ?_
 split at i
 refine bF ?_
 refine bA (A:=(Unit)×(HH)) (fun a=>Zd_J2 q=some a8) (fun a=>[(5,(aD b.1)),(6,(aD b.2.1)),(8,(s3 a.2)),(31,(s3 a.2)),(32,(il m)),(33,(iv q))]) (fun a=>aN dK (s3 a.2) m::T) ?_ ?_
 refine aR ?_
 obtain ⟨U,i⟩:=gd i
 refine aH (bB 0 aA (show 0<m.length by have:=U; omega) (fun M o31 ha=>?_))
 subst ha
 refine bU ?_
 refine lO (vz (aD (ix m q)) (jz (K:=dK) (fo:=0) (pr:=fun x=>(aD x)) 0 q qo (dT9.leaf fun _ _=>R) aA R U.1 U.2)) (lO (vp (aD (ix m q)) R) ?_)
 refine cB ?_
 refine lO (vp (aD (ix m q)) R) (lO (vz (il (ix m q)) (dH fL R)) ?_)
 refine aP ?_
 split at i
 refine bF ?_
 refine lO (vp (aD ([]:aM)) R) ?_
 refine dJ ?_
 cases i
 obtain rfl:=a1 _ R
 have i:=a2
 refine aP ?_
 cases i
 exact hN (none,0,0) (fun w s=>((s.nilr dK).e 3 [0]))
 refine cO ?_
 obtain ⟨e2,aj,a5⟩:=bd i
 refine bC (A:=Unit) aj (fun s a=>[(5,(aD b.1)),(6,(aD b.2.1)),(8,(sc (ad M o31) m E)),(10,(aD (ix m q))),(11,(iv s)),(31,(sc (ad M o31) m E)),(32,(il m)),(33,(iv q))]) (fun s a=>RR dK (ad M o31) E m::T) () (aS R) tI ?_
 rintro G _ σ1 ao i a3
 dsimp only [Zd_L2] at i
 refine bF ?_
 refine lO (vp (aD (ix m q)) R) (lO (vz (il (ix m q)) (dH fL R)) ?_)
 refine aP ?_
 split at i
 refine bT ?_
 obtain ⟨O,i⟩:=gd i
 refine cQ [(5,(aD b.1)),(6,(aD b.2.1)),(8,(sc (ad M o31) m E)),(10,(aD (ix m q))),(11,(iv G)),(31,(sc (ad M o31) m E)),(32,(il m)),(33,(iv q)),(55,(.bool ((decide ((bt (ix m q) G)<97))||(decide ((bt (ix m q) G)>122)))))] (RR dK (ad M o31) E m::T) ?_ ?_
 refine aH (lO (vp (aD (ix m q)) R) (lI R (lO (vz (.int .u8 (bt (ix m q) G)) (cH fL R R O.1 O.2)) (lO (vp (.bool (decide ((bt (ix m q) G)<97))) R) (lB R ?_)))))
 rcases bo (decide ((bt (ix m q) G)<97)) with F | F
 refine bT ?_
 exact qj tI
 refine lW (bZ F) (vp (aD (ix m q)) R) (lW (bZ F) (vI R) (lW (bZ F) (vz (.int .u8 (bt (ix m q) G)) (cH fL R R O.1 O.2)) (lW (bZ F) (vp (.bool (decide ((bt (ix m q) G)>122))) R) ?_)))
 refine aR ?_
 exact qj tI
 rintro σ1
 refine bU ?_
 split at i
 refine bF ?_
 refine lO (vp (aD ([]:aM)) R) ?_
 refine bT ?_
 cases i
 obtain rfl:=a3 _ R
 have i:=a5
 refine bF ?_
 cases i
 obtain rfl:=a1 _ R
 have i:=a2
 refine aP ?_
 cases i
 exact hN (none,0,0) (fun w s=>((s.nilr dK).e 3 [0]))
 refine cO ?_
 cases i
 exact qA () tI
 refine aP ?_
 cases i
 obtain rfl:=a3 _ R
 have i:=a5
 refine aP ?_
 exact qI ((),((ad M o31),m.length,E)) i tI
 rintro ⟨_,⟨ab,ag,ac⟩⟩ σ1 i
 dsimp only [Zd_J2] at i
 refine bJ 0 aA (fun (Y:ag=m.length)=>?_)
 subst Y
 refine bF ?_
 cases i
 exact qA (ab,m.length,ac) tI
 refine aP ?_
 cases i
 obtain rfl:=a1 _ R
 have i:=a2
 refine aR ?_
 exact qI ((),(aa,m.length,E)) i tI
 rintro ⟨_,⟨I,ah,J⟩⟩ σ1 i
 dsimp only [Zd_J3] at i
 refine bJ 0 aA (fun (Y:ah=m.length)=>?_)
 subst Y
 refine aO (bA (A:=(Unit)×(Unit)) (fun a=>Zd_J4 b m=some r) (fun a=>[(6,(aD b.2.1)),(8,(sc I m J))]) (fun a=>RR dK I J m::T) ?_ ?_)
 refine bT ?_
 obtain ⟨e3,ak,a6⟩:=bd i
 refine bC (A:=Unit) ak (fun s a=>[(5,(aD b.1)),(6,(aD b.2.1)),(8,(sc I m J)),(12,(iv s))]) (fun s a=>RR dK I J m::T) () (aS R) tI ?_
 rintro l _ σ1 ap i a4
 dsimp only [Zd_L3] at i
 refine bF ?_
 refine lO (vp (aD b.2.1) R) (lO (vz (il b.2.1) (dH fL R)) ?_)
 refine aP ?_
 split at i
 refine bT ?_
 obtain ⟨j,i⟩:=gd i
 obtain ⟨D,i⟩:=gd i
 obtain ⟨a9,Z,i⟩:=bd i
 obtain ⟨an,a7,i⟩:=bd i
 refine cQ [(5,(aD b.1)),(6,(aD b.2.1)),(8,(sc I m J)),(12,(iv l)),(90,(.bool ((((decide ((bt b.2.1 l)<97))||(decide ((bt b.2.1 l)>122)))||(decide (a9≥0)))||(decide (an<0)))))] (RR dK I J m::T) ?_ ?_
 rcases bo (decide ((bt b.2.1 l)<97)) with u | u
 refine cZ 28 [] bN fun ht Y=>?_
 refine dR 0 R (vp (aD b.2.1) R) (dR 1 R (vI R) (dR 2 R (vz (.int .u8 (bt b.2.1 l)) (cH fL R R j.1 j.2)) (dR 3 R (vp (.bool (decide ((bt b.2.1 l)<97))) R) ?_)))
 refine xU 4 [] ?_
 refine dD ?_
 exact qj tI
 rcases bo ((decide ((bt b.2.1 l)<97))||(decide ((bt b.2.1 l)>122))) with g | g
 refine cZ 28 [] bN fun ht Y=>?_
 refine dR 0 R (vp (aD b.2.1) R) (dR 1 R (vI R) (dR 2 R (vz (.int .u8 (bt b.2.1 l)) (cH fL R R j.1 j.2)) (dR 3 R (vp (.bool (decide ((bt b.2.1 l)<97))) R) (dR 4 R (vB R) (dW 5 R (bZ u) (vp (aD b.2.1) R) (dW 6 R (bZ u) (vI R) (dW 7 R (bZ u) (vz (.int .u8 (bt b.2.1 l)) (cH fL R R j.1 j.2)) (dW 8 R (bZ u) (vp (.bool (decide ((bt b.2.1 l)>122))) R) ?_))))))))
 refine xT 9 [] ?_
 refine dD ?_
 exact qj tI
 rcases bo (((decide ((bt b.2.1 l)<97))||(decide ((bt b.2.1 l)>122)))||(decide (a9≥0))) with B | B
 refine cZ 28 [] bN fun ht Y=>?_
 refine dR 0 R (vp (aD b.2.1) R) (dR 1 R (vI R) (dR 2 R (vz (.int .u8 (bt b.2.1 l)) (cH fL R R j.1 j.2)) (dR 3 R (vp (.bool (decide ((bt b.2.1 l)<97))) R) (dR 4 R (vB R) (dW 5 R (bZ u) (vp (aD b.2.1) R) (dW 6 R (bZ u) (vI R) (dW 7 R (bZ u) (vz (.int .u8 (bt b.2.1 l)) (cH fL R R j.1 j.2)) (dW 8 R (bZ u) (vp (.bool (decide ((bt b.2.1 l)>122))) R) ?_))))))))
 refine gN 9 [] ?_
 refine dW 11 R (bZ g) (vp (aD b.2.1) R) (dW 12 R (bZ g) (vI R) (dW 13 R (bZ g) (vz (aD (sub b.2.1 (0:Int) l)) (hG (0:Int) l fL R R R (D g).1 (D g).2.1 (D g).2.2)) (dW 14 R (bZ g) (vp (aD b.2.1) R) (dW 15 R (bZ g) (vI R) (dW 16 R (bZ g) (vz (.int .u8 (bt b.2.1 l)) (cH fL R R j.1 j.2)) (d1 17 R (bS 0 R (bZ g) pK R (Z1q_ok (bG Z (cK g))) R ?_)))))))
 rintro _
 refine aC (aE (sL []) ?_)
 refine nW 18 [] ?_
 refine dD ?_
 exact qj tI
 refine cZ 28 [] bN fun ht Y=>?_
 refine dR 0 R (vp (aD b.2.1) R) (dR 1 R (vI R) (dR 2 R (vz (.int .u8 (bt b.2.1 l)) (cH fL R R j.1 j.2)) (dR 3 R (vp (.bool (decide ((bt b.2.1 l)<97))) R) (dR 4 R (vB R) (dW 5 R (bZ u) (vp (aD b.2.1) R) (dW 6 R (bZ u) (vI R) (dW 7 R (bZ u) (vz (.int .u8 (bt b.2.1 l)) (cH fL R R j.1 j.2)) (dW 8 R (bZ u) (vp (.bool (decide ((bt b.2.1 l)>122))) R) ?_))))))))
 refine gN 9 [] ?_
 refine dW 11 R (bZ g) (vp (aD b.2.1) R) (dW 12 R (bZ g) (vI R) (dW 13 R (bZ g) (vz (aD (sub b.2.1 (0:Int) l)) (hG (0:Int) l fL R R R (D g).1 (D g).2.1 (D g).2.2)) (dW 14 R (bZ g) (vp (aD b.2.1) R) (dW 15 R (bZ g) (vI R) (dW 16 R (bZ g) (vz (.int .u8 (bt b.2.1 l)) (cH fL R R j.1 j.2)) (d1 17 R (bS 0 R (bZ g) pK R (Z1q_ok (bG Z (cK g))) R ?_)))))))
 rintro _
 refine aC (aE (sL []) ?_)
 refine hO 18 [] ?_
 refine dW 21 R (bZ B) (vp (aD b.1) R) (dW 22 R (bZ B) (vp (aD b.2.1) R) (dW 23 R (bZ B) (vI R) (dW 24 R (bZ B) (vz (.int .u8 (bt b.2.1 l)) (cH fL R R j.1 j.2)) (d1 25 R (bS 0 R (bZ B) pK R (Z1q_ok (bG a7 (cK B))) R ?_)))))
 rintro _
 refine aC (aE (sL []) ?_)
 refine gN 26 [] ?_
 refine dD ?_
 exact qj tI
 rintro σ1
 refine bU ?_
 split at i
 refine bF ?_
 refine lO (vp (aD ([]:aM)) R) ?_
 refine bT ?_
 cases i
 obtain rfl:=a4 _ R
 have i:=a6
 refine aP ?_
 cases i
 exact hN (none,0,0) (fun w s=>((s.nilr dK).e 3 [0]))
 refine cO ?_
 cases i
 exact qA () tI
 refine aP ?_
 cases i
 obtain rfl:=a4 _ R
 have i:=a6
 refine aR ?_
 exact qI ((),()) i tI
 rintro ⟨_,_⟩ σ1 i
 dsimp only [Zd_J4] at i
 refine aP ?_
 refine lO (vp (aD b.2.1) R) (lS R (lO (vp (aD b.2.1) R) ?_))
 refine bF ?_
 cases i
 exact hN (I,m.length,J) (tE 2 [0])
theorem Z04_ok  {b:(List Int)}{r:(List Int)}(e:Z04 b=some r) :
 FnOk Tryz.prog 164 [(.slice A2 N2 D2)] [aN kT3 (.slice A2 N2 D2) b] (fun (h:HH)=>((s3 h),[ow kT3 3 (s3 h) r])):=by
 unfold Z04 at e
 refine aQ Tryz.func164 R 32 R R fun C V=>?_
 refine cL 0 aA ?_
 rintro rfl
 let F:=RR kT3 A2 D2 b::V
 refine cN F ?_
 refine bT ?_
 obtain ⟨l,e⟩:=gd e
 refine aP ?_
 refine fH (K:=kT3) (m:=(b.length:Int)) (z:=(0:Int)) R R bM cC kc (Zr.zk zT3 gR) (by decide) R R l.1 l.2.1 l.2.2 (fun A4 D4=>(lS R (aC (aJ (aO (aH (lI R (aC (aJ (aO (bA (A:=((List Int))×(Unit)) (fun a=>Z04_J3 a.1=some r) (fun a=>[(3,(sc A4 (List.replicate (b.length:Int).toNat (0:Int)) D4))]) (fun a=>ow kT3 3 (.slice A4 (List.replicate (b.length:Int).toNat (0:Int)).length D4) a.1::F) ?_ ?_)))))))))))
 refine cO ?_
 obtain ⟨Z,L,J⟩:=bd e
 refine bC (A:=Unit) L (fun s a=>[(0,(sc A2 b D2)),(3,(sc A4 (List.replicate (b.length:Int).toNat (0:Int)) D4)),(4,(iv s.2.1)),(5,(iv s.2.2))]) (fun s a=>ow kT3 3 (.slice A4 (List.replicate (b.length:Int).toNat (0:Int)).length D4) s.1::F) () (aS R) tI ?_
 rintro ⟨q,i,j⟩ _ σ1 E e G
 dsimp only [Z04_L1] at e
 refine dJ ?_
 split at e
 refine bT ?_
 refine bA (A:=((List Int))×(Unit)) (fun a=>Z04_J2 b i j a.1=some E) (fun a=>[(0,(sc A2 b D2)),(3,(sc A4 (List.replicate (b.length:Int).toNat (0:Int)) D4)),(4,(iv i)),(5,(iv j))]) (fun a=>ow kT3 3 (.slice A4 (List.replicate (b.length:Int).toNat (0:Int)).length D4) a.1::F) ?_ ?_
 refine bU ?_
 obtain ⟨B,e⟩:=gd e
 refine aP ?_
 refine bB 1 aA (show 0<b.length by have:=B; omega) (fun M o25 u=>?_)
 subst u
 refine cB ?_
 split at e
 refine bU ?_
 obtain ⟨g,e⟩:=gd e
 refine bF ?_
 refine bB 0 aB (show 0<(List.replicate (b.length:Int).toNat (0:Int)).length by have:=g; omega) (fun O o29 u=>?_)
 subst u
 refine bU ?_
 refine dZ (K:=kT3) (x':=i) 0 j R R cC R R g.1 g.2 ?_ ?_
 exact fun I h s=>(gL).put I h () i s
 refine bU ?_
 exact qI ((q.set j.toNat i),()) e tI
 refine aR ?_
 exact qI (q,()) e tI
 rintro ⟨U,_⟩ σ1 e
 dsimp only [Z04_J2] at e
 obtain ⟨D,e⟩:=gd e
 refine bF ?_
 refine bB 1 aA (show 0<b.length by have:=D; omega) (fun T o33 u=>?_)
 subst u
 refine iC ?_
 cases e
 exact qA () tI
 refine aP ?_
 cases e
 obtain rfl:=G _ R
 have e:=J
 refine aR ?_
 exact qI (q,()) e tI
 rintro ⟨Y,_⟩ σ1 e
 dsimp only [Z04_J3] at e
 refine dJ ?_
 cases e
 exact qF (A4,(List.replicate (b.length:Int).toNat (0:Int)).length,D4) (tE 2 [0])
theorem Zk_ok  {f1:form}{b:aM}{e:(List Int)}{r:(List Int)}(g:Zk f1 b e=some r) :
 FnOk Tryz.prog 209 [(.agg [(.slice A2 N2 D2),(aD f1.out_),(aD f1.order),(.slice A3 N3 D3),(.slice A4 N4 D4),(.slice A5 N5 D5),(.slice A6 N6 D6)].toArray),(aD b),(.slice A9 N9 D9)] [aN dK (.slice A2 N2 D2) f1.groups,aN kT3 (.slice A3 N3 D3) f1.loops,aN kT3 (.slice A4 N4 D4) f1.dims,aN bL (.slice A5 N5 D5) f1.steps,aN kT3 (.slice A6 N6 D6) f1.store,aN kT3 (.slice A9 N9 D9) e] (fun (h:HH)=>((s3 h),[ow kT3 3 (s3 h) r])):=by
 unfold Zk at g
 refine aQ Tryz.func209 R 45 R R fun C V=>?_
 refine cL 0 aA ?_
 rintro rfl
 refine cL 1 aA ?_
 rintro rfl
 refine cL 2 aA ?_
 rintro rfl
 refine cL 3 aA ?_
 rintro rfl
 refine cL 4 aA ?_
 rintro rfl
 refine cL 5 aA ?_
 rintro rfl
 let W0:=RR dK A2 D2 f1.groups::RR kT3 A3 D3 f1.loops::RR kT3 A4 D4 f1.dims::RR bL A5 D5 f1.steps::RR kT3 A6 D6 f1.store::RR kT3 A9 D9 e::V
 refine cN W0 ?_
 refine aR ?_
 refine eA R fun u=>?_
 refine aR ?_
 let F:=aI u [(sc A2 f1.groups D2),(aD f1.out_),(aD f1.order),(sc A3 f1.loops D3),(sc A4 f1.dims D4),(sc A5 f1.steps D5),(sc A6 f1.store D6)] 192::W0
 refine qN F ?_
 refine aR ?_
 obtain ⟨B,g⟩:=gd g
 refine aP ?_
 refine lO (vz (il f1.order) (dH fL R)) (fH (K:=kT3) (m:=(f1.order.length:Int)) (z:=(0:Int)) R R bM cC kc (Zr.zk zT3 gR) (by decide) R R B.1 B.2.1 B.2.2 (fun A12 D12=>(lS R (aC (aJ (aO (bA (A:=((List Int))×(Unit)) (fun a=>Zk_J7 a.1=some r) (fun a=>[(7,(sc A12 (List.replicate (f1.order.length:Int).toNat (0:Int)) D12))]) (fun a=>ow kT3 3 (.slice A12 (List.replicate (f1.order.length:Int).toNat (0:Int)).length D12) a.1::F) ?_ ?_)))))))
 refine cU ?_
 obtain ⟨e1,a0,Y⟩:=bd g
 refine bC (A:=Unit) a0 (fun s a=>[(1,(aD b)),(2,(sc A9 e D9)),(3,(pt u 0)),(7,(sc A12 (List.replicate (f1.order.length:Int).toNat (0:Int)) D12)),(15,(il (List.replicate (f1.order.length:Int).toNat (0:Int)))),(16,(iv s.2))]) (fun s a=>ow kT3 3 (.slice A12 (List.replicate (f1.order.length:Int).toNat (0:Int)).length D12) s.1::F) () (aS R) tI ?_
 rintro ⟨a2,i⟩ _ σ1 J g T
 dsimp only [Zk_L1] at g
 refine bT ?_
 split at g
 refine bF ?_
 refine bA (A:=((List Int))×(Unit)) (fun a=>Zk_J6 i a.1=some J) (fun a=>[(1,(aD b)),(2,(sc A9 e D9)),(3,(pt u 0)),(7,(sc A12 (List.replicate (f1.order.length:Int).toNat (0:Int)) D12)),(15,(il (List.replicate (f1.order.length:Int).toNat (0:Int)))),(16,(iv i))]) (fun a=>ow kT3 3 (.slice A12 (List.replicate (f1.order.length:Int).toNat (0:Int)).length D12) a.1::F) ?_ ?_
 refine ka ?_
 obtain ⟨e2,a1,Z⟩:=bd g
 refine bC (A:=Unit) a1 (fun s a=>[(1,(aD b)),(2,(sc A9 e D9)),(3,(pt u 0)),(7,(sc A12 (List.replicate (f1.order.length:Int).toNat (0:Int)) D12)),(8,(iv i)),(9,(iv s.2)),(15,(il (List.replicate (f1.order.length:Int).toNat (0:Int)))),(16,(iv i))]) (fun s a=>ow kT3 3 (.slice A12 (List.replicate (f1.order.length:Int).toNat (0:Int)).length D12) s.1::F) () (aS R) tI ?_
 rintro ⟨l,j⟩ _ σ1 L g U
 dsimp only [Zk_L2] at g
 refine bF ?_
 refine lO (vp (aD b) R) (lO (vz (il b) (dH fL R)) ?_)
 refine aP ?_
 split at g
 refine bF ?_
 refine bA (A:=((List Int))×(Unit)) (fun a=>Zk_J5 j a.1=some L) (fun a=>[(1,(aD b)),(2,(sc A9 e D9)),(3,(pt u 0)),(7,(sc A12 (List.replicate (f1.order.length:Int).toNat (0:Int)) D12)),(8,(iv i)),(9,(iv j)),(15,(il (List.replicate (f1.order.length:Int).toNat (0:Int)))),(16,(iv i))]) (fun a=>ow kT3 3 (.slice A12 (List.replicate (f1.order.length:Int).toNat (0:Int)).length D12) a.1::F) ?_ ?_
 refine aR ?_
 obtain ⟨D,g⟩:=gd g
 obtain ⟨E,g⟩:=gd g
 refine cZ 8 [] bN fun ht hn=>?_
 refine dR 0 R (vp (aD b) R) (dR 1 R (vI R) (dR 2 R (vz (.int .u8 (bt b j)) (cH fL R R D.1 D.2)) ?_))
 refine hO 3 [] ?_
 refine dR 6 R (vz (.int .u8 (bt f1.order i)) (cH fL R R E.1 E.2)) (dR 7 R (vp (.bool ((bt b j)==(bt f1.order i))) R) (dD (aJ ?_)))
 split at g
 refine bU ?_
 obtain ⟨q,g⟩:=gd g
 obtain ⟨G,g⟩:=gd g
 refine aY 0 aB (show 0<(List.replicate (f1.order.length:Int).toNat (0:Int)).length by have:=q; omega) (fun M o69 O=>?_)
 subst O
 refine aY 7 aA (show 0<e.length by have:=G; omega) (fun a3 o72 O=>?_)
 subst O
 refine cZ 11 [0] bN fun ht hn=>?_
 refine hO 0 [0] ?_
 refine nV 4 [0] ?_
 refine d1 3 R (lO (gI 0 fM aB R q) (aC (aE (sL [0]) ?_)))
 refine gN 8 [0] ?_
 refine d1 10 R (lN (ow kT3 3 (.slice (ad M o69) (List.replicate (f1.order.length:Int).toNat (0:Int)).length D12) l::F) ?_)
 refine dZ (K:=kT3) (x':=(aG ((ix l i)+(ix e j)))) 0 i R R cC R R q.1 q.2 ?_ ?_
 exact fun I h s=>(gL).put I h () (aG ((ix l i)+(ix e j))) s
 refine aC (aE (sL [0]) (dD (eJ ?_)))
 exact qI ((l.set i.toNat (aG ((ix l i)+(ix e j)))),()) g tI
 refine aP ?_
 exact qI (l,()) g tI
 rintro ⟨a4,_⟩ σ1 g
 dsimp only [Zk_J5] at g
 refine cB ?_
 cases g
 exact qA () tI
 refine aP ?_
 cases g
 obtain rfl:=U _ R
 have g:=Z
 refine aP ?_
 exact qI (l,()) g tI
 rintro ⟨a5,_⟩ σ1 g
 dsimp only [Zk_J6] at g
 refine bF ?_
 cases g
 exact qA () tI
 refine aP ?_
 cases g
 obtain rfl:=T _ R
 have g:=Y
 refine aR ?_
 exact qI (a2,()) g tI
 rintro ⟨a6,_⟩ σ1 g
 dsimp only [Zk_J7] at g
 refine dJ ?_
 cases g
 exact qF (A12,(List.replicate (f1.order.length:Int).toNat (0:Int)).length,D12) (tE 8 [0])
theorem Z3_ok  {ap:aM}{b:(List (List Int))}{mG:Int}{r:form×Bool}(i:Z3 ap b=some r) :
 FnOk Tryz.prog 206 [(aD ap),(.slice A3 N3 D3)] [aN bL (.slice A3 N3 D3) b,gl 0 mG] (fun (h:HH×HH×HH×HH×HH)=>((.tuple [(.agg [(s3 h.1),(aD r.1.out_),(aD r.1.order),(s3 h.2.1),(s3 h.2.2.1),(s3 h.2.2.2.1),(s3 h.2.2.2.2)].toArray),(.bool r.2)].toArray),[aN dK (s3 h.1) r.1.groups,aN kT3 (s3 h.2.1) r.1.loops,ow kT3 3 (s3 h.2.2.1) r.1.dims,ow bL 23 (s3 h.2.2.2.1) r.1.steps,ow kT3 3 (s3 h.2.2.2.2) r.1.store])):=by
 unfold Z3 at i
 refine aQ Tryz.func206 R 179 R R fun C V=>?_
 refine cL 0 aA ?_
 rintro rfl
 let Z:=RR bL A3 D3 b::gl 0 mG::V
 refine cN Z ?_
 refine aR ?_
 refine bD R R ky (fun b4=>(lB R (aC (aJ (aO ?_)))))
 obtain ⟨g,d5,i⟩:=bd i
 refine aH (lO (vp (aD ap) R) (lM (gl 0 mG::_::Z) (fun w s=>(s.dg 2 R)) ?_))
 refine lC 1 yH R (Zd_ok d5) R ?_
 rintro ⟨A7,N7,D7⟩
 refine aL 0 aA ?_
 rintro rfl
 refine lO (vT R) (lS R (lO (vp (aD g.2.1) R) (lB R (lS R (lO (vp (aD g.2.1) R) ?_)))))
 refine cB ?_
 refine cQ [(1,(sc A3 b D3)),(4,(pt b4 0)),(6,(sc A7 g.1 D7)),(7,(aD g.2.1)),(34,(.bool ((!g.2.2)||((g.1.length:Int) != (b.length:Int)))))] (aI b4 [(.slice none 0 0),(aD ([]:aM)),(aD ([]:aM)),(.slice none 0 0),(.slice none 0 0),(.slice none 0 0),(.slice none 0 0)] 192::RR dK A7 D7 g.1::Z) ?_ ?_
 refine bF ?_
 rcases bo (!g.2.2) with cx | cx
 refine dJ ?_
 exact qj (tE 2 [1,0])
 refine dJ ?_
 exact qj (tE 2 [1,0])
 rintro σ1
 refine bU ?_
 split at i
 refine aP ?_
 refine lO (vz (.agg [(.slice none 0 0),(aD ([]:aM)),(aD ([]:aM)),(.slice none 0 0),(.slice none 0 0),(.slice none 0 0),(.slice none 0 0)].toArray) (aW mO ky R R)) (aK 0 R R iE R R R R R R (lB R (aC (aJ (bY (cE ?_))))))
 cases i
 exact dF (vs:=[(.agg [(.slice none 0 0),(aD ([]:aM)),(aD ([]:aM)),(.slice none 0 0),(.slice none 0 0),(.slice none 0 0),(.slice none 0 0)].toArray),(.bool false)]) (.inl R) ((none,0,0),(none,0,0),(none,0,0),(none,0,0),(none,0,0)) R ⟨⟨0,b4,_,_,R,R,.inl ⟨mi,iE,R⟩⟩,R,trivial⟩ R (fun w s=>((((((s.nilr dK).nilr kT3).nilo kT3 3).nilo bL 23).nilo kT3 3).e 9 [4,3,2,1,0]))
 refine bT ?_
 refine lO (vp (aD g.2.1) R) (lO (vp (aD g.2.1) R) (lO (vz (.agg [(sc A7 g.1 D7),(aD g.2.1),(aD g.2.1),(.slice none 0 0),(.slice none 0 0),(.slice none 0 0),(.slice none 0 0)].toArray) (aW mO ky R R)) (bD R R ky (fun J=>(aK 0 R R iE R R R R R R (lN (aI J [(sc A7 g.1 D7),(aD g.2.1),(aD g.2.1),(.slice none 0 0),(.slice none 0 0),(.slice none 0 0),(.slice none 0 0)] 192::_::_::Z) ?_))))))
 refine bF ?_
 refine lO (vz (.agg [(iv 0),(iv 0),(iv 0),(iv 0),(iv 0),(iv 0),(iv 0),(iv 0),(iv 0),(iv 0),(iv 0),(iv 0),(iv 0),(iv 0),(iv 0),(iv 0),(iv 0),(iv 0),(iv 0),(iv 0),(iv 0),(iv 0),(iv 0),(iv 0),(iv 0),(iv 0)].toArray) (vM rY v8 cC)) (bD R R v8 (fun T=>(aK 0 R R va R R R R R R (aC (qM (ow kT3 195 (.slice (ad T 0) 26 26) (List.replicate 26 (0:Int))::_::_::_::Z) (fun w s=>s.b2o 0 (List.replicate 26 (0:Int)) R R R R) ?_)))))
 refine aR ?_
 refine bA (A:=(aM×(List Int))×(HH×HH)) (fun a=>Z3_J7 b g a.1.1 a.1.2=some r) (fun a=>[(1,(s3 a.2.1)),(4,(pt b4 0)),(6,(s3 a.2.2)),(7,(aD g.2.1)),(9,(pt J 0)),(10,(pt T 0))]) (fun a=>aN bL (s3 a.2.1) b::aI b4 [(.slice none 0 0),(aD ([]:aM)),(aD ([]:aM)),(.slice none 0 0),(.slice none 0 0),(.slice none 0 0),(.slice none 0 0)] 192::aN dK (s3 a.2.2) g.1::aI J [(s3 a.2.2),(aD g.2.1),(aD a.1.1),(.slice none 0 0),(.slice none 0 0),(.slice none 0 0),(.slice none 0 0)] 192::ow kT3 195 (.slice (ad T 0) 26 26) a.1.2::Z) ?_ ?_
 refine cU ?_
 obtain ⟨e1,d0,br⟩:=bd i
 refine bC (A:=HH×HH) d0 (fun s a=>[(1,(s3 a.1)),(4,(pt b4 0)),(6,(s3 a.2)),(7,(aD g.2.1)),(9,(pt J 0)),(10,(pt T 0)),(41,(s3 a.2)),(42,(il g.1)),(43,(iv s.2.2))]) (fun s a=>aN bL (s3 a.1) b::aI b4 [(.slice none 0 0),(aD ([]:aM)),(aD ([]:aM)),(.slice none 0 0),(.slice none 0 0),(.slice none 0 0),(.slice none 0 0)] 192::aN dK (s3 a.2) g.1::aI J [(s3 a.2),(aD g.2.1),(aD s.1),(.slice none 0 0),(.slice none 0 0),(.slice none 0 0),(.slice none 0 0)] 192::ow kT3 195 (.slice (ad T 0) 26 26) s.2.1::Z) ((A3,b.length,D3),(A7,g.1.length,D7)) (aS R) (fun w s=>((s.d 4 R).e 5 [0,3,4,2,1])) ?_
 rintro ⟨cw,bc,j⟩ ⟨⟨cs,cu,ae⟩,⟨ct,cv,a1⟩⟩ σ1 cp i bk
 dsimp only [Z3_L1] at i
 refine bJ 0 aA (fun (hn:cu=b.length)=>?_)
 subst hn
 refine bJ 2 aA (fun (hn:cv=g.1.length)=>?_)
 subst hn
 refine bT ?_
 split at i
 refine bF ?_
 refine bA (A:=(aM×(List Int))×(HH×HH)) (fun a=>Z3_J6 j a.1.1 a.1.2=some cp) (fun a=>[(1,(s3 a.2.1)),(4,(pt b4 0)),(6,(s3 a.2.2)),(7,(aD g.2.1)),(9,(pt J 0)),(10,(pt T 0)),(41,(s3 a.2.2)),(42,(il g.1)),(43,(iv j))]) (fun a=>aN bL (s3 a.2.1) b::aI b4 [(.slice none 0 0),(aD ([]:aM)),(aD ([]:aM)),(.slice none 0 0),(.slice none 0 0),(.slice none 0 0),(.slice none 0 0)] 192::aN dK (s3 a.2.2) g.1::aI J [(s3 a.2.2),(aD g.2.1),(aD a.1.1),(.slice none 0 0),(.slice none 0 0),(.slice none 0 0),(.slice none 0 0)] 192::ow kT3 195 (.slice (ad T 0) 26 26) a.1.2::Z) ?_ ?_
 refine aR ?_
 obtain ⟨b8,i⟩:=gd i
 refine aR ?_
 refine bB 2 aA (show 0<g.1.length by have:=b8; omega) (fun a4 o83 ha=>?_)
 subst ha
 refine bU ?_
 refine lO (vz (aD (ix g.1 j)) (jz (K:=dK) (fo:=0) (pr:=fun x=>(aD x)) 2 j qo (dT9.leaf fun _ _=>R) aA R b8.1 b8.2)) (lI R (lO (vp (aD (ix g.1 j)) R) ?_))
 refine bF ?_
 obtain ⟨a6,i⟩:=gd i
 refine aH (lO (vp (aD (ix g.1 j)) R) (lO (vz (il (ix g.1 j)) (dH fL R)) (lS R (lI R (bB 0 aA (show 0<b.length by have:=a6; omega) (fun ag o86 ha=>?_))))))
 subst ha
 refine bU ?_
 refine gB (K:=bL) 0 j dT23.dec R a6.1 a6.2 ?_
 rintro ⟨dv,dw⟩
 refine lO (eG (fo:=0) 0 cT R R R) ?_
 refine bF ?_
 split at i
 refine aP ?_
 refine lO (vz (.agg [(.slice none 0 0),(aD ([]:aM)),(aD ([]:aM)),(.slice none 0 0),(.slice none 0 0),(.slice none 0 0),(.slice none 0 0)].toArray) (aW mO ky R R)) (aK 3 R R iE R R R R R R (lB R (aC (aJ (bY (cE (dB (cE ?_))))))))
 cases i
 obtain rfl:=bk _ R
 have i:=br
 refine aP ?_
 cases i
 exact dF (vs:=[(.agg [(.slice none 0 0),(aD ([]:aM)),(aD ([]:aM)),(.slice none 0 0),(.slice none 0 0),(.slice none 0 0),(.slice none 0 0)].toArray),(.bool false)]) (.inl R) ((none,0,0),(none,0,0),(none,0,0),(none,0,0),(none,0,0)) R ⟨⟨3,b4,_,_,R,R,.inl ⟨mi,iE,R⟩⟩,R,trivial⟩ R (fun w s=>((((((s.nilr dK).nilr kT3).nilo kT3 3).nilo bL 23).nilo kT3 3).e 14 [4,3,2,1,0]))
 refine cO ?_
 obtain ⟨e2,d2,ck⟩:=bd i
 refine bC (A:=Unit) d2 (fun s a=>[(1,(sc (ad ag o86) b ae)),(4,(pt b4 0)),(6,(sc (ad a4 o83) g.1 a1)),(7,(aD g.2.1)),(9,(pt J 0)),(10,(pt T 0)),(11,(iv j)),(12,(aD (ix g.1 j))),(13,(iv s.2.2)),(41,(sc (ad a4 o83) g.1 a1)),(42,(il g.1)),(43,(iv j))]) (fun s a=>RR bL (ad ag o86) ae b::aI b4 [(.slice none 0 0),(aD ([]:aM)),(aD ([]:aM)),(.slice none 0 0),(.slice none 0 0),(.slice none 0 0),(.slice none 0 0)] 192::RR dK (ad a4 o83) a1 g.1::aI J [(sc (ad a4 o83) g.1 a1),(aD g.2.1),(aD s.1),(.slice none 0 0),(.slice none 0 0),(.slice none 0 0),(.slice none 0 0)] 192::ow kT3 195 (.slice (ad T 0) 26 26) s.2.1::Z) () (aS R) (fun w s=>(s.f 7 [2,5])) ?_
 rintro ⟨aa,Y,q⟩ _ σ1 cq i ci
 dsimp only [Z3_L2] at i
 refine bF ?_
 refine lO (vp (aD (ix g.1 j)) R) (lO (vz (il (ix g.1 j)) (dH fL R)) ?_)
 refine aP ?_
 split at i
 refine bF ?_
 refine bA (A:=(aM×(List Int))×(Unit)) (fun a=>Z3_J5 q a.1.1 a.1.2=some cq) (fun a=>[(1,(sc (ad ag o86) b ae)),(4,(pt b4 0)),(6,(sc (ad a4 o83) g.1 a1)),(7,(aD g.2.1)),(9,(pt J 0)),(10,(pt T 0)),(11,(iv j)),(12,(aD (ix g.1 j))),(13,(iv q)),(41,(sc (ad a4 o83) g.1 a1)),(42,(il g.1)),(43,(iv j))]) (fun a=>RR bL (ad ag o86) ae b::aI b4 [(.slice none 0 0),(aD ([]:aM)),(aD ([]:aM)),(.slice none 0 0),(.slice none 0 0),(.slice none 0 0),(.slice none 0 0)] 192::RR dK (ad a4 o83) a1 g.1::aI J [(sc (ad a4 o83) g.1 a1),(aD g.2.1),(aD a.1.1),(.slice none 0 0),(.slice none 0 0),(.slice none 0 0),(.slice none 0 0)] 192::ow kT3 195 (.slice (ad T 0) 26 26) a.1.2::Z) ?_ ?_
 refine aR ?_
 obtain ⟨ac,i⟩:=gd i
 obtain ⟨ai,i⟩:=gd i
 refine aH (lO (vp (aD (ix g.1 j)) R) (lI R (lO (vz (.int .u8 (bt (ix g.1 j) q)) (cH fL R R ac.1 ac.2)) (lO (vp (.int .u8 (IntKind.wrap .u8 ((bt (ix g.1 j) q) - 97))) R) (lO (vz (.pointer (some ⟨T,0+(IntKind.wrap .u8 ((bt (ix g.1 j) q) - 97)).toNat*1,none⟩)) (rG rY cC R R ai)) ?_)))))
 refine cB ?_
 obtain ⟨aj,i⟩:=gd i
 refine cQ [(1,(sc (ad ag o86) b ae)),(4,(pt b4 0)),(6,(sc (ad a4 o83) g.1 a1)),(7,(aD g.2.1)),(9,(pt J 0)),(10,(pt T 0)),(11,(iv j)),(12,(aD (ix g.1 j))),(13,(iv q)),(14,(.pointer (some ⟨T,0+(IntKind.wrap .u8 ((bt (ix g.1 j) q) - 97)).toNat*1,none⟩))),(41,(sc (ad a4 o83) g.1 a1)),(42,(il g.1)),(43,(iv j)),(84,(.bool (((ix Y (IntKind.wrap .u8 ((bt (ix g.1 j) q) - 97))) != 0)&&((ix Y (IntKind.wrap .u8 ((bt (ix g.1 j) q) - 97))) != (ix (ix b j) q)))))] (RR bL (ad ag o86) ae b::aI b4 [(.slice none 0 0),(aD ([]:aM)),(aD ([]:aM)),(.slice none 0 0),(.slice none 0 0),(.slice none 0 0),(.slice none 0 0)] 192::RR dK (ad a4 o83) a1 g.1::aI J [(sc (ad a4 o83) g.1 a1),(aD g.2.1),(aD aa),(.slice none 0 0),(.slice none 0 0),(.slice none 0 0),(.slice none 0 0)] 192::ow kT3 195 (.slice (ad T 0) 26 26) Y::Z) ?_ ?_
 rcases bo ((ix Y (IntKind.wrap .u8 ((bt (ix g.1 j) q) - 97))) != 0) with U | U
 refine dE (K:=bL) 0 j dT23.dec R a6.1 a6.2 ?_
 rintro ⟨d6,db⟩
 refine aY 1 aA (show 0<(ix b j).length by have:=(aj U); omega) (fun dn o120 ha=>?_)
 subst ha
 refine cZ 17 [] bN fun ht hn=>?_
 refine nX 0 [] ?_
 refine dW 11 R (dI U) (eG (fo:=0) 0 cT R R R) (dW 12 R (dI U) (vI R) (dW 13 R (dI U) (eI bM cC R R (aj U)) (dW 14 R (dI U) (gI 1 fM aA R (aj U)) ?_)))
 refine gN 15 [] ?_
 refine dD ?_
 exact qj (fun w s=>(s.f 7 [2,5]))
 refine cZ 17 [] bN fun ht hn=>?_
 refine xS 0 [] ?_
 refine dD ?_
 exact qj tI
 rintro σ1
 refine bU ?_
 split at i
 refine aP ?_
 refine lO (vz (.agg [(.slice none 0 0),(aD ([]:aM)),(aD ([]:aM)),(.slice none 0 0),(.slice none 0 0),(.slice none 0 0),(.slice none 0 0)].toArray) (aW mO ky R R)) (aK 1 R R iE R R R R R R (lN (_::_::_::_::_::Z) ?_))
 refine dJ ?_
 cases i
 obtain rfl:=ci _ R
 have i:=ck
 refine bF ?_
 cases i
 obtain rfl:=bk _ R
 have i:=br
 refine aP ?_
 cases i
 exact dF (vs:=[(.agg [(.slice none 0 0),(aD ([]:aM)),(aD ([]:aM)),(.slice none 0 0),(.slice none 0 0),(.slice none 0 0),(.slice none 0 0)].toArray),(.bool false)]) (.inl R) ((none,0,0),(none,0,0),(none,0,0),(none,0,0),(none,0,0)) R ⟨⟨1,b4,_,_,R,R,.inl ⟨mi,iE,R⟩⟩,R,trivial⟩ R (fun w s=>((((((s.nilr dK).nilr kT3).nilo kT3 3).nilo bL 23).nilo kT3 3).e 12 [4,3,2,1,0]))
 refine bF ?_
 obtain ⟨bl,i⟩:=gd i
 refine cB ?_
 refine gB (K:=bL) 0 j dT23.dec R a6.1 a6.2 ?_
 rintro ⟨d7,bg⟩
 refine lO (eG (fo:=0) 0 cT R R R) (lI R (bB 1 aA (show 0<(ix b j).length by have:=bl; omega) (fun bj o126 ha=>?_)))
 subst ha
 refine aP ?_
 refine lM (ow _ _ _ _::cl ag (o86+j.toNat*1) [(sc (ad bj o126) (ix b j) bg)]::RR kT3 (ad bj o126) bg (ix b j)::aN _ _ _::aI _ _ _::aN _ _ _::aI _ _ _::Z) (fun w s=>(s.f 7 [6,1,0,6])) ?_
 refine dZ (K:=kT3) (x':=(ix (ix b j) q)) 0 (IntKind.wrap .u8 ((bt (ix g.1 j) q) - 97)) R R cC R R ai.1 ai.2 ?_ ?_
 exact fun I h s=>(gL).put I h () (ix (ix b j) q) s
 refine bU ?_
 obtain ⟨b9,ao,i⟩:=bd i
 replace ao:=Option.some.inj ao
 refine qM (ow kT3 195 (.slice (ad T 0) 26 26) b9::_::_::_::_::_::_::Z) (fun w s=>by rw [← ao]; exact s) ?_
 refine aR ?_
 obtain ⟨dt,bs,i⟩:=bd i
 refine cZ 7 [] bN fun ht hn=>?_
 refine gN 0 [] ?_
 refine dR 2 R (vp (aD (ix g.1 j)) R) (dR 3 R (vI R) (dR 4 R (vz (.int .u8 (bt (ix g.1 j) q)) (cH fL R R ac.1 ac.2)) (d1 5 R (lC 0 pK R (Z1q_ok bs) R ?_))))
 rintro _
 refine aC (aE (sL []) (dR 6 R (nR R R) (dD (aJ ?_))))
 split at i
 refine bU ?_
 obtain ⟨ak,i⟩:=gd i
 obtain ⟨bm,i⟩:=gd i
 refine cZ 10 [6] bN fun ht hn=>?_
 refine mA 0 [6] ?_
 refine dR 2 R (vp (aD (ix g.1 j)) R) (hS:=(sL [6])) ?_
 refine hO 3 [6] ?_
 refine dR 6 R (vz (aD (sub (ix g.1 j) q (aG (q+1)))) (hG q (aG (q+1)) fL R R R ak.1 ak.2.1 ak.2.2)) (hS:=(sL [6])) (d1 1 R (lO (gH 6 qo R R R) (aC (aE (sL [6]) (dR 7 R (vz (aD (aa++(sub (ix g.1 j) q (aG (q+1))))) (ru R R bm)) (hS:=(sL [6])) ?_)))))
 refine mA 8 [6] ?_
 refine d1 9 R (cP 6 R R qY R R R R R (lN (_::_::_::_::_::_::aI J [(sc (ad a4 o83) g.1 a1),(aD g.2.1),(aD (aa++(sub (ix g.1 j) q (aG (q+1))))),(.slice none 0 0),(.slice none 0 0),(.slice none 0 0),(.slice none 0 0)] 192::Z) ?_))
 refine aC (aE (sL [6]) (dD (eJ ?_)))
 exact qI (((aa++(sub (ix g.1 j) q (aG (q+1)))),b9),()) i (fun w s=>(s.f 7 [3,4,0,1]))
 refine aP ?_
 exact qI ((aa,b9),()) i (fun w s=>(s.f 7 [3,4,0,1]))
 rintro ⟨⟨dl,cn⟩,_⟩ σ1 i
 dsimp only [Z3_J5] at i
 refine cB ?_
 cases i
 exact qA () tI
 refine aP ?_
 cases i
 obtain rfl:=ci _ R
 have i:=ck
 refine aP ?_
 exact qI ((aa,Y),(((ad ag o86),b.length,ae),((ad a4 o83),g.1.length,a1))) i tI
 rintro ⟨⟨dm,co⟩,⟨⟨c2,c8,c5⟩,⟨c3,c9,c6⟩⟩⟩ σ1 i
 dsimp only [Z3_J6] at i
 refine bJ 0 aA (fun (hn:c8=b.length)=>?_)
 subst hn
 refine bJ 2 aA (fun (hn:c9=g.1.length)=>?_)
 subst hn
 refine bF ?_
 cases i
 exact qA ((c2,b.length,c5),(c3,g.1.length,c6)) tI
 refine aP ?_
 cases i
 obtain rfl:=bk _ R
 have i:=br
 refine aR ?_
 exact qI ((cw,bc),((cs,b.length,ae),(ct,g.1.length,a1))) i tI
 rintro ⟨⟨l,O⟩,⟨⟨a8,ca,a9⟩,⟨E,cb,m⟩⟩⟩ σ1 i
 dsimp only [Z3_J7] at i
 refine bJ 0 aA (fun (hn:ca=b.length)=>?_)
 subst hn
 refine bJ 2 aA (fun (hn:cb=g.1.length)=>?_)
 subst hn
 refine bT ?_
 refine bA (A:=((List Int))×(HH)) (fun a=>Z3_J8 b g l a.1=some r) (fun a=>[(1,(sc a8 b a9)),(4,(pt b4 0)),(6,(sc E g.1 m)),(7,(aD g.2.1)),(9,(pt J 0))]) (fun a=>RR bL a8 a9 b::aI b4 [(.slice none 0 0),(aD ([]:aM)),(aD ([]:aM)),(.slice none 0 0),(.slice none 0 0),(.slice none 0 0),(.slice none 0 0)] 192::RR dK E m g.1::aI J [(sc E g.1 m),(aD g.2.1),(aD l),(s3 a.2),(.slice none 0 0),(.slice none 0 0),(.slice none 0 0)] 192::ow kT3 3 (s3 a.2) a.1::Z) ?_ ?_
 refine bT ?_
 obtain ⟨e3,d3,cm⟩:=bd i
 refine bC (A:=HH) d3 (fun s a=>[(1,(sc a8 b a9)),(4,(pt b4 0)),(6,(sc E g.1 m)),(7,(aD g.2.1)),(9,(pt J 0)),(10,(pt T 0)),(15,(iv s.2.1)),(16,(iv s.2.2))]) (fun s a=>RR bL a8 a9 b::aI b4 [(.slice none 0 0),(aD ([]:aM)),(aD ([]:aM)),(.slice none 0 0),(.slice none 0 0),(.slice none 0 0),(.slice none 0 0)] 192::RR dK E m g.1::aI J [(sc E g.1 m),(aD g.2.1),(aD l),(s3 a),(.slice none 0 0),(.slice none 0 0),(.slice none 0 0)] 192::ow kT3 3 (s3 a) s.1::ow kT3 195 (.slice (ad T 0) 26 26) O::Z) (none,0,0) (aS R) (fun w s=>((s.nilo kT3 3).e 6 [1,2,3,4,0,5])) ?_
 rintro ⟨ab,cr,a5⟩ ⟨c4,cc,c7⟩ σ1 dr i cj
 dsimp only [Z3_L3] at i
 refine bJ 4 aB (fun (hn:cc=ab.length)=>?_)
 subst hn
 refine bT ?_
 refine lO (vz (il l) (dH fL R)) ?_
 refine aP ?_
 split at i
 refine bT ?_
 obtain ⟨b7,i⟩:=gd i
 obtain ⟨bn,i⟩:=gd i
 refine bF ?_
 refine lO (vz (.int .u8 (bt l a5)) (cH fL R R b7.1 b7.2)) (lO (vp (.int .u8 (IntKind.wrap .u8 ((bt l a5) - 97))) R) (lO (vz (.pointer (some ⟨T,0+(IntKind.wrap .u8 ((bt l a5) - 97)).toNat*1,none⟩)) (rG rY cC R R bn)) ?_))
 refine cB ?_
 obtain ⟨bp,i⟩:=gd i
 refine bF ?_
 refine bQ (K:=kT3) (xs:=([(ix O (IntKind.wrap .u8 ((bt l a5) - 97)))]:List Int)) (vs:=[(iv (ix O (IntKind.wrap .u8 ((bt l a5) - 97))))]) 0 R R bM cC gR R R R R R R ?_ R (fun d8 dc=>?_)
 exact fun I h s=>(gL).list [((),(ix O (IntKind.wrap .u8 ((bt l a5) - 97))))] I h s
 refine lM (ow _ _ _ _::ow _ _ _ _::aN _ _ _::aI _ _ _::aN _ _ _::aI _ _ _::ow _ _ _ _::Z) (fun w s=>(s.f 7 [5,1,0,5,6,1])) ?_
 refine eF (K:=kT3) 17592186044416 R R bM cC kc (Zr.zk zT3 gR) R R R R R R dP bp (fun ax b1=>(lN (OO kT3 3 ax b1 (ab++([(ix O (IntKind.wrap .u8 ((bt l a5) - 97)))]:List Int))::_::_::_::_::_::Z) ?_))
 refine bU ?_
 refine cP 4 R R fR R R R R R (lN (_::_::_::_::aI J [(sc E g.1 m),(aD g.2.1),(aD l),(sc ax (ab++([(ix O (IntKind.wrap .u8 ((bt l a5) - 97)))]:List Int)) b1),(.slice none 0 0),(.slice none 0 0),(.slice none 0 0)] 192::_::Z) ?_)
 refine vU ?_
 split at i
 refine aP ?_
 refine lO (vz (.agg [(.slice none 0 0),(aD ([]:aM)),(aD ([]:aM)),(.slice none 0 0),(.slice none 0 0),(.slice none 0 0),(.slice none 0 0)].toArray) (aW mO ky R R)) (aK 2 R R iE R R R R R R (lB R (aC (aJ (bY (dB (cE ?_)))))))
 cases i
 obtain rfl:=cj _ R
 have i:=cm
 refine aP ?_
 cases i
 exact dF (vs:=[(.agg [(.slice none 0 0),(aD ([]:aM)),(aD ([]:aM)),(.slice none 0 0),(.slice none 0 0),(.slice none 0 0),(.slice none 0 0)].toArray),(.bool false)]) (.inl R) ((none,0,0),(none,0,0),(none,0,0),(none,0,0),(none,0,0)) R ⟨⟨2,b4,_,_,R,R,.inl ⟨mi,iE,R⟩⟩,R,trivial⟩ R (fun w s=>((((((s.nilr dK).nilr kT3).nilo kT3 3).nilo bL 23).nilo kT3 3).e 13 [4,3,2,1,0]))
 refine cO ?_
 cases i
 exact qA (ax,(ab++([(ix O (IntKind.wrap .u8 ((bt l a5) - 97)))]:List Int)).length,b1) (tE 6 [1,2,3,4,0,5])
 refine aP ?_
 cases i
 obtain rfl:=cj _ R
 have i:=cm
 refine aR ?_
 exact qI (ab,(c4,ab.length,c7)) i (fun w s=>(s.f 6 [0,5]))
 rintro ⟨D,⟨L,cf,M⟩⟩ σ1 i
 dsimp only [Z3_J8] at i
 refine bJ 4 aB (fun (hn:cf=D.length)=>?_)
 subst hn
 refine bU ?_
 obtain ⟨al,i⟩:=gd i
 obtain ⟨u,bu,i⟩:=bd i
 refine aP ?_
 refine lO (vp (aD g.2.1) R) (lO (vz (il g.2.1) (dH fL R)) (iM (fun w s=>s.shr 4 R) (fY (K:=kT3) (0:Int) (g.2.1.length:Int) 0 R R bM cC R R R R al.1 al.2.1 al.2.2 (fun be bh=>(lM (RR kT3 be bh (sub D (0:Int) (g.2.1.length:Int))::RR kT3 be bh (sub D (0:Int) (g.2.1.length:Int))::RR kT3 L M D::_::_::_::aI J [(sc E g.1 m),(aD g.2.1),(aD l),(sc L D M),(.slice none 0 0),(.slice none 0 0),(.slice none 0 0)] 192::Z) (fun w s=>(s.d 0 R)) ?_)))))
 refine lC 1 j9 R (Zo_ok bu) R ?_
 rintro ⟨F,df,G⟩
 refine aL 0 aB ?_
 rintro rfl
 refine bU ?_
 refine cP 6 R R fR R R R R R (lN (_::_::_::_::_::_::aI J [(sc E g.1 m),(aD g.2.1),(aD l),(sc L D M),(sc F u G),(.slice none 0 0),(.slice none 0 0)] 192::Z) ?_)
 refine bF ?_
 obtain ⟨du,bv,i⟩:=bd i
 refine aP ?_
 refine lC 1 iW R (FnOk.lends (A':=[OO kT3 3 F G u]) (A:=[RR kT3 F G u]) (B:=[]) (Zc_ok bv) ⟨aX,trivial⟩ (fun _=>trivial)) R ?_
 rintro _
 refine aP ?_
 split at i
 refine aP ?_
 refine lO (vz (.agg [(.slice none 0 0),(aD ([]:aM)),(aD ([]:aM)),(.slice none 0 0),(.slice none 0 0),(.slice none 0 0),(.slice none 0 0)].toArray) (aW mO ky R R)) (aK 4 R R iE R R R R R R (lB R (aC (aJ (bY (cE ?_))))))
 cases i
 exact dF (vs:=[(.agg [(.slice none 0 0),(aD ([]:aM)),(aD ([]:aM)),(.slice none 0 0),(.slice none 0 0),(.slice none 0 0),(.slice none 0 0)].toArray),(.bool false)]) (.inl R) ((none,0,0),(none,0,0),(none,0,0),(none,0,0),(none,0,0)) R ⟨⟨4,b4,_,_,R,R,.inl ⟨mi,iE,R⟩⟩,R,trivial⟩ R (fun w s=>((((((s.nilr dK).nilr kT3).nilo kT3 3).nilo bL 23).nilo kT3 3).e 14 [4,3,2,1,0]))
 refine bF ?_
 refine bA (A:=((List (List Int)))×(HH)) (fun a=>Z3_J9 g l D u a.1=some r) (fun a=>[(4,(pt b4 0)),(7,(aD g.2.1)),(9,(pt J 0))]) (fun a=>aI b4 [(.slice none 0 0),(aD ([]:aM)),(aD ([]:aM)),(.slice none 0 0),(.slice none 0 0),(.slice none 0 0),(.slice none 0 0)] 192::aI J [(sc E g.1 m),(aD g.2.1),(aD l),(sc L D M),(sc F u G),(s3 a.2),(.slice none 0 0)] 192::RR dK E m g.1::RR kT3 L M D::OO kT3 3 F G u::ow bL 23 (s3 a.2) a.1::Z) ?_ ?_
 refine cU ?_
 obtain ⟨e4,d4,cz⟩:=bd i
 refine bC (A:=HH) d4 (fun s a=>[(1,(sc a8 b a9)),(4,(pt b4 0)),(7,(aD g.2.1)),(9,(pt J 0)),(150,(sc E g.1 m)),(151,(il g.1)),(152,(iv s.2))]) (fun s a=>RR bL a8 a9 b::aI b4 [(.slice none 0 0),(aD ([]:aM)),(aD ([]:aM)),(.slice none 0 0),(.slice none 0 0),(.slice none 0 0),(.slice none 0 0)] 192::aI J [(sc E g.1 m),(aD g.2.1),(aD l),(sc L D M),(sc F u G),(s3 a),(.slice none 0 0)] 192::RR dK E m g.1::RR kT3 L M D::OO kT3 3 F G u::ow bL 23 (s3 a) s.1::Z) (none,0,0) (aS R) (fun w s=>((s.nilo bL 23).e 8 [4,5,7,6,3,1,0])) ?_
 rintro ⟨a0,ah⟩ ⟨aq,cg,au⟩ σ1 ds i cy
 dsimp only [Z3_L4] at i
 refine bJ 6 aB (fun (hn:cg=a0.length)=>?_)
 subst hn
 refine bT ?_
 split at i
 refine bT ?_
 obtain ⟨am,i⟩:=gd i
 refine aR ?_
 refine bB 3 aA (show 0<g.1.length by have:=am; omega) (fun b6 o207 ha=>?_)
 subst ha
 refine bU ?_
 refine lO (vz (aD (ix g.1 ah)) (jz (K:=dK) (fo:=0) (pr:=fun x=>(aD x)) 3 ah qo (dT9.leaf fun _ _=>R) aA R am.1 am.2)) (lI R (lO (vp (aD (ix g.1 ah)) R) ?_))
 refine aR ?_
 obtain ⟨an,i⟩:=gd i
 obtain ⟨ba,bw,i⟩:=bd i
 obtain ⟨a7,bz,i⟩:=bd i
 obtain ⟨bq,i⟩:=gd i
 refine aY 0 aA (show 0<b.length by have:=an; omega) (fun dq o210 ha=>?_)
 subst ha
 refine dE (K:=bL) 0 ah dT23.dec R an.1 an.2 ?_
 rintro ⟨d9,dd⟩
 refine cZ 11 [] bN fun ht hn=>?_
 refine hO 0 [] ?_
 refine dR 3 R (vp (aD (ix g.1 ah)) R) ?_
 refine hO 4 [] ?_
 refine dR 7 R (eG (fo:=0) 0 cT R R R) (d1 8 R (lM (_::_::_::_::_::_::_::_::_::_::Z) (fun w s=>(s.d 1 R)) ?_))
 refine lC 1 rZ R (Z04_ok bw) R ?_
 rintro ⟨ay,dh,b2⟩
 refine aL 0 aB ?_
 rintro rfl
 refine aC (aE (sL [0]) (d1 9 R (lM (ow _ _ _ _::ow _ _ _ _::ow _ _ _ _::aN _ _ _::aN _ _ _::aN kT3 (.slice none 0 0) ([]:List Int)::cl _ _ _::aN _ _ _::aN _ _ _::aI _ _ _::aI _ _ _::aN _ _ _::aN _ _ _::Z) (fun w s=>((((s.d 6 R).d 8 R).nilr kT3).f 13 [11,2,3,1,2,1,1,1,0,1,4,7])) ?_)))
 refine lC 6 vc R (FnOk.lends (A':=[OO kT3 3 F G u,OO bL 23 aq au a0,OO kT3 3 ay b2 ba]) (A:=[RR kT3 F G u,RR bL aq au a0,RR kT3 ay b2 ba]) (B:=[RR dK (ad b6 o207) m g.1,RR kT3 L M D,aN kT3 (.slice none 0 0) ([]:List Int)]) (FnOk.perm (Zk_ok (f1:=(⟨g.1,g.2.1,l,D,u,a0,([]:List Int)⟩:form)) bz) (Pre':=[RR kT3 F G u,RR bL aq au a0,RR kT3 ay b2 ba,RR dK (ad b6 o207) m g.1,RR kT3 L M D,aN kT3 (.slice none 0 0) ([]:List Int)]) (fun _ _ _ s=>(s.e 6 [3,4,0,1,5,2]))) ⟨aX,aX,aX,trivial⟩ (fun _=>⟨(bK j0),trivial⟩)) R ?_
 rintro ⟨bf,di,bi⟩
 refine aL 3 aB ?_
 rintro rfl
 refine aC (aE (fun w s=>(s.f 11 [4,7,0,2])) (d1 10 R (lM (ow _ _ _ _::ow _ _ _ _::ow _ _ _ _::ow _ _ _ _::cl _ _ _::aN _ _ _::aN _ _ _::aI _ _ _::aI _ _ _::aN _ _ _::aN _ _ _::Z) (fun w s=>(s.f 11 [3,1,0,3,4,7])) ?_)))
 refine bQ (K:=bL) (xs:=([a7]:List (List Int))) (vs:=[(sc bf a7 bi)]) 1 R R ke fR me R R R R R R ?_ R (fun da de=>?_)
 exact fun I h s=>(mE).list [((sc bf a7 bi),a7)] I h s
 refine aC (aE (fun w s=>(s.f 11 [4,7,1,2])) (d1 11 R (lM (ow _ _ _ _::ow _ _ _ _::ow _ _ _ _::ow _ _ _ _::cl _ _ _::aN _ _ _::aN _ _ _::aI _ _ _::aI _ _ _::aN _ _ _::aN _ _ _::Z) (fun w s=>(s.f 11 [2,1,0,2,3,8])) ?_)))
 refine eF (K:=bL) 5864062014805 R R ke fR tT (Zr.zk zT23 me) R R R R R R dP bq (fun az b3=>(lN (OO bL 23 az b3 (a0++([a7]:List (List Int)))::_::_::_::_::_::_::_::_::_::Z) ?_))
 refine aC (qE (d1 12 R (lO (fV 5 pL R) (aC (qE (d1 13 R (cP 7 R R yI R R R R R (lN (_::_::_::_::_::_::_::aI J [(sc (ad b6 o207) g.1 m),(aD g.2.1),(aD l),(sc L D M),(sc F u G),(sc az (a0++([a7]:List (List Int))) b3),(.slice none 0 0)] 192::_::_::Z) ?_))))))))
 refine aC (qE (dD ?_))
 refine bT ?_
 cases i
 exact qA (az,(a0++([a7]:List (List Int))).length,b3) (fun w s=>(s.f 10 [5,5,1,1,0,1]))
 refine aP ?_
 cases i
 obtain rfl:=cy _ R
 have i:=cz
 refine aR ?_
 exact qI (a0,(aq,a0.length,au)) i (fun w s=>(s.f 7 [1,6]))
 rintro ⟨f224,⟨a2,ch,a3⟩⟩ σ1 i
 dsimp only [Z3_J9] at i
 refine bJ 5 aB (fun (hn:ch=f224.length)=>?_)
 subst hn
 refine bU ?_
 obtain ⟨bb,c0,i⟩:=bd i
 obtain ⟨aw,c1,i⟩:=bd i
 refine cZ 7 [] bN fun ht hn=>?_
 refine mA 0 [] ?_
 refine dR 1 R (vp (aD g.2.1) R) ?_
 refine gN 2 [] ?_
 refine d1 4 R (lM (ow _ _ _ _::aI _ _ _::aI J [(sc E g.1 m),(aD g.2.1),(aD l),(sc L D M),(sc F u G),(sc a2 f224 a3),(.slice none 0 0)] 192::RR dK E m g.1::aN _ _ _::OO bL 23 a2 a3 f224::Z) (tE 6 [4,0,1,2,3,5]) ?_)
 refine lC 1 rZ R (FnOk.lends (A':=[OO kT3 3 F G u]) (A:=[RR kT3 F G u]) (B:=[]) (Z04_ok c0) ⟨aX,trivial⟩ (fun _=>⟨(bK j0),trivial⟩)) R ?_
 rintro ⟨b0,dj,b5⟩
 refine aL 1 aB ?_
 rintro rfl
 refine aC (aE (tE 7 [2,3,4,5,0,6]) (d1 5 R (lM (ow _ _ _ _::ow _ _ _ _::ow _ _ _ _::aN _ _ _::aN _ _ _::aN kT3 (.slice none 0 0) ([]:List Int)::aI _ _ _::aI _ _ _::aN _ _ _::aN _ _ _::Z) (fun w s=>((((s.d 4 R).d 6 R).nilr kT3).e 10 [3,9,4,2,1,0,5,6,7,8])) ?_)))
 refine lC 6 vc R (FnOk.lends (A':=[OO kT3 3 F G u,OO bL 23 a2 a3 f224,OO kT3 3 b0 b5 bb]) (A:=[RR kT3 F G u,RR bL a2 a3 f224,RR kT3 b0 b5 bb]) (B:=[RR dK E m g.1,RR kT3 L M D,aN kT3 (.slice none 0 0) ([]:List Int)]) (FnOk.perm (Zk_ok (f1:=(⟨g.1,g.2.1,l,D,u,f224,([]:List Int)⟩:form)) c1) (Pre':=[RR kT3 F G u,RR bL a2 a3 f224,RR kT3 b0 b5 bb,RR dK E m g.1,RR kT3 L M D,aN kT3 (.slice none 0 0) ([]:List Int)]) (fun _ _ _ s=>(s.e 6 [3,4,0,1,5,2]))) ⟨aX,aX,aX,trivial⟩ (fun _=>⟨(bK j0),trivial⟩)) R ?_
 rintro ⟨ar,dk,av⟩
 refine aL 3 aB ?_
 rintro rfl
 refine aC (aE (fun w s=>(s.f 8 [4,4,0,2])) (dR 6 R (fV 6 pM R) (hS:=(fun w s=>(s.f 8 [4,4,0,2]))) (d1 7 R (cP 5 R R fR R R R R R (lN (_::_::_::_::_::aI J [(sc E g.1 m),(aD g.2.1),(aD l),(sc L D M),(sc F u G),(sc a2 f224 a3),(sc ar aw av)] 192::_::_::Z) ?_)))))
 refine aC (qE (dD ?_))
 refine bF ?_
 refine aK 4 R R iE R R R R R R (lN (_::_::_::_::aI b4 [(sc E g.1 m),(aD g.2.1),(aD l),(sc L D M),(sc F u G),(sc a2 f224 a3),(sc ar aw av)] 192::_::_::_::Z) ?_)
 refine bF ?_
 cases i
 exact dF (vs:=[(.agg [(sc E g.1 m),(aD g.2.1),(aD l),(sc L D M),(sc F u G),(sc a2 f224 a3),(sc ar aw av)].toArray),(.bool true)]) (.inl R) ((E,g.1.length,m),(L,D.length,M),(F,u.length,G),(a2,f224.length,a3),(ar,aw.length,av)) R ⟨⟨4,b4,_,_,R,R,.inl ⟨mi,iE,R⟩⟩,R,trivial⟩ R (tE 10 [6,7,0,1,3])
theorem Z2s_ok  {k1:formKind}{a:Node}{g:(List (List Int))}{mG:Int}{r:(List Int)×Bool}(m:Z2s k1 a g=some r) :
 FnOk Tryz.prog 204 [(.agg [].toArray),(.agg [(iv a.Op),(.slice A3 N3 D3),(.slice A4 N4 D4),(.slice A5 N5 D5),(aD a.Form),(.slice A6 N6 D6)].toArray),(.slice A8 N8 D8)] [aN kT3 (.slice A3 N3 D3) a.Args,aN kT3 (.slice A4 N4 D4) a.Dims,aN kT3 (.slice A5 N5 D5) a.Ints,aN kT3 (.slice A6 N6 D6) a.Data,aN bL (.slice A8 N8 D8) g,gl 0 mG] (fun (h:HH)=>((.tuple [(s3 h),(.bool r.2)].toArray),[ow kT3 3 (s3 h) r.1])):=by
 unfold Z2s at m
 refine aQ Tryz.func204 R 20 R R fun C V=>?_
 refine cL 0 aA ?_
 rintro rfl
 refine cL 1 aA ?_
 rintro rfl
 refine cL 2 aA ?_
 rintro rfl
 refine cL 3 aA ?_
 rintro rfl
 refine cL 4 aA ?_
 rintro rfl
 let J:=RR kT3 A3 D3 a.Args::RR kT3 A4 D4 a.Dims::RR kT3 A5 D5 a.Ints::RR kT3 A6 D6 a.Data::RR bL A8 D8 g::gl 0 mG::V
 refine cN J ?_
 refine aR ?_
 refine eA R fun Y=>?_
 refine eA R fun G=>?_
 refine aP ?_
 let L:=aI G [(iv a.Op),(sc A3 a.Args D3),(sc A4 a.Dims D4),(sc A5 a.Ints D5),(aD a.Form),(sc A6 a.Data D6)] 54::aI Y [] 142::J
 refine qN L ?_
 refine aR ?_
 obtain ⟨b,l,m⟩:=bd m
 refine bF ?_
 refine lM _ (fun w s=>(((s.d 6 R).dg 8 R).e 2 [1,0])) ?_
 refine lC 2 yJ R (Z3_ok l) R ?_
 rintro ⟨⟨q,M,D⟩,⟨A14,N14,D14⟩,⟨i,O,j⟩,⟨u,T,E⟩,⟨B,U,F⟩⟩
 refine aL 0 aA ?_
 rintro rfl
 refine aL 1 aA ?_
 rintro rfl
 refine aL 2 aB ?_
 rintro rfl
 refine aL 3 aB ?_
 rintro rfl
 refine aL 4 aB ?_
 rintro rfl
 refine lO (vT R) (lO (vA R) (lB R (bD R R ky (fun I=>(aK 0 R R iE R R R R R R (lN (aI I [(sc q b.1.groups D),(aD b.1.out_),(aD b.1.order),(sc A14 b.1.loops D14),(sc i b.1.dims j),(sc u b.1.steps E),(sc B b.1.store F)] 192::_::_::_::_::_::L) ?_))))))
 refine ka ?_
 cases m
 exact jl (i,b.1.dims.length,j) (tE 14 [3])
theorem Z2m_ok  {a:(List Int)}{r:View}(b:Z2m a=some r) :
 FnOk Tryz.prog 158 [(.slice A2 N2 D2)] [aN kT3 (.slice A2 N2 D2) a] (fun (h:HH×HH)=>((.agg [(s3 h.1),(s3 h.2),(iv r.Offset),(iv r.Base)].toArray),[ow kT3 3 (s3 h.1) r.Dims,ow kT3 3 (s3 h.2) r.Strides])):=by
 unfold Z2m at b
 refine aQ Tryz.func158 R 14 R R fun C V=>?_
 refine cL 0 aA ?_
 rintro rfl
 let B:=RR kT3 A2 D2 a::V
 refine cN B ?_
 refine aR ?_
 refine bD R R cX (fun D=>(aC (aJ (aO (aO ?_)))))
 obtain ⟨E,m,b⟩:=bd b
 refine aR ?_
 refine lM _ (fun w s=>(s.d 1 R)) ?_
 refine lC 1 iW R (Zc_ok m) R ?_
 rintro _
 refine aP ?_
 split at b
 refine aP ?_
 refine lO (vz (.agg [(.slice none 0 0),(.slice none 0 0),(iv 0),(iv 0)].toArray) (aW fD cX R R)) (aK 0 R R cD R R R R R R (aC (aJ (bY (cE ?_)))))
 cases b
 exact qS ((none,0,0),(none,0,0)) (fun w s=>(((s.nilo kT3 3).nilo kT3 3).e 4 [1,0]))
 refine bF ?_
 obtain ⟨u,q,b⟩:=bd b
 obtain ⟨g,i,b⟩:=bd b
 obtain ⟨l,j,b⟩:=bd b
 refine aR ?_
 refine lM _ (fun w s=>(s.d 1 R)) ?_
 refine lC 1 j9 R (Zo_ok q) R ?_
 rintro ⟨A9,N9,D9⟩
 refine aL 0 aB ?_
 rintro rfl
 refine lS R (lM _ (fun w s=>(s.d 2 R)) ?_)
 refine lC 1 rZ R (Z04_ok i) R ?_
 rintro ⟨A12,N12,D12⟩
 refine aL 0 aB ?_
 rintro rfl
 refine lS R (lM _ (fun w s=>(s.d 3 R)) ?_)
 refine lC 1 jp R (Zm_ok j) R ?_
 rintro _
 refine lO (vz (.agg [(sc A9 u D9),(sc A12 g D12),(iv 0),(iv l)].toArray) (aW fD cX R R)) (aK 2 R R cD R R R R R R (lN (_::_::aI D [(sc A9 u D9),(sc A12 g D12),(iv 0),(iv l)] 96::B) ?_))
 refine aP ?_
 cases b
 exact qS ((A9,u.length,D9),(A12,g.length,D12)) (tE 4 [1,0])
theorem Zh_ok  {v1:View}{r:Bool}(e:Zh v1=some r) :
 FnOk Tryz.prog 156 [(.agg [(.slice A2 N2 D2),(.slice A3 N3 D3),(iv v1.Offset),(iv v1.Base)].toArray)] [aN kT3 (.slice A2 N2 D2) v1.Dims,aN kT3 (.slice A3 N3 D3) v1.Strides] (fun (h:Unit)=>((.bool r),[])):=by
 unfold Zh at e
 refine aQ Tryz.func156 R 91 R R fun C V=>?_
 refine cL 0 aA ?_
 rintro rfl
 refine cL 1 aA ?_
 rintro rfl
 let W0:=RR kT3 A2 D2 v1.Dims::RR kT3 A3 D3 v1.Strides::V
 refine cN W0 ?_
 refine aR ?_
 refine eA R fun B=>?_
 refine aR ?_
 let m:=aI B [(sc A2 v1.Dims D2),(sc A3 v1.Strides D3),(iv v1.Offset),(iv v1.Base)] 96::W0
 refine qN m ?_
 refine aP ?_
 obtain ⟨u,a2,e⟩:=bd e
 refine cQ [(1,(pt B 0)),(41,(.bool ((((((!u)||((v1.Strides.length:Int) != (v1.Dims.length:Int)))||(decide (v1.Base<1)))||(decide (v1.Base>4096)))||(decide (v1.Offset<0)))||(decide (v1.Offset≥v1.Base)))))] (m) ?_ ?_
 refine aP ?_
 refine lM _ (fun w s=>(s.d 1 R)) ?_
 refine lC 1 iW R (Zc_ok a2) R ?_
 rintro _
 refine lN m ?_
 refine aR ?_
 rcases bo (!u) with Y | Y
 refine vV ?_
 exact qj tI
 refine cO ?_
 rcases bo ((!u)||((v1.Strides.length:Int) != (v1.Dims.length:Int))) with Z | Z
 refine xR ?_
 exact qj tI
 refine cB ?_
 rcases bo (((!u)||((v1.Strides.length:Int) != (v1.Dims.length:Int)))||(decide (v1.Base<1))) with a0 | a0
 refine oM ?_
 exact qj tI
 refine cB ?_
 rcases bo ((((!u)||((v1.Strides.length:Int) != (v1.Dims.length:Int)))||(decide (v1.Base<1)))||(decide (v1.Base>4096))) with D | D
 refine iC ?_
 exact qj tI
 refine cB ?_
 rcases bo (((((!u)||((v1.Strides.length:Int) != (v1.Dims.length:Int)))||(decide (v1.Base<1)))||(decide (v1.Base>4096)))||(decide (v1.Offset<0))) with E | E
 refine dJ ?_
 exact qj tI
 refine dJ ?_
 exact qj tI
 rintro σ1
 refine bU ?_
 split at e
 refine cU ?_
 cases e
 exact qF () (tE 3 [])
 refine bF ?_
 refine cZ 6 [] bN fun ht hn=>?_
 refine rN 0 [] ?_
 refine dD (aJ (aO (bA (A:=(Int×Int)×(Unit)) (fun a=>Zh_J1 v1 a.1.1 a.1.2=some r) (fun a=>[(1,(pt B 0)),(3,(iv a.1.1)),(4,(iv a.1.2))]) (fun a=>m) ?_ ?_)))
 refine cO ?_
 obtain ⟨e1,a1,O⟩:=bd e
 refine bC (A:=HH) a1 (fun s a=>[(1,(pt B 0)),(3,(iv s.1)),(4,(iv s.2.1)),(47,(s3 a)),(48,(il v1.Strides)),(49,(iv s.2.2))]) (fun s a=>aN kT3 (s3 a) v1.Strides::m) (A3,v1.Strides.length,D3) (aS R) (fun w s=>(s.d 2 R)) ?_
 rintro ⟨i,g,b⟩ ⟨a4,T,l⟩ σ1 a3 e I
 dsimp only [Zh_L1] at e
 refine bJ 0 aA (fun (hn:T=v1.Strides.length)=>?_)
 subst hn
 refine bT ?_
 split at e
 refine bT ?_
 obtain ⟨J,e⟩:=gd e
 refine aR ?_
 refine bB 0 aA (show 0<v1.Strides.length by have:=J; omega) (fun q o29 U=>?_)
 subst U
 refine cU ?_
 refine cQ [(1,(pt B 0)),(3,(iv i)),(4,(iv g)),(5,(iv b)),(6,(iv (ix v1.Strides b))),(47,(sc (ad q o29) v1.Strides l)),(48,(il v1.Strides)),(49,(iv b)),(59,(.bool ((decide ((ix v1.Strides b)<(-4096:Int)))||(decide ((ix v1.Strides b)>4096)))))] (RR kT3 (ad q o29) l v1.Strides::m) ?_ ?_
 refine bF ?_
 rcases bo (decide ((ix v1.Strides b)<(-4096:Int))) with F | F
 refine bF ?_
 exact qj tI
 refine bF ?_
 exact qj tI
 rintro σ1
 refine bU ?_
 split at e
 refine cW ?_
 cases e
 obtain rfl:=I _ R
 have e:=O
 refine aP ?_
 cases e
 exact qF () (tE 4 [])
 refine bF ?_
 obtain ⟨L,e⟩:=gd e
 refine bT ?_
 refine bB 2 aA (show 0<v1.Dims.length by have:=L; omega) (fun a5 o34 U=>?_)
 subst U
 refine bF ?_
 refine lO (vz (iv (if (aG ((ix v1.Strides b)*(aG ((ix v1.Dims b) - 1))))<0 then (aG ((ix v1.Strides b)*(aG ((ix v1.Dims b) - 1)))) else (0:Int))) (uM R R)) ?_
 refine nd ?_
 refine lO (vz (iv (if (aG ((ix v1.Strides b)*(aG ((ix v1.Dims b) - 1))))>0 then (aG ((ix v1.Strides b)*(aG ((ix v1.Dims b) - 1)))) else (0:Int))) (xA R R)) ?_
 refine cO ?_
 cases e
 exact qA ((ad q o29),v1.Strides.length,l) tI
 refine aP ?_
 cases e
 obtain rfl:=I _ R
 have e:=O
 refine aR ?_
 exact qI ((i,g),()) e (tE 1 [])
 rintro ⟨⟨j,M⟩,_⟩ σ1 e
 dsimp only [Zh_J1] at e
 refine aO (cQ [(2,(.bool ((decide (j≥0))&&(decide (M<v1.Base)))))] (m) ?_ ?_)
 refine bF ?_
 rcases bo (decide (j≥0)) with G | G
 refine dJ ?_
 exact qj tI
 refine dJ ?_
 exact qj tI
 rintro σ1
 refine aR ?_
 cases e
 exact qF () (tE 3 [])
end Go.Proofs.YtmpnollfdpdipaaGreat
