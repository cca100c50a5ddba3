import Derived.Test.YtmpnollfdpdipaaGreatDoorSfF
set_option linter.unusedVariables false
set_option maxRecDepth 20000
namespace Go.Proofs.YtmpnollfdpdipaaGreatDoor
open Go Go.Pg
variable {A2 A3 A4 A5 A6:Option Addr}{D2 D3 D4 D5 D6 N2 N3 N4 N5 N6:Nat}
theorem Z0n_ok  {g:(List Int)}{a:Int}{r:Int}(e:Z0n g a=some r) :
 FnOk Tryz.prog 135 [(.slice A2 N2 D2),(iv a)] [bF kT3 (.slice A2 N2 D2) g] (fun (h:Unit)=>((iv r),[])):=by
 unfold Z0n at e
 refine aU Tryz.func135 R 12 R R fun C V=>?_
 refine cL 0 aB ?_
 rintro rfl
 let i:=RR kT3 A2 D2 g::V
 refine cN i ?_
 refine sC ?_
 split at e
 refine dO ?_
 cases e
 exact qF () (tE 1 [])
 refine fD ?_
 cases e
 exact qF () (tE 1 [])
theorem Z0o_ok  {g:Tensor}{a:Int}{r:Int}(e:Z0o g a=some r) :
 FnOk Tryz.prog 45 [(.agg [(.slice A2 N2 D2),(.slice A3 N3 D3)].toArray),(iv a)] [bF kT3 (.slice A2 N2 D2) g.Dims,bF kT3 (.slice A3 N3 D3) g.Data] (fun (h:Unit)=>((iv r),[])):=by
 unfold Z0o at e
 refine aU Tryz.func45 R 18 R R fun C V=>?_
 refine cL 0 aB ?_
 rintro rfl
 refine cL 1 aB ?_
 rintro rfl
 let q:=RR kT3 A2 D2 g.Dims::RR kT3 A3 D3 g.Data::V
 refine cN q ?_
 refine bD ?_
 refine kC R fun u=>?_
 refine bD ?_
 let j:=aV u [(sc A2 g.Dims D2),(sc A3 g.Data D3)] 72::q
 refine qN j ?_
 refine bD ?_
 obtain ⟨B,m,e⟩:=bd e
 refine bN ?_
 refine lM _ (fun w s=>(s.d 1 R)) ?_
 refine lC 1 pH R (Z0n_ok m) R ?_
 rintro _
 refine lN j ?_
 refine fD ?_
 split at e
 refine dO ?_
 cases e
 exact qF () (tE 3 [])
 refine bN ?_
 obtain ⟨D,i,e⟩:=bd e
 refine bN ?_
 refine lM _ (fun w s=>(s.d 2 R)) ?_
 refine lC 1 pH R (Z0n_ok i) R ?_
 rintro _
 refine lN j ?_
 refine fD ?_
 split at e
 refine dO ?_
 cases e
 exact qF () (tE 3 [])
 refine fD ?_
 cases e
 exact qF () (tE 3 [])
theorem Z07_ok  {q:(List Tensor)}{j:Int}{r:Int}(g:Z07 q j=some r) :
 FnOk Tryz.prog 8 [(.slice A2 N2 D2),(iv j)] [bF g9 (.slice A2 N2 D2) q] (fun (h:Unit)=>((iv r),[])):=by
 unfold Z07 at g
 refine aU Tryz.func8 R 27 R R fun C V=>?_
 refine cL 0 aB ?_
 rintro rfl
 let O:=RR g9 A2 D2 q::V
 refine cN O ?_
 refine sC ?_
 split at g
 refine dO ?_
 cases g
 exact qF () (tE 1 [])
 refine bN ?_
 refine aW (A:=(Int)×(Unit)) (fun a=>Z07_J1 a.1=some r) (fun a=>[(1,(iv a.1))]) (fun a=>O) ?_ ?_
 refine bJ ?_
 obtain ⟨e1,T,D⟩:=bd g
 refine aP (A:=Unit) T (fun s a=>[(0,(sc A2 q D2)),(1,(iv s.1)),(5,(iv s.2))]) (fun s a=>O) () (aS R) tI ?_
 rintro ⟨m,u⟩ _ σ1 U g B
 dsimp only [Z07_L1] at g
 refine cS ?_
 split at g
 refine bJ ?_
 obtain ⟨i,g⟩:=gd g
 obtain ⟨a0,E,g⟩:=bd g
 refine aR ?_
 refine aZ 0 aB (show 0<q.length by have:=i; omega) (fun Y o19 Z=>?_)
 subst Z
 refine bS ?_
 refine eH (K:=g9) 0 u dT72.dec R i.1 i.2 ?_
 rintro ⟨⟨G,J⟩,⟨I,M⟩⟩
 refine lO (vz (.agg [(sc G ((ix q u).Dims) J),(sc I ((ix q u).Data) M)].toArray) (fB (fo:=0) 0 qK qH R R R R)) (lI R (lM _ (fun w s=>(((s.d 1 R).d 3 R).e 5 [1,0,2,3,4])) ?_))
 refine lC 2 uK R (Z0o_ok E) R ?_
 rintro _
 refine cS ?_
 split at g
 refine cS ?_
 cases g
 obtain rfl:=B _ R
 have g:=D
 refine aR ?_
 cases g
 exact qF () (tE 4 [])
 refine cS ?_
 cases g
 exact qA () (tE 3 [])
 refine aR ?_
 cases g
 obtain rfl:=B _ R
 have g:=D
 refine bD ?_
 exact qI (m,()) g tI
 rintro ⟨F,_⟩ σ1 g
 dsimp only [Z07_J1] at g
 refine eD ?_
 cases g
 exact qF () (tE 1 [])
theorem Zn_ok  {g:(List Int)}{r:(List Int)}(e:Zn g=some r) :
 FnOk Tryz.prog 139 [(.slice A2 N2 D2)] [bF kT3 (.slice A2 N2 D2) g] (fun (h:HH)=>((s3 h),[ow kT3 3 (s3 h) r])):=by
 unfold Zn at e
 refine aU Tryz.func139 R 22 R R fun C V=>?_
 refine cL 0 aB ?_
 rintro rfl
 let B:=RR kT3 A2 D2 g::V
 refine cN B ?_
 refine bJ ?_
 obtain ⟨j,e⟩:=gd e
 refine aR ?_
 refine eZ (K:=kT3) (m:=(g.length:Int)) (z:=(0:Int)) R R cW eC jt (Zr.zk zT3 gN) (by decide) R R j.1 j.2.1 j.2.2 (fun A4 D4=>(lS R (aG (aH (aL (aW (A:=((List Int))×(Unit)) (fun a=>Zn_J1 a.1=some r) (fun a=>[(3,(sc A4 (List.replicate (g.length:Int).toNat (0:Int)) D4))]) (fun a=>ow kT3 3 (.slice A4 (List.replicate (g.length:Int).toNat (0:Int)).length D4) a.1::B) ?_ ?_))))))
 refine bJ ?_
 obtain ⟨Y,G,F⟩:=bd e
 refine aP (A:=Unit) G (fun s a=>[(0,(sc A2 g D2)),(3,(sc A4 (List.replicate (g.length:Int).toNat (0:Int)) D4)),(4,(iv s.2))]) (fun s a=>ow kT3 3 (.slice A4 (List.replicate (g.length:Int).toNat (0:Int)).length D4) s.1::B) () (aS R) tI ?_
 rintro ⟨J,q⟩ _ σ1 M e E
 dsimp only [Zn_L1] at e
 refine cS ?_
 split at e
 refine cV ?_
 obtain ⟨u,e⟩:=gd e
 obtain ⟨i,e⟩:=gd e
 refine cV ?_
 refine aZ 1 aB (show 0<g.length by have:=u; omega) (fun O o19 D=>?_)
 subst D
 refine bD ?_
 refine aZ 0 aC (show 0<(List.replicate (g.length:Int).toNat (0:Int)).length by have:=i; omega) (fun T o22 D=>?_)
 subst D
 refine bS ?_
 refine dQ (K:=kT3) (x':=(ix g q)) 0 q R R eC R R i.1 i.2 ?_ ?_
 exact fun I h s=>(i7).put I h () (ix g q) s
 refine dO ?_
 cases e
 exact qA () tI
 refine aR ?_
 cases e
 obtain rfl:=E _ R
 have e:=F
 refine bD ?_
 exact qI (J,()) e tI
 rintro ⟨U,_⟩ σ1 e
 dsimp only [Zn_J1] at e
 refine eD ?_
 cases e
 exact qF (A4,(List.replicate (g.length:Int).toNat (0:Int)).length,D4) (tE 2 [0])
theorem Z0u_ok  {g:Tensor}{r:Tensor}(j:Z0u g=some r) :
 FnOk Tryz.prog 52 [(.agg [(.slice A2 N2 D2),(.slice A3 N3 D3)].toArray)] [bF kT3 (.slice A2 N2 D2) g.Dims,bF kT3 (.slice A3 N3 D3) g.Data] (fun (h:HH×HH)=>((.agg [(s3 h.1),(s3 h.2)].toArray),[ow kT3 3 (s3 h.1) r.Dims,ow kT3 3 (s3 h.2) r.Data])):=by
 unfold Z0u at j
 refine aU Tryz.func52 R 13 R R fun C V=>?_
 refine cL 0 aB ?_
 rintro rfl
 refine cL 1 aB ?_
 rintro rfl
 let D:=RR kT3 A2 D2 g.Dims::RR kT3 A3 D3 g.Data::V
 refine cN D ?_
 refine bD ?_
 refine kC R fun G=>?_
 refine bO R R dL (fun I=>(aG ?_))
 let u:=aV G [(sc A2 g.Dims D2),(sc A3 g.Data D3)] 72::D
 refine aR ?_
 refine bO R R dL (fun E=>(aG (aH (aL ?_))))
 obtain ⟨q,B,j⟩:=bd j
 refine aR ?_
 refine lM _ (fun w s=>(s.d 3 R)) ?_
 refine lC 1 pI R (Zn_ok B) R ?_
 rintro ⟨A9,N9,D9⟩
 refine aX 0 aC ?_
 rintro rfl
 refine bS ?_
 refine eA 1 R R gx R R R R R (lN (_::aV E [(sc A9 q D9),(.slice none 0 0)] 38::_::u) ?_)
 refine aR ?_
 obtain ⟨i,m,j⟩:=bd j
 refine aR ?_
 refine lM _ (fun w s=>(s.d 5 R)) ?_
 refine lC 1 pI R (Zn_ok m) R ?_
 rintro ⟨a,F,e⟩
 refine aX 0 aC ?_
 rintro rfl
 refine bS ?_
 refine eA 2 R R gx R R R R R (lN (_::_::aV E [(sc A9 q D9),(sc a i e)] 38::_::u) ?_)
 refine cV ?_
 refine aQ 3 R R cP R R R R R R (lN (_::_::_::aV I [(sc A9 q D9),(sc a i e)] 38::u) ?_)
 refine aR ?_
 cases j
 exact qS ((A9,q.length,D9),(a,i.length,e)) (tE 7 [1,0])
theorem Zf_ok  {i:(List Tensor)}{r:(List Tensor)}(g:Zf i=some r) :
 FnOk Tryz.prog 10 [(.slice A2 N2 D2)] [bF g9 (.slice A2 N2 D2) i] (fun (h:HH)=>((s3 h),[ow kT38 38 (s3 h) r])):=by
 unfold Zf at g
 refine aU Tryz.func10 R 23 R R fun C V=>?_
 refine cL 0 aB ?_
 rintro rfl
 let Z:=RR g9 A2 D2 i::V
 refine cN Z ?_
 refine bJ ?_
 obtain ⟨D,g⟩:=gd g
 refine aR ?_
 refine eZ (K:=kT38) (m:=(i.length:Int)) (z:=zT38.z) R R iA cP qP (Zr.zk zT38 dL) (by decide) R R D.1 D.2.1 D.2.2 (fun A4 D4=>(lS R (aG (aH (aL (aW (A:=((List Tensor))×(Unit)) (fun a=>Zf_J1 a.1=some r) (fun a=>[(3,(sc A4 (List.replicate (i.length:Int).toNat zT38.z) D4))]) (fun a=>ow kT38 38 (.slice A4 (List.replicate (i.length:Int).toNat zT38.z).length D4) a.1::Z) ?_ ?_))))))
 refine bJ ?_
 obtain ⟨e1,a3,a2⟩:=bd g
 refine aP (A:=Unit) a3 (fun s a=>[(0,(sc A2 i D2)),(3,(sc A4 (List.replicate (i.length:Int).toNat zT38.z) D4)),(4,(iv s.2))]) (fun s a=>ow kT38 38 (.slice A4 (List.replicate (i.length:Int).toNat zT38.z).length D4) s.1::Z) () (aS R) tI ?_
 rintro ⟨a4,u⟩ _ σ1 a5 g a0
 dsimp only [Zf_L1] at g
 refine cS ?_
 split at g
 refine cV ?_
 obtain ⟨j,g⟩:=gd g
 obtain ⟨B,E,g⟩:=bd g
 obtain ⟨q,g⟩:=gd g
 refine cV ?_
 refine aZ 1 aB (show 0<i.length by have:=j; omega) (fun a8 o25 ha=>?_)
 subst ha
 refine bS ?_
 refine eH (K:=g9) 1 u dT72.dec R j.1 j.2 ?_
 rintro ⟨⟨F,O⟩,⟨G,T⟩⟩
 refine lO (vz (.agg [(sc F ((ix i u).Dims) O),(sc G ((ix i u).Data) T)].toArray) (fB (fo:=0) 0 qK qH R R R R)) (lM _ (fun w s=>(((s.d 1 R).d 3 R).e 6 [1,0,2,3,4,5])) ?_)
 refine lC 2 uL R (Z0u_ok E) R ?_
 rintro ⟨⟨J,a6,U⟩,⟨M,a7,Y⟩⟩
 refine aX 0 aC ?_
 rintro rfl
 refine aX 1 aC ?_
 rintro rfl
 refine aZ 5 aC (show 0<(List.replicate (i.length:Int).toNat zT38.z).length by have:=q; omega) (fun a9 o34 ha=>?_)
 subst ha
 refine bS ?_
 refine lM _ (fun w s=>(s.f 6 [5,1,0,5])) ?_
 refine dQ (K:=kT38) (x':=B) 2 u R R cP R R q.1 q.2 ?_ ?_
 exact fun I h s=>(me).put I h ((sc J B.Dims U),(sc M B.Data Y)) B s
 refine dO ?_
 cases g
 exact qA () (tE 4 [0])
 refine aR ?_
 cases g
 obtain rfl:=a0 _ R
 have g:=a2
 refine bD ?_
 exact qI (a4,()) g tI
 rintro ⟨aa,_⟩ σ1 g
 dsimp only [Zf_J1] at g
 refine eD ?_
 cases g
 exact qF (A4,(List.replicate (i.length:Int).toNat zT38.z).length,D4) (tE 2 [0])
theorem cY  {e g:aD}{mG:Int}{r:Int}(a:bE e g=some r) :
 FnOk Tryz.prog 156 [(aA e),(aA g)] [gl 0 mG] (fun (_:Unit)=>((iv r),[])):=by
 unfold bE at a
 obtain ⟨h,a⟩:=gd a
 obtain rfl:=so a
 exact sv fun w i=>Tryz.stringslite_Index ⟨e.toArray⟩ ⟨g.toArray⟩ mG w (by simpa [ByteArray.size] using h) i
theorem eT  {p1:aD}{a:aD}{mG:Int}{r:aD×aD×Bool}(e:cF p1 a=some r) :
 FnOk Tryz.prog 175 [(aA p1),(aA a)] [gl 0 mG] (fun (h:Unit)=>((.tuple [(aA r.1),(aA r.2.1),(.bool r.2.2)].toArray),[])):=by
 unfold cF at e
 refine aU Tryz.func175 R 23 R R fun C V=>?_
 let q:=gl 0 mG::V
 refine cN q ?_
 refine bD ?_
 refine lO (vp (aA ([]:aD)) R) (lO (vp (aA ([]:aD)) R) ?_)
 refine cV ?_
 obtain ⟨j,m,e⟩:=bd e
 refine aE (lO (vp (aA p1) R) (lO (vp (aA a) R) (lM _ (fun w s=>(s.dg 0 R)) ?_)))
 refine lC 1 pM R (cY m) R ?_
 rintro _
 refine lN q ?_
 refine cS ?_
 split at e
 refine bD ?_
 obtain ⟨g,e⟩:=gd e
 obtain ⟨i,e⟩:=gd e
 refine eF 12 [] b' fun B u=>?_
 refine dR 0 R (vp (aA p1) R) (dR 1 R (vI R) (dR 2 R (vz (aA (sub p1 (0:Int) j)) (eB (0:Int) j cR R R R g.1 g.2.1 g.2.2)) (dR 3 R (vp (aA p1) R) (dR 4 R (vI R) (dR 5 R (vp (aA a) R) (dR 6 R (vz (il a) (bM cR R)) (dR 7 R (oj R R) (dR 8 R (vz (aA (sub p1 (aK (j+(a.length:Int))) (p1.length:Int))) (eB (aK (j+(a.length:Int))) (p1.length:Int) cR R R R i.1 i.2.1 i.2.2)) (dR 9 R (vp (aA (sub p1 (0:Int) j)) R) (dR 10 R (vp (aA (sub p1 (aK (j+(a.length:Int))) (p1.length:Int))) R) (dR 11 R (vB R) (dD ?_))))))))))))
 refine aR ?_
 cases e
 exact j0 () (tE 1 [])
 refine cV ?_
 refine lO (vp (aA p1) R) (lO (vp (aA p1) R) (lO (vp (aA ([]:aD)) R) ?_))
 refine bN ?_
 cases e
 exact j0 () (tE 1 [])
theorem Z10_ok  {p1:aD}{a:aD}{mG:Int}{r:aD×aD×Bool}(e:Z10 p1 a=some r) :
 FnOk Tryz.prog 128 [(aA p1),(aA a)] [gl 0 mG] (fun (h:Unit)=>((.tuple [(aA r.1),(aA r.2.1),(.bool r.2.2)].toArray),[])):=by
 unfold Z10 at e
 refine aU Tryz.func128 R 13 R R fun C V=>?_
 let j:=gl 0 mG::V
 refine cN j ?_
 refine bD ?_
 refine lO (vp (aA ([]:aD)) R) (lO (vp (aA ([]:aD)) R) ?_)
 refine bN ?_
 obtain ⟨g,i,e⟩:=bd e
 refine aE (lO (vp (aA p1) R) (lO (vp (aA a) R) (lM _ (fun w s=>(s.dg 0 R)) ?_)))
 refine lC 1 te R (eT i) R ?_
 rintro _
 refine lN j ?_
 refine lO (vp (aA g.1) R) (lO (vp (aA g.2.1) R) (lB R (lO (vp (aA g.1) R) (lO (vp (aA g.2.1) R) ?_))))
 refine bN ?_
 cases e
 exact j0 () (tE 1 [])
theorem dU  {p1:aD}{r:Int}(e:cD p1=some r) :
 FnOk Tryz.prog 261 [(aA p1)] [] (fun (h:Unit)=>((iv r),[])):=by
 unfold cD at e
 refine aU Tryz.func261 R 10 R R fun C V=>?_
 refine cN V ?_
 refine bJ ?_
 refine aW (A:=(Int)×(Unit)) (fun a=>bY a.1=some r) (fun a=>[(2,(iv a.1))]) (fun a=>V) ?_ ?_
 refine bD ?_
 refine lO (vp (aA p1) R) (lx R R cR R (fun g=>(aG (aH (dY ?_)))))
 obtain ⟨F,q,m⟩:=bd e
 refine aP (A:=Unit) q (fun s a=>[(2,(iv s.1)),(4,(pt g 0))]) (fun s a=>oA g p1 s.2::V) () (aS R) tI ?_
 rintro ⟨E,B⟩ _ σ1 u e i
 dsimp only [cO] at e
 refine bS ?_
 obtain ⟨j,e⟩:=gd e
 refine aE (n6 0 R R R R j (lN (oA g p1 (nk p1 B)::V) ?_))
 refine lO (vz (.bool (decide (B<(p1.length:Int)))) (pF R)) ?_
 refine aR ?_
 split at e
 refine fD ?_
 cases e
 exact qA () tI
 refine aR ?_
 cases e
 obtain rfl:=i _ R
 have e:=m
 refine bD ?_
 exact qI (E,()) e (tE 1 [])
 rintro ⟨D,_⟩ σ1 e
 dsimp only [bY] at e
 refine eD ?_
 cases e
 exact qF () tI
theorem dP  {p1:aD}{r:Int×Int}(e:cA p1=some r) :
 FnOk Tryz.prog 262 [(aA p1)] [] (fun (h:Unit)=>((.tuple [(.int .i32 r.1),(iv r.2)].toArray),[])):=by
 unfold cA at e
 refine aU Tryz.func262 R 19 R R fun C V=>?_
 refine cN V ?_
 refine dO ?_
 obtain ⟨g,e⟩:=gd e
 refine cQ [(0,(aA p1)),(10,(.bool ((!(p1==([]:aD)))&&(decide ((bt p1 0)<128)))))] (V) ?_ ?_
 refine aE (lO (vp (aA p1) R) (lO (vz (.bool (!(p1==([]:aD)))) (kI R R R)) (lB R ?_)))
 rcases bo (!(p1==([]:aD))) with a | a
 refine lW (hU a) (vp (aA p1) R) (lW (hU a) (vz (.int .u8 (bt p1 0)) (bA cR R R (g a).1 (g a).2)) (lW (hU a) (vp (.bool (decide ((bt p1 0)<128))) R) ?_))
 refine bD ?_
 exact qj tI
 refine cV ?_
 exact qj tI
 rintro σ1
 refine bS ?_
 split at e
 refine bD ?_
 obtain ⟨i,e⟩:=gd e
 refine aE (lO (vp (aA p1) R) (lO (vz (.int .u8 (bt p1 0)) (bA cR R R i.1 i.2)) (lO (vz (.int .i32 (IntKind.wrap .i32 ((bt p1 0)))) (qe un5 uT R)) ?_)))
 refine bJ ?_
 cases e
 exact pD () tI
 refine bS ?_
 cases e
theorem Zj_ok  {p1:aD}{G:Int}{r:(List aD)}(e:Zj p1 G=some r) :
 FnOk Tryz.prog 223 [(aA p1),(iv G)] [] (fun (h:HH)=>((s3 h),[ow bI 9 (s3 h) r])):=by
 unfold Zj at e
 refine aU Tryz.func223 R 50 R R fun C V=>?_
 refine cN V ?_
 refine bJ ?_
 obtain ⟨r3,a1,e⟩:=bd e
 refine aE (lO (vp (aA p1) R) (lC 0 tg R (dU a1) R ?_))
 rintro _
 refine bN ?_
 refine aW (A:=(Int)×(Unit)) (fun a=>Zj_J1 p1 a.1=some r) (fun a=>[(0,(aA p1)),(1,(iv a.1))]) (fun a=>V) ?_ ?_
 refine aL (cQ [(0,(aA p1)),(1,(iv G)),(5,(iv r3)),(18,(.bool ((decide (G<0))||(decide (G>r3)))))] (V) ?_ ?_)
 refine bN ?_
 rcases bo (decide (G<0)) with U | U
 refine cV ?_
 exact qj tI
 refine cV ?_
 exact qj tI
 rintro σ1
 refine bS ?_
 split at e
 refine cV ?_
 exact qI (r3,()) e tI
 refine bD ?_
 exact qI (G,()) e tI
 rintro ⟨i,_⟩ σ1 e
 dsimp only [Zj_J1] at e
 refine bS ?_
 obtain ⟨F,e⟩:=gd e
 refine bD ?_
 refine eZ (K:=bI) (m:=i) (z:=([]:aD)) R R jw lz uM (Zr.zk uI r') (by decide) R R F.1 F.2.1 F.2.2 (fun A9 D9=>(lS R (aG (aH (aL (aW (A:=(aD×(List aD))×(Unit)) (fun a=>Zj_J2 i a.1.1 a.1.2=some r) (fun a=>[(0,(aA a.1.1)),(1,(iv i)),(6,(sc A9 (List.replicate i.toNat ([]:aD)) D9))]) (fun a=>ow bI 9 (.slice A9 (List.replicate i.toNat ([]:aD)).length D9) a.1.2::V) ?_ ?_))))))
 refine bJ ?_
 obtain ⟨e1,a0,Z⟩:=bd e
 refine aP (A:=Unit) a0 (fun s a=>[(0,(aA s.1)),(1,(iv i)),(6,(sc A9 (List.replicate i.toNat ([]:aD)) D9)),(7,(iv s.2.2))]) (fun s a=>ow bI 9 (.slice A9 (List.replicate i.toNat ([]:aD)).length D9) s.2.1::V) () (aS R) tI ?_
 rintro ⟨g,O,a2⟩ _ σ1 a3 e Y
 dsimp only [Zj_L1] at e
 refine cS ?_
 split at e
 refine bJ ?_
 obtain ⟨j,M,e⟩:=bd e
 refine aE (lO (vp (aA g) R) (lC 0 th R (dP M) R ?_))
 rintro _
 refine lO (vT R) ?_
 refine eD ?_
 obtain ⟨q,e⟩:=gd e
 obtain ⟨u,e⟩:=gd e
 refine aR ?_
 refine lO (vp (aA g) R) (lI R (lO (vz (aA (sub g (0:Int) j.2)) (eB (0:Int) j.2 cR R R R q.1 q.2.1 q.2.2)) (aZ 0 aC (show 0<(List.replicate i.toNat ([]:aD)).length by have:=u; omega) (fun a5 o29 T=>?_))))
 subst T
 refine bS ?_
 refine dQ (K:=bI) (x':=(sub g (0:Int) j.2)) 0 a2 R R lz R R u.1 u.2 ?_ ?_
 exact fun I h s=>(qG).put I h () (sub g (0:Int) j.2) s
 refine bD ?_
 obtain ⟨B,e⟩:=gd e
 refine aE (lO (vp (aA g) R) (lI R (lO (vz (aA (sub g j.2 (g.length:Int))) (eB j.2 (g.length:Int) cR R R R B.1 B.2.1 B.2.2)) (lO (vp (aA (sub g j.2 (g.length:Int))) R) ?_))))
 refine dO ?_
 cases e
 exact qA () tI
 refine aR ?_
 cases e
 obtain rfl:=Y _ R
 have e:=Z
 refine bD ?_
 exact qI ((g,O),()) e tI
 rintro ⟨⟨E,J⟩,_⟩ σ1 e
 dsimp only [Zj_J2] at e
 refine aL (aW (A:=((List aD))×(Unit)) (fun a=>Zj_J3 a.1=some r) (fun a=>[(6,(sc A9 (List.replicate i.toNat ([]:aD)) D9))]) (fun a=>ow bI 9 (.slice A9 (List.replicate i.toNat ([]:aD)).length D9) a.1::V) ?_ ?_)
 refine bJ ?_
 split at e
 refine bS ?_
 obtain ⟨D,e⟩:=gd e
 refine bN ?_
 refine lO (vp (aA E) R) (aZ 0 aC (show 0<(List.replicate i.toNat ([]:aD)).length by have:=D; omega) (fun a6 o39 T=>?_))
 subst T
 refine bS ?_
 refine dQ (K:=bI) (x':=E) 0 (aK (i - 1)) R R lz R R D.1 D.2 ?_ ?_
 exact fun I h s=>(qG).put I h () E s
 refine bS ?_
 exact qI ((J.set (aK (i - 1)).toNat E),()) e tI
 refine bD ?_
 exact qI (J,()) e tI
 rintro ⟨a4,_⟩ σ1 e
 dsimp only [Zj_J3] at e
 refine eD ?_
 cases e
 exact qF (A9,(List.replicate i.toNat ([]:aD)).length,D9) tI
theorem Z18_ok  {e g:aD}{r:Int}(a:Z18 e g=some r) :
 FnOk Tryz.prog 224 [(aA e),(aA g)] [] (fun (_:Unit)=>((iv r),[])):=by
 unfold Z18 at a
 split at a
 ·rename_i c
  obtain rfl:=so a
  exact lu fun w=>Tryz.strings_Count_one ⟨e.toArray⟩ c w
 ·cases a
theorem Z08_ok  {p1:aD}{a:aD}{mG:Int}{r:Int}(e:Z08 p1 a=some r) :
 FnOk Tryz.prog 58 [(aA p1),(aA a)] [gl 0 mG] (fun (h:Unit)=>((iv r),[])):=by
 unfold Z08 at e
 refine aU Tryz.func58 R 8 R R fun C V=>?_
 let i:=gl 0 mG::V
 refine cN i ?_
 refine bJ ?_
 obtain ⟨j,g,e⟩:=bd e
 refine aE (lO (vp (aA p1) R) (lO (vp (aA a) R) (lM _ (fun w s=>(s.dg 0 R)) ?_)))
 refine lC 1 pM R (cY g) R ?_
 rintro _
 refine lN i ?_
 refine bN ?_
 cases e
 exact qF () (tE 1 [])
theorem Zd_ok  {p1:aD}{q:aD}{g:Int}{n4:Int}{mG:Int}{r:(List aD)}(j:Zd p1 q g n4=some r) :
 FnOk Tryz.prog 203 [(aA p1),(aA q),(iv g),(iv n4)] [gl 0 mG] (fun (h:HH)=>((.slice h.1 h.2.1 h.2.2),[bF bI (.slice h.1 h.2.1 h.2.2) r])):=by
 unfold Zd at j
 refine aU Tryz.func203 R 66 R R fun C V=>?_
 refine cN (_::V) ?_
 let G:List HP:=gl 0 mG::V
 refine cN G ?_
 refine aL (aE (lS R (aG (aH (aL (aL (aE (lI R (lO (vF R R) (aG (aH ?_)))))))))))
 rcases eJ j with ⟨a8,j⟩|⟨a8,j⟩
 refine dG R a8 (aL (aE (lS R (aG (aH (cK (dJ ?_)))))))
 obtain rfl:=so j
 exact qF (none,0,0) (fun w s=>((s.nilr bI).e 2 [0]))
 refine bW R a8 (dF (aH (aL (aL (aE (lO (vp (aA q) R) (lO (vz (.bool (q==([]:aD))) (kI R R R)) (aG (aH ?_)))))))))
 rcases eJ j with ⟨a9,j⟩|⟨a9,j⟩
 refine dG R a9 (aL ?_)
 obtain ⟨r7,al,j⟩:=bd j
 refine aE (lO (vp (aA p1) R) (lI R (lC 0 tj R (Zj_ok al) R ?_)))
 rintro ⟨A9,N9,D9⟩
 refine lN (ow bI 9 (.slice A9 N9 D9) r7::G) ?_
 refine aX 0 aC ?_
 rintro rfl
 refine lS R (aG (aH (cK (dJ ?_))))
 obtain rfl:=so j
 exact qF (A9,r7.length,D9) (fun w s=>((s.shr 0 R).e 2 [0]))
 refine bW R a9 (dF (aH (aL (aW (A:=(Int)×(Unit)) (fun a=>Zd_J2 p1 q g a.1=some r) (fun a=>[(0,(aA p1)),(1,(aA q)),(2,(iv g)),(3,(iv a.1))]) (fun a=>G) ?_ ?_))))
 refine aL (aE (lI R (lO (nY R R) (aG (aH ?_)))))
 rcases eJ j with ⟨U,j⟩|⟨U,j⟩
 refine dG R U ?_
 obtain ⟨an,ae,j⟩:=bd j
 refine aE (lO (vp (aA p1) R) (lO (vp (aA q) R) (lC 0 tl R (Z18_ok ae) R ?_)))
 rintro _
 refine lN G ?_
 refine lO (oj R R) (lI R (aG ?_))
 exact qI ((aK (an+(1:Int))),()) j (fun w s=>s)
 refine bW R U (dF ?_)
 exact qI (n4,()) j (fun w s=>s)
 rintro ⟨i,_⟩ σ1 j
 replace j:Zd_J2 p1 q g i=some r:=j
 unfold Zd_J2 at j
 refine aL (aE (lI R (lO (vp (aA p1) R) (lO (vz (il p1) (bM cR R)) (lO (oj R R) (lO (vz (iv (if (aK ((p1.length:Int)+(1:Int)))<i then (aK ((p1.length:Int)+(1:Int))) else i)) (pA R R)) (lI R (aG (aH (aL ?_))))))))))
 obtain ⟨a0,j⟩:=gd j
 refine aE (lI R (eZ (K:=bI) (m:=(if (aK ((p1.length:Int)+(1:Int)))<i then (aK ((p1.length:Int)+(1:Int))) else i)) (z:=([]:aD)) R R jw lz uM (Zr.zk uI r') (by decide) R R a0.1 a0.2.1 a0.2.2 (fun T B=>(lS R (aG (aH (aL (aE (lI R (lO (vq R R) (lI R (aG (aH (aL (aE (lI R (aG (aH (aL (aW (A:=(aD×(List aD)×Int)×(Unit)) (fun a=>Zd_J3 p1 i a.1.1 a.1.2.1 a.1.2.2=some r) (fun a=>[(0,(aA a.1.1)),(9,(sc T (List.replicate (if (aK ((p1.length:Int)+(1:Int)))<i then (aK ((p1.length:Int)+(1:Int))) else i).toNat ([]:aD)) B)),(10,(iv a.1.2.2))]) (fun a=>ow bI 9 (.slice T (List.replicate (if (aK ((p1.length:Int)+(1:Int)))<i then (aK ((p1.length:Int)+(1:Int))) else i).toNat ([]:aD)).length B) a.1.2.1::G) ?_ ?_))))))))))))))))))))
 refine dY ?_
 obtain ⟨e1,ak,ac⟩:=bd j
 refine aP (A:=Unit) ak (fun s a=>[(0,(aA s.1)),(1,(aA q)),(2,(iv g)),(3,(iv (aK ((if (aK ((p1.length:Int)+(1:Int)))<i then (aK ((p1.length:Int)+(1:Int))) else i) - (1:Int))))),(9,(sc T (List.replicate (if (aK ((p1.length:Int)+(1:Int)))<i then (aK ((p1.length:Int)+(1:Int))) else i).toNat ([]:aD)) B)),(10,(iv s.2.2))]) (fun s a=>ow bI 9 (.slice T (List.replicate (if (aK ((p1.length:Int)+(1:Int)))<i then (aK ((p1.length:Int)+(1:Int))) else i).toNat ([]:aD)).length B) s.2.1::G) () (aS R) (fun w s=>s) ?_
 rintro ⟨u,J,a5⟩ _ σ1 ah j ab
 replace j:Zd_L1 p1 q g i u J a5=some ah:=j
 unfold Zd_L1 at j
 refine aL (aL (aE (lI R (lI R (lO (nY R R) (aG (aH ?_)))))))
 rcases eJ j with ⟨Y,j⟩|⟨Y,j⟩
 refine dG R Y (dF (aH (dY (aL ?_))))
 obtain ⟨D,ag,j⟩:=bd j
 refine aE (lO (vp (aA u) R) (lO (vp (aA q) R) (lM (gl 0 mG::ow bI 9 (.slice T (List.replicate (if (aK ((p1.length:Int)+(1:Int)))<i then (aK ((p1.length:Int)+(1:Int))) else i).toNat ([]:aD)).length B) J::G) (fun w s=>(s.dg 1 R)) ?_)))
 refine lC 1 qU R (Z08_ok ag) R ?_
 rintro _
 refine lN (_::G) ?_
 refine lI R (aG (aH (aL (aL (aE (lI R (lO (nY R R) (aG (aH ?_)))))))))
 rcases eJ j with ⟨Z,j⟩|⟨Z,j⟩
 refine dG R Z (io (fz (mE R ?_)))
 obtain rfl:=so j
 obtain rfl:=ab _ R
 have j:=ac
 refine fz (gD ?_)
 exact qI ((u,J,a5),()) j (fun w s=>s)
 refine bW R Z (dF (aH (aL ?_)))
 obtain ⟨a1,j⟩:=gd j
 obtain ⟨E,j⟩:=gd j
 refine aE (lS R (lI R (lO (vp (aA u) R) (lI R (lI R (lO (oj R R) (lO (vz (aA (sub u (0:Int) (aK (D+g)))) (eB (0:Int) (aK (D+g)) cR R R R a1.1 a1.2.1 a1.2.2)) (aZ 0 aC (show 0<(List.replicate (if (aK ((p1.length:Int)+(1:Int)))<i then (aK ((p1.length:Int)+(1:Int))) else i).toNat ([]:aD)).length by have:=E; omega) (fun a7 o37 ha=>?_)))))))))
 subst ha
 refine lO (oq jw lz R R E) (lN (ow bI 9 (.slice (ad a7 o37) (List.replicate (if (aK ((p1.length:Int)+(1:Int)))<i then (aK ((p1.length:Int)+(1:Int))) else i).toNat ([]:aD)).length B) J::G) ?_)
 refine dQ (K:=bI) (x':=(sub u (0:Int) (aK (D+g)))) 0 a5 R R lz R R E.1 E.2 ?_ ?_
 exact fun I h s=>(qG).put I h () (sub u (0:Int) (aK (D+g))) s
 refine lN (ow bI 9 (.slice (ad a7 o37) (List.replicate (if (aK ((p1.length:Int)+(1:Int)))<i then (aK ((p1.length:Int)+(1:Int))) else i).toNat ([]:aD)).length B) (J.set a5.toNat (sub u (0:Int) (aK (D+g))))::G) ?_
 refine aG ?_
 obtain ⟨am,a4,j⟩:=bd j
 replace a4:=Option.some.inj a4
 refine qM (ow bI 9 (.slice (ad a7 o37) (List.replicate (if (aK ((p1.length:Int)+(1:Int)))<i then (aK ((p1.length:Int)+(1:Int))) else i).toNat ([]:aD)).length B) am::G) (fun w s=>by rw [← a4]; exact s) ?_
 refine aH (aL ?_)
 obtain ⟨a2,j⟩:=gd j
 refine aE (lO (vp (aA u) R) (lI R (lO (vp (aA q) R) (lO (vz (il q) (bM cR R)) (lO (oj R R) (lO (vz (aA (sub u (aK (D+(q.length:Int))) (u.length:Int))) (eB (aK (D+(q.length:Int))) (u.length:Int) cR R R R a2.1 a2.2.1 a2.2.2)) (lO (vp (aA (sub u (aK (D+(q.length:Int))) (u.length:Int))) R) (aG (aH (aE (lI R (lO (oj R R) (lI R (aG (eO ?_)))))))))))))))
 obtain rfl:=so j
 exact qA () (fun w s=>s)
 refine bW R Y (io (fz ?_))
 obtain rfl:=so j
 obtain rfl:=ab _ R
 have j:=ac
 refine fz (gD ?_)
 exact qI ((u,J,a5),()) j (fun w s=>s)
 rintro ⟨⟨O,a6,M⟩,_⟩ σ1 j
 replace j:Zd_J3 p1 i O a6 M=some r:=j
 unfold Zd_J3 at j
 refine aL ?_
 obtain ⟨F,j⟩:=gd j
 refine aE (lS R (lI R (lO (vp (aA O) R) (aZ 0 aC (show 0<(List.replicate (if (aK ((p1.length:Int)+(1:Int)))<i then (aK ((p1.length:Int)+(1:Int))) else i).toNat ([]:aD)).length by have:=F; omega) (fun aa o49 ha=>?_)))))
 subst ha
 refine lO (oq jw lz R R F) (lN (ow bI 9 (.slice (ad aa o49) (List.replicate (if (aK ((p1.length:Int)+(1:Int)))<i then (aK ((p1.length:Int)+(1:Int))) else i).toNat ([]:aD)).length B) a6::G) ?_)
 refine dQ (K:=bI) (x':=O) 0 M R R lz R R F.1 F.2 ?_ ?_
 exact fun I h s=>(qG).put I h () O s
 refine lN (ow bI 9 (.slice (ad aa o49) (List.replicate (if (aK ((p1.length:Int)+(1:Int)))<i then (aK ((p1.length:Int)+(1:Int))) else i).toNat ([]:aD)).length B) (a6.set M.toNat O)::G) ?_
 refine aG (aH (aL ?_))
 obtain ⟨a3,j⟩:=gd j
 refine aE (lS R (lI R (lO (oj R R) (kK (fun w s=>s.shr 0 R) (kb (K:=bI) (0:Int) (aK (M+(1:Int))) 0 R R jw lz R R R R a3.1 a3.2.1 a3.2.2 (fun ai aj=>(lS R (aG (aH (cK ?_))))))))))
 obtain rfl:=so j
 exact qF (ai,(sub (a6.set M.toNat O) (0:Int) (aK (M+(1:Int)))).length,aj) (fun w s=>(s.e 3 [0]))
theorem Z11_ok  {p1:aD}{a:aD}{mG:Int}{r:(List aD)}(g:Z11 p1 a=some r) :
 FnOk Tryz.prog 176 [(aA p1),(aA a)] [gl 0 mG] (fun (h:HH)=>((.slice h.1 h.2.1 h.2.2),[bF bI (.slice h.1 h.2.1 h.2.2) r])):=by
 unfold Z11 at g
 refine aU Tryz.func176 R 8 R R fun C V=>?_
 refine cN (_::V) ?_
 let i:List HP:=gl 0 mG::V
 refine cN i ?_
 refine aL (aE (lS R (aG (aH (aL ?_)))))
 obtain ⟨m,j,g⟩:=bd g
 refine aE (lO (vp (aA p1) R) (lO (vp (aA a) R) (lM (gl 0 mG::i) (fun w s=>(s.dg 0 R)) ?_)))
 refine lC 1 tm R (Zd_ok j) R ?_
 rintro ⟨A5,N5,D5⟩
 refine lN (bF bI (.slice A5 N5 D5) m::i) ?_
 refine aX 0 aB ?_
 rintro rfl
 refine lS R (aG (aH (cK ?_)))
 obtain rfl:=so g
 exact qF (A5,m.length,D5) (fun w s=>(s.e 2 [0]))
theorem dV  {e:aD}{a:Int}{r:Int}(g:bQ e a=some r) :
 FnOk Tryz.prog 189 [(aA e),(.int .u8 a)] [] (fun (_:Unit)=>((iv r),[])):=by
 unfold bQ at g
 obtain rfl:=so g
 exact lu fun w=>Tryz.stringslite_IndexByte ⟨e.toArray⟩ a w
theorem Z0d_ok  {p1:aD}{g:Int}{r:Int}(a:Z0d p1 g=some r) :
 FnOk Tryz.prog 152 [(aA p1),(.int .u8 g)] [] (fun (h:Unit)=>((iv r),[])):=by
 unfold Z0d at a
 refine aU Tryz.func152 R 8 R R fun C V=>?_
 refine cN V ?_
 refine bJ ?_
 obtain ⟨i,e,a⟩:=bd a
 refine aE (lO (vp (aA p1) R) (lI R (lC 0 tp R (dV e) R ?_)))
 rintro _
 refine bN ?_
 cases a
 exact qF () tI
theorem hX {i:List aD}{j:aD}{a:Option Addr}{g e:Nat}{r:aD}(h:strings_Join i j=some r) :
 FnOk Tryz.prog 151 [(.slice a g e),(aA j)] [bF bI (.slice a g e) i] (fun (_:Unit)=>((aA r),[])):=by
 unfold strings_Join at h
 obtain ⟨m,h⟩:=gd h
 obtain rfl:=so h
 exact oz Tryz.strings_Join_none Tryz.strings_Join m
theorem Z17_ok  {p1:aD}{a:aD}{mG:Int}{r:Bool}(e:Z17 p1 a=some r) :
 FnOk Tryz.prog 150 [(aA p1),(aA a)] [gl 0 mG] (fun (h:Unit)=>((.bool r),[])):=by
 unfold Z17 at e
 refine aU Tryz.func150 R 9 R R fun C V=>?_
 let i:=gl 0 mG::V
 refine cN i ?_
 refine bJ ?_
 obtain ⟨j,g,e⟩:=bd e
 refine aE (lO (vp (aA p1) R) (lO (vp (aA a) R) (lM _ (fun w s=>(s.dg 0 R)) ?_)))
 refine lC 1 qU R (Z08_ok g) R ?_
 rintro _
 refine lN i ?_
 refine cV ?_
 cases e
 exact qF () (tE 1 [])
theorem Zw_ok {i:List Int}{a:Option Addr}{e g:Nat}{r:(List Int)}(u:Zw i=some r) :
  FnOk Tryz.prog 97 [(.slice a e g)] [bF kT3 (.slice a e g) i] (fun (h:(Option Addr×Nat×Nat))=>((s3 h),[ow kT3 3 (s3 h) r])):=by
 unfold Zw at u
 obtain ⟨E,u⟩:=gd u
 obtain rfl:=Option.some.inj u
 refine aU Tryz.func97 rfl 8 rfl rfl fun C V=>(sn (V':=bF kT3 (.slice a e g) i::V) tI (aY 0 aB (fun (F:e=i.length)=>?_)))
 subst F
 refine bD ?_
 refine lS rfl ?_
 refine cV ?_
 refine lS rfl (pB (.bool a.isNone) (ql cW rfl rfl) rfl rfl (aG (aH ?_)))
 rcases Bool.eq_false_or_eq_true a.isNone with q | q
 ·refine dG rfl q ?_
  refine qp 0 aB q (fun (G:i=[])=>?_)
  subst G
  refine bD ?_
  refine lS rfl ?_
  refine bN ?_
  exact ft (vs:=[(.slice none 0 0)]) (.inl rfl) (none,0,0) rfl ⟨rfl,trivial⟩ rfl (fun w s=>((s.nilo kT3 3).sel 2 [0] rfl rfl))
 ·refine bW rfl q (dF (aH ?_))
  refine bD ?_
  refine bV (K:=kT3) (xs:=([]:List Int)) (vs:=[]) 0 rfl rfl cW eC gN rfl rfl rfl rfl rfl rfl ?_ rfl (fun B D=>?_)
  ·exact fun I h s=>(i7).list [] I h s
  refine lS rfl (fp (K:=kT3) 17592186044416 rfl rfl cW eC jt (Zr.zk zT3 gN) rfl rfl rfl rfl rfl rfl (mK (Kind.scal_flat _ _)) (by simpa using E) (fun j m=>(lS rfl (aG (aH (cK ?_))))))
  exact ft (vs:=[(.slice j i.length m)]) (.inl rfl) (j,i.length,m) rfl ⟨rfl,trivial⟩ rfl tI
theorem Z03_ok  {g:(List Int)}{i:(List Int)}{r:Bool}(e:Z03 g i=some r) :
 FnOk Tryz.prog 145 [(.slice A2 N2 D2),(.slice A4 N4 D4)] [bF kT3 (.slice A2 N2 D2) g,bF kT3 (.slice A4 N4 D4) i] (fun (h:Unit)=>((.bool r),[])):=by
 unfold Z03 at e
 refine aU Tryz.func145 R 26 R R fun C V=>?_
 refine cL 0 aB ?_
 rintro rfl
 refine cL 1 aB ?_
 rintro rfl
 let B:=RR kT3 A2 D2 g::RR kT3 A4 D4 i::V
 refine cN B ?_
 refine n0 ?_
 split at e
 refine dO ?_
 cases e
 exact qF () (tE 2 [])
 refine bN ?_
 refine aW (A:=(Unit)×(Unit)) (fun a=>Z03_J1=some r) (fun a=>[]) (fun a=>B) ?_ ?_
 refine bJ ?_
 obtain ⟨M,E,u⟩:=bd e
 refine aP (A:=Unit) E (fun s a=>[(0,(sc A2 g D2)),(1,(sc A4 i D4)),(5,(iv s))]) (fun s a=>B) () (aS R) tI ?_
 rintro J _ σ1 F e j
 dsimp only [Z03_L1] at e
 refine cS ?_
 split at e
 refine bJ ?_
 obtain ⟨m,e⟩:=gd e
 obtain ⟨q,e⟩:=gd e
 refine bU 0 aB (show 0<g.length by have:=m; omega) (fun G o18 D=>?_)
 subst D
 refine bU 1 aB (show 0<i.length by have:=q; omega) (fun I o21 D=>?_)
 subst D
 refine eF 9 [] b' fun T O=>?_
 refine sD 0 [] ?_
 refine dD (aH ?_)
 split at e
 refine cS ?_
 cases e
 obtain rfl:=j _ R
 have e:=u
 refine aR ?_
 cases e
 exact qF () (tE 2 [])
 refine cS ?_
 cases e
 exact qA () tI
 refine aR ?_
 cases e
 obtain rfl:=j _ R
 have e:=u
 refine bD ?_
 exact cG ((),()) e trivial tI
 rintro ⟨_,_⟩ σ1 e
 dsimp only [Z03_J1] at e
 refine bJ ?_
 cases e
 exact qF () (tE 2 [])
theorem Z0m_ok  {g:Tensor}{i:Tensor}{r:Bool}(a:Z0m g i=some r) :
 FnOk Tryz.prog 62 [(.agg [(.slice A2 N2 D2),(.slice A3 N3 D3)].toArray),(.agg [(.slice A5 N5 D5),(.slice A6 N6 D6)].toArray)] [bF kT3 (.slice A2 N2 D2) g.Dims,bF kT3 (.slice A3 N3 D3) g.Data,bF kT3 (.slice A5 N5 D5) i.Dims,bF kT3 (.slice A6 N6 D6) i.Data] (fun (h:Unit)=>((.bool r),[])):=by
 unfold Z0m at a
 refine aU Tryz.func62 R 17 R R fun C V=>?_
 refine cL 0 aB ?_
 rintro rfl
 refine cL 1 aB ?_
 rintro rfl
 refine cL 2 aB ?_
 rintro rfl
 refine cL 3 aB ?_
 rintro rfl
 let u:=RR kT3 A2 D2 g.Dims::RR kT3 A3 D3 g.Data::RR kT3 A5 D5 i.Dims::RR kT3 A6 D6 i.Data::V
 refine cN u ?_
 refine bD ?_
 refine kC R fun B=>?_
 refine kC R fun D=>?_
 refine bD ?_
 let q:=aV D [(sc A5 i.Dims D5),(sc A6 i.Data D6)] 38::aV B [(sc A2 g.Dims D2),(sc A3 g.Data D3)] 38::u
 refine qN q ?_
 refine aR ?_
 obtain ⟨F,j,a⟩:=bd a
 refine cV ?_
 refine lM _ (fun w s=>(((s.d 2 R).d 5 R).e 2 [1,0])) ?_
 refine lC 2 pR R (Z03_ok j) R ?_
 rintro _
 refine lN q ?_
 refine aR ?_
 split at a
 refine dO ?_
 cases a
 exact qF () (tE 6 [])
 refine cV ?_
 obtain ⟨E,m,a⟩:=bd a
 refine cV ?_
 refine lM _ (fun w s=>(((s.d 3 R).d 6 R).e 2 [1,0])) ?_
 refine lC 2 pR R (Z03_ok m) R ?_
 rintro _
 refine lN q ?_
 refine aR ?_
 split at a
 refine dO ?_
 cases a
 exact qF () (tE 6 [])
 refine cS ?_
 cases a
 exact qF () (tE 6 [])
theorem Z00_ok  {q:(List Tensor)}{u:(List Tensor)}{r:Bool}(g:Z00 q u=some r) :
 FnOk Tryz.prog 13 [(.slice A2 N2 D2),(.slice A4 N4 D4)] [bF kT38 (.slice A2 N2 D2) q,bF kT38 (.slice A4 N4 D4) u] (fun (h:Unit)=>((.bool r),[])):=by
 unfold Z00 at g
 refine aU Tryz.func13 R 27 R R fun C V=>?_
 refine cL 0 aB ?_
 rintro rfl
 refine cL 1 aB ?_
 rintro rfl
 let Y:=RR kT38 A2 D2 q::RR kT38 A4 D4 u::V
 refine cN Y ?_
 refine n0 ?_
 split at g
 refine dO ?_
 cases g
 exact qF () (tE 2 [])
 refine bN ?_
 refine aW (A:=(Unit)×(Unit)) (fun a=>Z00_J1=some r) (fun a=>[]) (fun a=>Y) ?_ ?_
 refine bJ ?_
 obtain ⟨e1,a0,D⟩:=bd g
 refine aP (A:=Unit) a0 (fun s a=>[(0,(sc A2 q D2)),(1,(sc A4 u D4)),(5,(iv s))]) (fun s a=>Y) () (aS R) tI ?_
 rintro i _ σ1 a2 g B
 dsimp only [Z00_L1] at g
 refine cS ?_
 split at g
 refine bJ ?_
 obtain ⟨j,g⟩:=gd g
 obtain ⟨m,g⟩:=gd g
 obtain ⟨a5,E,g⟩:=bd g
 refine bU 0 aB (show 0<q.length by have:=j; omega) (fun a3 o24 Z=>?_)
 subst Z
 refine fQ (K:=kT38) 0 i dT38.dec R j.1 j.2 ?_
 rintro ⟨⟨F,M⟩,⟨G,O⟩⟩
 refine bU 4 aB (show 0<u.length by have:=m; omega) (fun a4 o29 Z=>?_)
 subst Z
 refine fQ (K:=kT38) 4 i dT38.dec R m.1 m.2 ?_
 rintro ⟨⟨I,T⟩,⟨J,U⟩⟩
 refine eF 10 [] b' fun ht hn=>?_
 refine i6 0 [] ?_
 refine dR 3 R (vz (.agg [(sc F ((ix q i).Dims) M),(sc G ((ix q i).Data) O)].toArray) (fB (fo:=0) 3 hW cP R R R R)) ?_
 refine i6 4 [] ?_
 refine dR 7 R (vz (.agg [(sc I ((ix u i).Dims) T),(sc J ((ix u i).Data) U)].toArray) (fB (fo:=0) 0 hW cP R R R R)) (d1 8 R (lM _ (fun w s=>(((((s.d 4 R).d 6 R).d 3 R).d 5 R).e 10 [3,2,1,0,4,5,6,7,8,9])) ?_))
 refine lC 4 vd R (Z0m_ok E) R ?_
 rintro _
 refine aG (aJ (sL []) (dR 9 R (om R) (dD (aH ?_))))
 split at g
 refine cS ?_
 cases g
 obtain rfl:=B _ R
 have g:=D
 refine aR ?_
 cases g
 exact qF () (tE 8 [])
 refine cS ?_
 cases g
 exact qA () (tE 6 [])
 refine aR ?_
 cases g
 obtain rfl:=B _ R
 have g:=D
 refine bD ?_
 exact cG ((),()) g trivial tI
 rintro ⟨_,_⟩ σ1 g
 dsimp only [Z00_J1] at g
 refine bJ ?_
 cases g
 exact qF () (tE 2 [])
theorem Zt_ok  {m:(List (List Tensor))}{q:(List (List Tensor))}{r:Bool}(g:Zt m q=some r) :
 FnOk Tryz.prog 12 [(.slice A2 N2 D2),(.slice A4 N4 D4)] [bF kT27 (.slice A2 N2 D2) m,bF kT27 (.slice A4 N4 D4) q] (fun (h:Unit)=>((.bool r),[])):=by
 unfold Zt at g
 refine aU Tryz.func12 R 27 R R fun C V=>?_
 refine cL 0 aB ?_
 rintro rfl
 refine cL 1 aB ?_
 rintro rfl
 let F:=RR kT27 A2 D2 m::RR kT27 A4 D4 q::V
 refine cN F ?_
 refine n0 ?_
 split at g
 refine dO ?_
 cases g
 exact qF () (tE 2 [])
 refine bN ?_
 refine aW (A:=(Unit)×(Unit)) (fun a=>Zt_J1=some r) (fun a=>[]) (fun a=>F) ?_ ?_
 refine bJ ?_
 obtain ⟨e1,I,B⟩:=bd g
 refine aP (A:=Unit) I (fun s a=>[(0,(sc A2 m D2)),(1,(sc A4 q D4)),(5,(iv s))]) (fun s a=>F) () (aS R) tI ?_
 rintro E _ σ1 J g u
 dsimp only [Zt_L1] at g
 refine cS ?_
 split at g
 refine bJ ?_
 obtain ⟨i,g⟩:=gd g
 obtain ⟨j,g⟩:=gd g
 obtain ⟨a0,D,g⟩:=bd g
 refine bU 0 aB (show 0<m.length by have:=i; omega) (fun Y o22 G=>?_)
 subst G
 refine fQ (K:=kT27) 0 E dT27.dec R i.1 i.2 ?_
 rintro ⟨M,T⟩
 refine bU 3 aB (show 0<q.length by have:=j; omega) (fun Z o26 G=>?_)
 subst G
 refine fQ (K:=kT27) 3 E dT27.dec R j.1 j.2 ?_
 rintro ⟨O,U⟩
 refine eF 10 [] b' fun ht hn=>?_
 refine i6 0 [] ?_
 refine dR 3 R (fv (fo:=0) 2 nd R R R) ?_
 refine i6 4 [] ?_
 refine dR 7 R (fv (fo:=0) 0 nd R R R) (d1 8 R (lM _ (fun w s=>(((s.d 3 R).d 2 R).e 6 [1,0,2,3,4,5])) ?_))
 refine lC 2 tH R (Z00_ok D) R ?_
 rintro _
 refine aG (aJ (sL []) (dR 9 R (om R) (dD (aH ?_))))
 split at g
 refine cS ?_
 cases g
 obtain rfl:=u _ R
 have g:=B
 refine aR ?_
 cases g
 exact qF () (tE 6 [])
 refine cS ?_
 cases g
 exact qA () (tE 4 [])
 refine aR ?_
 cases g
 obtain rfl:=u _ R
 have g:=B
 refine bD ?_
 exact cG ((),()) g trivial tI
 rintro ⟨_,_⟩ σ1 g
 dsimp only [Zt_J1] at g
 refine bJ ?_
 cases g
 exact qF () (tE 2 [])
theorem Zh_ok  {i:(List Int)}{k3:Int}{r:Int×(List Int)}(e:Zh i k3=some r) :
 FnOk Tryz.prog 63 [(.slice A2 N2 D2),(iv k3)] [ow kT3 3 (.slice A2 N2 D2) i] (fun (h:Unit)=>((iv r.1),[ow kT3 3 (.slice A2 N2 D2) r.2])):=by
 unfold Zh at e
 refine aU Tryz.func63 R 19 R R fun C V=>?_
 refine cL 0 aC ?_
 rintro rfl
 refine bJ ?_
 refine aW (A:=(Int×(List Int))×(Unit)) (fun a=>Zh_J1 a.1.1 a.1.2=some r) (fun a=>[(1,(iv a.1.1))]) (fun a=>ow kT3 3 (.slice A2 i.length D2) a.1.2::V) ?_ ?_
 refine bJ ?_
 obtain ⟨M,q,m⟩:=bd e
 refine aP (A:=Unit) q (fun s a=>[(0,(sc A2 i D2)),(1,(iv s.2.1)),(5,(iv s.2.2))]) (fun s a=>ow kT3 3 (.slice A2 i.length D2) s.1::V) () (aS R) tI ?_
 rintro ⟨D,k9,u⟩ _ σ1 B e j
 dsimp only [Zh_L1] at e
 refine cS ?_
 split at e
 refine bJ ?_
 obtain ⟨g,e⟩:=gd e
 refine bN ?_
 refine aZ 0 aC (show 0<i.length by have:=g; omega) (fun E o14 F=>?_)
 subst F
 refine bS ?_
 refine dQ (K:=kT3) (x':=k9) 0 u R R eC R R g.1 g.2 ?_ ?_
 exact fun I h s=>(i7).put I h () k9 s
 refine sB ?_
 cases e
 exact qA () tI
 refine aR ?_
 cases e
 obtain rfl:=j _ R
 have e:=m
 refine bD ?_
 exact qI ((k9,D),()) e tI
 rintro ⟨⟨G,J⟩,_⟩ σ1 e
 dsimp only [Zh_J1] at e
 refine eD ?_
 cases e
 exact qF () tI
theorem Z9_ok  {u:(List Tensor)}{k3:Int}{r:Int×(List Tensor)}(j:Z9 u k3=some r) :
 FnOk Tryz.prog 14 [(.slice A2 N2 D2),(iv k3)] [ow kT38 38 (.slice A2 N2 D2) u] (fun (h:Unit)=>((iv r.1),[ow kT38 38 (.slice A2 N2 D2) r.2])):=by
 unfold Z9 at j
 refine aU Tryz.func14 R 27 R R fun C V=>?_
 refine cN (_::V) ?_
 refine cL 0 aC ?_
 rintro rfl
 refine aL (aE (lI R (aG (aH (aL (aW (A:=(Int×(List Tensor))×(Unit)) (fun a=>Z9_J1 a.1.1 a.1.2=some r) (fun a=>[(1,(iv a.1.1))]) (fun a=>ow kT38 38 (.slice A2 u.length D2) a.1.2::V) ?_ ?_))))))
 refine aL (aE (lI R (aG (aH (dY ?_)))))
 obtain ⟨e1,a7,a6⟩:=bd j
 refine aP (A:=Unit) a7 (fun s a=>[(0,(sc A2 u D2)),(1,(iv s.2.1)),(5,(iv s.2.2))]) (fun s a=>ow kT38 38 (.slice A2 u.length D2) s.1::V) () (aS R) (fun w s=>s) ?_
 rintro ⟨a20,a3,g⟩ _ σ1 a4 j a5
 replace j:Z9_L1 u a20 a3 g=some a4:=j
 unfold Z9_L1 at j
 refine aL (aL (aE (lI R (lS R (lO (py iA R) (lO (nY R R) (aG (aH ?_))))))))
 rcases eJ j with ⟨J,j⟩|⟨J,j⟩
 refine dG R J (dF (aH (aL (dY (aL ?_)))))
 obtain ⟨m,j⟩:=gd j
 obtain ⟨i,a0,j⟩:=bd j
 refine aE (lS R (lI R (aZ 0 aC (show 0<u.length by have:=m; omega) (fun q o26 ha=>?_))))
 subst ha
 refine lO (oq iA cP R R m) (lO (vz (.pointer (some ⟨q,o26+g.toNat*2,none⟩)) (kg iB R R)) (jl (K:=kT38) sQ 0 g R m.1 m.2 ?_))
 rintro ⟨⟨B,F⟩,⟨T,Y⟩⟩
 refine lN (oi kT38 38 (.slice (ad q o26) u.length D2) a20 g.toNat [(sc B ((ix a20 g).Dims) F),(sc T ((ix a20 g).Data) Y)]::OO kT3 3 B F ((ix a20 g).Dims)::OO kT3 3 T Y ((ix a20 g).Data)::V) ?_
 refine lO (kO (fo:=0) 0 fW R R R) (lI R (lM (ow _ _ _ _::oi _ _ _ _ _ _::ow _ _ _ _::V) (fun w s=>(s.e 3 [1,0,2])) ?_))
 refine lC 1 tJ R (Zh_ok a0) R ?_
 rintro _
 refine lN (ow kT3 3 (.slice B ((ix a20 g).Dims).length F) i.2::_::_::V) ?_
 refine lI R (aG (qM (ow kT38 38 (.slice (ad q o26) u.length D2) (a20.set g.toNat (⟨i.2,(ix a20 g).Data⟩:Tensor))::V) (fun w s=>St.unfocus (E:=[ow kT3 3 (.slice B ((ix a20 g).Dims).length F) i.2,OO kT3 3 T Y ((ix a20 g).Data)]) (⟨i.2,(ix a20 g).Data⟩:Tensor) (s.e 3 [1,0,2]) ?_) ?_))
 exact fun I h s=>(me).put I h ((sc B ((ix a20 g).Dims) F),(sc T ((ix a20 g).Data) Y)) (⟨i.2,(ix a20 g).Data⟩:Tensor) s
 refine aH ?_
 obtain ⟨O,a2,j⟩:=bd j
 refine aE (lS R (lI R (lO (oq iA cP R R m) (lO (vz (.pointer (some ⟨q,o26+g.toNat*2+1,none⟩)) (kg jv R R)) (jl (K:=kT38) sQ 0 g R m.1 m.2 ?_)))))
 rintro ⟨⟨U,Z⟩,⟨D,G⟩⟩
 refine lN (oi kT38 38 (.slice (ad q o26) u.length D2) (a20.set g.toNat (⟨i.2,(ix a20 g).Data⟩:Tensor)) g.toNat [(sc U ((ix (a20.set g.toNat (⟨i.2,(ix a20 g).Data⟩:Tensor)) g).Dims) Z),(sc D ((ix (a20.set g.toNat (⟨i.2,(ix a20 g).Data⟩:Tensor)) g).Data) G)]::OO kT3 3 U Z ((ix (a20.set g.toNat (⟨i.2,(ix a20 g).Data⟩:Tensor)) g).Dims)::OO kT3 3 D G ((ix (a20.set g.toNat (⟨i.2,(ix a20 g).Data⟩:Tensor)) g).Data)::V) ?_
 refine lO (kO (fo:=1) 0 fW R R R) (lI R (lM (ow _ _ _ _::oi _ _ _ _ _ _::ow _ _ _ _::V) (fun w s=>(s.e 3 [2,0,1])) ?_))
 refine lC 1 tJ R (Zh_ok a2) R ?_
 rintro _
 refine lN (ow kT3 3 (.slice D ((ix (a20.set g.toNat (⟨i.2,(ix a20 g).Data⟩:Tensor)) g).Data).length G) O.2::_::_::V) ?_
 refine lI R (aG (qM (ow kT38 38 (.slice (ad q o26) u.length D2) ((a20.set g.toNat (⟨i.2,(ix a20 g).Data⟩:Tensor)).set g.toNat (⟨(ix (a20.set g.toNat (⟨i.2,(ix a20 g).Data⟩:Tensor)) g).Dims,O.2⟩:Tensor))::V) (fun w s=>St.unfocus (E:=[OO kT3 3 U Z ((ix (a20.set g.toNat (⟨i.2,(ix a20 g).Data⟩:Tensor)) g).Dims),ow kT3 3 (.slice D ((ix (a20.set g.toNat (⟨i.2,(ix a20 g).Data⟩:Tensor)) g).Data).length G) O.2]) (⟨(ix (a20.set g.toNat (⟨i.2,(ix a20 g).Data⟩:Tensor)) g).Dims,O.2⟩:Tensor) (s.e 3 [1,2,0]) ?_) ?_))
 exact fun I h s=>(me).put I h ((sc U ((ix (a20.set g.toNat (⟨i.2,(ix a20 g).Data⟩:Tensor)) g).Dims) Z),(sc D ((ix (a20.set g.toNat (⟨i.2,(ix a20 g).Data⟩:Tensor)) g).Data) G)) (⟨(ix (a20.set g.toNat (⟨i.2,(ix a20 g).Data⟩:Tensor)) g).Dims,O.2⟩:Tensor) s
 obtain ⟨a9,M,j⟩:=bd j
 replace M:=Option.some.inj M
 refine qM (ow kT38 38 (.slice (ad q o26) u.length D2) a9::V) (fun w s=>by rw [← M]; exact s) ?_
 refine eO (aH (aE (lI R (lO (oj R R) (lI R (aG ?_))))))
 obtain rfl:=so j
 exact qA () (fun w s=>s)
 refine bW R J (io (fz ?_))
 obtain rfl:=so j
 obtain rfl:=a5 _ R
 have j:=a6
 refine fz (gD ?_)
 exact qI ((a3,a20),()) j (fun w s=>s)
 rintro ⟨⟨a8,aa⟩,_⟩ σ1 j
 replace j:Z9_J1 a8 aa=some r:=j
 unfold Z9_J1 at j
 refine aL (aE (lI R (lI R (aG (aH (cK ?_))))))
 obtain rfl:=so j
 exact qF () (fun w s=>s)
theorem Zv_ok  {u:(List (List Tensor))}{k3:Int}{r:Int×(List (List Tensor))}(g:Zv u k3=some r) :
 FnOk Tryz.prog 15 [(.slice A2 N2 D2),(iv k3)] [ow kT27 27 (.slice A2 N2 D2) u] (fun (h:Unit)=>((iv r.1),[ow kT27 27 (.slice A2 N2 D2) r.2])):=by
 unfold Zv at g
 refine aU Tryz.func15 R 19 R R fun C V=>?_
 refine cL 0 aC ?_
 rintro rfl
 refine bJ ?_
 refine aW (A:=(Int×(List (List Tensor)))×(Unit)) (fun a=>Zv_J1 a.1.1 a.1.2=some r) (fun a=>[(1,(iv a.1.1))]) (fun a=>ow kT27 27 (.slice A2 u.length D2) a.1.2::V) ?_ ?_
 refine bJ ?_
 obtain ⟨e1,M,J⟩:=bd g
 refine aP (A:=Unit) M (fun s a=>[(0,(sc A2 u D2)),(1,(iv s.2.1)),(5,(iv s.2.2))]) (fun s a=>ow kT27 27 (.slice A2 u.length D2) s.1::V) () (aS R) tI ?_
 rintro ⟨j,O,m⟩ _ σ1 T g G
 dsimp only [Zv_L1] at g
 refine cS ?_
 split at g
 refine cV ?_
 obtain ⟨i,g⟩:=gd g
 obtain ⟨q,F,g⟩:=bd g
 refine aR ?_
 refine aZ 0 aC (show 0<u.length by have:=i; omega) (fun U o17 Y=>?_)
 subst Y
 refine bS ?_
 refine jl (K:=kT27) uH 0 m R i.1 i.2 ?_
 rintro ⟨B,D⟩
 refine lO (kO (fo:=0) 0 nd R R R) (lI R (lM _ (tE 2 [1,0]) ?_))
 refine lC 1 tK R (Z9_ok F) R ?_
 rintro _
 refine bD ?_
 refine qM _ (fun w s=>St.unfocus (E:=[ow kT38 38 (.slice B (ix j m).length D) q.2]) q.2 (s.e 2 [1,0]) ?_) ?_
 exact fun I h s=>(n8).put I h (sc B (ix j m) D) q.2 s
 refine eD ?_
 cases g
 exact qA () tI
 refine aR ?_
 cases g
 obtain rfl:=G _ R
 have g:=J
 refine bD ?_
 exact qI ((O,j),()) g tI
 rintro ⟨⟨Z,a0⟩,_⟩ σ1 g
 dsimp only [Zv_J1] at g
 refine eD ?_
 cases g
 exact qF () tI
theorem Zl_ok  {g:(List Int)}{k3:Int}{r:Int}(e:Zl g k3=some r) :
 FnOk Tryz.prog 159 [(.slice A2 N2 D2),(iv k3)] [bF kT3 (.slice A2 N2 D2) g] (fun (h:Unit)=>((iv r),[])):=by
 unfold Zl at e
 refine aU Tryz.func159 R 21 R R fun C V=>?_
 refine cL 0 aB ?_
 rintro rfl
 let q:=RR kT3 A2 D2 g::V
 refine cN q ?_
 refine bJ ?_
 refine aW (A:=(Int)×(Unit)) (fun a=>Zl_J1 a.1=some r) (fun a=>[(1,(iv a.1))]) (fun a=>q) ?_ ?_
 refine bJ ?_
 obtain ⟨I,u,m⟩:=bd e
 refine aP (A:=Unit) u (fun s a=>[(0,(sc A2 g D2)),(1,(iv s.1)),(5,(iv s.2))]) (fun s a=>q) () (aS R) tI ?_
 rintro ⟨k9,F⟩ _ σ1 B e i
 dsimp only [Zl_L1] at e
 refine cS ?_
 split at e
 refine eD ?_
 obtain ⟨j,e⟩:=gd e
 refine aR ?_
 refine aZ 0 aB (show 0<g.length by have:=j; omega) (fun D o14 E=>?_)
 subst E
 refine bJ ?_
 split at e
 refine fD ?_
 cases e
 obtain rfl:=i _ R
 have e:=m
 refine aR ?_
 cases e
 exact qF () (tE 1 [])
 refine n0 ?_
 cases e
 exact qA () tI
 refine aR ?_
 cases e
 obtain rfl:=i _ R
 have e:=m
 refine bD ?_
 exact qI (k9,()) e tI
 rintro ⟨G,_⟩ σ1 e
 dsimp only [Zl_J1] at e
 refine eD ?_
 cases e
 exact qF () (tE 1 [])
theorem Zu_ok  {q:(List Tensor)}{k3:Int}{r:Int}(e:Zu q k3=some r) :
 FnOk Tryz.prog 64 [(.slice A2 N2 D2),(iv k3)] [bF kT38 (.slice A2 N2 D2) q] (fun (h:Unit)=>((iv r),[])):=by
 unfold Zu at e
 refine aU Tryz.func64 R 31 R R fun C V=>?_
 refine cL 0 aB ?_
 rintro rfl
 let E:=RR kT38 A2 D2 q::V
 refine cN E ?_
 refine bJ ?_
 refine aW (A:=(Int)×(Unit)) (fun a=>Zu_J1 a.1=some r) (fun a=>[(1,(iv a.1))]) (fun a=>E) ?_ ?_
 refine bJ ?_
 obtain ⟨e1,F,j⟩:=bd e
 refine aP (A:=Unit) F (fun s a=>[(0,(sc A2 q D2)),(1,(iv s.1)),(5,(iv s.2))]) (fun s a=>E) () (aS R) tI ?_
 rintro ⟨G,m⟩ _ σ1 I e i
 dsimp only [Zu_L1] at e
 refine cS ?_
 split at e
 refine bJ ?_
 obtain ⟨g,e⟩:=gd e
 obtain ⟨Z,B,e⟩:=bd e
 refine aR ?_
 refine aZ 0 aB (show 0<q.length by have:=g; omega) (fun u o21 U=>?_)
 subst U
 refine bS ?_
 refine lO (vz (.pointer (some ⟨u,o21+m.toNat*2,none⟩)) (kg iB R R)) (eH (K:=kT38) 0 m dT38.dec R g.1 g.2 ?_)
 rintro ⟨⟨J,O⟩,⟨M,T⟩⟩
 refine lO (fv (fo:=0) 0 fW R R R) (lI R (lM _ (fun w s=>(s.d 1 R)) ?_))
 refine lC 1 pS R (Zl_ok B) R ?_
 rintro _
 refine fD ?_
 split at e
 refine fD ?_
 cases e
 obtain rfl:=i _ R
 have e:=j
 refine aR ?_
 cases e
 exact qF () (tE 4 [])
 refine bN ?_
 obtain ⟨a0,D,e⟩:=bd e
 refine bN ?_
 refine lO (vz (.pointer (some ⟨u,o21+m.toNat*2+1,none⟩)) (kg jv R R)) (lO (fv (fo:=1) 0 fW R R R) (lI R (lM _ (fun w s=>(s.d 2 R)) ?_)))
 refine lC 1 pS R (Zl_ok D) R ?_
 rintro _
 refine cS ?_
 split at e
 refine cS ?_
 cases e
 obtain rfl:=i _ R
 have e:=j
 refine aR ?_
 cases e
 exact qF () (tE 4 [])
 refine cS ?_
 cases e
 exact qA () (tE 3 [])
 refine aR ?_
 cases e
 obtain rfl:=i _ R
 have e:=j
 refine bD ?_
 exact qI (G,()) e tI
 rintro ⟨Y,_⟩ σ1 e
 dsimp only [Zu_J1] at e
 refine eD ?_
 cases e
 exact qF () (tE 1 [])
theorem Zm_ok  {i:(List (List Tensor))}{k3:Int}{r:Int}(e:Zm i k3=some r) :
 FnOk Tryz.prog 16 [(.slice A2 N2 D2),(iv k3)] [bF kT27 (.slice A2 N2 D2) i] (fun (h:Unit)=>((iv r),[])):=by
 unfold Zm at e
 refine aU Tryz.func16 R 21 R R fun C V=>?_
 refine cL 0 aB ?_
 rintro rfl
 let u:=RR kT27 A2 D2 i::V
 refine cN u ?_
 refine bJ ?_
 refine aW (A:=(Int)×(Unit)) (fun a=>Zm_J1 a.1=some r) (fun a=>[(1,(iv a.1))]) (fun a=>u) ?_ ?_
 refine bJ ?_
 obtain ⟨U,B,m⟩:=bd e
 refine aP (A:=Unit) B (fun s a=>[(0,(sc A2 i D2)),(1,(iv s.1)),(5,(iv s.2))]) (fun s a=>u) () (aS R) tI ?_
 rintro ⟨E,D⟩ _ σ1 F e j
 dsimp only [Zm_L1] at e
 refine cS ?_
 split at e
 refine bJ ?_
 obtain ⟨g,e⟩:=gd e
 obtain ⟨T,q,e⟩:=bd e
 refine aR ?_
 refine aZ 0 aB (show 0<i.length by have:=g; omega) (fun J o17 M=>?_)
 subst M
 refine bS ?_
 refine eH (K:=kT27) 0 D dT27.dec R g.1 g.2 ?_
 rintro ⟨G,I⟩
 refine lO (fv (fo:=0) 0 nd R R R) (lI R (lM _ (fun w s=>(s.d 1 R)) ?_))
 refine lC 1 vh R (Zu_ok q) R ?_
 rintro _
 refine cS ?_
 split at e
 refine cS ?_
 cases e
 obtain rfl:=j _ R
 have e:=m
 refine aR ?_
 cases e
 exact qF () (tE 3 [])
 refine cS ?_
 cases e
 exact qA () (tE 2 [])
 refine aR ?_
 cases e
 obtain rfl:=j _ R
 have e:=m
 refine bD ?_
 exact qI (E,()) e tI
 rintro ⟨O,_⟩ σ1 e
 dsimp only [Zm_J1] at e
 refine eD ?_
 cases e
 exact qF () (tE 1 [])
end Go.Proofs.YtmpnollfdpdipaaGreatDoor
