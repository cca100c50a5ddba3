import Derived.Test.YtoffdamdpmeoiaaGreatDoorBkF
set_option linter.unusedVariables false
set_option maxRecDepth 20000
namespace Go.Proofs.YtoffdamdpmeoiaaGreatDoor
open Go Go.Pg
variable {A2 A3 A4 A5 A6 A7 A8 A9 A10:Option Addr}{D2 D3 D4 D5 D6 D7 D8 D9 D10 N2 N3 N4 N5 N6 N7 N8 N9 N10:Nat}
theorem Z1q_ok  {e:(List Int)}{a:Int}{r:Int}(b:Z1q e a=some r) :
 FnOk Tryz.prog 22 [(.slice A2 N2 D2),(iv a)] [aO kT3 (.slice A2 N2 D2) e] (fun (h:Unit)=>((iv r),[])):=by
 unfold Z1q at b
 refine aR Tryz.func22 R 12 R R fun C V=>?_
 refine cL 0 aA ?_
 rintro rfl
 let i:=RR kT3 A2 D2 e::V
 refine cN i ?_
 refine yi ?_
 split at b
 refine dN ?_
 cases b
 exact qF () (tE 1 [])
 refine dJ ?_
 cases b
 exact qF () (tE 1 [])
theorem Z2u_ok  {b:Node}{e:Int}{r:Int}(a:Z2u b e=some r) :
 FnOk Tryz.prog 44 [(.agg [(iv b.Op),(.slice A2 N2 D2),(.slice A3 N3 D3),(.slice A4 N4 D4),(aG b.Form),(.slice A5 N5 D5)].toArray),(iv e)] [aO kT3 (.slice A2 N2 D2) b.Args,aO kT3 (.slice A3 N3 D3) b.Dims,aO kT3 (.slice A4 N4 D4) b.Ints,aO kT3 (.slice A5 N5 D5) b.Data] (fun (h:Unit)=>((iv r),[])):=by
 unfold Z2u at a
 refine aR Tryz.func44 R 37 R R fun C V=>?_
 refine cL 0 aA ?_
 rintro rfl
 refine cL 1 aA ?_
 rintro rfl
 refine cL 2 aA ?_
 rintro rfl
 refine cL 3 aA ?_
 rintro rfl
 let B:=RR kT3 A2 D2 b.Args::RR kT3 A3 D3 b.Dims::RR kT3 A4 D4 b.Ints::RR kT3 A5 D5 b.Data::V
 refine cN B ?_
 refine aZ ?_
 refine eT R fun D=>?_
 refine aZ ?_
 let i:=aK D [(iv b.Op),(sc A2 b.Args D2),(sc A3 b.Dims D3),(sc A4 b.Ints D4),(aG b.Form),(sc A5 b.Data D5)] 75::B
 refine qN i ?_
 refine aZ ?_
 obtain ⟨I,u,a⟩:=bd a
 refine bL ?_
 refine lM _ (fun w s=>(s.d 1 R)) ?_
 refine lC 1 t' R (Z1q_ok u) R ?_
 rintro _
 refine lN i ?_
 refine dJ ?_
 split at a
 refine dN ?_
 cases a
 exact qF () (tE 5 [])
 refine bL ?_
 obtain ⟨E,j,a⟩:=bd a
 refine bL ?_
 refine lM _ (fun w s=>(s.d 2 R)) ?_
 refine lC 1 t' R (Z1q_ok j) R ?_
 rintro _
 refine lN i ?_
 refine dJ ?_
 split at a
 refine dN ?_
 cases a
 exact qF () (tE 5 [])
 refine bL ?_
 obtain ⟨F,l,a⟩:=bd a
 refine bL ?_
 refine lM _ (fun w s=>(s.d 3 R)) ?_
 refine lC 1 t' R (Z1q_ok l) R ?_
 rintro _
 refine lN i ?_
 refine dJ ?_
 split at a
 refine dN ?_
 cases a
 exact qF () (tE 5 [])
 refine dN ?_
 refine lO (vz (il b.Form) (eC f' R)) ?_
 refine hG ?_
 split at a
 refine dN ?_
 cases a
 exact qF () (tE 5 [])
 refine bL ?_
 obtain ⟨G,q,a⟩:=bd a
 refine bL ?_
 refine lM _ (fun w s=>(s.d 4 R)) ?_
 refine lC 1 t' R (Z1q_ok q) R ?_
 rintro _
 refine lN i ?_
 refine dJ ?_
 split at a
 refine dN ?_
 cases a
 exact qF () (tE 5 [])
 refine dJ ?_
 cases a
 exact qF () (tE 5 [])
theorem Z1h_ok  {j:(List Node)}{q:Int}{r:Int}(b:Z1h j q=some r) :
 FnOk Tryz.prog 21 [(.slice A2 N2 D2),(iv q)] [aO ks (.slice A2 N2 D2) j] (fun (h:Unit)=>((iv r),[])):=by
 unfold Z1h at b
 refine aR Tryz.func21 R 27 R R fun C V=>?_
 refine cL 0 aA ?_
 rintro rfl
 let Y:=RR ks A2 D2 j::V
 refine cN Y ?_
 refine yi ?_
 split at b
 refine dN ?_
 cases b
 exact qF () (tE 1 [])
 refine bL ?_
 refine bB (A:=(Int)×(Unit)) (fun a=>Z1h_J1 a.1=some r) (fun a=>[(1,(iv a.1))]) (fun a=>Y) ?_ ?_
 refine cB ?_
 obtain ⟨e1,Z,D⟩:=bd b
 refine bD (A:=Unit) Z (fun s a=>[(0,(sc A2 j D2)),(1,(iv s.1)),(5,(iv s.2))]) (fun s a=>Y) () (aS R) tI ?_
 rintro ⟨u,i⟩ _ σ1 a0 b B
 dsimp only [Z1h_L1] at b
 refine dG ?_
 split at b
 refine cB ?_
 obtain ⟨l,b⟩:=gd b
 obtain ⟨a3,E,b⟩:=bd b
 refine aV ?_
 refine bE 0 aA (show 0<j.length by have:=l; omega) (fun a2 o21 ha=>?_)
 subst ha
 refine cP ?_
 refine fV (K:=ks) 0 i dT75.dec R l.1 l.2 ?_
 rintro ⟨-,⟨G,M⟩,⟨I,O⟩,⟨J,T⟩,-,⟨L,U⟩⟩
 refine lO (vz (.agg [(iv (ix j i).Op),(sc G ((ix j i).Args) M),(sc I ((ix j i).Dims) O),(sc J ((ix j i).Ints) T),(aG (ix j i).Form),(sc L ((ix j i).Data) U)].toArray) (eK (fo:=0) 0 yq yp R R R R)) (lI R (lM _ (fun w s=>(((((s.d 1 R).d 3 R).d 5 R).d 7 R).e 9 [3,2,1,0,4,5,6,7,8])) ?_))
 refine lC 4 CI R (Z2u_ok E) R ?_
 rintro _
 refine dG ?_
 split at b
 refine dG ?_
 cases b
 obtain rfl:=B _ R
 have b:=D
 refine aV ?_
 cases b
 exact qF () (tE 6 [])
 refine dG ?_
 cases b
 exact qA () (tE 5 [])
 refine aV ?_
 cases b
 obtain rfl:=B _ R
 have b:=D
 refine aZ ?_
 exact qI (u,()) b tI
 rintro ⟨F,_⟩ σ1 b
 dsimp only [Z1h_J1] at b
 refine eD ?_
 cases b
 exact qF () (tE 1 [])
theorem Z36_ok  {e:Graph}{a:Int}{r:Int}(b:Z36 e a=some r) :
 FnOk Tryz.prog 5 [(.agg [(.slice A2 N2 D2),(.slice A3 N3 D3)].toArray),(iv a)] [aO ks (.slice A2 N2 D2) e.Nodes,aO kT3 (.slice A3 N3 D3) e.Outs] (fun (h:Unit)=>((iv r),[])):=by
 unfold Z36 at b
 refine aR Tryz.func5 R 18 R R fun C V=>?_
 refine cL 0 aA ?_
 rintro rfl
 refine cL 1 aA ?_
 rintro rfl
 let q:=RR ks A2 D2 e.Nodes::RR kT3 A3 D3 e.Outs::V
 refine cN q ?_
 refine aZ ?_
 refine eT R fun u=>?_
 refine aZ ?_
 let j:=aK u [(sc A2 e.Nodes D2),(sc A3 e.Outs D3)] 25::q
 refine qN j ?_
 refine aZ ?_
 obtain ⟨B,l,b⟩:=bd b
 refine bL ?_
 refine lM _ (fun w s=>(s.d 1 R)) ?_
 refine lC 1 CJ R (Z1h_ok l) R ?_
 rintro _
 refine lN j ?_
 refine dJ ?_
 split at b
 refine dN ?_
 cases b
 exact qF () (tE 3 [])
 refine bL ?_
 obtain ⟨D,i,b⟩:=bd b
 refine bL ?_
 refine lM _ (fun w s=>(s.d 2 R)) ?_
 refine lC 1 t' R (Z1q_ok i) R ?_
 rintro _
 refine lN j ?_
 refine dJ ?_
 split at b
 refine dN ?_
 cases b
 exact qF () (tE 3 [])
 refine dJ ?_
 cases b
 exact qF () (tE 3 [])
theorem Z0d_ok  {e:(List Int)}{r:(List Int)}(b:Z0d e=some r) :
 FnOk Tryz.prog 28 [(.slice A2 N2 D2)] [aO kT3 (.slice A2 N2 D2) e] (fun (h:HH)=>((s3 h),[ow kT3 3 (s3 h) r])):=by
 unfold Z0d at b
 refine aR Tryz.func28 R 22 R R fun C V=>?_
 refine cL 0 aA ?_
 rintro rfl
 let u:=RR kT3 A2 D2 e::V
 refine cN u ?_
 refine cB ?_
 obtain ⟨j,b⟩:=gd b
 refine aV ?_
 refine fW (K:=kT3) (m:=(e.length:Int)) (z:=(0:Int)) R R bH cO kE (Zr.zk zT3 gN) (by decide) R R j.1 j.2.1 j.2.2 (fun A4 D4=>(lS R (aB (aE (aH (bB (A:=((List Int))×(Unit)) (fun a=>Z0d_J1 a.1=some r) (fun a=>[(3,(sc A4 (List.replicate (e.length:Int).toNat (0:Int)) D4))]) (fun a=>ow kT3 3 (.slice A4 (List.replicate (e.length:Int).toNat (0:Int)).length D4) a.1::u) ?_ ?_))))))
 refine cB ?_
 obtain ⟨T,F,E⟩:=bd b
 refine bD (A:=Unit) F (fun s a=>[(0,(sc A2 e D2)),(3,(sc A4 (List.replicate (e.length:Int).toNat (0:Int)) D4)),(4,(iv s.2))]) (fun s a=>ow kT3 3 (.slice A4 (List.replicate (e.length:Int).toNat (0:Int)).length D4) s.1::u) () (aS R) tI ?_
 rintro ⟨G,l⟩ _ σ1 J b D
 dsimp only [Z0d_L1] at b
 refine dG ?_
 split at b
 refine cV ?_
 obtain ⟨q,b⟩:=gd b
 obtain ⟨i,b⟩:=gd b
 refine cV ?_
 refine bE 1 aA (show 0<e.length by have:=q; omega) (fun L o19 B=>?_)
 subst B
 refine aZ ?_
 refine bE 0 aD (show 0<(List.replicate (e.length:Int).toNat (0:Int)).length by have:=i; omega) (fun M o22 B=>?_)
 subst B
 refine cP ?_
 refine eO (K:=kT3) (x':=(ix e l)) 0 l R R cO R R i.1 i.2 ?_ ?_
 exact fun I h s=>(gM).put I h () (ix e l) s
 refine dN ?_
 cases b
 exact qA () tI
 refine aV ?_
 cases b
 obtain rfl:=D _ R
 have b:=E
 refine aZ ?_
 exact qI (G,()) b tI
 rintro ⟨O,_⟩ σ1 b
 dsimp only [Z0d_J1] at b
 refine eD ?_
 cases b
 exact qF (A4,(List.replicate (e.length:Int).toNat (0:Int)).length,D4) (tE 2 [0])
theorem Z37_ok  {a:Node}{r:Node}(l:Z37 a=some r) :
 FnOk Tryz.prog 48 [(.agg [(iv a.Op),(.slice A2 N2 D2),(.slice A3 N3 D3),(.slice A4 N4 D4),(aG a.Form),(.slice A5 N5 D5)].toArray)] [aO kT3 (.slice A2 N2 D2) a.Args,aO kT3 (.slice A3 N3 D3) a.Dims,aO kT3 (.slice A4 N4 D4) a.Ints,aO kT3 (.slice A5 N5 D5) a.Data] (fun (h:HH×HH×HH×HH)=>((.agg [(iv r.Op),(s3 h.1),(s3 h.2.1),(s3 h.2.2.1),(aG r.Form),(s3 h.2.2.2)].toArray),[ow kT3 3 (s3 h.1) r.Args,ow kT3 3 (s3 h.2.1) r.Dims,ow kT3 3 (s3 h.2.2.1) r.Ints,ow kT3 3 (s3 h.2.2.2) r.Data])):=by
 unfold Z37 at l
 refine aR Tryz.func48 R 27 R R fun C V=>?_
 refine cL 0 aA ?_
 rintro rfl
 refine cL 1 aA ?_
 rintro rfl
 refine cL 2 aA ?_
 rintro rfl
 refine cL 3 aA ?_
 rintro rfl
 let M:=RR kT3 A2 D2 a.Args::RR kT3 A3 D3 a.Dims::RR kT3 A4 D4 a.Ints::RR kT3 A5 D5 a.Data::V
 refine cN M ?_
 refine aZ ?_
 refine eT R fun U=>?_
 refine bG R R qx (fun Y=>(aB ?_))
 let B:=aK U [(iv a.Op),(sc A2 a.Args D2),(sc A3 a.Dims D3),(sc A4 a.Ints D4),(aG a.Form),(sc A5 a.Data D5)] 75::M
 refine aV ?_
 refine bG R R qx (fun F=>(aB (aE (aH (aC (lO (eW 0 u0 R) (lO (eS 2 fC R R R) (lO (eW 0 jW R) (dI 0 R R cO R R R R R (lN (aK F [(iv a.Op),(.slice none 0 0),(.slice none 0 0),(.slice none 0 0),(aG ([]:aN)),(.slice none 0 0)] 42::_::B) ?_))))))))))
 refine aV ?_
 obtain ⟨E,G,l⟩:=bd l
 refine aV ?_
 refine lM _ (fun w s=>(s.d 3 R)) ?_
 refine lC 1 u3 R (Z0d_ok G) R ?_
 rintro ⟨A11,N11,D11⟩
 refine aM 0 aD ?_
 rintro rfl
 refine cP ?_
 refine dI 1 R R fK R R R R R (lN (_::aK F [(iv a.Op),(sc A11 E D11),(.slice none 0 0),(.slice none 0 0),(aG ([]:aN)),(.slice none 0 0)] 42::_::B) ?_)
 refine aV ?_
 obtain ⟨b,I,l⟩:=bd l
 refine aV ?_
 refine lM _ (fun w s=>(s.d 5 R)) ?_
 refine lC 1 u3 R (Z0d_ok I) R ?_
 rintro ⟨A14,N14,D14⟩
 refine aM 0 aD ?_
 rintro rfl
 refine cP ?_
 refine dI 2 R R fK R R R R R (lN (_::_::aK F [(iv a.Op),(sc A11 E D11),(sc A14 b D14),(.slice none 0 0),(aG ([]:aN)),(.slice none 0 0)] 42::_::B) ?_)
 refine aV ?_
 obtain ⟨j,J,l⟩:=bd l
 refine aV ?_
 refine lM _ (fun w s=>(s.d 7 R)) ?_
 refine lC 1 u3 R (Z0d_ok J) R ?_
 rintro ⟨e,O,i⟩
 refine aM 0 aD ?_
 rintro rfl
 refine cP ?_
 refine dI 3 R R fK R R R R R (lN (_::_::_::aK F [(iv a.Op),(sc A11 E D11),(sc A14 b D14),(sc e j i),(aG ([]:aN)),(.slice none 0 0)] 42::_::B) ?_)
 refine eD ?_
 refine dI 3 R R pG R R R R R (lN (_::_::_::aK F [(iv a.Op),(sc A11 E D11),(sc A14 b D14),(sc e j i),(aG a.Form),(.slice none 0 0)] 42::_::B) ?_)
 refine aV ?_
 obtain ⟨D,L,l⟩:=bd l
 refine aV ?_
 refine lM _ (fun w s=>(s.d 9 R)) ?_
 refine lC 1 u3 R (Z0d_ok L) R ?_
 rintro ⟨q,T,u⟩
 refine aM 0 aD ?_
 rintro rfl
 refine cP ?_
 refine dI 4 R R fK R R R R R (lN (_::_::_::_::aK F [(iv a.Op),(sc A11 E D11),(sc A14 b D14),(sc e j i),(aG a.Form),(sc q D u)] 42::_::B) ?_)
 refine cV ?_
 refine aL 5 R R hH R R R R R R (lN (_::_::_::_::_::aK Y [(iv a.Op),(sc A11 E D11),(sc A14 b D14),(sc e j i),(aG a.Form),(sc q D u)] 42::B) ?_)
 refine aV ?_
 cases l
 exact qS ((A11,E.length,D11),(A14,b.length,D14),(e,j.length,i),(q,D.length,u)) (tE 11 [3,2,1,0])
theorem Z0w_ok  {i:(List Node)}{r:(List Node)}(b:Z0w i=some r) :
 FnOk Tryz.prog 27 [(.slice A2 N2 D2)] [aO ks (.slice A2 N2 D2) i] (fun (h:HH)=>((s3 h),[ow cJ 42 (s3 h) r])):=by
 unfold Z0w at b
 refine aR Tryz.func27 R 23 R R fun C V=>?_
 refine cL 0 aA ?_
 rintro rfl
 let W0:=RR ks A2 D2 i::V
 refine cN W0 ?_
 refine cB ?_
 obtain ⟨u,b⟩:=gd b
 refine aV ?_
 refine fW (K:=cJ) (m:=(i.length:Int)) (z:=zT42.z) R R jx hH CK (Zr.zk zT42 qx) (by decide) R R u.1 u.2.1 u.2.2 (fun A4 D4=>(lS R (aB (aE (aH (bB (A:=((List Node))×(Unit)) (fun a=>Z0w_J1 a.1=some r) (fun a=>[(3,(sc A4 (List.replicate (i.length:Int).toNat zT42.z) D4))]) (fun a=>ow cJ 42 (.slice A4 (List.replicate (i.length:Int).toNat zT42.z).length D4) a.1::W0) ?_ ?_))))))
 refine cB ?_
 obtain ⟨e1,a7,a6⟩:=bd b
 refine bD (A:=Unit) a7 (fun s a=>[(0,(sc A2 i D2)),(3,(sc A4 (List.replicate (i.length:Int).toNat zT42.z) D4)),(4,(iv s.2))]) (fun s a=>ow cJ 42 (.slice A4 (List.replicate (i.length:Int).toNat zT42.z).length D4) s.1::W0) () (aS R) tI ?_
 rintro ⟨a8,i25⟩ _ σ1 a9 b a5
 dsimp only [Z0w_L1] at b
 refine dG ?_
 split at b
 refine cV ?_
 obtain ⟨l,b⟩:=gd b
 obtain ⟨j,B,b⟩:=bd b
 obtain ⟨q,b⟩:=gd b
 refine cV ?_
 refine bE 1 aA (show 0<i.length by have:=l; omega) (fun ag o29 ha=>?_)
 subst ha
 refine cP ?_
 refine fV (K:=ks) 1 i25 dT75.dec R l.1 l.2 ?_
 rintro ⟨-,⟨D,T⟩,⟨E,U⟩,⟨F,Y⟩,-,⟨G,Z⟩⟩
 refine lO (vz (.agg [(iv (ix i i25).Op),(sc D ((ix i i25).Args) T),(sc E ((ix i i25).Dims) U),(sc F ((ix i i25).Ints) Y),(aG (ix i i25).Form),(sc G ((ix i i25).Data) Z)].toArray) (eK (fo:=0) 0 yq yp R R R R)) (lM _ (fun w s=>(((((s.d 1 R).d 3 R).d 5 R).d 7 R).e 10 [3,2,1,0,4,5,6,7,8,9])) ?_)
 refine lC 4 CL R (Z37_ok B) R ?_
 rintro ⟨⟨J,aa,a0⟩,⟨L,ab,a2⟩,⟨M,ac,a3⟩,⟨O,ae,a4⟩⟩
 refine aM 0 aD ?_
 rintro rfl
 refine aM 1 aD ?_
 rintro rfl
 refine aM 2 aD ?_
 rintro rfl
 refine aM 3 aD ?_
 rintro rfl
 refine bE 9 aD (show 0<(List.replicate (i.length:Int).toNat zT42.z).length by have:=q; omega) (fun ai o42 ha=>?_)
 subst ha
 refine cP ?_
 refine lM _ (fun w s=>(s.f 10 [9,1,0,9])) ?_
 refine eO (K:=cJ) (x':=j) 4 i25 R R hH R R q.1 q.2 ?_ ?_
 exact fun I h s=>(qw).put I h ((),(sc J j.Args a0),(sc L j.Dims a2),(sc M j.Ints a3),(),(sc O j.Data a4)) j s
 refine dN ?_
 cases b
 exact qA () (tE 6 [0])
 refine aV ?_
 cases b
 obtain rfl:=a5 _ R
 have b:=a6
 refine aZ ?_
 exact qI (a8,()) b tI
 rintro ⟨aj,_⟩ σ1 b
 dsimp only [Z0w_J1] at b
 refine eD ?_
 cases b
 exact qF (A4,(List.replicate (i.length:Int).toNat zT42.z).length,D4) (tE 2 [0])
theorem Z1i_ok  {a:Graph}{r:Graph}(e:Z1i a=some r) :
 FnOk Tryz.prog 7 [(.agg [(.slice A2 N2 D2),(.slice A3 N3 D3)].toArray)] [aO ks (.slice A2 N2 D2) a.Nodes,aO kT3 (.slice A3 N3 D3) a.Outs] (fun (h:HH×HH)=>((.agg [(s3 h.1),(s3 h.2)].toArray),[ow cJ 42 (s3 h.1) r.Nodes,ow kT3 3 (s3 h.2) r.Outs])):=by
 unfold Z1i at e
 refine aR Tryz.func7 R 13 R R fun C V=>?_
 refine cL 0 aA ?_
 rintro rfl
 refine cL 1 aA ?_
 rintro rfl
 let u:=RR ks A2 D2 a.Nodes::RR kT3 A3 D3 a.Outs::V
 refine cN u ?_
 refine aZ ?_
 refine eT R fun D=>?_
 refine bG R R yy (fun E=>(aB ?_))
 let l:=aK D [(sc A2 a.Nodes D2),(sc A3 a.Outs D3)] 25::u
 refine aV ?_
 refine bG R R yy (fun B=>(aB (aE (aH ?_))))
 obtain ⟨j,q,e⟩:=bd e
 refine aV ?_
 refine lM _ (fun w s=>(s.d 3 R)) ?_
 refine lC 1 CM R (Z0w_ok q) R ?_
 rintro ⟨A9,N9,D9⟩
 refine aM 0 aD ?_
 rintro rfl
 refine cP ?_
 refine dI 1 R R Av R R R R R (lN (_::aK B [(sc A9 j D9),(.slice none 0 0)] 30::_::l) ?_)
 refine aV ?_
 obtain ⟨b,i,e⟩:=bd e
 refine aV ?_
 refine lM _ (fun w s=>(s.d 5 R)) ?_
 refine lC 1 u3 R (Z0d_ok i) R ?_
 rintro ⟨A12,N12,D12⟩
 refine aM 0 aD ?_
 rintro rfl
 refine cP ?_
 refine dI 2 R R fK R R R R R (lN (_::_::aK B [(sc A9 j D9),(sc A12 b D12)] 30::_::l) ?_)
 refine cV ?_
 refine aL 3 R R nj R R R R R R (lN (_::_::_::aK E [(sc A9 j D9),(sc A12 b D12)] 30::l) ?_)
 refine aV ?_
 cases e
 exact qS ((A9,j.length,D9),(A12,b.length,D12)) (tE 7 [1,0])
theorem fN  {b e:aN}{mG:Int}{r:Int}(a:dE b e=some r) :
 FnOk Tryz.prog 165 [(aG b),(aG e)] [gG mG] (fun (_:Unit)=>((iv r),[])):=by
 unfold dE at a
 obtain ⟨h,a⟩:=gd a
 obtain rfl:=so a
 exact Al fun w i=>Tryz.stringslite_Index ⟨b.toArray⟩ ⟨e.toArray⟩ mG w (by simpa [ByteArray.size] using h) i
theorem Z2m_ok  {p1:aN}{a:aN}{mG:Int}{r:Int}(b:Z2m p1 a=some r) :
 FnOk Tryz.prog 151 [(aG p1),(aG a)] [gG mG] (fun (h:Unit)=>((iv r),[])):=by
 unfold Z2m at b
 refine aR Tryz.func151 R 8 R R fun C V=>?_
 let i:=gG mG::V
 refine cN i ?_
 refine cB ?_
 obtain ⟨j,e,b⟩:=bd b
 refine aC (lO (vp (aG p1) R) (lO (vp (aG a) R) (lM _ (fun w s=>(s.dgx 0 R)) ?_)))
 refine lC 1 xv R (fN e) R ?_
 rintro _
 refine lN i ?_
 refine bL ?_
 cases b
 exact qF () (tE 1 [])
theorem Z42_ok  {p1:aN}{a:aN}{mG:Int}{r:Bool}(b:Z42 p1 a=some r) :
 FnOk Tryz.prog 116 [(aG p1),(aG a)] [gG mG] (fun (h:Unit)=>((.bool r),[])):=by
 unfold Z42 at b
 refine aR Tryz.func116 R 9 R R fun C V=>?_
 let i:=gG mG::V
 refine cN i ?_
 refine cB ?_
 obtain ⟨j,e,b⟩:=bd b
 refine aC (lO (vp (aG p1) R) (lO (vp (aG a) R) (lM _ (fun w s=>(s.dgx 0 R)) ?_)))
 refine lC 1 xw R (Z2m_ok e) R ?_
 rintro _
 refine lN i ?_
 refine cV ?_
 cases b
 exact qF () (tE 1 [])
theorem Z18_ok  {e:(List Int)}{i:(List Int)}{r:Bool}(b:Z18 e i=some r) :
 FnOk Tryz.prog 204 [(.slice A2 N2 D2),(.slice A4 N4 D4)] [aO kT3 (.slice A2 N2 D2) e,aO kT3 (.slice A4 N4 D4) i] (fun (h:Unit)=>((.bool r),[])):=by
 unfold Z18 at b
 refine aR Tryz.func204 R 26 R R fun C V=>?_
 refine cL 0 aA ?_
 rintro rfl
 refine cL 1 aA ?_
 rintro rfl
 let B:=RR kT3 A2 D2 e::RR kT3 A4 D4 i::V
 refine cN B ?_
 refine nP ?_
 split at b
 refine dN ?_
 cases b
 exact qF () (tE 2 [])
 refine bL ?_
 refine bB (A:=(Unit)×(Unit)) (fun a=>Z18_J1=some r) (fun a=>[]) (fun a=>B) ?_ ?_
 refine dN ?_
 obtain ⟨L,E,u⟩:=bd b
 refine bD (A:=Unit) E (fun s a=>[(0,(sc A2 e D2)),(1,(sc A4 i D4)),(12,(il e)),(13,(iv s))]) (fun s a=>B) () (aS R) tI ?_
 rintro J _ σ1 F b j
 dsimp only [Z18_L1] at b
 refine cB ?_
 split at b
 refine jl ?_
 obtain ⟨l,b⟩:=gd b
 obtain ⟨q,b⟩:=gd b
 refine bC 0 aA (show 0<e.length by have:=l; omega) (fun G o18 D=>?_)
 subst D
 refine bC 1 aA (show 0<i.length by have:=q; omega) (fun I o21 D=>?_)
 subst D
 refine dP 9 [] bS fun O M=>?_
 refine xg 0 [] ?_
 refine dD (aE ?_)
 split at b
 refine dG ?_
 cases b
 obtain rfl:=j _ R
 have b:=u
 refine aV ?_
 cases b
 exact qF () (tE 2 [])
 refine dN ?_
 cases b
 exact qA () tI
 refine aV ?_
 cases b
 obtain rfl:=j _ R
 have b:=u
 refine aZ ?_
 exact dC ((),()) b trivial tI
 rintro ⟨_,_⟩ σ1 b
 dsimp only [Z18_J1] at b
 refine cB ?_
 cases b
 exact qF () (tE 2 [])
theorem iX  {p1:aN}{a:aN}{mG:Int}{r:aN×aN×Bool}(b:eM p1 a=some r) :
 FnOk Tryz.prog 217 [(aG p1),(aG a)] [gG mG] (fun (h:Unit)=>((.tuple [(aG r.1),(aG r.2.1),(.bool r.2.2)].toArray),[])):=by
 unfold eM at b
 refine aR Tryz.func217 R 23 R R fun C V=>?_
 let q:=gG mG::V
 refine cN q ?_
 refine aZ ?_
 refine lO (vp (aG ([]:aN)) R) (lO (vp (aG ([]:aN)) R) ?_)
 refine cV ?_
 obtain ⟨j,l,b⟩:=bd b
 refine aC (lO (vp (aG p1) R) (lO (vp (aG a) R) (lM _ (fun w s=>(s.dgx 0 R)) ?_)))
 refine lC 1 xv R (fN l) R ?_
 rintro _
 refine lN q ?_
 refine dG ?_
 split at b
 refine aZ ?_
 obtain ⟨e,b⟩:=gd b
 obtain ⟨i,b⟩:=gd b
 refine dP 12 [] bS fun B u=>?_
 refine dR 0 R (vp (aG p1) R) (dR 1 R (vI R) (dR 2 R (vz (aG (sub p1 (0:Int) j)) (iL (0:Int) j f' R R R e.1 e.2.1 e.2.2)) (dR 3 R (vp (aG p1) R) (dR 4 R (vI R) (dR 5 R (vp (aG a) R) (dR 6 R (vz (il a) (eC f' R)) (dR 7 R (iE R R) (dR 8 R (vz (aG (sub p1 (aI (j+(a.length:Int))) (p1.length:Int))) (iL (aI (j+(a.length:Int))) (p1.length:Int) f' R R R i.1 i.2.1 i.2.2)) (dR 9 R (vp (aG (sub p1 (0:Int) j)) R) (dR 10 R (vp (aG (sub p1 (aI (j+(a.length:Int))) (p1.length:Int))) R) (dR 11 R (vB R) (dD ?_))))))))))))
 refine aV ?_
 cases b
 exact iS () (tE 1 [])
 refine cV ?_
 refine lO (vp (aG p1) R) (lO (vp (aG p1) R) (lO (vp (aG ([]:aN)) R) ?_))
 refine bL ?_
 cases b
 exact iS () (tE 1 [])
theorem Z3b_ok  {p1:aN}{a:aN}{mG:Int}{r:aN×aN×Bool}(b:Z3b p1 a=some r) :
 FnOk Tryz.prog 215 [(aG p1),(aG a)] [gG mG] (fun (h:Unit)=>((.tuple [(aG r.1),(aG r.2.1),(.bool r.2.2)].toArray),[])):=by
 unfold Z3b at b
 refine aR Tryz.func215 R 13 R R fun C V=>?_
 let j:=gG mG::V
 refine cN j ?_
 refine aZ ?_
 refine lO (vp (aG ([]:aN)) R) (lO (vp (aG ([]:aN)) R) ?_)
 refine bL ?_
 obtain ⟨e,i,b⟩:=bd b
 refine aC (lO (vp (aG p1) R) (lO (vp (aG a) R) (lM _ (fun w s=>(s.dgx 0 R)) ?_)))
 refine lC 1 B6 R (iX i) R ?_
 rintro _
 refine lN j ?_
 refine lO (vp (aG e.1) R) (lO (vp (aG e.2.1) R) (lB R (lO (vp (aG e.1) R) (lO (vp (aG e.2.1) R) ?_))))
 refine bL ?_
 cases b
 exact iS () (tE 1 [])
theorem Z3l_ok  {b e:aN}{r:Int}(a:Z3l b e=some r) :
 FnOk Tryz.prog 220 [(aG b),(aG e)] [] (fun (_:Unit)=>((iv r),[])):=by
 unfold Z3l at a
 split at a
 ·rename_i c
  obtain rfl:=so a
  exact rK fun w=>Tryz.strings_Count_one ⟨b.toArray⟩ c w
 ·cases a
theorem Z0g_ok  {p1:aN}{l:aN}{b:Int}{n4:Int}{mG:Int}{r:(List aN)}(j:Z0g p1 l b n4=some r) :
 FnOk Tryz.prog 218 [(aG p1),(aG l),(iv b),(iv n4)] [gG mG] (fun (h:HH)=>((.slice h.1 h.2.1 h.2.2),[aO dX (.slice h.1 h.2.1 h.2.2) r])):=by
 unfold Z0g at j
 refine aR Tryz.func218 R 66 R R fun C V=>?_
 refine cN (_::V) ?_
 let G:List HP:=gG mG::V
 refine cN G ?_
 refine aH (aC (lS R (aB (aE (aH (aH (aC (lI R (lO (kO R R) (aB (aE ?_)))))))))))
 rcases cF j with ⟨a2,j⟩|⟨a2,j⟩
 refine bJ R a2 (aH (aC (lS R (aB (aE (bY (bZ ?_)))))))
 obtain rfl:=so j
 exact qF (none,0,0) (fun w s=>((s.nilr dX).e 2 [0]))
 refine aY R a2 (bQ (aE (aH (aH (aC (lO (vp (aG l) R) (lO (vz (.bool (l==([]:aN))) (jU R R R)) (aB (aE ?_)))))))))
 rcases cF j with ⟨a3,j⟩|⟨a3,j⟩
 refine bJ R a3 ?_
 cases j
 refine aY R a3 (bQ (aE (aH (bB (A:=(Int)×(Unit)) (fun a=>Z0g_J2 p1 l b a.1=some r) (fun a=>[(0,(aG p1)),(1,(aG l)),(2,(iv b)),(3,(iv a.1))]) (fun a=>G) ?_ ?_))))
 refine aH (aC (lI R (lO (jG R R) (aB (aE ?_)))))
 rcases cF j with ⟨a4,j⟩|⟨a4,j⟩
 refine bJ R a4 ?_
 obtain ⟨r8,ae,j⟩:=bd j
 refine aC (lO (vp (aG p1) R) (lO (vp (aG l) R) (lC 0 B8 R (Z3l_ok ae) R ?_)))
 rintro _
 refine lO (iE R R) (lI R (aB ?_))
 exact qI ((aI (r8+(1:Int))),()) j (fun w s=>s)
 refine aY R a4 (bQ ?_)
 exact qI (n4,()) j (fun w s=>s)
 rintro ⟨i,_⟩ σ1 j
 replace j:Z0g_J2 p1 l b i=some r:=j
 unfold Z0g_J2 at j
 refine aH (aC (lI R (lO (vp (aG p1) R) (lO (vz (il p1) (eC f' R)) (lO (iE R R) (lO (vz (iv (if (aI ((p1.length:Int)+(1:Int)))<i then (aI ((p1.length:Int)+(1:Int))) else i)) (xd R R)) (lI R (aB (aE (aH ?_))))))))))
 obtain ⟨M,j⟩:=gd j
 refine aC (lI R (fW (K:=dX) (m:=(if (aI ((p1.length:Int)+(1:Int)))<i then (aI ((p1.length:Int)+(1:Int))) else i)) (z:=([]:aN)) R R j8 pG E3 (Zr.zk zT9 AD) (by decide) R R M.1 M.2.1 M.2.2 (fun A12 D12=>(lS R (aB (aE (aH (aC (lI R (lO (sG R R) (lI R (aB (aE (aH (aC (lI R (aB (aE (aH (bB (A:=(aN×(List aN)×Int)×(Unit)) (fun a=>Z0g_J3 p1 i a.1.1 a.1.2.1 a.1.2.2=some r) (fun a=>[(0,(aG a.1.1)),(9,(sc A12 (List.replicate (if (aI ((p1.length:Int)+(1:Int)))<i then (aI ((p1.length:Int)+(1:Int))) else i).toNat ([]:aN)) D12)),(10,(iv a.1.2.2))]) (fun a=>ow dX 9 (.slice A12 (List.replicate (if (aI ((p1.length:Int)+(1:Int)))<i then (aI ((p1.length:Int)+(1:Int))) else i).toNat ([]:aN)).length D12) a.1.2.1::G) ?_ ?_))))))))))))))))))))
 refine bV ?_
 obtain ⟨e1,ac,a7⟩:=bd j
 refine bD (A:=Unit) ac (fun s a=>[(0,(aG s.1)),(1,(aG l)),(2,(iv b)),(3,(iv (aI ((if (aI ((p1.length:Int)+(1:Int)))<i then (aI ((p1.length:Int)+(1:Int))) else i) - (1:Int))))),(9,(sc A12 (List.replicate (if (aI ((p1.length:Int)+(1:Int)))<i then (aI ((p1.length:Int)+(1:Int))) else i).toNat ([]:aN)) D12)),(10,(iv s.2.2))]) (fun s a=>ow dX 9 (.slice A12 (List.replicate (if (aI ((p1.length:Int)+(1:Int)))<i then (aI ((p1.length:Int)+(1:Int))) else i).toNat ([]:aN)).length D12) s.2.1::G) () (aS R) (fun w s=>s) ?_
 rintro ⟨q,a25,Z⟩ _ σ1 a9 j a6
 replace j:Z0g_L1 p1 l b i q a25 Z=some a9:=j
 unfold Z0g_L1 at j
 refine aH (aH (aC (lI R (lI R (lO (jG R R) (aB (aE ?_)))))))
 rcases cF j with ⟨J,j⟩|⟨J,j⟩
 refine bJ R J (bQ (aE (bV (aH ?_))))
 obtain ⟨u,a8,j⟩:=bd j
 refine aC (lO (vp (aG q) R) (lO (vp (aG l) R) (lM (gG mG::ow dX 9 (.slice A12 (List.replicate (if (aI ((p1.length:Int)+(1:Int)))<i then (aI ((p1.length:Int)+(1:Int))) else i).toNat ([]:aN)).length D12) a25::G) (fun w s=>(s.dgx 1 R)) ?_)))
 refine lC 1 xw R (Z2m_ok a8) R ?_
 rintro _
 refine lN (_::G) ?_
 refine lI R (aB (aE (aH (aH (aC (lI R (lO (jG R R) (aB (aE ?_)))))))))
 rcases cF j with ⟨L,j⟩|⟨L,j⟩
 refine bJ R L (eA (cE (tv R ?_)))
 obtain rfl:=so j
 obtain rfl:=a6 _ R
 have j:=a7
 refine cE (dH ?_)
 exact qI ((q,a25,Z),()) j (fun w s=>s)
 refine aY R L (bQ (aE (aH ?_)))
 obtain ⟨O,j⟩:=gd j
 obtain ⟨B,j⟩:=gd j
 refine aC (lS R (lI R (lO (vp (aG q) R) (lI R (lI R (lO (iE R R) (lO (vz (aG (sub q (0:Int) (aI (u+b)))) (iL (0:Int) (aI (u+b)) f' R R R O.1 O.2.1 O.2.2)) (bE 0 aD (show 0<(List.replicate (if (aI ((p1.length:Int)+(1:Int)))<i then (aI ((p1.length:Int)+(1:Int))) else i).toNat ([]:aN)).length by have:=B; omega) (fun a1 o34 ha=>?_)))))))))
 subst ha
 refine lO (dV j8 pG R R B) (lN (ow dX 9 (.slice (ad a1 o34) (List.replicate (if (aI ((p1.length:Int)+(1:Int)))<i then (aI ((p1.length:Int)+(1:Int))) else i).toNat ([]:aN)).length D12) a25::G) ?_)
 refine eO (K:=dX) (x':=(sub q (0:Int) (aI (u+b)))) 0 Z R R pG R R B.1 B.2 ?_ ?_
 exact fun I h s=>(zV).put I h () (sub q (0:Int) (aI (u+b))) s
 refine lN (ow dX 9 (.slice (ad a1 o34) (List.replicate (if (aI ((p1.length:Int)+(1:Int)))<i then (aI ((p1.length:Int)+(1:Int))) else i).toNat ([]:aN)).length D12) (a25.set Z.toNat (sub q (0:Int) (aI (u+b))))::G) ?_
 refine aB ?_
 obtain ⟨ag,Y,j⟩:=bd j
 replace Y:=Option.some.inj Y
 refine qM (ow dX 9 (.slice (ad a1 o34) (List.replicate (if (aI ((p1.length:Int)+(1:Int)))<i then (aI ((p1.length:Int)+(1:Int))) else i).toNat ([]:aN)).length D12) ag::G) (fun w s=>by rw [← Y]; exact s) ?_
 refine aE (aH ?_)
 obtain ⟨T,j⟩:=gd j
 refine aC (lO (vp (aG q) R) (lI R (lO (vp (aG l) R) (lO (vz (il l) (eC f' R)) (lO (iE R R) (lO (vz (aG (sub q (aI (u+(l.length:Int))) (q.length:Int))) (iL (aI (u+(l.length:Int))) (q.length:Int) f' R R R T.1 T.2.1 T.2.2)) (lO (vp (aG (sub q (aI (u+(l.length:Int))) (q.length:Int))) R) (aB (aE (aC (lI R (lO (iE R R) (lI R (aB (cD ?_)))))))))))))))
 obtain rfl:=so j
 exact qA () (fun w s=>s)
 refine aY R J (eA (cE ?_))
 obtain rfl:=so j
 obtain rfl:=a6 _ R
 have j:=a7
 refine cE (dH ?_)
 exact qI ((q,a25,Z),()) j (fun w s=>s)
 rintro ⟨⟨F,a0,E⟩,_⟩ σ1 j
 replace j:Z0g_J3 p1 i F a0 E=some r:=j
 unfold Z0g_J3 at j
 refine aH ?_
 obtain ⟨D,j⟩:=gd j
 refine aC (lS R (lI R (lO (vp (aG F) R) (bE 0 aD (show 0<(List.replicate (if (aI ((p1.length:Int)+(1:Int)))<i then (aI ((p1.length:Int)+(1:Int))) else i).toNat ([]:aN)).length by have:=D; omega) (fun a5 o46 ha=>?_)))))
 subst ha
 refine lO (dV j8 pG R R D) (lN (ow dX 9 (.slice (ad a5 o46) (List.replicate (if (aI ((p1.length:Int)+(1:Int)))<i then (aI ((p1.length:Int)+(1:Int))) else i).toNat ([]:aN)).length D12) a0::G) ?_)
 refine eO (K:=dX) (x':=F) 0 E R R pG R R D.1 D.2 ?_ ?_
 exact fun I h s=>(zV).put I h () F s
 refine lN (ow dX 9 (.slice (ad a5 o46) (List.replicate (if (aI ((p1.length:Int)+(1:Int)))<i then (aI ((p1.length:Int)+(1:Int))) else i).toNat ([]:aN)).length D12) (a0.set E.toNat F)::G) ?_
 refine aB (aE (aH ?_))
 obtain ⟨U,j⟩:=gd j
 refine aC (lS R (lI R (lO (iE R R) (ji (fun w s=>s.shr 0 R) (gP (K:=dX) (0:Int) (aI (E+(1:Int))) 0 R R j8 pG R R R R U.1 U.2.1 U.2.2 (fun aa ab=>(lS R (aB (aE (bY ?_))))))))))
 obtain rfl:=so j
 exact qF (aa,(sub (a0.set E.toNat F) (0:Int) (aI (E+(1:Int)))).length,ab) (fun w s=>(s.e 3 [0]))
theorem Z3c_ok  {p1:aN}{a:aN}{mG:Int}{r:(List aN)}(b:Z3c p1 a=some r) :
 FnOk Tryz.prog 216 [(aG p1),(aG a)] [gG mG] (fun (h:HH)=>((.slice h.1 h.2.1 h.2.2),[aO dX (.slice h.1 h.2.1 h.2.2) r])):=by
 unfold Z3c at b
 refine aR Tryz.func216 R 8 R R fun C V=>?_
 refine cN (_::V) ?_
 let i:List HP:=gG mG::V
 refine cN i ?_
 refine aH (aC (lS R (aB (aE (aH ?_)))))
 obtain ⟨l,j,b⟩:=bd b
 refine aC (lO (vp (aG p1) R) (lO (vp (aG a) R) (lM (gG mG::i) (fun w s=>(s.dgx 0 R)) ?_)))
 refine lC 1 B9 R (Z0g_ok j) R ?_
 rintro ⟨A5,N5,D5⟩
 refine lN (aO dX (.slice A5 N5 D5) l::i) ?_
 refine aM 0 aA ?_
 rintro rfl
 refine lS R (aB (aE (bY ?_)))
 obtain rfl:=so b
 exact qF (A5,l.length,D5) (fun w s=>(s.e 2 [0]))
theorem gS  {b:aN}{a:Int}{r:Int}(e:dS b a=some r) :
 FnOk Tryz.prog 175 [(aG b),(.int .u8 a)] [] (fun (_:Unit)=>((iv r),[])):=by
 unfold dS at e
 obtain rfl:=so e
 exact rK fun w=>Tryz.stringslite_IndexByte ⟨b.toArray⟩ a w
theorem Z22_ok  {p1:aN}{e:Int}{r:Int}(a:Z22 p1 e=some r) :
 FnOk Tryz.prog 213 [(aG p1),(.int .u8 e)] [] (fun (h:Unit)=>((iv r),[])):=by
 unfold Z22 at a
 refine aR Tryz.func213 R 8 R R fun C V=>?_
 refine cN V ?_
 refine cB ?_
 obtain ⟨i,b,a⟩:=bd a
 refine aC (lO (vp (aG p1) R) (lI R (lC 0 Bb R (gS b) R ?_)))
 rintro _
 refine bL ?_
 cases a
 exact qF () tI
theorem Zt_ok {i:List Int}{a:Option Addr}{b e:Nat}{r:(List Int)}(u:Zt i=some r) :
  FnOk Tryz.prog 164 [(.slice a b e)] [aO kT3 (.slice a b e) i] (fun (h:(Option Addr×Nat×Nat))=>((s3 h),[ow kT3 3 (s3 h) r])):=by
 unfold Zt at u
 obtain ⟨E,u⟩:=gd u
 obtain rfl:=Option.some.inj u
 refine aR Tryz.func164 rfl 8 rfl rfl fun C V=>(Ac (V':=aO kT3 (.slice a b e) i::V) tI (bK 0 aA (fun (F:b=i.length)=>?_)))
 subst F
 refine aZ ?_
 refine lS rfl ?_
 refine cV ?_
 refine lS rfl (tH (.bool a.isNone) (y7 bH rfl rfl) rfl rfl (aB (aE ?_)))
 rcases Bool.eq_false_or_eq_true a.isNone with q | q
 ·refine bJ rfl q ?_
  refine ya 0 aA q (fun (G:i=[])=>?_)
  subst G
  refine aZ ?_
  refine lS rfl ?_
  refine bL ?_
  exact dL (vs:=[(.slice none 0 0)]) (.inl rfl) (none,0,0) rfl ⟨rfl,trivial⟩ rfl (fun w s=>((s.nilo kT3 3).sel 2 [0] rfl rfl))
 ·refine aY rfl q (bQ (aE ?_))
  refine aZ ?_
  refine bO (K:=kT3) (xs:=([]:List Int)) (vs:=[]) 0 rfl rfl bH cO gN rfl rfl rfl rfl rfl rfl ?_ rfl (fun B D=>?_)
  ·exact fun I h s=>(gM).list [] I h s
  refine lS rfl (eU (K:=kT3) 17592186044416 rfl rfl bH cO kE (Zr.zk zT3 gN) rfl rfl rfl rfl rfl rfl (tB (Kind.scal_flat _ _)) (by simpa using E) (fun j l=>(lS rfl (aB (aE (bY ?_))))))
  exact dL (vs:=[(.slice j i.length l)]) (.inl rfl) (j,i.length,l) rfl ⟨rfl,trivial⟩ rfl tI
theorem Z1c_ok  {p1:(List Int)}{r:Int}(b:Z1c p1=some r) :
 FnOk Tryz.prog 53 [(.slice A2 N2 D2)] [aO kT3 (.slice A2 N2 D2) p1] (fun (h:Unit)=>((iv r),[])):=by
 unfold Z1c at b
 refine aR Tryz.func53 R 25 R R fun C V=>?_
 refine cL 0 aA ?_
 rintro rfl
 let i:=RR kT3 A2 D2 p1::V
 refine cN i ?_
 refine lq ?_
 split at b
 refine cP ?_
 cases b
 refine bL ?_
 obtain ⟨l,b⟩:=gd b
 refine aZ ?_
 refine bE 0 aA (show 0<p1.length by have:=l; omega) (fun E o6 F=>?_)
 subst F
 refine cB ?_
 refine bB (A:=(Int)×(Unit)) (fun a=>Z1c_J1 a.1=some r) (fun a=>[(3,(iv a.1))]) (fun a=>i) ?_ ?_
 refine cB ?_
 obtain ⟨I,u,q⟩:=bd b
 refine bD (A:=Unit) u (fun s a=>[(0,(sc (ad E o6) p1 D2)),(3,(iv s.1)),(4,(iv s.2))]) (fun s a=>i) () (aS R) tI ?_
 rintro ⟨B,e⟩ _ σ1 D b j
 dsimp only [Z1c_L1] at b
 refine dG ?_
 split at b
 refine cV ?_
 obtain ⟨_,b⟩:=gd b
 refine cB ?_
 refine lO (vz (iv (if (ix p1 e)>B then (ix p1 e) else B)) (xc R R)) ?_
 refine dG ?_
 cases b
 exact qA () tI
 refine aV ?_
 cases b
 obtain rfl:=j _ R
 have b:=q
 refine aZ ?_
 exact qI (B,()) b tI
 rintro ⟨G,_⟩ σ1 b
 dsimp only [Z1c_J1] at b
 refine eD ?_
 cases b
 exact qF () (tE 1 [])
theorem Z3j_ok  {a:Int}{mG:Int}{r:Int}(b:Z3j a=some r) :
 FnOk Tryz.prog 33 [(.int .u64 a)] [gG mG] (fun (_:Unit)=>((iv r),[])):=by
 unfold Z3j at b
 obtain ⟨i,b⟩:=gd b
 obtain rfl:=so b
 have e:a=((a.toNat:Nat):Int):=by omega
 rw [e]
 exact yg fun w h=>Tryz.bits_TrailingZeros a.toNat (by omega) w (fun _=>h)
theorem Z2n_ok  {p1:Int}{r:Bool}(a:Z2n p1=some r) :
 FnOk Tryz.prog 73 [(iv p1)] [] (fun (h:Unit)=>((.bool r),[])):=by
 unfold Z2n at a
 refine aR Tryz.func73 R 6 R R fun C V=>?_
 refine cN V ?_
 refine pB ?_
 cases a
 exact qF () tI
theorem Z2v_ok  {p1:Int}{i:Int}{r:Int}(a:Z2v p1 i=some r) :
 FnOk Tryz.prog 56 [(iv p1),(iv i)] [] (fun (h:Unit)=>((iv r),[])):=by
 unfold Z2v at a
 refine aR Tryz.func56 R 20 R R fun C V=>?_
 refine cN V ?_
 refine cB ?_
 obtain ⟨j,b,a⟩:=bd a
 refine aZ ?_
 refine lC 0 BL R (Z2n_ok b) R ?_
 rintro _
 refine bL ?_
 obtain ⟨l,e,a⟩:=bd a
 refine aZ ?_
 refine lC 0 BL R (Z2n_ok e) R ?_
 rintro _
 refine dG ?_
 split at a
 refine eD ?_
 split at a
 refine dG ?_
 cases a
 exact qF () tI
 refine dJ ?_
 cases a
 exact qF () tI
 refine dG ?_
 split at a
 refine dN ?_
 cases a
 exact qF () tI
 refine hG ?_
 split at a
 refine dN ?_
 cases a
 exact qF () tI
 refine hG ?_
 split at a
 refine dN ?_
 cases a
 exact qF () tI
 refine dG ?_
 cases a
 exact qF () tI
theorem Z0e_ok  {e:(List Int)}{i:(List Int)}{r:Int}(b:Z0e e i=some r) :
 FnOk Tryz.prog 34 [(.slice A2 N2 D2),(.slice A4 N4 D4)] [aO kT3 (.slice A2 N2 D2) e,aO kT3 (.slice A4 N4 D4) i] (fun (h:Unit)=>((iv r),[])):=by
 unfold Z0e at b
 refine aR Tryz.func34 R 36 R R fun C V=>?_
 refine cL 0 aA ?_
 rintro rfl
 refine cL 1 aA ?_
 rintro rfl
 let D:=RR kT3 A2 D2 e::RR kT3 A4 D4 i::V
 refine cN D ?_
 refine cB ?_
 refine bB (A:=(Unit)×(Unit)) (fun a=>Z0e_J1 e i=some r) (fun a=>[(0,(sc A2 e D2)),(1,(sc A4 i D4))]) (fun a=>D) ?_ ?_
 refine dN ?_
 obtain ⟨O,F,l⟩:=bd b
 refine bD (A:=Unit) F (fun s a=>[(0,(sc A2 e D2)),(1,(sc A4 i D4)),(9,(sc A2 e D2)),(10,(il e)),(11,(iv s))]) (fun s a=>D) () (aS R) tI ?_
 rintro M _ σ1 G b j
 dsimp only [Z0e_L1] at b
 refine cB ?_
 split at b
 refine cB ?_
 obtain ⟨q,b⟩:=gd b
 refine aZ ?_
 refine bE 0 aA (show 0<e.length by have:=q; omega) (fun I o20 E=>?_)
 subst E
 refine nP ?_
 split at b
 refine dJ ?_
 cases b
 obtain rfl:=j _ R
 have b:=l
 refine aV ?_
 cases b
 exact qF () (tE 2 [])
 refine bL ?_
 obtain ⟨u,b⟩:=gd b
 refine aV ?_
 refine bE 1 aA (show 0<i.length by have:=u; omega) (fun J o24 E=>?_)
 subst E
 refine cB ?_
 obtain ⟨L,B,b⟩:=bd b
 refine aV ?_
 refine lC 0 Dr R (Z2v_ok B) R ?_
 rintro _
 refine dG ?_
 split at b
 refine dJ ?_
 cases b
 obtain rfl:=j _ R
 have b:=l
 refine aV ?_
 cases b
 exact qF () (tE 2 [])
 refine dN ?_
 cases b
 exact qA () tI
 refine aV ?_
 cases b
 obtain rfl:=j _ R
 have b:=l
 refine aZ ?_
 exact qI ((),()) b tI
 rintro ⟨_,_⟩ σ1 b
 dsimp only [Z0e_J1] at b
 refine dJ ?_
 split at b
 refine dN ?_
 cases b
 exact qF () (tE 2 [])
 refine dG ?_
 cases b
 exact qF () (tE 2 [])
theorem Zz_ok  {e:(List Int)}{i:(List Int)}{r:Bool}(b:Zz e i=some r) :
 FnOk Tryz.prog 9 [(.slice A2 N2 D2),(.slice A4 N4 D4)] [aO kT3 (.slice A2 N2 D2) e,aO kT3 (.slice A4 N4 D4) i] (fun (h:Unit)=>((.bool r),[])):=by
 unfold Zz at b
 refine aR Tryz.func9 R 26 R R fun C V=>?_
 refine cL 0 aA ?_
 rintro rfl
 refine cL 1 aA ?_
 rintro rfl
 let B:=RR kT3 A2 D2 e::RR kT3 A4 D4 i::V
 refine cN B ?_
 refine nP ?_
 split at b
 refine dN ?_
 cases b
 exact qF () (tE 2 [])
 refine bL ?_
 refine bB (A:=(Unit)×(Unit)) (fun a=>Zz_J1=some r) (fun a=>[]) (fun a=>B) ?_ ?_
 refine cB ?_
 obtain ⟨L,E,u⟩:=bd b
 refine bD (A:=Unit) E (fun s a=>[(0,(sc A2 e D2)),(1,(sc A4 i D4)),(5,(iv s))]) (fun s a=>B) () (aS R) tI ?_
 rintro J _ σ1 F b j
 dsimp only [Zz_L1] at b
 refine dG ?_
 split at b
 refine cB ?_
 obtain ⟨l,b⟩:=gd b
 obtain ⟨q,b⟩:=gd b
 refine bC 0 aA (show 0<e.length by have:=l; omega) (fun G o18 D=>?_)
 subst D
 refine bC 1 aA (show 0<i.length by have:=q; omega) (fun I o21 D=>?_)
 subst D
 refine dP 9 [] bS fun O M=>?_
 refine xg 0 [] ?_
 refine dD (aE ?_)
 split at b
 refine dG ?_
 cases b
 obtain rfl:=j _ R
 have b:=u
 refine aV ?_
 cases b
 exact qF () (tE 2 [])
 refine dG ?_
 cases b
 exact qA () tI
 refine aV ?_
 cases b
 obtain rfl:=j _ R
 have b:=u
 refine aZ ?_
 exact dC ((),()) b trivial tI
 rintro ⟨_,_⟩ σ1 b
 dsimp only [Zz_J1] at b
 refine cB ?_
 cases b
 exact qF () (tE 2 [])
theorem Z2t_ok  {b:Node}{i:Node}{r:Bool}(a:Z2t b i=some r) :
 FnOk Tryz.prog 57 [(.agg [(iv b.Op),(.slice A2 N2 D2),(.slice A3 N3 D3),(.slice A4 N4 D4),(aG b.Form),(.slice A5 N5 D5)].toArray),(.agg [(iv i.Op),(.slice A7 N7 D7),(.slice A8 N8 D8),(.slice A9 N9 D9),(aG i.Form),(.slice A10 N10 D10)].toArray)] [aO kT3 (.slice A2 N2 D2) b.Args,aO kT3 (.slice A3 N3 D3) b.Dims,aO kT3 (.slice A4 N4 D4) b.Ints,aO kT3 (.slice A5 N5 D5) b.Data,aO kT3 (.slice A7 N7 D7) i.Args,aO kT3 (.slice A8 N8 D8) i.Dims,aO kT3 (.slice A9 N9 D9) i.Ints,aO kT3 (.slice A10 N10 D10) i.Data] (fun (h:Unit)=>((.bool r),[])):=by
 unfold Z2t at a
 refine aR Tryz.func57 R 39 R R fun C V=>?_
 refine cL 0 aA ?_
 rintro rfl
 refine cL 1 aA ?_
 rintro rfl
 refine cL 2 aA ?_
 rintro rfl
 refine cL 3 aA ?_
 rintro rfl
 refine cL 4 aA ?_
 rintro rfl
 refine cL 5 aA ?_
 rintro rfl
 refine cL 6 aA ?_
 rintro rfl
 refine cL 7 aA ?_
 rintro rfl
 let F:=RR kT3 A2 D2 b.Args::RR kT3 A3 D3 b.Dims::RR kT3 A4 D4 b.Ints::RR kT3 A5 D5 b.Data::RR kT3 A7 D7 i.Args::RR kT3 A8 D8 i.Dims::RR kT3 A9 D9 i.Ints::RR kT3 A10 D10 i.Data::V
 refine cN F ?_
 refine aZ ?_
 refine eT R fun D=>?_
 refine eT R fun E=>?_
 refine aZ ?_
 let j:=aK E [(iv i.Op),(sc A7 i.Args D7),(sc A8 i.Dims D8),(sc A9 i.Ints D9),(aG i.Form),(sc A10 i.Data D10)] 42::aK D [(iv b.Op),(sc A2 b.Args D2),(sc A3 b.Dims D3),(sc A4 b.Ints D4),(aG b.Form),(sc A5 b.Data D5)] 42::F
 refine qN j ?_
 refine hG ?_
 split at a
 refine dN ?_
 cases a
 exact qF () (tE 10 [])
 refine cV ?_
 obtain ⟨G,l,a⟩:=bd a
 refine cV ?_
 refine lM _ (fun w s=>(((s.d 2 R).d 7 R).e 2 [1,0])) ?_
 refine lC 2 xC R (Zz_ok l) R ?_
 rintro _
 refine lN j ?_
 refine aV ?_
 split at a
 refine dN ?_
 cases a
 exact qF () (tE 10 [])
 refine cV ?_
 obtain ⟨I,q,a⟩:=bd a
 refine cV ?_
 refine lM _ (fun w s=>(((s.d 3 R).d 8 R).e 2 [1,0])) ?_
 refine lC 2 xC R (Zz_ok q) R ?_
 rintro _
 refine lN j ?_
 refine aV ?_
 split at a
 refine dN ?_
 cases a
 exact qF () (tE 10 [])
 refine cV ?_
 obtain ⟨J,u,a⟩:=bd a
 refine cV ?_
 refine lM _ (fun w s=>(((s.d 4 R).d 9 R).e 2 [1,0])) ?_
 refine lC 2 xC R (Zz_ok u) R ?_
 rintro _
 refine lN j ?_
 refine aV ?_
 split at a
 refine dN ?_
 cases a
 exact qF () (tE 10 [])
 refine dJ ?_
 refine lO (vz (.bool (!(b.Form==i.Form))) (jU R R R)) ?_
 refine aZ ?_
 split at a
 refine dN ?_
 cases a
 exact qF () (tE 10 [])
 refine cV ?_
 obtain ⟨L,B,a⟩:=bd a
 refine cV ?_
 refine lM _ (fun w s=>(((s.d 5 R).d 10 R).e 2 [1,0])) ?_
 refine lC 2 xC R (Zz_ok B) R ?_
 rintro _
 refine lN j ?_
 refine aV ?_
 split at a
 refine dN ?_
 cases a
 exact qF () (tE 10 [])
 refine dG ?_
 cases a
 exact qF () (tE 10 [])
theorem Z1m_ok  {j:(List Node)}{l:(List Node)}{r:Bool}(i:Z1m j l=some r) :
 FnOk Tryz.prog 35 [(.slice A2 N2 D2),(.slice A4 N4 D4)] [aO cJ (.slice A2 N2 D2) j,aO cJ (.slice A4 N4 D4) l] (fun (h:Unit)=>((.bool r),[])):=by
 unfold Z1m at i
 refine aR Tryz.func35 R 27 R R fun C V=>?_
 refine cL 0 aA ?_
 rintro rfl
 refine cL 1 aA ?_
 rintro rfl
 let W0:=RR cJ A2 D2 j::RR cJ A4 D4 l::V
 refine cN W0 ?_
 refine nP ?_
 split at i
 refine dN ?_
 cases i
 exact qF () (tE 2 [])
 refine bL ?_
 refine bB (A:=(Unit)×(Unit)) (fun a=>Z1m_J1=some r) (fun a=>[]) (fun a=>W0) ?_ ?_
 refine cB ?_
 obtain ⟨e1,a6,D⟩:=bd i
 refine bD (A:=Unit) a6 (fun s a=>[(0,(sc A2 j D2)),(1,(sc A4 l D4)),(5,(iv s))]) (fun s a=>W0) () (aS R) tI ?_
 rintro b _ σ1 a7 i B
 dsimp only [Z1m_L1] at i
 refine dG ?_
 split at i
 refine cB ?_
 obtain ⟨q,i⟩:=gd i
 obtain ⟨u,i⟩:=gd i
 obtain ⟨aa,E,i⟩:=bd i
 refine bC 0 aA (show 0<j.length by have:=q; omega) (fun a8 o28 ha=>?_)
 subst ha
 refine dU (K:=cJ) 0 b dT42.dec R q.1 q.2 ?_
 rintro ⟨-,⟨F,U⟩,⟨G,Y⟩,⟨I,Z⟩,-,⟨J,a0⟩⟩
 refine bC 6 aA (show 0<l.length by have:=u; omega) (fun a9 o35 ha=>?_)
 subst ha
 refine dU (K:=cJ) 6 b dT42.dec R u.1 u.2 ?_
 rintro ⟨-,⟨L,a2⟩,⟨M,a3⟩,⟨O,a4⟩,-,⟨T,a5⟩⟩
 refine dP 10 [] bS fun ht hn=>?_
 refine j6 0 [] ?_
 refine dR 3 R (vz (.agg [(iv (ix j b).Op),(sc F ((ix j b).Args) U),(sc G ((ix j b).Dims) Y),(sc I ((ix j b).Ints) Z),(aG (ix j b).Form),(sc J ((ix j b).Data) a0)].toArray) (eK (fo:=0) 5 ni hH R R R R)) ?_
 refine j6 4 [] ?_
 refine dR 7 R (vz (.agg [(iv (ix l b).Op),(sc L ((ix l b).Args) a2),(sc M ((ix l b).Dims) a3),(sc O ((ix l b).Ints) a4),(aG (ix l b).Form),(sc T ((ix l b).Data) a5)].toArray) (eK (fo:=0) 0 ni hH R R R R)) (d1 8 R (lM _ (fun w s=>(((((((((s.d 6 R).d 8 R).d 10 R).d 12 R).d 5 R).d 7 R).d 9 R).d 11 R).e 18 [7,6,5,4,3,2,1,0,8,9,10,11,12,13,14,15,16,17])) ?_))
 refine lC 8 Dt R (Z2t_ok E) R ?_
 rintro _
 refine aB (aJ (sL []) (dR 9 R (ne R) (dD (aE ?_))))
 split at i
 refine dG ?_
 cases i
 obtain rfl:=B _ R
 have i:=D
 refine aV ?_
 cases i
 exact qF () (tE 12 [])
 refine dG ?_
 cases i
 exact qA () (tE 10 [])
 refine aV ?_
 cases i
 obtain rfl:=B _ R
 have i:=D
 refine aZ ?_
 exact dC ((),()) i trivial tI
 rintro ⟨_,_⟩ σ1 i
 dsimp only [Z1m_J1] at i
 refine cB ?_
 cases i
 exact qF () (tE 2 [])
theorem Z2s_ok  {b:Graph}{i:Graph}{r:Bool}(a:Z2s b i=some r) :
 FnOk Tryz.prog 10 [(.agg [(.slice A2 N2 D2),(.slice A3 N3 D3)].toArray),(.agg [(.slice A5 N5 D5),(.slice A6 N6 D6)].toArray)] [aO cJ (.slice A2 N2 D2) b.Nodes,aO kT3 (.slice A3 N3 D3) b.Outs,aO cJ (.slice A5 N5 D5) i.Nodes,aO kT3 (.slice A6 N6 D6) i.Outs] (fun (h:Unit)=>((.bool r),[])):=by
 unfold Z2s at a
 refine aR Tryz.func10 R 17 R R fun C V=>?_
 refine cL 0 aA ?_
 rintro rfl
 refine cL 1 aA ?_
 rintro rfl
 refine cL 2 aA ?_
 rintro rfl
 refine cL 3 aA ?_
 rintro rfl
 let u:=RR cJ A2 D2 b.Nodes::RR kT3 A3 D3 b.Outs::RR cJ A5 D5 i.Nodes::RR kT3 A6 D6 i.Outs::V
 refine cN u ?_
 refine aZ ?_
 refine eT R fun B=>?_
 refine eT R fun D=>?_
 refine aZ ?_
 let q:=aK D [(sc A5 i.Nodes D5),(sc A6 i.Outs D6)] 30::aK B [(sc A2 b.Nodes D2),(sc A3 b.Outs D3)] 30::u
 refine qN q ?_
 refine aV ?_
 obtain ⟨F,j,a⟩:=bd a
 refine cV ?_
 refine lM _ (fun w s=>(((s.d 2 R).d 5 R).e 2 [1,0])) ?_
 refine lC 2 Du R (Z1m_ok j) R ?_
 rintro _
 refine lN q ?_
 refine aV ?_
 split at a
 refine dN ?_
 cases a
 exact qF () (tE 6 [])
 refine cV ?_
 obtain ⟨E,l,a⟩:=bd a
 refine cV ?_
 refine lM _ (fun w s=>(((s.d 3 R).d 6 R).e 2 [1,0])) ?_
 refine lC 2 xC R (Zz_ok l) R ?_
 rintro _
 refine lN q ?_
 refine aV ?_
 split at a
 refine dN ?_
 cases a
 exact qF () (tE 6 [])
 refine dG ?_
 cases a
 exact qF () (tE 6 [])
theorem Zy_ok  {i:(List Int)}{k3:Int}{r:Int×(List Int)}(b:Zy i k3=some r) :
 FnOk Tryz.prog 12 [(.slice A2 N2 D2),(iv k3)] [ow kT3 3 (.slice A2 N2 D2) i] (fun (h:Unit)=>((iv r.1),[ow kT3 3 (.slice A2 N2 D2) r.2])):=by
 unfold Zy at b
 refine aR Tryz.func12 R 19 R R fun C V=>?_
 refine cL 0 aD ?_
 rintro rfl
 refine cB ?_
 refine bB (A:=(Int×(List Int))×(Unit)) (fun a=>Zy_J1 a.1.1 a.1.2=some r) (fun a=>[(1,(iv a.1.1))]) (fun a=>ow kT3 3 (.slice A2 i.length D2) a.1.2::V) ?_ ?_
 refine cB ?_
 obtain ⟨M,q,l⟩:=bd b
 refine bD (A:=Unit) q (fun s a=>[(0,(sc A2 i D2)),(1,(iv s.2.1)),(5,(iv s.2.2))]) (fun s a=>ow kT3 3 (.slice A2 i.length D2) s.1::V) () (aS R) tI ?_
 rintro ⟨E,B,u⟩ _ σ1 D b j
 dsimp only [Zy_L1] at b
 refine dG ?_
 split at b
 refine cB ?_
 obtain ⟨e,b⟩:=gd b
 refine bL ?_
 refine bE 0 aD (show 0<i.length by have:=e; omega) (fun F o14 G=>?_)
 subst G
 refine cP ?_
 refine eO (K:=kT3) (x':=B) 0 u R R cO R R e.1 e.2 ?_ ?_
 exact fun I h s=>(gM).put I h () B s
 refine pB ?_
 cases b
 exact qA () tI
 refine aV ?_
 cases b
 obtain rfl:=j _ R
 have b:=l
 refine aZ ?_
 exact qI ((B,E),()) b tI
 rintro ⟨⟨J,L⟩,_⟩ σ1 b
 dsimp only [Zy_J1] at b
 refine eD ?_
 cases b
 exact qF () tI
theorem Z0u_ok  {k1:Int}{r:aN}(b:Z0u k1=some r) :
 FnOk Tryz.prog 58 [(iv k1)] [] (fun (h:Unit)=>((aG r),[])):=by
 unfold Z0u at b
 refine aR Tryz.func58 R 20 R R fun C V=>?_
 refine cN V ?_
 refine aZ ?_
 refine lO (vp (aG ([]:aN)) R) ?_
 refine dG ?_
 split at b
 refine aV ?_
 refine lO (vp (aG Ar) R) ?_
 refine bL ?_
 cases b
 exact qF () tI
 refine cV ?_
 refine lO (vp (aG ([]:aN)) R) ?_
 refine aV ?_
 refine bB (A:=(aN)×(Unit)) (fun a=>Z0u_J1 a.1=some r) (fun a=>[(3,(aG a.1))]) (fun a=>V) ?_ ?_
 refine cP ?_
 obtain ⟨F,D,B⟩:=bd b
 refine bD (A:=Unit) D (fun s a=>[(0,(iv s.1)),(3,(aG s.2))]) (fun s a=>V) () (aS R) tI ?_
 rintro ⟨e,q⟩ _ σ1 E b u
 dsimp only [Z0u_L1] at b
 refine eD ?_
 split at b
 refine cV ?_
 obtain ⟨j,b⟩:=gd b
 refine aZ ?_
 refine lO (rF R R (by decide)) (lO (iE R R) (lO (vz (.int .u8 (IntKind.wrap .u8 ((aI ((48:Int)+(e.tmod (10:Int))))))) (qo Dd E5 R)) (bO (K:=E2) (xs:=([(IntKind.wrap .u8 ((aI ((48:Int)+(e.tmod (10:Int))))))]:List Int)) (vs:=[(.int .u8 (IntKind.wrap .u8 ((aI ((48:Int)+(e.tmod (10:Int)))))))]) 0 R R yB E6 zc5 R R R R R R ?_ R (fun A9 D9=>?_))))
 exact fun I h s=>(mO5).list [((),(IntKind.wrap .u8 ((aI ((48:Int)+(e.tmod (10:Int)))))))] I h s
 refine lO (vz (aG (oB ([(IntKind.wrap .u8 ((aI ((48:Int)+(e.tmod (10:Int))))))]:List Int))) (Ag 0 yB E5 f' aD R)) (lO (vp (aG q) R) (lO (vz (aG ((oB ([(IntKind.wrap .u8 ((aI ((48:Int)+(e.tmod (10:Int))))))]:List Int))++q)) (om R R j)) (lO (vp (aG ((oB ([(IntKind.wrap .u8 ((aI ((48:Int)+(e.tmod (10:Int))))))]:List Int))++q)) R) ?_)))
 refine bL ?_
 refine lO (vz (iv (aI (e.tdiv (10:Int)))) (na R R (by decide))) ?_
 refine aV ?_
 cases b
 exact qA () (tE 1 [])
 refine aV ?_
 cases b
 obtain rfl:=u _ R
 have b:=B
 refine aZ ?_
 exact qI (q,()) b tI
 rintro ⟨i,_⟩ σ1 b
 dsimp only [Z0u_J1] at b
 refine cP ?_
 obtain ⟨l,b⟩:=gd b
 refine aC (lO (vp (aG i) R) (lO (vz (aG (str9++i)) (om R R l)) (lO (vp (aG (str9++i)) R) ?_)))
 refine aV ?_
 cases b
 exact qF () tI
theorem Z0o_ok  {F:(List Node)}{k3:Int}{r:Int×(List Node)}(D:Z0o F k3=some r) :
 FnOk Tryz.prog 36 [(.slice A2 N2 D2),(iv k3)] [ow cJ 42 (.slice A2 N2 D2) F] (fun (h:Unit)=>((iv r.1),[ow cJ 42 (.slice A2 N2 D2) r.2])):=by
 unfold Z0o at D
 refine aR Tryz.func36 R 56 R R fun C V=>?_
 refine cN (_::V) ?_
 refine cL 0 aD ?_
 rintro rfl
 refine aH (aC (lI R (aB (aE (aH (bB (A:=(Int×(List Node))×(Unit)) (fun a=>Z0o_J1 a.1.1 a.1.2=some r) (fun a=>[(1,(iv a.1.1))]) (fun a=>ow cJ 42 (.slice A2 F.length D2) a.1.2::V) ?_ ?_))))))
 refine aH (aC (lI R (aB (aE (bV ?_)))))
 obtain ⟨e1,bg,bf⟩:=bd D
 refine bD (A:=Unit) bg (fun s a=>[(0,(sc A2 F D2)),(1,(iv s.2.1)),(5,(iv s.2.2))]) (fun s a=>ow cJ 42 (.slice A2 F.length D2) s.1::V) () (aS R) (fun w s=>s) ?_
 rintro ⟨a46,a8,b⟩ _ σ1 bc D be
 replace D:Z0o_L1 F a46 a8 b=some bc:=D
 unfold Z0o_L1 at D
 refine aH (aH (aC (lI R (lS R (lO (eN jx R) (lO (jG R R) (aB (aE ?_))))))))
 rcases cF D with ⟨a0,D⟩|⟨a0,D⟩
 refine bJ R a0 (bQ (aE (aH (bV (aH ?_)))))
 obtain ⟨u,D⟩:=gd D
 refine aC (lS R (lI R (lI R (bE 0 aD (show 0<F.length by have:=u; omega) (fun B o52 ha=>?_)))))
 subst ha
 refine lO (dV jx hH R R u) (lO (vz (.pointer (some ⟨B,o52+b.toNat*6,none⟩)) (jF jW R R)) (x9 (K:=cJ) (fo:=0) (v:=(iv a8)) (f:=(fun x:Node=>(⟨a8,x.Args,x.Dims,x.Ints,x.Form,x.Data⟩:Node))) 0 b R R cO ?_ R R R R u.1 u.2 ?_))
 exact SetL.deep sJ qw (fun a x=>((),(.slice a.2.1.1 x.Args.length a.2.1.2),(.slice a.2.2.1.1 x.Dims.length a.2.2.1.2),(.slice a.2.2.2.1.1 x.Ints.length a.2.2.2.1.2),(),(.slice a.2.2.2.2.2.1 x.Data.length a.2.2.2.2.2.2))) R (fun _ _=>R) (fun _ _=>R)
 refine lN (ow cJ 42 (.slice (ad B o52) F.length D2) (a46.set b.toNat (⟨a8,(ix a46 b).Args,(ix a46 b).Dims,(ix a46 b).Ints,(ix a46 b).Form,(ix a46 b).Data⟩:Node))::V) ?_
 refine aB ?_
 obtain ⟨i,a2,D⟩:=bd D
 replace a2:=Option.some.inj a2
 refine qM (ow cJ 42 (.slice (ad B o52) F.length D2) i::V) (fun w s=>by rw [← a2]; exact s) ?_
 refine aE (aH (aC (lI R (lO (iE R R) (lI R (aB (aE (aH ?_))))))))
 obtain ⟨a9,b7,D⟩:=bd D
 refine aC (lS R (lI R (lO (dV jx hH R R u) (lO (vz (.pointer (some ⟨B,o52+b.toNat*6+1,none⟩)) (jF oD R R)) (mM (K:=cJ) sJ 0 b R u.1 u.2 ?_)))))
 rintro ⟨-,⟨J,T⟩,⟨ae,au⟩,⟨ag,av⟩,-,⟨ai,aw⟩⟩
 refine lN (sF cJ 42 (.slice (ad B o52) F.length D2) i b.toNat [(iv (ix i b).Op),(sc J ((ix i b).Args) T),(sc ae ((ix i b).Dims) au),(sc ag ((ix i b).Ints) av),(aG (ix i b).Form),(sc ai ((ix i b).Data) aw)]::OO kT3 3 J T ((ix i b).Args)::OO kT3 3 ae au ((ix i b).Dims)::OO kT3 3 ag av ((ix i b).Ints)::OO kT3 3 ai aw ((ix i b).Data)::V) ?_
 refine lO (oy (fo:=1) 0 cH R R R) (lI R (lM (ow _ _ _ _::sF _ _ _ _ _ _::ow _ _ _ _::ow _ _ _ _::ow _ _ _ _::V) (fun w s=>(s.e 5 [1,0,2,3,4])) ?_))
 refine lC 1 sK R (Zy_ok b7) R ?_
 rintro _
 refine lN (ow kT3 3 (.slice J ((ix i b).Args).length T) a9.2::_::_::_::_::V) ?_
 refine lI R (aB (qM (ow cJ 42 (.slice (ad B o52) F.length D2) (i.set b.toNat (⟨(ix i b).Op,a9.2,(ix i b).Dims,(ix i b).Ints,(ix i b).Form,(ix i b).Data⟩:Node))::V) (fun w s=>St.unfocus (E:=[ow kT3 3 (.slice J ((ix i b).Args).length T) a9.2,OO kT3 3 ae au ((ix i b).Dims),OO kT3 3 ag av ((ix i b).Ints),OO kT3 3 ai aw ((ix i b).Data)]) (⟨(ix i b).Op,a9.2,(ix i b).Dims,(ix i b).Ints,(ix i b).Form,(ix i b).Data⟩:Node) (s.e 5 [1,0,2,3,4]) ?_) ?_))
 exact fun I h s=>(qw).put I h ((),(sc J ((ix i b).Args) T),(sc ae ((ix i b).Dims) au),(sc ag ((ix i b).Ints) av),(),(sc ai ((ix i b).Data) aw)) (⟨(ix i b).Op,a9.2,(ix i b).Dims,(ix i b).Ints,(ix i b).Form,(ix i b).Data⟩:Node) s
 obtain ⟨j,a3,D⟩:=bd D
 replace a3:=Option.some.inj a3
 refine qM (ow cJ 42 (.slice (ad B o52) F.length D2) j::V) (fun w s=>by rw [← a3]; exact s) ?_
 refine aE (aH ?_)
 obtain ⟨aa,b8,D⟩:=bd D
 refine aC (lS R (lI R (lO (dV jx hH R R u) (lO (vz (.pointer (some ⟨B,o52+b.toNat*6+2,none⟩)) (jF kY R R)) (mM (K:=cJ) sJ 0 b R u.1 u.2 ?_)))))
 rintro ⟨-,⟨aj,ax⟩,⟨L,U⟩,⟨ak,ay⟩,-,⟨al,az⟩⟩
 refine lN (sF cJ 42 (.slice (ad B o52) F.length D2) j b.toNat [(iv (ix j b).Op),(sc aj ((ix j b).Args) ax),(sc L ((ix j b).Dims) U),(sc ak ((ix j b).Ints) ay),(aG (ix j b).Form),(sc al ((ix j b).Data) az)]::OO kT3 3 aj ax ((ix j b).Args)::OO kT3 3 L U ((ix j b).Dims)::OO kT3 3 ak ay ((ix j b).Ints)::OO kT3 3 al az ((ix j b).Data)::V) ?_
 refine lO (oy (fo:=2) 0 cH R R R) (lI R (lM (ow _ _ _ _::sF _ _ _ _ _ _::ow _ _ _ _::ow _ _ _ _::ow _ _ _ _::V) (fun w s=>(s.e 5 [2,0,1,3,4])) ?_))
 refine lC 1 sK R (Zy_ok b8) R ?_
 rintro _
 refine lN (ow kT3 3 (.slice L ((ix j b).Dims).length U) aa.2::_::_::_::_::V) ?_
 refine lI R (aB (qM (ow cJ 42 (.slice (ad B o52) F.length D2) (j.set b.toNat (⟨(ix j b).Op,(ix j b).Args,aa.2,(ix j b).Ints,(ix j b).Form,(ix j b).Data⟩:Node))::V) (fun w s=>St.unfocus (E:=[OO kT3 3 aj ax ((ix j b).Args),ow kT3 3 (.slice L ((ix j b).Dims).length U) aa.2,OO kT3 3 ak ay ((ix j b).Ints),OO kT3 3 al az ((ix j b).Data)]) (⟨(ix j b).Op,(ix j b).Args,aa.2,(ix j b).Ints,(ix j b).Form,(ix j b).Data⟩:Node) (s.e 5 [1,2,0,3,4]) ?_) ?_))
 exact fun I h s=>(qw).put I h ((),(sc aj ((ix j b).Args) ax),(sc L ((ix j b).Dims) U),(sc ak ((ix j b).Ints) ay),(),(sc al ((ix j b).Data) az)) (⟨(ix j b).Op,(ix j b).Args,aa.2,(ix j b).Ints,(ix j b).Form,(ix j b).Data⟩:Node) s
 obtain ⟨l,a4,D⟩:=bd D
 replace a4:=Option.some.inj a4
 refine qM (ow cJ 42 (.slice (ad B o52) F.length D2) l::V) (fun w s=>by rw [← a4]; exact s) ?_
 refine aE (aH ?_)
 obtain ⟨ab,b9,D⟩:=bd D
 refine aC (lS R (lI R (lO (dV jx hH R R u) (lO (vz (.pointer (some ⟨B,o52+b.toNat*6+3,none⟩)) (jF hW R R)) (mM (K:=cJ) sJ 0 b R u.1 u.2 ?_)))))
 rintro ⟨-,⟨am,b0⟩,⟨an,b1⟩,⟨M,Y⟩,-,⟨ao,b2⟩⟩
 refine lN (sF cJ 42 (.slice (ad B o52) F.length D2) l b.toNat [(iv (ix l b).Op),(sc am ((ix l b).Args) b0),(sc an ((ix l b).Dims) b1),(sc M ((ix l b).Ints) Y),(aG (ix l b).Form),(sc ao ((ix l b).Data) b2)]::OO kT3 3 am b0 ((ix l b).Args)::OO kT3 3 an b1 ((ix l b).Dims)::OO kT3 3 M Y ((ix l b).Ints)::OO kT3 3 ao b2 ((ix l b).Data)::V) ?_
 refine lO (oy (fo:=3) 0 cH R R R) (lI R (lM (ow _ _ _ _::sF _ _ _ _ _ _::ow _ _ _ _::ow _ _ _ _::ow _ _ _ _::V) (fun w s=>(s.e 5 [3,0,1,2,4])) ?_))
 refine lC 1 sK R (Zy_ok b9) R ?_
 rintro _
 refine lN (ow kT3 3 (.slice M ((ix l b).Ints).length Y) ab.2::_::_::_::_::V) ?_
 refine lI R (aB (qM (ow cJ 42 (.slice (ad B o52) F.length D2) (l.set b.toNat (⟨(ix l b).Op,(ix l b).Args,(ix l b).Dims,ab.2,(ix l b).Form,(ix l b).Data⟩:Node))::V) (fun w s=>St.unfocus (E:=[OO kT3 3 am b0 ((ix l b).Args),OO kT3 3 an b1 ((ix l b).Dims),ow kT3 3 (.slice M ((ix l b).Ints).length Y) ab.2,OO kT3 3 ao b2 ((ix l b).Data)]) (⟨(ix l b).Op,(ix l b).Args,(ix l b).Dims,ab.2,(ix l b).Form,(ix l b).Data⟩:Node) (s.e 5 [1,2,3,0,4]) ?_) ?_))
 exact fun I h s=>(qw).put I h ((),(sc am ((ix l b).Args) b0),(sc an ((ix l b).Dims) b1),(sc M ((ix l b).Ints) Y),(),(sc ao ((ix l b).Data) b2)) (⟨(ix l b).Op,(ix l b).Args,(ix l b).Dims,ab.2,(ix l b).Form,(ix l b).Data⟩:Node) s
 obtain ⟨G,a5,D⟩:=bd D
 replace a5:=Option.some.inj a5
 refine qM (ow cJ 42 (.slice (ad B o52) F.length D2) G::V) (fun w s=>by rw [← a5]; exact s) ?_
 refine aE (aH ?_)
 obtain ⟨b6,ba,D⟩:=bd D
 refine aC (lS R (lI R (lI R (lC 0 Dx R (Z0u_ok ba) R ?_))))
 rintro _
 refine lO (dV jx hH R R u) (lO (vz (.pointer (some ⟨B,o52+b.toNat*6+4,none⟩)) (jF qy R R)) (x9 (K:=cJ) (fo:=4) (v:=(aG b6)) (f:=(fun x:Node=>(⟨x.Op,x.Args,x.Dims,x.Ints,b6,x.Data⟩:Node))) 0 b R R pG ?_ R R R R u.1 u.2 ?_))
 exact SetL.deep sJ qw (fun a x=>((),(.slice a.2.1.1 x.Args.length a.2.1.2),(.slice a.2.2.1.1 x.Dims.length a.2.2.1.2),(.slice a.2.2.2.1.1 x.Ints.length a.2.2.2.1.2),(),(.slice a.2.2.2.2.2.1 x.Data.length a.2.2.2.2.2.2))) R (fun _ _=>R) (fun _ _=>R)
 refine lN (ow cJ 42 (.slice (ad B o52) F.length D2) (G.set b.toNat (⟨(ix G b).Op,(ix G b).Args,(ix G b).Dims,(ix G b).Ints,b6,(ix G b).Data⟩:Node))::V) ?_
 refine aB ?_
 obtain ⟨q,a6,D⟩:=bd D
 replace a6:=Option.some.inj a6
 refine qM (ow cJ 42 (.slice (ad B o52) F.length D2) q::V) (fun w s=>by rw [← a6]; exact s) ?_
 refine aE (aH (aC (lI R (lO (iE R R) (lI R (aB (aE ?_)))))))
 obtain ⟨ac,bb,D⟩:=bd D
 refine aC (lS R (lI R (lO (dV jx hH R R u) (lO (vz (.pointer (some ⟨B,o52+b.toNat*6+5,none⟩)) (jF oE R R)) (mM (K:=cJ) sJ 0 b R u.1 u.2 ?_)))))
 rintro ⟨-,⟨ap,b3⟩,⟨aq,b4⟩,⟨ar,b5⟩,-,⟨O,Z⟩⟩
 refine lN (sF cJ 42 (.slice (ad B o52) F.length D2) q b.toNat [(iv (ix q b).Op),(sc ap ((ix q b).Args) b3),(sc aq ((ix q b).Dims) b4),(sc ar ((ix q b).Ints) b5),(aG (ix q b).Form),(sc O ((ix q b).Data) Z)]::OO kT3 3 ap b3 ((ix q b).Args)::OO kT3 3 aq b4 ((ix q b).Dims)::OO kT3 3 ar b5 ((ix q b).Ints)::OO kT3 3 O Z ((ix q b).Data)::V) ?_
 refine lO (oy (fo:=5) 0 cH R R R) (lI R (lM (ow _ _ _ _::sF _ _ _ _ _ _::ow _ _ _ _::ow _ _ _ _::ow _ _ _ _::V) (fun w s=>(s.f 5 [4,1,0,4])) ?_))
 refine lC 1 sK R (Zy_ok bb) R ?_
 rintro _
 refine lN (ow kT3 3 (.slice O ((ix q b).Data).length Z) ac.2::_::_::_::_::V) ?_
 refine lI R (aB (qM (ow cJ 42 (.slice (ad B o52) F.length D2) (q.set b.toNat (⟨(ix q b).Op,(ix q b).Args,(ix q b).Dims,(ix q b).Ints,(ix q b).Form,ac.2⟩:Node))::V) (fun w s=>St.unfocus (E:=[OO kT3 3 ap b3 ((ix q b).Args),OO kT3 3 aq b4 ((ix q b).Dims),OO kT3 3 ar b5 ((ix q b).Ints),ow kT3 3 (.slice O ((ix q b).Data).length Z) ac.2]) (⟨(ix q b).Op,(ix q b).Args,(ix q b).Dims,(ix q b).Ints,(ix q b).Form,ac.2⟩:Node) (s.f 5 [1,4,0,1]) ?_) ?_))
 exact fun I h s=>(qw).put I h ((),(sc ap ((ix q b).Args) b3),(sc aq ((ix q b).Dims) b4),(sc ar ((ix q b).Ints) b5),(),(sc O ((ix q b).Data) Z)) (⟨(ix q b).Op,(ix q b).Args,(ix q b).Dims,(ix q b).Ints,(ix q b).Form,ac.2⟩:Node) s
 obtain ⟨bi,a7,D⟩:=bd D
 replace a7:=Option.some.inj a7
 refine qM (ow cJ 42 (.slice (ad B o52) F.length D2) bi::V) (fun w s=>by rw [← a7]; exact s) ?_
 refine cD (aE (aC (lI R (lO (iE R R) (lI R (aB ?_))))))
 obtain rfl:=so D
 exact qA () (fun w s=>s)
 refine aY R a0 (eA (cE ?_))
 obtain rfl:=so D
 obtain rfl:=be _ R
 have D:=bf
 refine cE (dH ?_)
 exact qI ((a8,a46),()) D (fun w s=>s)
 rintro ⟨⟨bh,bj⟩,_⟩ σ1 D
 replace D:Z0o_J1 bh bj=some r:=D
 unfold Z0o_J1 at D
 refine aH (aC (lI R (lI R (aB (aE (bY ?_))))))
 obtain rfl:=so D
 exact qF () (fun w s=>s)
theorem Z2f_ok  {b:Graph}{j:Int}{r:Int×(List Node)×(List Int)}(a:Z2f b j=some r) :
 FnOk Tryz.prog 11 [(.agg [(.slice A2 N2 D2),(.slice A3 N3 D3)].toArray),(iv j)] [ow cJ 42 (.slice A2 N2 D2) b.Nodes,ow kT3 3 (.slice A3 N3 D3) b.Outs] (fun (h:Unit)=>((iv r.1),[ow cJ 42 (.slice A2 N2 D2) r.2.1,ow kT3 3 (.slice A3 N3 D3) r.2.2])):=by
 unfold Z2f at a
 refine aR Tryz.func11 R 14 R R fun C V=>?_
 refine cL 0 aD ?_
 rintro rfl
 refine cL 1 aD ?_
 rintro rfl
 refine aZ ?_
 refine eT R fun l=>?_
 refine aZ ?_
 refine qM _ (tE 3 [1,2,0]) ?_
 let q:=aK l [(sc A2 b.Nodes D2),(sc A3 b.Outs D3)] 30::V
 refine aZ ?_
 obtain ⟨s,e,a⟩:=bd a
 refine bL ?_
 refine lC 1 Dy R (Z0o_ok e) R ?_
 rintro _
 refine bL ?_
 obtain ⟨u,i,a⟩:=bd a
 refine bL ?_
 refine lM _ (tE 2 [1,0]) ?_
 refine lC 1 sK R (Zy_ok i) R ?_
 rintro _
 refine dJ ?_
 cases a
 exact qF () (tE 3 [1,0])
theorem Z0k_ok  {e:(List Int)}{k3:Int}{r:Int}(b:Z0k e k3=some r) :
 FnOk Tryz.prog 13 [(.slice A2 N2 D2),(iv k3)] [aO kT3 (.slice A2 N2 D2) e] (fun (h:Unit)=>((iv r),[])):=by
 unfold Z0k at b
 refine aR Tryz.func13 R 21 R R fun C V=>?_
 refine cL 0 aA ?_
 rintro rfl
 let q:=RR kT3 A2 D2 e::V
 refine cN q ?_
 refine cB ?_
 refine bB (A:=(Int)×(Unit)) (fun a=>Z0k_J1 a.1=some r) (fun a=>[(1,(iv a.1))]) (fun a=>q) ?_ ?_
 refine cB ?_
 obtain ⟨J,u,l⟩:=bd b
 refine bD (A:=Unit) u (fun s a=>[(0,(sc A2 e D2)),(1,(iv s.1)),(5,(iv s.2))]) (fun s a=>q) () (aS R) tI ?_
 rintro ⟨I,F⟩ _ σ1 B b i
 dsimp only [Z0k_L1] at b
 refine dG ?_
 split at b
 refine eD ?_
 obtain ⟨j,b⟩:=gd b
 refine aV ?_
 refine bE 0 aA (show 0<e.length by have:=j; omega) (fun D o14 E=>?_)
 subst E
 refine cB ?_
 split at b
 refine dJ ?_
 cases b
 obtain rfl:=i _ R
 have b:=l
 refine aV ?_
 cases b
 exact qF () (tE 1 [])
 refine nP ?_
 cases b
 exact qA () tI
 refine aV ?_
 cases b
 obtain rfl:=i _ R
 have b:=l
 refine aZ ?_
 exact qI (I,()) b tI
 rintro ⟨G,_⟩ σ1 b
 dsimp only [Z0k_J1] at b
 refine eD ?_
 cases b
 exact qF () (tE 1 [])
end Go.Proofs.YtoffdamdpmeoiaaGreatDoor
