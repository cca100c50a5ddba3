import Derived.Test.YthelanpdjajnbaaGreatMeF
set_option linter.unusedVariables false
set_option maxRecDepth 20000
namespace Go.Proofs.YthelanpdjajnbaaGreat
open Go Go.Pg
variable {A2 A3 A4 A5 A6 A7 A8 A9 A10:Option Addr}{D2 D3 D4 D5 D6 D7 D8 D9 D10 N2 N3 N4 N5 N6 N7 N8 N9 N10:Nat}
theorem Z1n_ok  {a1:(List Int)}{a:Int}{r:Int}(b:Z1n a1 a=some r) :
 FnOk Tryz.prog 24 [(.slice A2 N2 D2),(iv a)] [aO kT3 (.slice A2 N2 D2) a1] (fun (h:Unit)=>((iv r),[])):=by
 unfold Z1n at b
 refine aR Tryz.func24 R 12 R R fun C V=>?_
 refine cL 0 aA ?_
 rintro rfl
 let e:=RR kT3 A2 D2 a1::V
 refine cN e ?_
 refine u' ?_
 split at b
 refine dM ?_
 cases b
 exact qF () (tE 1 [])
 refine dH ?_
 cases b
 exact qF () (tE 1 [])
theorem Z2r_ok  {a1:Node}{b:Int}{r:Int}(a:Z2r a1 b=some r) :
 FnOk Tryz.prog 54 [(.agg [(iv a1.Op),(.slice A2 N2 D2),(.slice A3 N3 D3),(.slice A4 N4 D4),(aH a1.Form),(.slice A5 N5 D5)].toArray),(iv b)] [aO kT3 (.slice A2 N2 D2) a1.Args,aO kT3 (.slice A3 N3 D3) a1.Dims,aO kT3 (.slice A4 N4 D4) a1.Ints,aO kT3 (.slice A5 N5 D5) a1.Data] (fun (h:Unit)=>((iv r),[])):=by
 unfold Z2r at a
 refine aR Tryz.func54 R 37 R R fun C V=>?_
 refine cL 0 aA ?_
 rintro rfl
 refine cL 1 aA ?_
 rintro rfl
 refine cL 2 aA ?_
 rintro rfl
 refine cL 3 aA ?_
 rintro rfl
 let m:=RR kT3 A2 D2 a1.Args::RR kT3 A3 D3 a1.Dims::RR kT3 A4 D4 a1.Ints::RR kT3 A5 D5 a1.Data::V
 refine cN m ?_
 refine bA ?_
 refine eJ R fun q=>?_
 refine bA ?_
 let e:=aJ q [(iv a1.Op),(sc A2 a1.Args D2),(sc A3 a1.Dims D3),(sc A4 a1.Ints D4),(aH a1.Form),(sc A5 a1.Data D5)] 75::m
 refine qN e ?_
 refine bA ?_
 obtain ⟨E,l,a⟩:=bd a
 refine bL ?_
 refine lM _ (fun w s=>(s.d 1 R)) ?_
 refine lC 1 tb R (Z1n_ok l) R ?_
 rintro _
 refine lN e ?_
 refine dH ?_
 split at a
 refine dM ?_
 cases a
 exact qF () (tE 5 [])
 refine bL ?_
 obtain ⟨u,g,a⟩:=bd a
 refine bL ?_
 refine lM _ (fun w s=>(s.d 2 R)) ?_
 refine lC 1 tb R (Z1n_ok g) R ?_
 rintro _
 refine lN e ?_
 refine dH ?_
 split at a
 refine dM ?_
 cases a
 exact qF () (tE 5 [])
 refine bL ?_
 obtain ⟨B,i,a⟩:=bd a
 refine bL ?_
 refine lM _ (fun w s=>(s.d 3 R)) ?_
 refine lC 1 tb R (Z1n_ok i) R ?_
 rintro _
 refine lN e ?_
 refine dH ?_
 split at a
 refine dM ?_
 cases a
 exact qF () (tE 5 [])
 refine dM ?_
 refine lO (vz (il a1.Form) (dT gH R)) ?_
 refine j9 ?_
 split at a
 refine dM ?_
 cases a
 exact qF () (tE 5 [])
 refine bL ?_
 obtain ⟨D,j,a⟩:=bd a
 refine bL ?_
 refine lM _ (fun w s=>(s.d 4 R)) ?_
 refine lC 1 tb R (Z1n_ok j) R ?_
 rintro _
 refine lN e ?_
 refine dH ?_
 split at a
 refine dM ?_
 cases a
 exact qF () (tE 5 [])
 refine dH ?_
 cases a
 exact qF () (tE 5 [])
theorem Z1e_ok  {a1:(List Node)}{j:Int}{r:Int}(b:Z1e a1 j=some r) :
 FnOk Tryz.prog 23 [(.slice A2 N2 D2),(iv j)] [aO gG (.slice A2 N2 D2) a1] (fun (h:Unit)=>((iv r),[])):=by
 unfold Z1e at b
 refine aR Tryz.func23 R 27 R R fun C V=>?_
 refine cL 0 aA ?_
 rintro rfl
 let O:=RR gG A2 D2 a1::V
 refine cN O ?_
 refine u' ?_
 split at b
 refine dM ?_
 cases b
 exact qF () (tE 1 [])
 refine bL ?_
 refine bD (A:=(Int)×(Unit)) (fun a=>Z1e_J1 a.1=some r) (fun a=>[(1,(iv a.1))]) (fun a=>O) ?_ ?_
 refine cH ?_
 obtain ⟨e1,T,q⟩:=bd b
 refine bE (A:=Unit) T (fun s a=>[(0,(sc A2 a1 D2)),(1,(iv s.1)),(5,(iv s.2))]) (fun s a=>O) () (aS R) tI ?_
 rintro ⟨l,g⟩ _ σ1 U b m
 dsimp only [Z1e_L1] at b
 refine dJ ?_
 split at b
 refine cH ?_
 obtain ⟨i,b⟩:=gd b
 obtain ⟨a0,u,b⟩:=bd b
 refine aW ?_
 refine bC 0 aA (show 0<a1.length by have:=i; omega) (fun Y o21 Z=>?_)
 subst Z
 refine cE ?_
 refine gO (K:=gG) 0 g dT75.dec R i.1 i.2 ?_
 rintro ⟨-,⟨D,I⟩,⟨E,J⟩,⟨F,L⟩,-,⟨G,M⟩⟩
 refine lO (vz (.agg [(iv (ix a1 g).Op),(sc D ((ix a1 g).Args) I),(sc E ((ix a1 g).Dims) J),(sc F ((ix a1 g).Ints) L),(aH (ix a1 g).Form),(sc G ((ix a1 g).Data) M)].toArray) (eF (fo:=0) 0 xy xx R R R R)) (lI R (lM _ (fun w s=>(((((s.d 1 R).d 3 R).d 5 R).d 7 R).e 9 [3,2,1,0,4,5,6,7,8])) ?_))
 refine lC 4 Bw R (Z2r_ok u) R ?_
 rintro _
 refine dJ ?_
 split at b
 refine dJ ?_
 cases b
 obtain rfl:=m _ R
 have b:=q
 refine aW ?_
 cases b
 exact qF () (tE 6 [])
 refine dJ ?_
 cases b
 exact qA () (tE 5 [])
 refine aW ?_
 cases b
 obtain rfl:=m _ R
 have b:=q
 refine bA ?_
 exact qI (l,()) b tI
 rintro ⟨B,_⟩ σ1 b
 dsimp only [Z1e_J1] at b
 refine dX ?_
 cases b
 exact qF () (tE 1 [])
theorem Z2d_ok  {a1:Graph}{a:Int}{r:Int}(b:Z2d a1 a=some r) :
 FnOk Tryz.prog 6 [(.agg [(.slice A2 N2 D2),(.slice A3 N3 D3)].toArray),(iv a)] [aO gG (.slice A2 N2 D2) a1.Nodes,aO kT3 (.slice A3 N3 D3) a1.Outs] (fun (h:Unit)=>((iv r),[])):=by
 unfold Z2d at b
 refine aR Tryz.func6 R 18 R R fun C V=>?_
 refine cL 0 aA ?_
 rintro rfl
 refine cL 1 aA ?_
 rintro rfl
 let j:=RR gG A2 D2 a1.Nodes::RR kT3 A3 D3 a1.Outs::V
 refine cN j ?_
 refine bA ?_
 refine eJ R fun l=>?_
 refine bA ?_
 let g:=aJ l [(sc A2 a1.Nodes D2),(sc A3 a1.Outs D3)] 25::j
 refine qN g ?_
 refine bA ?_
 obtain ⟨m,i,b⟩:=bd b
 refine bL ?_
 refine lM _ (fun w s=>(s.d 1 R)) ?_
 refine lC 1 Bx R (Z1e_ok i) R ?_
 rintro _
 refine lN g ?_
 refine dH ?_
 split at b
 refine dM ?_
 cases b
 exact qF () (tE 3 [])
 refine bL ?_
 obtain ⟨q,e,b⟩:=bd b
 refine bL ?_
 refine lM _ (fun w s=>(s.d 2 R)) ?_
 refine lC 1 tb R (Z1n_ok e) R ?_
 rintro _
 refine lN g ?_
 refine dH ?_
 split at b
 refine dM ?_
 cases b
 exact qF () (tE 3 [])
 refine dH ?_
 cases b
 exact qF () (tE 3 [])
theorem Z0a_ok  {a1:(List Int)}{r:(List Int)}(b:Z0a a1=some r) :
 FnOk Tryz.prog 9 [(.slice A2 N2 D2)] [aO kT3 (.slice A2 N2 D2) a1] (fun (h:HH)=>((s3 h),[ow kT3 3 (s3 h) r])):=by
 unfold Z0a at b
 refine aR Tryz.func9 R 22 R R fun C V=>?_
 refine cL 0 aA ?_
 rintro rfl
 let l:=RR kT3 A2 D2 a1::V
 refine cN l ?_
 refine cH ?_
 obtain ⟨g,b⟩:=gd b
 refine aW ?_
 refine fH (K:=kT3) (m:=(a1.length:Int)) (z:=(0:Int)) R R bI cI jN (Zr.zk zT3 gB) (by decide) R R g.1 g.2.1 g.2.2 (fun A4 D4=>(lS R (aB (aE (aI (bD (A:=((List Int))×(Unit)) (fun a=>Z0a_J1 a.1=some r) (fun a=>[(3,(sc A4 (List.replicate (a1.length:Int).toNat (0:Int)) D4))]) (fun a=>ow kT3 3 (.slice A4 (List.replicate (a1.length:Int).toNat (0:Int)).length D4) a.1::l) ?_ ?_))))))
 refine cH ?_
 obtain ⟨M,D,B⟩:=bd b
 refine bE (A:=Unit) D (fun s a=>[(0,(sc A2 a1 D2)),(3,(sc A4 (List.replicate (a1.length:Int).toNat (0:Int)) D4)),(4,(iv s.2))]) (fun s a=>ow kT3 3 (.slice A4 (List.replicate (a1.length:Int).toNat (0:Int)).length D4) s.1::l) () (aS R) tI ?_
 rintro ⟨E,i⟩ _ σ1 F b u
 dsimp only [Z0a_L1] at b
 refine dJ ?_
 split at b
 refine cU ?_
 obtain ⟨j,b⟩:=gd b
 obtain ⟨e,b⟩:=gd b
 refine cU ?_
 refine bC 1 aA (show 0<a1.length by have:=j; omega) (fun G o19 q=>?_)
 subst q
 refine bA ?_
 refine bC 0 aC (show 0<(List.replicate (a1.length:Int).toNat (0:Int)).length by have:=e; omega) (fun J o22 q=>?_)
 subst q
 refine cE ?_
 refine eB (K:=kT3) (x':=(ix a1 i)) 0 i R R cI R R e.1 e.2 ?_ ?_
 exact fun I h s=>(gF).put I h () (ix a1 i) s
 refine dM ?_
 cases b
 exact qA () tI
 refine aW ?_
 cases b
 obtain rfl:=u _ R
 have b:=B
 refine bA ?_
 exact qI (E,()) b tI
 rintro ⟨L,_⟩ σ1 b
 dsimp only [Z0a_J1] at b
 refine dX ?_
 cases b
 exact qF (A4,(List.replicate (a1.length:Int).toNat (0:Int)).length,D4) (tE 2 [0])
theorem Z34_ok  {a1:Node}{r:Node}(i:Z34 a1=some r) :
 FnOk Tryz.prog 61 [(.agg [(iv a1.Op),(.slice A2 N2 D2),(.slice A3 N3 D3),(.slice A4 N4 D4),(aH a1.Form),(.slice A5 N5 D5)].toArray)] [aO kT3 (.slice A2 N2 D2) a1.Args,aO kT3 (.slice A3 N3 D3) a1.Dims,aO kT3 (.slice A4 N4 D4) a1.Ints,aO kT3 (.slice A5 N5 D5) a1.Data] (fun (h:HH×HH×HH×HH)=>((.agg [(iv r.Op),(s3 h.1),(s3 h.2.1),(s3 h.2.2.1),(aH r.Form),(s3 h.2.2.2)].toArray),[ow kT3 3 (s3 h.1) r.Args,ow kT3 3 (s3 h.2.1) r.Dims,ow kT3 3 (s3 h.2.2.1) r.Ints,ow kT3 3 (s3 h.2.2.2) r.Data])):=by
 unfold Z34 at i
 refine aR Tryz.func61 R 27 R R fun C V=>?_
 refine cL 0 aA ?_
 rintro rfl
 refine cL 1 aA ?_
 rintro rfl
 refine cL 2 aA ?_
 rintro rfl
 refine cL 3 aA ?_
 rintro rfl
 let I:=RR kT3 A2 D2 a1.Args::RR kT3 A3 D3 a1.Dims::RR kT3 A4 D4 a1.Ints::RR kT3 A5 D5 a1.Data::V
 refine cN I ?_
 refine bA ?_
 refine eJ R fun M=>?_
 refine aY R R jC (fun O=>(aB ?_))
 let m:=aJ M [(iv a1.Op),(sc A2 a1.Args D2),(sc A3 a1.Dims D3),(sc A4 a1.Ints D4),(aH a1.Form),(sc A5 a1.Data D5)] 75::I
 refine aW ?_
 refine aY R R jC (fun B=>(aB (aE (aI (aD (lO (eC 0 te R) (lO (eH 2 fC R R R) (lO (eC 0 gR R) (cO 0 R R cI R R R R R (lN (aJ B [(iv a1.Op),(.slice none 0 0),(.slice none 0 0),(.slice none 0 0),(aH ([]:aP)),(.slice none 0 0)] 65::_::m) ?_))))))))))
 refine aW ?_
 obtain ⟨u,D,i⟩:=bd i
 refine aW ?_
 refine lM _ (fun w s=>(s.d 3 R)) ?_
 refine lC 1 zq R (Z0a_ok D) R ?_
 rintro ⟨A11,N11,D11⟩
 refine aM 0 aC ?_
 rintro rfl
 refine cE ?_
 refine cO 1 R R eX R R R R R (lN (_::aJ B [(iv a1.Op),(sc A11 u D11),(.slice none 0 0),(.slice none 0 0),(aH ([]:aP)),(.slice none 0 0)] 65::_::m) ?_)
 refine aW ?_
 obtain ⟨a,E,i⟩:=bd i
 refine aW ?_
 refine lM _ (fun w s=>(s.d 5 R)) ?_
 refine lC 1 zq R (Z0a_ok E) R ?_
 rintro ⟨A14,N14,D14⟩
 refine aM 0 aC ?_
 rintro rfl
 refine cE ?_
 refine cO 2 R R eX R R R R R (lN (_::_::aJ B [(iv a1.Op),(sc A11 u D11),(sc A14 a D14),(.slice none 0 0),(aH ([]:aP)),(.slice none 0 0)] 65::_::m) ?_)
 refine aW ?_
 obtain ⟨g,F,i⟩:=bd i
 refine aW ?_
 refine lM _ (fun w s=>(s.d 7 R)) ?_
 refine lC 1 zq R (Z0a_ok F) R ?_
 rintro ⟨b,J,e⟩
 refine aM 0 aC ?_
 rintro rfl
 refine cE ?_
 refine cO 3 R R eX R R R R R (lN (_::_::_::aJ B [(iv a1.Op),(sc A11 u D11),(sc A14 a D14),(sc b g e),(aH ([]:aP)),(.slice none 0 0)] 65::_::m) ?_)
 refine dX ?_
 refine cO 3 R R rO R R R R R (lN (_::_::_::aJ B [(iv a1.Op),(sc A11 u D11),(sc A14 a D14),(sc b g e),(aH a1.Form),(.slice none 0 0)] 65::_::m) ?_)
 refine aW ?_
 obtain ⟨q,G,i⟩:=bd i
 refine aW ?_
 refine lM _ (fun w s=>(s.d 9 R)) ?_
 refine lC 1 zq R (Z0a_ok G) R ?_
 rintro ⟨j,L,l⟩
 refine aM 0 aC ?_
 rintro rfl
 refine cE ?_
 refine cO 4 R R eX R R R R R (lN (_::_::_::_::aJ B [(iv a1.Op),(sc A11 u D11),(sc A14 a D14),(sc b g e),(aH a1.Form),(sc j q l)] 65::_::m) ?_)
 refine cU ?_
 refine aL 5 R R eN R R R R R R (lN (_::_::_::_::_::aJ O [(iv a1.Op),(sc A11 u D11),(sc A14 a D14),(sc b g e),(aH a1.Form),(sc j q l)] 65::m) ?_)
 refine aW ?_
 cases i
 exact qS ((A11,u.length,D11),(A14,a.length,D14),(b,g.length,e),(j,q.length,l)) (tE 11 [3,2,1,0])
theorem Z0x_ok  {a1:(List Node)}{r:(List Node)}(b:Z0x a1=some r) :
 FnOk Tryz.prog 28 [(.slice A2 N2 D2)] [aO gG (.slice A2 N2 D2) a1] (fun (h:HH)=>((s3 h),[ow kT65 65 (s3 h) r])):=by
 unfold Z0x at b
 refine aR Tryz.func28 R 23 R R fun C V=>?_
 refine cL 0 aA ?_
 rintro rfl
 let W0:=RR gG A2 D2 a1::V
 refine cN W0 ?_
 refine cH ?_
 obtain ⟨q,b⟩:=gd b
 refine aW ?_
 refine fH (K:=kT65) (m:=(a1.length:Int)) (z:=zT65.z) R R gQ eN tc (Zr.zk zT65 jC) (by decide) R R q.1 q.2.1 q.2.2 (fun A4 D4=>(lS R (aB (aE (aI (bD (A:=((List Node))×(Unit)) (fun a=>Z0x_J1 a.1=some r) (fun a=>[(3,(sc A4 (List.replicate (a1.length:Int).toNat zT65.z) D4))]) (fun a=>ow kT65 65 (.slice A4 (List.replicate (a1.length:Int).toNat zT65.z).length D4) a.1::W0) ?_ ?_))))))
 refine cH ?_
 obtain ⟨e1,a6,a5⟩:=bd b
 refine bE (A:=Unit) a6 (fun s a=>[(0,(sc A2 a1 D2)),(3,(sc A4 (List.replicate (a1.length:Int).toNat zT65.z) D4)),(4,(iv s.2))]) (fun s a=>ow kT65 65 (.slice A4 (List.replicate (a1.length:Int).toNat zT65.z).length D4) s.1::W0) () (aS R) tI ?_
 rintro ⟨a7,g⟩ _ σ1 a8 b a4
 dsimp only [Z0x_L1] at b
 refine dJ ?_
 split at b
 refine cU ?_
 obtain ⟨j,b⟩:=gd b
 obtain ⟨i,u,b⟩:=bd b
 obtain ⟨l,b⟩:=gd b
 refine cU ?_
 refine bC 1 aA (show 0<a1.length by have:=j; omega) (fun ae o29 ha=>?_)
 subst ha
 refine cE ?_
 refine gO (K:=gG) 1 g dT75.dec R j.1 j.2 ?_
 rintro ⟨-,⟨B,O⟩,⟨D,T⟩,⟨E,U⟩,-,⟨F,Y⟩⟩
 refine lO (vz (.agg [(iv (ix a1 g).Op),(sc B ((ix a1 g).Args) O),(sc D ((ix a1 g).Dims) T),(sc E ((ix a1 g).Ints) U),(aH (ix a1 g).Form),(sc F ((ix a1 g).Data) Y)].toArray) (eF (fo:=0) 0 xy xx R R R R)) (lM _ (fun w s=>(((((s.d 1 R).d 3 R).d 5 R).d 7 R).e 10 [3,2,1,0,4,5,6,7,8,9])) ?_)
 refine lC 4 By R (Z34_ok u) R ?_
 rintro ⟨⟨G,a9,Z⟩,⟨J,aa,a0⟩,⟨L,ab,a2⟩,⟨M,ac,a3⟩⟩
 refine aM 0 aC ?_
 rintro rfl
 refine aM 1 aC ?_
 rintro rfl
 refine aM 2 aC ?_
 rintro rfl
 refine aM 3 aC ?_
 rintro rfl
 refine bC 9 aC (show 0<(List.replicate (a1.length:Int).toNat zT65.z).length by have:=l; omega) (fun ag o42 ha=>?_)
 subst ha
 refine cE ?_
 refine lM _ (fun w s=>(s.f 10 [9,1,0,9])) ?_
 refine eB (K:=kT65) (x':=i) 4 g R R eN R R l.1 l.2 ?_ ?_
 exact fun I h s=>(nE).put I h ((),(sc G i.Args Z),(sc J i.Dims a0),(sc L i.Ints a2),(),(sc M i.Data a3)) i s
 refine dM ?_
 cases b
 exact qA () (tE 6 [0])
 refine aW ?_
 cases b
 obtain rfl:=a4 _ R
 have b:=a5
 refine bA ?_
 exact qI (a7,()) b tI
 rintro ⟨ah,_⟩ σ1 b
 dsimp only [Z0x_J1] at b
 refine dX ?_
 cases b
 exact qF (A4,(List.replicate (a1.length:Int).toNat zT65.z).length,D4) (tE 2 [0])
theorem Z09_ok  {a1:Graph}{r:Graph}(b:Z09 a1=some r) :
 FnOk Tryz.prog 8 [(.agg [(.slice A2 N2 D2),(.slice A3 N3 D3)].toArray)] [aO gG (.slice A2 N2 D2) a1.Nodes,aO kT3 (.slice A3 N3 D3) a1.Outs] (fun (h:HH×HH)=>((.agg [(s3 h.1),(s3 h.2)].toArray),[ow kT65 65 (s3 h.1) r.Nodes,ow kT3 3 (s3 h.2) r.Outs])):=by
 unfold Z09 at b
 refine aR Tryz.func8 R 13 R R fun C V=>?_
 refine cL 0 aA ?_
 rintro rfl
 refine cL 1 aA ?_
 rintro rfl
 let l:=RR gG A2 D2 a1.Nodes::RR kT3 A3 D3 a1.Outs::V
 refine cN l ?_
 refine bA ?_
 refine eJ R fun q=>?_
 refine aY R R hX (fun u=>(aB ?_))
 let i:=aJ q [(sc A2 a1.Nodes D2),(sc A3 a1.Outs D3)] 25::l
 refine aW ?_
 refine aY R R hX (fun m=>(aB (aE (aI ?_))))
 obtain ⟨g,j,b⟩:=bd b
 refine aW ?_
 refine lM _ (fun w s=>(s.d 3 R)) ?_
 refine lC 1 Bz R (Z0x_ok j) R ?_
 rintro ⟨A9,N9,D9⟩
 refine aM 0 aC ?_
 rintro rfl
 refine cE ?_
 refine cO 1 R R tf R R R R R (lN (_::aJ m [(sc A9 g D9),(.slice none 0 0)] 31::_::i) ?_)
 refine aW ?_
 obtain ⟨a,e,b⟩:=bd b
 refine aW ?_
 refine lM _ (fun w s=>(s.d 5 R)) ?_
 refine lC 1 zq R (Z0a_ok e) R ?_
 rintro ⟨A12,N12,D12⟩
 refine aM 0 aC ?_
 rintro rfl
 refine cE ?_
 refine cO 2 R R eX R R R R R (lN (_::_::aJ m [(sc A9 g D9),(sc A12 a D12)] 31::_::i) ?_)
 refine cU ?_
 refine aL 3 R R dN R R R R R R (lN (_::_::_::aJ u [(sc A9 g D9),(sc A12 a D12)] 31::i) ?_)
 refine aW ?_
 cases b
 exact qS ((A9,g.length,D9),(A12,a.length,D12)) (tE 7 [1,0])
theorem fM  {b e:aP}{mG:Int}{r:Int}(a:cZ b e=some r) :
 FnOk Tryz.prog 162 [(aH b),(aH e)] [gl 0 mG] (fun (_:Unit)=>((iv r),[])):=by
 unfold cZ at a
 obtain ⟨g,a⟩:=gd a
 obtain rfl:=so a
 exact zb fun w h=>Tryz.stringslite_Index ⟨b.toArray⟩ ⟨e.toArray⟩ mG w (by simpa [ByteArray.size] using g) h
theorem Z2l_ok  {p1:aP}{a:aP}{mG:Int}{r:Int}(b:Z2l p1 a=some r) :
 FnOk Tryz.prog 148 [(aH p1),(aH a)] [gl 0 mG] (fun (h:Unit)=>((iv r),[])):=by
 unfold Z2l at b
 refine aR Tryz.func148 R 8 R R fun C V=>?_
 let g:=gl 0 mG::V
 refine cN g ?_
 refine cH ?_
 obtain ⟨i,e,b⟩:=bd b
 refine aD (lO (vp (aH p1) R) (lO (vp (aH a) R) (lM _ (fun w s=>(s.dg 0 R)) ?_)))
 refine lC 1 wI R (fM e) R ?_
 rintro _
 refine lN g ?_
 refine bL ?_
 cases b
 exact qF () (tE 1 [])
theorem Z3z_ok  {p1:aP}{a:aP}{mG:Int}{r:Bool}(b:Z3z p1 a=some r) :
 FnOk Tryz.prog 116 [(aH p1),(aH a)] [gl 0 mG] (fun (h:Unit)=>((.bool r),[])):=by
 unfold Z3z at b
 refine aR Tryz.func116 R 9 R R fun C V=>?_
 let g:=gl 0 mG::V
 refine cN g ?_
 refine cH ?_
 obtain ⟨i,e,b⟩:=bd b
 refine aD (lO (vp (aH p1) R) (lO (vp (aH a) R) (lM _ (fun w s=>(s.dg 0 R)) ?_)))
 refine lC 1 wJ R (Z2l_ok e) R ?_
 rintro _
 refine lN g ?_
 refine cU ?_
 cases b
 exact qF () (tE 1 [])
theorem Z0u_ok  {e:(List Int)}{g:(List Int)}{r:Bool}(b:Z0u e g=some r) :
 FnOk Tryz.prog 41 [(.slice A2 N2 D2),(.slice A4 N4 D4)] [aO kT3 (.slice A2 N2 D2) e,aO kT3 (.slice A4 N4 D4) g] (fun (h:Unit)=>((.bool r),[])):=by
 unfold Z0u at b
 refine aR Tryz.func41 R 26 R R fun C V=>?_
 refine cL 0 aA ?_
 rintro rfl
 refine cL 1 aA ?_
 rintro rfl
 let q:=RR kT3 A2 D2 e::RR kT3 A4 D4 g::V
 refine cN q ?_
 refine pb ?_
 split at b
 refine dM ?_
 cases b
 exact qF () (tE 2 [])
 refine bL ?_
 refine bD (A:=(Unit)×(Unit)) (fun a=>Z0u_J1=some r) (fun a=>[]) (fun a=>q) ?_ ?_
 refine dM ?_
 obtain ⟨I,B,m⟩:=bd b
 refine bE (A:=Unit) B (fun s a=>[(0,(sc A2 e D2)),(1,(sc A4 g D4)),(12,(il e)),(13,(iv s))]) (fun s a=>q) () (aS R) tI ?_
 rintro G _ σ1 D b i
 dsimp only [Z0u_L1] at b
 refine cH ?_
 split at b
 refine iZ ?_
 obtain ⟨j,b⟩:=gd b
 obtain ⟨l,b⟩:=gd b
 refine bB 0 aA (show 0<e.length by have:=j; omega) (fun E o18 u=>?_)
 subst u
 refine bB 1 aA (show 0<g.length by have:=l; omega) (fun F o21 u=>?_)
 subst u
 refine dE 9 [] bQ fun L J=>?_
 refine wu 0 [] ?_
 refine dD (aE ?_)
 split at b
 refine dJ ?_
 cases b
 obtain rfl:=i _ R
 have b:=m
 refine aW ?_
 cases b
 exact qF () (tE 2 [])
 refine dM ?_
 cases b
 exact qA () tI
 refine aW ?_
 cases b
 obtain rfl:=i _ R
 have b:=m
 refine bA ?_
 exact cK ((),()) b trivial tI
 rintro ⟨_,_⟩ σ1 b
 dsimp only [Z0u_J1] at b
 refine cH ?_
 cases b
 exact qF () (tE 2 [])
theorem iR  {p1:aP}{a:aP}{mG:Int}{r:aP×aP×Bool}(b:eI p1 a=some r) :
 FnOk Tryz.prog 209 [(aH p1),(aH a)] [gl 0 mG] (fun (h:Unit)=>((.tuple [(aH r.1),(aH r.2.1),(.bool r.2.2)].toArray),[])):=by
 unfold eI at b
 refine aR Tryz.func209 R 23 R R fun C V=>?_
 let l:=gl 0 mG::V
 refine cN l ?_
 refine bA ?_
 refine lO (vp (aH ([]:aP)) R) (lO (vp (aH ([]:aP)) R) ?_)
 refine cU ?_
 obtain ⟨i,j,b⟩:=bd b
 refine aD (lO (vp (aH p1) R) (lO (vp (aH a) R) (lM _ (fun w s=>(s.dg 0 R)) ?_)))
 refine lC 1 wI R (fM j) R ?_
 rintro _
 refine lN l ?_
 refine dJ ?_
 split at b
 refine bA ?_
 obtain ⟨e,b⟩:=gd b
 obtain ⟨g,b⟩:=gd b
 refine dE 12 [] bQ fun q m=>?_
 refine dR 0 R (vp (aH p1) R) (dR 1 R (vI R) (dR 2 R (vz (aH (sub p1 (0:Int) i)) (iH (0:Int) i gH R R R e.1 e.2.1 e.2.2)) (dR 3 R (vp (aH p1) R) (dR 4 R (vI R) (dR 5 R (vp (aH a) R) (dR 6 R (vz (il a) (dT gH R)) (dR 7 R (jy R R) (dR 8 R (vz (aH (sub p1 (aK (i+(a.length:Int))) (p1.length:Int))) (iH (aK (i+(a.length:Int))) (p1.length:Int) gH R R R g.1 g.2.1 g.2.2)) (dR 9 R (vp (aH (sub p1 (0:Int) i)) R) (dR 10 R (vp (aH (sub p1 (aK (i+(a.length:Int))) (p1.length:Int))) R) (dR 11 R (vB R) (dD ?_))))))))))))
 refine aW ?_
 cases b
 exact iL () (tE 1 [])
 refine cU ?_
 refine lO (vp (aH p1) R) (lO (vp (aH p1) R) (lO (vp (aH ([]:aP)) R) ?_))
 refine bL ?_
 cases b
 exact iL () (tE 1 [])
theorem Z37_ok  {p1:aP}{a:aP}{mG:Int}{r:aP×aP×Bool}(b:Z37 p1 a=some r) :
 FnOk Tryz.prog 207 [(aH p1),(aH a)] [gl 0 mG] (fun (h:Unit)=>((.tuple [(aH r.1),(aH r.2.1),(.bool r.2.2)].toArray),[])):=by
 unfold Z37 at b
 refine aR Tryz.func207 R 13 R R fun C V=>?_
 let i:=gl 0 mG::V
 refine cN i ?_
 refine bA ?_
 refine lO (vp (aH ([]:aP)) R) (lO (vp (aH ([]:aP)) R) ?_)
 refine bL ?_
 obtain ⟨e,g,b⟩:=bd b
 refine aD (lO (vp (aH p1) R) (lO (vp (aH a) R) (lM _ (fun w s=>(s.dg 0 R)) ?_)))
 refine lC 1 zY R (iR g) R ?_
 rintro _
 refine lN i ?_
 refine lO (vp (aH e.1) R) (lO (vp (aH e.2.1) R) (lB R (lO (vp (aH e.1) R) (lO (vp (aH e.2.1) R) ?_))))
 refine bL ?_
 cases b
 exact iL () (tE 1 [])
theorem Z3i_ok  {b e:aP}{r:Int}(a:Z3i b e=some r) :
 FnOk Tryz.prog 212 [(aH b),(aH e)] [] (fun (_:Unit)=>((iv r),[])):=by
 unfold Z3i at a
 split at a
 ·rename_i c
  obtain rfl:=so a
  exact qQ fun w=>Tryz.strings_Count_one ⟨b.toArray⟩ c w
 ·cases a
theorem Z0n_ok  {p1:aP}{j:aP}{b:Int}{n4:Int}{mG:Int}{r:(List aP)}(g:Z0n p1 j b n4=some r) :
 FnOk Tryz.prog 210 [(aH p1),(aH j),(iv b),(iv n4)] [gl 0 mG] (fun (h:HH)=>((s3 h),[aO kT9 (s3 h) r])):=by
 unfold Z0n at g
 refine aR Tryz.func210 R 66 R R fun C V=>?_
 let U:=gl 0 mG::V
 refine cN U ?_
 refine iZ ?_
 rcases bY g with ⟨_,g⟩|⟨_,g⟩
 refine dM ?_
 cases g
 exact qF (none,0,0) (fun w s=>((s.nilr kT9).e 2 [0]))
 refine cH ?_
 refine lO (vp (aH j) R) (lO (vz (.bool (j==([]:aP))) (jf R R R)) ?_)
 refine bA ?_
 rcases bY g with ⟨_,g⟩|⟨_,g⟩
 refine cE ?_
 cases g
 refine bL ?_
 refine bD (A:=(Int)×(Unit)) (fun a=>Z0n_J2 p1 j b a.1=some r) (fun a=>[(0,(aH p1)),(1,(aH j)),(2,(iv b)),(3,(iv a.1))]) (fun a=>U) ?_ ?_
 refine cH ?_
 rcases bY g with ⟨_,g⟩|⟨_,g⟩
 refine cE ?_
 obtain ⟨r8,a6,g⟩:=bd g
 refine aD (lO (vp (aH p1) R) (lO (vp (aH j) R) (lC 0 z' R (Z3i_ok a6) R ?_)))
 rintro _
 refine aW ?_
 exact qI ((aK (r8+1)),()) g tI
 refine bA ?_
 exact qI (n4,()) g tI
 rintro ⟨i,_⟩ σ1 g
 dsimp only [Z0n_J2] at g
 refine aW ?_
 refine lO (vp (aH p1) R) (lO (vz (il p1) (dT gH R)) (lO (jy R R) (lO (vz (iv (if (aK ((p1.length:Int)+1))<i then (aK ((p1.length:Int)+1)) else i)) (wr R R)) ?_)))
 refine bL ?_
 obtain ⟨u,g⟩:=gd g
 refine bA ?_
 refine fH (K:=kT9) (m:=(if (aK ((p1.length:Int)+1))<i then (aK ((p1.length:Int)+1)) else i)) (z:=([]:aP)) R R mi rO Cz (Zr.zk zT9 zz) (by decide) R R u.1 u.2.1 u.2.2 (fun A12 D12=>(lS R (aB (aE (aI (aD (lI R (lO (xl R R) (lI R (aB (aE (aI (aD (lI R (aB (aE (aI (bD (A:=(aP×(List aP)×Int)×(Unit)) (fun a=>Z0n_J3 p1 i a.1.1 a.1.2.1 a.1.2.2=some r) (fun a=>[(0,(aH a.1.1)),(9,(sc A12 (List.replicate (if (aK ((p1.length:Int)+1))<i then (aK ((p1.length:Int)+1)) else i).toNat ([]:aP)) D12)),(10,(iv a.1.2.2))]) (fun a=>ow kT9 9 (.slice A12 (List.replicate (if (aK ((p1.length:Int)+1))<i then (aK ((p1.length:Int)+1)) else i).toNat ([]:aP)).length D12) a.1.2.1::U) ?_ ?_))))))))))))))))))
 refine cE ?_
 obtain ⟨e1,a5,Z⟩:=bd g
 refine bE (A:=Unit) a5 (fun s a=>[(0,(aH s.1)),(1,(aH j)),(2,(iv b)),(3,(iv (aK ((if (aK ((p1.length:Int)+1))<i then (aK ((p1.length:Int)+1)) else i) - 1)))),(9,(sc A12 (List.replicate (if (aK ((p1.length:Int)+1))<i then (aK ((p1.length:Int)+1)) else i).toNat ([]:aP)) D12)),(10,(iv s.2.2))]) (fun s a=>ow kT9 9 (.slice A12 (List.replicate (if (aK ((p1.length:Int)+1))<i then (aK ((p1.length:Int)+1)) else i).toNat ([]:aP)).length D12) s.2.1::U) () (aS R) tI ?_
 rintro ⟨l,O,T⟩ _ σ1 a8 g Y
 dsimp only [Z0n_L1] at g
 refine dM ?_
 rcases bY g with ⟨_,g⟩|⟨_,g⟩
 refine cU ?_
 obtain ⟨q,a0,g⟩:=bd g
 refine aD (lO (vp (aH l) R) (lO (vp (aH j) R) (lM (gl 0 mG::ow kT9 9 (.slice A12 (List.replicate (if (aK ((p1.length:Int)+1))<i then (aK ((p1.length:Int)+1)) else i).toNat ([]:aP)).length D12) O::U) (fun w s=>(s.dg 1 R)) ?_)))
 refine lC 1 wJ R (Z2l_ok a0) R ?_
 rintro _
 refine dH ?_
 rcases bY g with ⟨_,g⟩|⟨_,g⟩
 refine aW ?_
 refine sw R ?_
 cases g
 obtain rfl:=Y _ R
 have g:=Z
 refine bA ?_
 exact qI ((l,O,T),()) g tI
 refine bL ?_
 obtain ⟨B,g⟩:=gd g
 obtain ⟨D,g⟩:=gd g
 refine aW ?_
 refine lO (vp (aH l) R) ?_
 refine aW ?_
 refine lO (vz (aH (sub l (0:Int) (aK (q+b)))) (iH (0:Int) (aK (q+b)) gH R R R B.1 B.2.1 B.2.2)) (bC 0 aC (show 0<(List.replicate (if (aK ((p1.length:Int)+1))<i then (aK ((p1.length:Int)+1)) else i).toNat ([]:aP)).length by have:=D; omega) (fun a4 o34 ha=>?_))
 subst ha
 refine cE ?_
 refine eB (K:=kT9) (x':=(sub l (0:Int) (aK (q+b)))) 0 T R R rO R R D.1 D.2 ?_ ?_
 exact fun I h s=>(yP).put I h () (sub l (0:Int) (aK (q+b))) s
 refine cE ?_
 obtain ⟨a7,J,g⟩:=bd g
 replace J:=Option.some.inj J
 refine qM (ow kT9 9 (.slice (ad a4 o34) (List.replicate (if (aK ((p1.length:Int)+1))<i then (aK ((p1.length:Int)+1)) else i).toNat ([]:aP)).length D12) a7::U) (fun w s=>by rw [← J]; exact s) ?_
 refine bA ?_
 obtain ⟨E,g⟩:=gd g
 refine aD (lO (vp (aH l) R) (lI R (lO (vp (aH j) R) (lO (vz (il j) (dT gH R)) (lO (jy R R) (lO (vz (aH (sub l (aK (q+(j.length:Int))) (l.length:Int))) (iH (aK (q+(j.length:Int))) (l.length:Int) gH R R R E.1 E.2.1 E.2.2)) (lO (vp (aH (sub l (aK (q+(j.length:Int))) (l.length:Int))) R) ?_)))))))
 refine dM ?_
 cases g
 exact qA () tI
 refine aW ?_
 cases g
 obtain rfl:=Y _ R
 have g:=Z
 refine bA ?_
 exact qI ((l,O,T),()) g tI
 rintro ⟨⟨M,a3,L⟩,_⟩ σ1 g
 dsimp only [Z0n_J3] at g
 refine cE ?_
 obtain ⟨F,g⟩:=gd g
 refine aW ?_
 refine lO (vp (aH M) R) (bC 0 aC (show 0<(List.replicate (if (aK ((p1.length:Int)+1))<i then (aK ((p1.length:Int)+1)) else i).toNat ([]:aP)).length by have:=F; omega) (fun a9 o46 ha=>?_))
 subst ha
 refine cE ?_
 refine eB (K:=kT9) (x':=M) 0 L R R rO R R F.1 F.2 ?_ ?_
 exact fun I h s=>(yP).put I h () M s
 refine aW ?_
 obtain ⟨G,g⟩:=gd g
 refine bL ?_
 refine fS (fun w s=>s.shr 0 R) (gZ (K:=kT9) (0:Int) (aK (L+1)) 0 R R mi rO R R R R G.1 G.2.1 G.2.2 (fun a1 a2=>(lS R (aB (aE (bO ?_))))))
 cases g
 exact qF (a1,(sub (a3.set L.toNat M) (0:Int) (aK (L+1))).length,a2) (tE 3 [0])
theorem Z38_ok  {p1:aP}{a:aP}{mG:Int}{r:(List aP)}(b:Z38 p1 a=some r) :
 FnOk Tryz.prog 208 [(aH p1),(aH a)] [gl 0 mG] (fun (h:HH)=>((.slice h.1 h.2.1 h.2.2),[aO kT9 (.slice h.1 h.2.1 h.2.2) r])):=by
 unfold Z38 at b
 refine aR Tryz.func208 R 8 R R fun C V=>?_
 refine cN (_::V) ?_
 let g:List HP:=gl 0 mG::V
 refine cN g ?_
 refine aI (aD (lS R (aB (aE (aI ?_)))))
 obtain ⟨j,i,b⟩:=bd b
 refine aD (lO (vp (aH p1) R) (lO (vp (aH a) R) (lM (gl 0 mG::g) (fun w s=>(s.dg 0 R)) ?_)))
 refine lC 1 A0 R (Z0n_ok i) R ?_
 rintro ⟨A5,N5,D5⟩
 refine lN (aO kT9 (.slice A5 N5 D5) j::g) ?_
 refine aM 0 aA ?_
 rintro rfl
 refine lS R (aB (aE (bO ?_)))
 obtain rfl:=so b
 exact qF (A5,j.length,D5) (fun w s=>(s.e 2 [0]))
theorem hG  {b:aP}{a:Int}{r:Int}(e:dL b a=some r) :
 FnOk Tryz.prog 172 [(aH b),(.int .u8 a)] [] (fun (_:Unit)=>((iv r),[])):=by
 unfold dL at e
 obtain rfl:=so e
 exact qQ fun w=>Tryz.stringslite_IndexByte ⟨b.toArray⟩ a w
theorem Z1z_ok  {p1:aP}{e:Int}{r:Int}(a:Z1z p1 e=some r) :
 FnOk Tryz.prog 205 [(aH p1),(.int .u8 e)] [] (fun (h:Unit)=>((iv r),[])):=by
 unfold Z1z at a
 refine aR Tryz.func205 R 8 R R fun C V=>?_
 refine cN V ?_
 refine cH ?_
 obtain ⟨g,b,a⟩:=bd a
 refine aD (lO (vp (aH p1) R) (lI R (lC 0 Aa R (hG b) R ?_)))
 rintro _
 refine bL ?_
 cases a
 exact qF () tI
theorem Zc_ok {g:List Int}{a:Option Addr}{b e:Nat}{r:(List Int)}(m:Zc g=some r) :
  FnOk Tryz.prog 43 [(.slice a b e)] [aO kT3 (.slice a b e) g] (fun (h:(Option Addr×Nat×Nat))=>((s3 h),[ow kT3 3 (s3 h) r])):=by
 unfold Zc at m
 obtain ⟨B,m⟩:=gd m
 obtain rfl:=Option.some.inj m
 refine aR Tryz.func43 rfl 8 rfl rfl fun C V=>(yZ (V':=aO kT3 (.slice a b e) g::V) tI (bJ 0 aA (fun (D:b=g.length)=>?_)))
 subst D
 refine bA ?_
 refine lS rfl ?_
 refine cU ?_
 refine lS rfl (sJ (.bool a.isNone) (xg bI rfl rfl) rfl rfl (aB (aE ?_)))
 rcases Bool.eq_false_or_eq_true a.isNone with l | l
 ·refine bM rfl l ?_
  refine xk 0 aA l (fun (E:g=[])=>?_)
  subst E
  refine bA ?_
  refine lS rfl ?_
  refine bL ?_
  exact cX (vs:=[(.slice none 0 0)]) (.inl rfl) (none,0,0) rfl ⟨rfl,trivial⟩ rfl (fun w s=>((s.nilo kT3 3).sel 2 [0] rfl rfl))
 ·refine aX rfl l (bS (aE ?_))
  refine bA ?_
  refine bK (K:=kT3) (xs:=([]:List Int)) (vs:=[]) 0 rfl rfl bI cI gB rfl rfl rfl rfl rfl rfl ?_ rfl (fun q u=>?_)
  ·exact fun I h s=>(gF).list [] I h s
  refine lS rfl (dV (K:=kT3) 17592186044416 rfl rfl bI cI jN (Zr.zk zT3 gB) rfl rfl rfl rfl rfl rfl (sC (Kind.scal_flat _ _)) (by simpa using B) (fun i j=>(lS rfl (aB (aE (bO ?_))))))
  exact cX (vs:=[(.slice i g.length j)]) (.inl rfl) (i,g.length,j) rfl ⟨rfl,trivial⟩ rfl tI
theorem Z0i_ok  {a1:(List Int)}{e:(List Int)}{r:Bool}(b:Z0i a1 e=some r) :
 FnOk Tryz.prog 12 [(.slice A2 N2 D2),(.slice A4 N4 D4)] [aO kT3 (.slice A2 N2 D2) a1,aO kT3 (.slice A4 N4 D4) e] (fun (h:Unit)=>((.bool r),[])):=by
 unfold Z0i at b
 refine aR Tryz.func12 R 26 R R fun C V=>?_
 refine cL 0 aA ?_
 rintro rfl
 refine cL 1 aA ?_
 rintro rfl
 let m:=RR kT3 A2 D2 a1::RR kT3 A4 D4 e::V
 refine cN m ?_
 refine pb ?_
 split at b
 refine dM ?_
 cases b
 exact qF () (tE 2 [])
 refine bL ?_
 refine bD (A:=(Unit)×(Unit)) (fun a=>Z0i_J1=some r) (fun a=>[]) (fun a=>m) ?_ ?_
 refine cH ?_
 obtain ⟨G,u,l⟩:=bd b
 refine bE (A:=Unit) u (fun s a=>[(0,(sc A2 a1 D2)),(1,(sc A4 e D4)),(5,(iv s))]) (fun s a=>m) () (aS R) tI ?_
 rintro F _ σ1 B b g
 dsimp only [Z0i_L1] at b
 refine dJ ?_
 split at b
 refine cH ?_
 obtain ⟨i,b⟩:=gd b
 obtain ⟨j,b⟩:=gd b
 refine bB 0 aA (show 0<a1.length by have:=i; omega) (fun D o18 q=>?_)
 subst q
 refine bB 1 aA (show 0<e.length by have:=j; omega) (fun E o21 q=>?_)
 subst q
 refine dE 9 [] bQ fun J I=>?_
 refine wu 0 [] ?_
 refine dD (aE ?_)
 split at b
 refine dJ ?_
 cases b
 obtain rfl:=g _ R
 have b:=l
 refine aW ?_
 cases b
 exact qF () (tE 2 [])
 refine dJ ?_
 cases b
 exact qA () tI
 refine aW ?_
 cases b
 obtain rfl:=g _ R
 have b:=l
 refine bA ?_
 exact cK ((),()) b trivial tI
 rintro ⟨_,_⟩ σ1 b
 dsimp only [Z0i_J1] at b
 refine cH ?_
 cases b
 exact qF () (tE 2 [])
theorem Z2q_ok  {a1:Node}{b:Node}{r:Bool}(a:Z2q a1 b=some r) :
 FnOk Tryz.prog 70 [(.agg [(iv a1.Op),(.slice A2 N2 D2),(.slice A3 N3 D3),(.slice A4 N4 D4),(aH a1.Form),(.slice A5 N5 D5)].toArray),(.agg [(iv b.Op),(.slice A7 N7 D7),(.slice A8 N8 D8),(.slice A9 N9 D9),(aH b.Form),(.slice A10 N10 D10)].toArray)] [aO kT3 (.slice A2 N2 D2) a1.Args,aO kT3 (.slice A3 N3 D3) a1.Dims,aO kT3 (.slice A4 N4 D4) a1.Ints,aO kT3 (.slice A5 N5 D5) a1.Data,aO kT3 (.slice A7 N7 D7) b.Args,aO kT3 (.slice A8 N8 D8) b.Dims,aO kT3 (.slice A9 N9 D9) b.Ints,aO kT3 (.slice A10 N10 D10) b.Data] (fun (h:Unit)=>((.bool r),[])):=by
 unfold Z2q at a
 refine aR Tryz.func70 R 39 R R fun C V=>?_
 refine cL 0 aA ?_
 rintro rfl
 refine cL 1 aA ?_
 rintro rfl
 refine cL 2 aA ?_
 rintro rfl
 refine cL 3 aA ?_
 rintro rfl
 refine cL 4 aA ?_
 rintro rfl
 refine cL 5 aA ?_
 rintro rfl
 refine cL 6 aA ?_
 rintro rfl
 refine cL 7 aA ?_
 rintro rfl
 let B:=RR kT3 A2 D2 a1.Args::RR kT3 A3 D3 a1.Dims::RR kT3 A4 D4 a1.Ints::RR kT3 A5 D5 a1.Data::RR kT3 A7 D7 b.Args::RR kT3 A8 D8 b.Dims::RR kT3 A9 D9 b.Ints::RR kT3 A10 D10 b.Data::V
 refine cN B ?_
 refine bA ?_
 refine eJ R fun q=>?_
 refine eJ R fun u=>?_
 refine bA ?_
 let g:=aJ u [(iv b.Op),(sc A7 b.Args D7),(sc A8 b.Dims D8),(sc A9 b.Ints D9),(aH b.Form),(sc A10 b.Data D10)] 65::aJ q [(iv a1.Op),(sc A2 a1.Args D2),(sc A3 a1.Dims D3),(sc A4 a1.Ints D4),(aH a1.Form),(sc A5 a1.Data D5)] 65::B
 refine qN g ?_
 refine j9 ?_
 split at a
 refine dM ?_
 cases a
 exact qF () (tE 10 [])
 refine cU ?_
 obtain ⟨D,i,a⟩:=bd a
 refine cU ?_
 refine lM _ (fun w s=>(((s.d 2 R).d 7 R).e 2 [1,0])) ?_
 refine lC 2 tv R (Z0i_ok i) R ?_
 rintro _
 refine lN g ?_
 refine aW ?_
 split at a
 refine dM ?_
 cases a
 exact qF () (tE 10 [])
 refine cU ?_
 obtain ⟨E,j,a⟩:=bd a
 refine cU ?_
 refine lM _ (fun w s=>(((s.d 3 R).d 8 R).e 2 [1,0])) ?_
 refine lC 2 tv R (Z0i_ok j) R ?_
 rintro _
 refine lN g ?_
 refine aW ?_
 split at a
 refine dM ?_
 cases a
 exact qF () (tE 10 [])
 refine cU ?_
 obtain ⟨F,l,a⟩:=bd a
 refine cU ?_
 refine lM _ (fun w s=>(((s.d 4 R).d 9 R).e 2 [1,0])) ?_
 refine lC 2 tv R (Z0i_ok l) R ?_
 rintro _
 refine lN g ?_
 refine aW ?_
 split at a
 refine dM ?_
 cases a
 exact qF () (tE 10 [])
 refine dH ?_
 refine lO (vz (.bool (!(a1.Form==b.Form))) (jf R R R)) ?_
 refine bA ?_
 split at a
 refine dM ?_
 cases a
 exact qF () (tE 10 [])
 refine cU ?_
 obtain ⟨G,m,a⟩:=bd a
 refine cU ?_
 refine lM _ (fun w s=>(((s.d 5 R).d 10 R).e 2 [1,0])) ?_
 refine lC 2 tv R (Z0i_ok m) R ?_
 rintro _
 refine lN g ?_
 refine aW ?_
 split at a
 refine dM ?_
 cases a
 exact qF () (tE 10 [])
 refine dJ ?_
 cases a
 exact qF () (tE 10 [])
theorem Z1j_ok  {a1:(List Node)}{i:(List Node)}{r:Bool}(g:Z1j a1 i=some r) :
 FnOk Tryz.prog 33 [(.slice A2 N2 D2),(.slice A4 N4 D4)] [aO kT65 (.slice A2 N2 D2) a1,aO kT65 (.slice A4 N4 D4) i] (fun (h:Unit)=>((.bool r),[])):=by
 unfold Z1j at g
 refine aR Tryz.func33 R 27 R R fun C V=>?_
 refine cL 0 aA ?_
 rintro rfl
 refine cL 1 aA ?_
 rintro rfl
 let W0:=RR kT65 A2 D2 a1::RR kT65 A4 D4 i::V
 refine cN W0 ?_
 refine pb ?_
 split at g
 refine dM ?_
 cases g
 exact qF () (tE 2 [])
 refine bL ?_
 refine bD (A:=(Unit)×(Unit)) (fun a=>Z1j_J1=some r) (fun a=>[]) (fun a=>W0) ?_ ?_
 refine cH ?_
 obtain ⟨e1,a3,q⟩:=bd g
 refine bE (A:=Unit) a3 (fun s a=>[(0,(sc A2 a1 D2)),(1,(sc A4 i D4)),(5,(iv s))]) (fun s a=>W0) () (aS R) tI ?_
 rintro b _ σ1 a4 g m
 dsimp only [Z1j_L1] at g
 refine dJ ?_
 split at g
 refine cH ?_
 obtain ⟨j,g⟩:=gd g
 obtain ⟨l,g⟩:=gd g
 obtain ⟨a7,u,g⟩:=bd g
 refine bB 0 aA (show 0<a1.length by have:=j; omega) (fun a5 o28 ha=>?_)
 subst ha
 refine dP (K:=kT65) 0 b dT65.dec R j.1 j.2 ?_
 rintro ⟨-,⟨B,M⟩,⟨D,O⟩,⟨E,T⟩,-,⟨F,U⟩⟩
 refine bB 6 aA (show 0<i.length by have:=l; omega) (fun a6 o35 ha=>?_)
 subst ha
 refine dP (K:=kT65) 6 b dT65.dec R l.1 l.2 ?_
 rintro ⟨-,⟨G,Y⟩,⟨I,Z⟩,⟨J,a0⟩,-,⟨L,a2⟩⟩
 refine dE 10 [] bQ fun ht hn=>?_
 refine iM 0 [] ?_
 refine dR 3 R (vz (.agg [(iv (ix a1 b).Op),(sc B ((ix a1 b).Args) M),(sc D ((ix a1 b).Dims) O),(sc E ((ix a1 b).Ints) T),(aH (ix a1 b).Form),(sc F ((ix a1 b).Data) U)].toArray) (eF (fo:=0) 5 kC eN R R R R)) ?_
 refine iM 4 [] ?_
 refine dR 7 R (vz (.agg [(iv (ix i b).Op),(sc G ((ix i b).Args) Y),(sc I ((ix i b).Dims) Z),(sc J ((ix i b).Ints) a0),(aH (ix i b).Form),(sc L ((ix i b).Data) a2)].toArray) (eF (fo:=0) 0 kC eN R R R R)) (d1 8 R (lM _ (fun w s=>(((((((((s.d 6 R).d 8 R).d 10 R).d 12 R).d 5 R).d 7 R).d 9 R).d 11 R).e 18 [7,6,5,4,3,2,1,0,8,9,10,11,12,13,14,15,16,17])) ?_))
 refine lC 8 C4 R (Z2q_ok u) R ?_
 rintro _
 refine aB (aG (sL []) (dR 9 R (mf R) (dD (aE ?_))))
 split at g
 refine dJ ?_
 cases g
 obtain rfl:=m _ R
 have g:=q
 refine aW ?_
 cases g
 exact qF () (tE 12 [])
 refine dJ ?_
 cases g
 exact qA () (tE 10 [])
 refine aW ?_
 cases g
 obtain rfl:=m _ R
 have g:=q
 refine bA ?_
 exact cK ((),()) g trivial tI
 rintro ⟨_,_⟩ σ1 g
 dsimp only [Z1j_J1] at g
 refine cH ?_
 cases g
 exact qF () (tE 2 [])
theorem Z1i_ok  {a1:Graph}{b:Graph}{r:Bool}(a:Z1i a1 b=some r) :
 FnOk Tryz.prog 11 [(.agg [(.slice A2 N2 D2),(.slice A3 N3 D3)].toArray),(.agg [(.slice A5 N5 D5),(.slice A6 N6 D6)].toArray)] [aO kT65 (.slice A2 N2 D2) a1.Nodes,aO kT3 (.slice A3 N3 D3) a1.Outs,aO kT65 (.slice A5 N5 D5) b.Nodes,aO kT3 (.slice A6 N6 D6) b.Outs] (fun (h:Unit)=>((.bool r),[])):=by
 unfold Z1i at a
 refine aR Tryz.func11 R 17 R R fun C V=>?_
 refine cL 0 aA ?_
 rintro rfl
 refine cL 1 aA ?_
 rintro rfl
 refine cL 2 aA ?_
 rintro rfl
 refine cL 3 aA ?_
 rintro rfl
 let l:=RR kT65 A2 D2 a1.Nodes::RR kT3 A3 D3 a1.Outs::RR kT65 A5 D5 b.Nodes::RR kT3 A6 D6 b.Outs::V
 refine cN l ?_
 refine bA ?_
 refine eJ R fun m=>?_
 refine eJ R fun q=>?_
 refine bA ?_
 let j:=aJ q [(sc A5 b.Nodes D5),(sc A6 b.Outs D6)] 31::aJ m [(sc A2 a1.Nodes D2),(sc A3 a1.Outs D3)] 31::l
 refine qN j ?_
 refine aW ?_
 obtain ⟨B,g,a⟩:=bd a
 refine cU ?_
 refine lM _ (fun w s=>(((s.d 2 R).d 5 R).e 2 [1,0])) ?_
 refine lC 2 C5 R (Z1j_ok g) R ?_
 rintro _
 refine lN j ?_
 refine aW ?_
 split at a
 refine dM ?_
 cases a
 exact qF () (tE 6 [])
 refine cU ?_
 obtain ⟨u,i,a⟩:=bd a
 refine cU ?_
 refine lM _ (fun w s=>(((s.d 3 R).d 6 R).e 2 [1,0])) ?_
 refine lC 2 tv R (Z0i_ok i) R ?_
 rintro _
 refine lN j ?_
 refine aW ?_
 split at a
 refine dM ?_
 cases a
 exact qF () (tE 6 [])
 refine dJ ?_
 cases a
 exact qF () (tE 6 [])
theorem Zz_ok  {a1:(List Int)}{q:Int}{r:Int×(List Int)}(b:Zz a1 q=some r) :
 FnOk Tryz.prog 45 [(.slice A2 N2 D2),(iv q)] [ow kT3 3 (.slice A2 N2 D2) a1] (fun (h:Unit)=>((iv r.1),[ow kT3 3 (.slice A2 N2 D2) r.2])):=by
 unfold Zz at b
 refine aR Tryz.func45 R 19 R R fun C V=>?_
 refine cL 0 aC ?_
 rintro rfl
 refine cH ?_
 refine bD (A:=(Int×(List Int))×(Unit)) (fun a=>Zz_J1 a.1.1 a.1.2=some r) (fun a=>[(1,(iv a.1.1))]) (fun a=>ow kT3 3 (.slice A2 a1.length D2) a.1.2::V) ?_ ?_
 refine cH ?_
 obtain ⟨J,j,i⟩:=bd b
 refine bE (A:=Unit) j (fun s a=>[(0,(sc A2 a1 D2)),(1,(iv s.2.1)),(5,(iv s.2.2))]) (fun s a=>ow kT3 3 (.slice A2 a1.length D2) s.1::V) () (aS R) tI ?_
 rintro ⟨B,m,l⟩ _ σ1 u b g
 dsimp only [Zz_L1] at b
 refine dJ ?_
 split at b
 refine cH ?_
 obtain ⟨e,b⟩:=gd b
 refine bL ?_
 refine bC 0 aC (show 0<a1.length by have:=e; omega) (fun D o14 E=>?_)
 subst E
 refine cE ?_
 refine eB (K:=kT3) (x':=m) 0 l R R cI R R e.1 e.2 ?_ ?_
 exact fun I h s=>(gF).put I h () m s
 refine pa ?_
 cases b
 exact qA () tI
 refine aW ?_
 cases b
 obtain rfl:=g _ R
 have b:=i
 refine bA ?_
 exact qI ((m,B),()) b tI
 rintro ⟨⟨F,G⟩,_⟩ σ1 b
 dsimp only [Zz_J1] at b
 refine dX ?_
 cases b
 exact qF () tI
theorem Z0o_ok  {k1:Int}{r:aP}(b:Z0o k1=some r) :
 FnOk Tryz.prog 75 [(iv k1)] [] (fun (h:Unit)=>((aH r),[])):=by
 unfold Z0o at b
 refine aR Tryz.func75 R 20 R R fun C V=>?_
 refine cN V ?_
 refine bA ?_
 refine lO (vp (aH ([]:aP)) R) ?_
 refine dJ ?_
 split at b
 refine aW ?_
 refine lO (vp (aH zm) R) ?_
 refine bL ?_
 cases b
 exact qF () tI
 refine cU ?_
 refine lO (vp (aH ([]:aP)) R) ?_
 refine aW ?_
 refine bD (A:=(aP)×(Unit)) (fun a=>Z0o_J1 a.1=some r) (fun a=>[(3,(aH a.1))]) (fun a=>V) ?_ ?_
 refine cE ?_
 obtain ⟨D,u,q⟩:=bd b
 refine bE (A:=Unit) u (fun s a=>[(0,(iv s.1)),(3,(aH s.2))]) (fun s a=>V) () (aS R) tI ?_
 rintro ⟨e,l⟩ _ σ1 B b m
 dsimp only [Z0o_L1] at b
 refine dX ?_
 split at b
 refine cU ?_
 obtain ⟨i,b⟩:=gd b
 refine bA ?_
 refine lO (qK R R (by decide)) (lO (jy R R) (lO (vz (.int .u8 (IntKind.wrap .u8 ((aK ((48:Int)+(e.tmod (10:Int))))))) (xa un3 CA R)) (bK (K:=Cw) (xs:=([(IntKind.wrap .u8 ((aK ((48:Int)+(e.tmod (10:Int))))))]:List Int)) (vs:=[(.int .u8 (IntKind.wrap .u8 ((aK ((48:Int)+(e.tmod (10:Int)))))))]) 0 R R tz CB zc5 R R R R R R ?_ R (fun A9 D9=>?_))))
 exact fun I h s=>(mO5).list [((),(IntKind.wrap .u8 ((aK ((48:Int)+(e.tmod (10:Int)))))))] I h s
 refine lO (vz (aH (oc ([(IntKind.wrap .u8 ((aK ((48:Int)+(e.tmod (10:Int))))))]:List Int))) (za 0 tz CA gH aC R)) (lO (vp (aH l) R) (lO (vz (aH ((oc ([(IntKind.wrap .u8 ((aK ((48:Int)+(e.tmod (10:Int))))))]:List Int))++l)) (o4 R R i)) (lO (vp (aH ((oc ([(IntKind.wrap .u8 ((aK ((48:Int)+(e.tmod (10:Int))))))]:List Int))++l)) R) ?_)))
 refine bL ?_
 refine lO (vz (iv (aK (e.tdiv (10:Int)))) (mT R R (by decide))) ?_
 refine aW ?_
 cases b
 exact qA () (tE 1 [])
 refine aW ?_
 cases b
 obtain rfl:=m _ R
 have b:=q
 refine bA ?_
 exact qI (l,()) b tI
 rintro ⟨g,_⟩ σ1 b
 dsimp only [Z0o_J1] at b
 refine cE ?_
 obtain ⟨j,b⟩:=gd b
 refine aD (lO (vp (aH g) R) (lO (vz (aH (str8++g)) (o4 R R j)) (lO (vp (aH (str8++g)) R) ?_)))
 refine aW ?_
 cases b
 exact qF () tI
theorem Z04_ok  {a1:(List Node)}{k3:Int}{r:Int×(List Node)}(q:Z04 a1 k3=some r) :
 FnOk Tryz.prog 44 [(.slice A2 N2 D2),(iv k3)] [ow kT65 65 (.slice A2 N2 D2) a1] (fun (h:Unit)=>((iv r.1),[ow kT65 65 (.slice A2 N2 D2) r.2])):=by
 unfold Z04 at q
 refine aR Tryz.func44 R 56 R R fun C V=>?_
 refine cL 0 aC ?_
 rintro rfl
 refine cH ?_
 refine bD (A:=(Int×(List Node))×(Unit)) (fun a=>Z04_J1 a.1.1 a.1.2=some r) (fun a=>[(1,(iv a.1.1))]) (fun a=>ow kT65 65 (.slice A2 a1.length D2) a.1.2::V) ?_ ?_
 refine cH ?_
 obtain ⟨e1,b8,b7⟩:=bd q
 refine bE (A:=Unit) b8 (fun s a=>[(0,(sc A2 a1 D2)),(1,(iv s.2.1)),(5,(iv s.2.2))]) (fun s a=>ow kT65 65 (.slice A2 a1.length D2) s.1::V) () (aS R) tI ?_
 rintro ⟨a46,Y,b⟩ _ σ1 bb q b6
 dsimp only [Z04_L1] at q
 refine dJ ?_
 split at q
 refine cH ?_
 obtain ⟨m,q⟩:=gd q
 refine bL ?_
 refine bC 0 aC (show 0<a1.length by have:=m; omega) (fun u o52 ha=>?_)
 subst ha
 refine cE ?_
 refine lO (vz (.pointer (some ⟨u,o52+b.toNat*6,none⟩)) (iI gR R R)) (wq (K:=kT65) (fo:=0) (v:=(iv Y)) (f:=(fun x:Node=>(⟨Y,x.Args,x.Dims,x.Ints,x.Form,x.Data⟩:Node))) 0 b R R cI ?_ R R R R m.1 m.2 ?_)
 exact SetL.deep rN nE (fun a x=>((),(.slice a.2.1.1 x.Args.length a.2.1.2),(.slice a.2.2.1.1 x.Dims.length a.2.2.1.2),(.slice a.2.2.2.1.1 x.Ints.length a.2.2.2.1.2),(),(.slice a.2.2.2.2.2.1 x.Data.length a.2.2.2.2.2.2))) R (fun _ _=>R) (fun _ _=>R)
 refine cE ?_
 obtain ⟨g,B,q⟩:=bd q
 replace B:=Option.some.inj B
 refine qM (ow kT65 65 (.slice (ad u o52) a1.length D2) g::V) (fun w s=>by rw [← B]; exact s) ?_
 refine dJ ?_
 obtain ⟨M,b0,q⟩:=bd q
 refine bL ?_
 refine lO (vz (.pointer (some ⟨u,o52+b.toNat*6+1,none⟩)) (iI jl R R)) (mB (K:=kT65) rN 0 b R m.1 m.2 ?_)
 rintro ⟨-,⟨Z,ai⟩,⟨a0,aj⟩,⟨a2,ak⟩,-,⟨a3,al⟩⟩
 refine lO (o8 (fo:=1) 0 bZ R R R) (lI R (lM (ow _ _ _ _::uV _ _ _ _ _ _::ow _ _ _ _::ow _ _ _ _::ow _ _ _ _::V) (tE 5 [1,0,2,3,4]) ?_))
 refine lC 1 tx R (Zz_ok b0) R ?_
 rintro _
 refine bA ?_
 refine qM (ow kT65 65 (.slice (ad u o52) a1.length D2) (g.set b.toNat (⟨(ix g b).Op,M.2,(ix g b).Dims,(ix g b).Ints,(ix g b).Form,(ix g b).Data⟩:Node))::V) (fun w s=>St.unfocus (E:=[ow kT3 3 (.slice Z ((ix g b).Args).length ai) M.2,OO kT3 3 a0 aj ((ix g b).Dims),OO kT3 3 a2 ak ((ix g b).Ints),OO kT3 3 a3 al ((ix g b).Data)]) (⟨(ix g b).Op,M.2,(ix g b).Dims,(ix g b).Ints,(ix g b).Form,(ix g b).Data⟩:Node) (s.e 5 [1,0,2,3,4]) ?_) ?_
 exact fun I h s=>(nE).put I h ((),(sc Z ((ix g b).Args) ai),(sc a0 ((ix g b).Dims) aj),(sc a2 ((ix g b).Ints) ak),(),(sc a3 ((ix g b).Data) al)) (⟨(ix g b).Op,M.2,(ix g b).Dims,(ix g b).Ints,(ix g b).Form,(ix g b).Data⟩:Node) s
 obtain ⟨i,D,q⟩:=bd q
 replace D:=Option.some.inj D
 refine qM (ow kT65 65 (.slice (ad u o52) a1.length D2) i::V) (fun w s=>by rw [← D]; exact s) ?_
 refine bA ?_
 obtain ⟨O,b1,q⟩:=bd q
 refine bL ?_
 refine lO (vz (.pointer (some ⟨u,o52+b.toNat*6+2,none⟩)) (iI i' R R)) (mB (K:=kT65) rN 0 b R m.1 m.2 ?_)
 rintro ⟨-,⟨a4,am⟩,⟨a5,an⟩,⟨a6,ao⟩,-,⟨a7,ap⟩⟩
 refine lO (o8 (fo:=2) 0 bZ R R R) (lI R (lM (ow _ _ _ _::uV _ _ _ _ _ _::ow _ _ _ _::ow _ _ _ _::ow _ _ _ _::V) (tE 5 [2,0,1,3,4]) ?_))
 refine lC 1 tx R (Zz_ok b1) R ?_
 rintro _
 refine bA ?_
 refine qM (ow kT65 65 (.slice (ad u o52) a1.length D2) (i.set b.toNat (⟨(ix i b).Op,(ix i b).Args,O.2,(ix i b).Ints,(ix i b).Form,(ix i b).Data⟩:Node))::V) (fun w s=>St.unfocus (E:=[OO kT3 3 a4 am ((ix i b).Args),ow kT3 3 (.slice a5 ((ix i b).Dims).length an) O.2,OO kT3 3 a6 ao ((ix i b).Ints),OO kT3 3 a7 ap ((ix i b).Data)]) (⟨(ix i b).Op,(ix i b).Args,O.2,(ix i b).Ints,(ix i b).Form,(ix i b).Data⟩:Node) (s.e 5 [1,2,0,3,4]) ?_) ?_
 exact fun I h s=>(nE).put I h ((),(sc a4 ((ix i b).Args) am),(sc a5 ((ix i b).Dims) an),(sc a6 ((ix i b).Ints) ao),(),(sc a7 ((ix i b).Data) ap)) (⟨(ix i b).Op,(ix i b).Args,O.2,(ix i b).Ints,(ix i b).Form,(ix i b).Data⟩:Node) s
 obtain ⟨j,F,q⟩:=bd q
 replace F:=Option.some.inj F
 refine qM (ow kT65 65 (.slice (ad u o52) a1.length D2) j::V) (fun w s=>by rw [← F]; exact s) ?_
 refine bA ?_
 obtain ⟨T,b2,q⟩:=bd q
 refine bL ?_
 refine lO (vz (.pointer (some ⟨u,o52+b.toNat*6+3,none⟩)) (iI gS R R)) (mB (K:=kT65) rN 0 b R m.1 m.2 ?_)
 rintro ⟨-,⟨a8,aq⟩,⟨a9,ar⟩,⟨aa,au⟩,-,⟨ab,av⟩⟩
 refine lO (o8 (fo:=3) 0 bZ R R R) (lI R (lM (ow _ _ _ _::uV _ _ _ _ _ _::ow _ _ _ _::ow _ _ _ _::ow _ _ _ _::V) (tE 5 [3,0,1,2,4]) ?_))
 refine lC 1 tx R (Zz_ok b2) R ?_
 rintro _
 refine bA ?_
 refine qM (ow kT65 65 (.slice (ad u o52) a1.length D2) (j.set b.toNat (⟨(ix j b).Op,(ix j b).Args,(ix j b).Dims,T.2,(ix j b).Form,(ix j b).Data⟩:Node))::V) (fun w s=>St.unfocus (E:=[OO kT3 3 a8 aq ((ix j b).Args),OO kT3 3 a9 ar ((ix j b).Dims),ow kT3 3 (.slice aa ((ix j b).Ints).length au) T.2,OO kT3 3 ab av ((ix j b).Data)]) (⟨(ix j b).Op,(ix j b).Args,(ix j b).Dims,T.2,(ix j b).Form,(ix j b).Data⟩:Node) (s.e 5 [1,2,3,0,4]) ?_) ?_
 exact fun I h s=>(nE).put I h ((),(sc a8 ((ix j b).Args) aq),(sc a9 ((ix j b).Dims) ar),(sc aa ((ix j b).Ints) au),(),(sc ab ((ix j b).Data) av)) (⟨(ix j b).Op,(ix j b).Args,(ix j b).Dims,T.2,(ix j b).Form,(ix j b).Data⟩:Node) s
 obtain ⟨b9,G,q⟩:=bd q
 replace G:=Option.some.inj G
 refine qM (ow kT65 65 (.slice (ad u o52) a1.length D2) b9::V) (fun w s=>by rw [← G]; exact s) ?_
 refine bA ?_
 obtain ⟨b5,b3,q⟩:=bd q
 refine bL ?_
 refine lC 0 AG R (Z0o_ok b3) R ?_
 rintro _
 refine cE ?_
 refine lO (vz (.pointer (some ⟨u,o52+b.toNat*6+4,none⟩)) (iI lQ R R)) (wq (K:=kT65) (fo:=4) (v:=(aH b5)) (f:=(fun x:Node=>(⟨x.Op,x.Args,x.Dims,x.Ints,b5,x.Data⟩:Node))) 0 b R R rO ?_ R R R R m.1 m.2 ?_)
 exact SetL.deep rN nE (fun a x=>((),(.slice a.2.1.1 x.Args.length a.2.1.2),(.slice a.2.2.1.1 x.Dims.length a.2.2.1.2),(.slice a.2.2.2.1.1 x.Ints.length a.2.2.2.1.2),(),(.slice a.2.2.2.2.2.1 x.Data.length a.2.2.2.2.2.2))) R (fun _ _=>R) (fun _ _=>R)
 refine cE ?_
 obtain ⟨l,J,q⟩:=bd q
 replace J:=Option.some.inj J
 refine qM (ow kT65 65 (.slice (ad u o52) a1.length D2) l::V) (fun w s=>by rw [← J]; exact s) ?_
 refine dM ?_
 obtain ⟨U,b4,q⟩:=bd q
 refine bL ?_
 refine lO (vz (.pointer (some ⟨u,o52+b.toNat*6+5,none⟩)) (iI kN R R)) (mB (K:=kT65) rN 0 b R m.1 m.2 ?_)
 rintro ⟨-,⟨ac,aw⟩,⟨ae,ax⟩,⟨ag,ay⟩,-,⟨ah,az⟩⟩
 refine lO (o8 (fo:=5) 0 bZ R R R) (lI R (lM (ow _ _ _ _::uV _ _ _ _ _ _::ow _ _ _ _::ow _ _ _ _::ow _ _ _ _::V) (fun w s=>(s.f 5 [4,1,0,4])) ?_))
 refine lC 1 tx R (Zz_ok b4) R ?_
 rintro _
 refine bA ?_
 refine qM (ow kT65 65 (.slice (ad u o52) a1.length D2) (l.set b.toNat (⟨(ix l b).Op,(ix l b).Args,(ix l b).Dims,(ix l b).Ints,(ix l b).Form,U.2⟩:Node))::V) (fun w s=>St.unfocus (E:=[OO kT3 3 ac aw ((ix l b).Args),OO kT3 3 ae ax ((ix l b).Dims),OO kT3 3 ag ay ((ix l b).Ints),ow kT3 3 (.slice ah ((ix l b).Data).length az) U.2]) (⟨(ix l b).Op,(ix l b).Args,(ix l b).Dims,(ix l b).Ints,(ix l b).Form,U.2⟩:Node) (s.f 5 [1,4,0,1]) ?_) ?_
 exact fun I h s=>(nE).put I h ((),(sc ac ((ix l b).Args) aw),(sc ae ((ix l b).Dims) ax),(sc ag ((ix l b).Ints) ay),(),(sc ah ((ix l b).Data) az)) (⟨(ix l b).Op,(ix l b).Args,(ix l b).Dims,(ix l b).Ints,(ix l b).Form,U.2⟩:Node) s
 obtain ⟨ba,L,q⟩:=bd q
 replace L:=Option.some.inj L
 refine qM (ow kT65 65 (.slice (ad u o52) a1.length D2) ba::V) (fun w s=>by rw [← L]; exact s) ?_
 refine dX ?_
 cases q
 exact qA () tI
 refine aW ?_
 cases q
 obtain rfl:=b6 _ R
 have q:=b7
 refine bA ?_
 exact qI ((Y,a46),()) q tI
 rintro ⟨⟨bc,be⟩,_⟩ σ1 q
 dsimp only [Z04_J1] at q
 refine dX ?_
 cases q
 exact qF () tI
theorem Z20_ok  {a1:Graph}{g:Int}{r:Int×(List Node)×(List Int)}(a:Z20 a1 g=some r) :
 FnOk Tryz.prog 18 [(.agg [(.slice A2 N2 D2),(.slice A3 N3 D3)].toArray),(iv g)] [ow kT65 65 (.slice A2 N2 D2) a1.Nodes,ow kT3 3 (.slice A3 N3 D3) a1.Outs] (fun (h:Unit)=>((iv r.1),[ow kT65 65 (.slice A2 N2 D2) r.2.1,ow kT3 3 (.slice A3 N3 D3) r.2.2])):=by
 unfold Z20 at a
 refine aR Tryz.func18 R 14 R R fun C V=>?_
 refine cL 0 aC ?_
 rintro rfl
 refine cL 1 aC ?_
 rintro rfl
 refine bA ?_
 refine eJ R fun i=>?_
 refine bA ?_
 refine qM _ (tE 3 [1,2,0]) ?_
 let j:=aJ i [(sc A2 a1.Nodes D2),(sc A3 a1.Outs D3)] 31::V
 refine bA ?_
 obtain ⟨l,b,a⟩:=bd a
 refine bL ?_
 refine lC 1 C7 R (Z04_ok b) R ?_
 rintro _
 refine bL ?_
 obtain ⟨m,e,a⟩:=bd a
 refine bL ?_
 refine lM _ (tE 2 [1,0]) ?_
 refine lC 1 tx R (Zz_ok e) R ?_
 rintro _
 refine dH ?_
 cases a
 exact qF () (tE 3 [1,0])
theorem Z03_ok  {a1:(List Int)}{m:Int}{r:Int}(b:Z03 a1 m=some r) :
 FnOk Tryz.prog 47 [(.slice A2 N2 D2),(iv m)] [aO kT3 (.slice A2 N2 D2) a1] (fun (h:Unit)=>((iv r),[])):=by
 unfold Z03 at b
 refine aR Tryz.func47 R 21 R R fun C V=>?_
 refine cL 0 aA ?_
 rintro rfl
 let j:=RR kT3 A2 D2 a1::V
 refine cN j ?_
 refine cH ?_
 refine bD (A:=(Int)×(Unit)) (fun a=>Z03_J1 a.1=some r) (fun a=>[(1,(iv a.1))]) (fun a=>j) ?_ ?_
 refine cH ?_
 obtain ⟨G,l,i⟩:=bd b
 refine bE (A:=Unit) l (fun s a=>[(0,(sc A2 a1 D2)),(1,(iv s.1)),(5,(iv s.2))]) (fun s a=>j) () (aS R) tI ?_
 rintro ⟨F,D⟩ _ σ1 q b e
 dsimp only [Z03_L1] at b
 refine dJ ?_
 split at b
 refine dX ?_
 obtain ⟨g,b⟩:=gd b
 refine aW ?_
 refine bC 0 aA (show 0<a1.length by have:=g; omega) (fun u o14 B=>?_)
 subst B
 refine cH ?_
 split at b
 refine dH ?_
 cases b
 obtain rfl:=e _ R
 have b:=i
 refine aW ?_
 cases b
 exact qF () (tE 1 [])
 refine pb ?_
 cases b
 exact qA () tI
 refine aW ?_
 cases b
 obtain rfl:=e _ R
 have b:=i
 refine bA ?_
 exact qI (F,()) b tI
 rintro ⟨E,_⟩ σ1 b
 dsimp only [Z03_J1] at b
 refine dX ?_
 cases b
 exact qF () (tE 1 [])
theorem Z0t_ok  {a1:(List Node)}{k3:Int}{r:Int}(b:Z0t a1 k3=some r) :
 FnOk Tryz.prog 46 [(.slice A2 N2 D2),(iv k3)] [aO kT65 (.slice A2 N2 D2) a1] (fun (h:Unit)=>((iv r),[])):=by
 unfold Z0t at b
 refine aR Tryz.func46 R 68 R R fun C V=>?_
 refine cN (_::V) ?_
 refine cL 0 aA ?_
 rintro rfl
 let q:List HP:=RR kT65 A2 D2 a1::V
 refine cN q ?_
 refine aI (aD (lI R (aB (aE (aI (bD (A:=(Int)×(Unit)) (fun a=>Z0t_J1 a.1=some r) (fun a=>[(1,(iv a.1))]) (fun a=>q) ?_ ?_))))))
 refine aI (aD (lI R (aB (aE (cB ?_)))))
 obtain ⟨e1,a8,m⟩:=bd b
 refine bE (A:=Unit) a8 (fun s a=>[(0,(sc A2 a1 D2)),(1,(iv s.1)),(5,(iv s.2))]) (fun s a=>q) () (aS R) (fun w s=>s) ?_
 rintro ⟨a6,g⟩ _ σ1 a7 b l
 replace b:Z0t_L1 a1 a6 g=some a7:=b
 unfold Z0t_L1 at b
 refine aI (aI (aD (lI R (lS R (lO (eT gQ R) (lO (jz R R) (aB (aE ?_))))))))
 rcases bY b with ⟨u,b⟩|⟨u,b⟩
 refine bM R u (bS (aE (aI (cB (aI (aI ?_))))))
 obtain ⟨i,b⟩:=gd b
 refine aD (lS R (lI R (bC 0 aA (show 0<a1.length by have:=i; omega) (fun j o33 ha=>?_))))
 subst ha
 refine lO (eA gQ eN R R i) (lO (vz (.pointer (some ⟨j,o33+g.toNat*6,none⟩)) (iI gR R R)) (lO (vz (iv (ix a1 g).Op) (ja (K:=kT65) (fo:=0) (pr:=fun x=>(iv x.Op)) 0 g fC (dT65.leaf fun _ _=>R) aA R i.1 i.2)) (lI R (lO (xm R R) (aB (aE ?_))))))
 rcases bY b with ⟨B,b⟩|⟨B,b⟩
 refine bM R B (aI (aD (lI R (aB (aE (bO (bP (b' (bP ?_)))))))))
 obtain rfl:=so b
 obtain rfl:=l _ R
 have b:=m
 refine bP (b' (bP ?_))
 obtain rfl:=so b
 exact qF () (fun w s=>(s.e 1 []))
 refine aX R B (bS (aE (aI (aD (lI R (lO (jy R R) (lI R (aB (aE (aI ?_))))))))))
 obtain ⟨ab,a0,b⟩:=bd b
 refine aD (lS R (lI R (lO (eA gQ eN R R i) (lO (vz (.pointer (some ⟨j,o33+g.toNat*6+1,none⟩)) (iI jl R R)) (gO (K:=kT65) 0 g dT65.dec R i.1 i.2 ?_)))))
 rintro ⟨-,⟨J,T⟩,⟨L,U⟩,⟨M,Y⟩,-,⟨O,Z⟩⟩
 refine lN (cl j (o33+g.toNat*6) [(iv (ix a1 g).Op),(sc J ((ix a1 g).Args) T),(sc L ((ix a1 g).Dims) U),(sc M ((ix a1 g).Ints) Y),(aH (ix a1 g).Form),(sc O ((ix a1 g).Data) Z)]::RR kT3 J T ((ix a1 g).Args)::RR kT3 L U ((ix a1 g).Dims)::RR kT3 M Y ((ix a1 g).Ints)::RR kT3 O Z ((ix a1 g).Data)::q) ?_
 refine lO (eO (fo:=1) 0 bZ R R R) (lI R (lM (_::_::_::_::_::_::q) (fun w s=>(s.d 1 R)) ?_))
 refine lC 1 tA R (Z03_ok a0) R ?_
 rintro _
 refine lN (_::_::_::_::_::q) ?_
 refine lI R (aB (aE (aI (aI (aD (lI R (lO (jz R R) (aB (aE ?_)))))))))
 rcases bY b with ⟨D,b⟩|⟨D,b⟩
 refine bM R D (aI (aD (lI R (aB (aE (bO (bP (b' (bP ?_)))))))))
 obtain rfl:=so b
 obtain rfl:=l _ R
 have b:=m
 refine bP (b' (bP ?_))
 obtain rfl:=so b
 exact qF () (fun w s=>(s.e 6 []))
 refine aX R D (bS (aE (aI ?_)))
 obtain ⟨ac,a2,b⟩:=bd b
 refine aD (lS R (lI R (lO (eA gQ eN R R i) (lO (vz (.pointer (some ⟨j,o33+g.toNat*6+2,none⟩)) (iI i' R R)) (lO (eO (fo:=2) 0 bZ R R R) (lI R (lM (_::_::_::_::_::_::q) (fun w s=>(s.d 2 R)) ?_)))))))
 refine lC 1 tA R (Z03_ok a2) R ?_
 rintro _
 refine lN (_::_::_::_::_::q) ?_
 refine lI R (aB (aE (aI (aI (aD (lI R (lO (jz R R) (aB (aE ?_)))))))))
 rcases bY b with ⟨E,b⟩|⟨E,b⟩
 refine bM R E (aI (aD (lI R (aB (aE (bO (bP (b' (bP ?_)))))))))
 obtain rfl:=so b
 obtain rfl:=l _ R
 have b:=m
 refine bP (b' (bP ?_))
 obtain rfl:=so b
 exact qF () (fun w s=>(s.e 6 []))
 refine aX R E (bS (aE (aI ?_)))
 obtain ⟨ae,a3,b⟩:=bd b
 refine aD (lS R (lI R (lO (eA gQ eN R R i) (lO (vz (.pointer (some ⟨j,o33+g.toNat*6+3,none⟩)) (iI gS R R)) (lO (eO (fo:=3) 0 bZ R R R) (lI R (lM (_::_::_::_::_::_::q) (fun w s=>(s.d 3 R)) ?_)))))))
 refine lC 1 tA R (Z03_ok a3) R ?_
 rintro _
 refine lN (_::_::_::_::_::q) ?_
 refine lI R (aB (aE (aI (aI (aD (lI R (lO (jz R R) (aB (aE ?_)))))))))
 rcases bY b with ⟨F,b⟩|⟨F,b⟩
 refine bM R F (aI (aD (lI R (aB (aE (bO (bP (b' (bP ?_)))))))))
 obtain rfl:=so b
 obtain rfl:=l _ R
 have b:=m
 refine bP (b' (bP ?_))
 obtain rfl:=so b
 exact qF () (fun w s=>(s.e 6 []))
 refine aX R F (bS (aE (aI (aI ?_))))
 obtain ⟨aa,a4,b⟩:=bd b
 refine dE 8 [] bQ (fun ht hn=>(dR 0 R (vS R) (dR 1 R (vI R) (dR 2 R (eA gQ eN R R i) (dR 3 R (vz (.pointer (some ⟨j,o33+g.toNat*6+4,none⟩)) (iI lQ R R)) (dR 4 R (vz (aH (ix a1 g).Form) (ja (K:=kT65) (fo:=4) (pr:=fun x=>(aH x.Form)) 5 g pI (dT65.leaf fun _ _=>R) aA R i.1 i.2)) (dR 5 R (vI R) (d1 6 R (lC 0 AG R (Z0o_ok a4) R ?_)))))))))
 rintro _
 refine aB (aG (sL []) (dR 7 R (vz (.bool (!((ix a1 g).Form==aa))) (jf R R R)) (dD (aE ?_))))
 rcases bY b with ⟨G,b⟩|⟨G,b⟩
 refine bM R G (aI (aD (lI R (aB (aE (bO (bP (b' (bP ?_)))))))))
 obtain rfl:=so b
 obtain rfl:=l _ R
 have b:=m
 refine bP (b' (bP ?_))
 obtain rfl:=so b
 exact qF () (fun w s=>(s.e 6 []))
 refine aX R G (bS (aE (aI (aD (lI R (lO (jy R R) (lI R (aB (aE (aI ?_))))))))))
 obtain ⟨ag,a5,b⟩:=bd b
 refine aD (lS R (lI R (lO (eA gQ eN R R i) (lO (vz (.pointer (some ⟨j,o33+g.toNat*6+5,none⟩)) (iI kN R R)) (lO (eO (fo:=5) 0 bZ R R R) (lI R (lM (_::_::_::_::_::_::q) (fun w s=>(s.d 4 R)) ?_)))))))
 refine lC 1 tA R (Z03_ok a5) R ?_
 rintro _
 refine lN (_::_::_::_::_::q) ?_
 refine lI R (aB (aE (aI (aD (lI R (lO (jz R R) (aB (aE ?_))))))))
 rcases bY b with ⟨I,b⟩|⟨I,b⟩
 refine bM R I (aI (aD (lI R (aB (aE (bO (b' (bP ?_))))))))
 obtain rfl:=so b
 obtain rfl:=l _ R
 have b:=m
 refine bP (b' (bP ?_))
 obtain rfl:=so b
 exact qF () (fun w s=>(s.e 6 []))
 refine aX R I (bS (cT (aE (aD (lI R (lO (jy R R) (lI R (aB ?_))))))))
 obtain rfl:=so b
 exact qA () (fun w s=>(s.e 5 []))
 refine aX R u (eL (cR ?_))
 obtain rfl:=so b
 obtain rfl:=l _ R
 have b:=m
 refine cR (dU ?_)
 exact qI (a6,()) b (fun w s=>s)
 rintro ⟨a9,_⟩ σ1 b
 replace b:Z0t_J1 a9=some r:=b
 unfold Z0t_J1 at b
 refine aI (aD (lI R (lI R (aB (aE (bO ?_))))))
 obtain rfl:=so b
 exact qF () (fun w s=>(s.e 1 []))
theorem Z2c_ok  {a1:Graph}{q:Int}{r:Int}(a:Z2c a1 q=some r) :
 FnOk Tryz.prog 20 [(.agg [(.slice A2 N2 D2),(.slice A3 N3 D3)].toArray),(iv q)] [aO kT65 (.slice A2 N2 D2) a1.Nodes,aO kT3 (.slice A3 N3 D3) a1.Outs] (fun (h:Unit)=>((iv r),[])):=by
 unfold Z2c at a
 refine aR Tryz.func20 R 18 R R fun C V=>?_
 refine cN (_::_::V) ?_
 refine cL 0 aA ?_
 rintro rfl
 refine cL 1 aA ?_
 rintro rfl
 let m:List HP:=RR kT65 A2 D2 a1.Nodes::RR kT3 A3 D3 a1.Outs::V
 refine cN m ?_
 refine aI (aD (eJ R (fun u=>(lI R (aB ?_)))))
 let i:List HP:=aJ u [(sc A2 a1.Nodes D2),(sc A3 a1.Outs D3)] 31::m
 refine qN i ?_
 refine aE (aI ?_)
 obtain ⟨B,l,a⟩:=bd a
 refine aD (lO (eC 0 fI R) (lO (eH 0 kh R R R) (lI R (lM (RR kT65 A2 D2 a1.Nodes::i) (fun w s=>(s.d 1 R)) ?_))))
 refine lC 1 C8 R (Z0t_ok l) R ?_
 rintro _
 refine lN i ?_
 refine lI R (aB (aE (aI (aI (aD (lI R (lO (jz R R) (aB (aE ?_)))))))))
 rcases bY a with ⟨g,a⟩|⟨g,a⟩
 refine bM R g (aI (aD (lI R (aB (aE (bO (bP ?_)))))))
 obtain rfl:=so a
 exact qF () (fun w s=>(s.e 3 []))
 refine aX R g (bS (aE (aI ?_)))
 obtain ⟨D,j,a⟩:=bd a
 refine aD (lO (eC 1 gT R) (lO (eH 0 bZ R R R) (lI R (lM (RR kT3 A3 D3 a1.Outs::i) (fun w s=>(s.d 2 R)) ?_))))
 refine lC 1 tA R (Z03_ok j) R ?_
 rintro _
 refine lN i ?_
 refine lI R (aB (aE (aI (aI (aD (lI R (lO (jz R R) (aB (aE ?_)))))))))
 rcases bY a with ⟨b,a⟩|⟨b,a⟩
 refine bM R b (aI (aD (lI R (aB (aE (bO (bP ?_)))))))
 obtain rfl:=so a
 exact qF () (fun w s=>(s.e 3 []))
 refine aX R b (bS (aE (aI (aD (lI R (lI R (aB (aE (bO ?_)))))))))
 obtain rfl:=so a
 exact qF () (fun w s=>(s.e 3 []))
end Go.Proofs.YthelanpdjajnbaaGreat
