import Derived.Test.YthelanpdjajnbaaGreatKcF
set_option linter.unusedVariables false
set_option maxRecDepth 20000
namespace Go.Proofs.YthelanpdjajnbaaGreat
open Go Go.Pg
variable {A2 A3 A4 A5 A6 A7 A8 A9 A10:Option Addr}{D2 D3 D4 D5 D6 D7 D8 D9 D10 N2 N3 N4 N5 N6 N7 N8 N9 N10:Nat}
theorem Z1i_ok  {e:(List Int)}{a:Int}{r:Int}(b:Z1i e a=some r) :
 FnOk Tryz.prog 24 [(.slice A2 N2 D2),(iv a)] [aN kT3 (.slice A2 N2 D2) e] (fun (h:Unit)=>((iv r),[])):=by
 unfold Z1i at b
 refine aP Tryz.func24 R 12 R R fun C V=>?_
 refine cL 0 aA ?_
 rintro rfl
 let g:=RR kT3 A2 D2 e::V
 refine cN g ?_
 refine sF ?_
 split at b
 refine dI ?_
 cases b
 exact qF () (tE 1 [])
 refine dG ?_
 cases b
 exact qF () (tE 1 [])
theorem Z2q_ok  {b:Node}{e:Int}{r:Int}(a:Z2q b e=some r) :
 FnOk Tryz.prog 54 [(.agg [(iv b.Op),(.slice A2 N2 D2),(.slice A3 N3 D3),(.slice A4 N4 D4),(aE b.Form),(.slice A5 N5 D5)].toArray),(iv e)] [aN kT3 (.slice A2 N2 D2) b.Args,aN kT3 (.slice A3 N3 D3) b.Dims,aN kT3 (.slice A4 N4 D4) b.Ints,aN kT3 (.slice A5 N5 D5) b.Data] (fun (h:Unit)=>((iv r),[])):=by
 unfold Z2q at a
 refine aP Tryz.func54 R 37 R R fun C V=>?_
 refine cL 0 aA ?_
 rintro rfl
 refine cL 1 aA ?_
 rintro rfl
 refine cL 2 aA ?_
 rintro rfl
 refine cL 3 aA ?_
 rintro rfl
 let q:=RR kT3 A2 D2 b.Args::RR kT3 A3 D3 b.Dims::RR kT3 A4 D4 b.Ints::RR kT3 A5 D5 b.Data::V
 refine cN q ?_
 refine aU ?_
 refine eJ R fun u=>?_
 refine aU ?_
 let g:=aJ u [(iv b.Op),(sc A2 b.Args D2),(sc A3 b.Dims D3),(sc A4 b.Ints D4),(aE b.Form),(sc A5 b.Data D5)] 75::q
 refine qN g ?_
 refine aU ?_
 obtain ⟨F,m,a⟩:=bd a
 refine bI ?_
 refine lM _ (fun w s=>(s.d 1 R)) ?_
 refine lC 1 sM R (Z1i_ok m) R ?_
 rintro _
 refine lN g ?_
 refine dG ?_
 split at a
 refine dI ?_
 cases a
 exact qF () (tE 5 [])
 refine bI ?_
 obtain ⟨B,i,a⟩:=bd a
 refine bI ?_
 refine lM _ (fun w s=>(s.d 2 R)) ?_
 refine lC 1 sM R (Z1i_ok i) R ?_
 rintro _
 refine lN g ?_
 refine dG ?_
 split at a
 refine dI ?_
 cases a
 exact qF () (tE 5 [])
 refine bI ?_
 obtain ⟨D,j,a⟩:=bd a
 refine bI ?_
 refine lM _ (fun w s=>(s.d 3 R)) ?_
 refine lC 1 sM R (Z1i_ok j) R ?_
 rintro _
 refine lN g ?_
 refine dG ?_
 split at a
 refine dI ?_
 cases a
 exact qF () (tE 5 [])
 refine dI ?_
 refine lO (vz (il b.Form) (dT fW R)) ?_
 refine iD ?_
 split at a
 refine dI ?_
 cases a
 exact qF () (tE 5 [])
 refine bI ?_
 obtain ⟨E,l,a⟩:=bd a
 refine bI ?_
 refine lM _ (fun w s=>(s.d 4 R)) ?_
 refine lC 1 sM R (Z1i_ok l) R ?_
 rintro _
 refine lN g ?_
 refine dG ?_
 split at a
 refine dI ?_
 cases a
 exact qF () (tE 5 [])
 refine dG ?_
 cases a
 exact qF () (tE 5 [])
theorem Z1a_ok  {i:(List Node)}{l:Int}{r:Int}(b:Z1a i l=some r) :
 FnOk Tryz.prog 23 [(.slice A2 N2 D2),(iv l)] [aN j0 (.slice A2 N2 D2) i] (fun (h:Unit)=>((iv r),[])):=by
 unfold Z1a at b
 refine aP Tryz.func23 R 27 R R fun C V=>?_
 refine cL 0 aA ?_
 rintro rfl
 let T:=RR j0 A2 D2 i::V
 refine cN T ?_
 refine sF ?_
 split at b
 refine dI ?_
 cases b
 exact qF () (tE 1 [])
 refine bI ?_
 refine bB (A:=(Int)×(Unit)) (fun a=>Z1a_J1 a.1=some r) (fun a=>[(1,(iv a.1))]) (fun a=>T) ?_ ?_
 refine bW ?_
 obtain ⟨e1,U,u⟩:=bd b
 refine bD (A:=Unit) U (fun s a=>[(0,(sc A2 i D2)),(1,(iv s.1)),(5,(iv s.2))]) (fun s a=>T) () (aS R) tI ?_
 rintro ⟨m,g⟩ _ σ1 Y b q
 dsimp only [Z1a_L1] at b
 refine dA ?_
 split at b
 refine bW ?_
 obtain ⟨j,b⟩:=gd b
 obtain ⟨a0,B,b⟩:=bd b
 refine aQ ?_
 refine bC 0 aA (show 0<i.length by have:=j; omega) (fun Z o21 ha=>?_)
 subst ha
 refine bX ?_
 refine fN (K:=j0) 0 g dT75.dec R j.1 j.2 ?_
 rintro ⟨-,⟨E,J⟩,⟨F,L⟩,⟨G,M⟩,-,⟨I,O⟩⟩
 refine lO (vz (.agg [(iv (ix i g).Op),(sc E ((ix i g).Args) J),(sc F ((ix i g).Dims) L),(sc G ((ix i g).Ints) M),(aE (ix i g).Form),(sc I ((ix i g).Data) O)].toArray) (eF (fo:=0) 0 x5 x0 R R R R)) (lI R (lM _ (fun w s=>(((((s.d 1 R).d 3 R).d 5 R).d 7 R).e 9 [3,2,1,0,4,5,6,7,8])) ?_))
 refine lC 4 B8 R (Z2q_ok B) R ?_
 rintro _
 refine dA ?_
 split at b
 refine dA ?_
 cases b
 obtain rfl:=q _ R
 have b:=u
 refine aQ ?_
 cases b
 exact qF () (tE 6 [])
 refine dA ?_
 cases b
 exact qA () (tE 5 [])
 refine aQ ?_
 cases b
 obtain rfl:=q _ R
 have b:=u
 refine aU ?_
 exact qI (m,()) b tI
 rintro ⟨D,_⟩ σ1 b
 dsimp only [Z1a_J1] at b
 refine dU ?_
 cases b
 exact qF () (tE 1 [])
theorem Z34_ok  {e:Graph}{a:Int}{r:Int}(b:Z34 e a=some r) :
 FnOk Tryz.prog 6 [(.agg [(.slice A2 N2 D2),(.slice A3 N3 D3)].toArray),(iv a)] [aN j0 (.slice A2 N2 D2) e.Nodes,aN kT3 (.slice A3 N3 D3) e.Outs] (fun (h:Unit)=>((iv r),[])):=by
 unfold Z34 at b
 refine aP Tryz.func6 R 18 R R fun C V=>?_
 refine cL 0 aA ?_
 rintro rfl
 refine cL 1 aA ?_
 rintro rfl
 let l:=RR j0 A2 D2 e.Nodes::RR kT3 A3 D3 e.Outs::V
 refine cN l ?_
 refine aU ?_
 refine eJ R fun m=>?_
 refine aU ?_
 let i:=aJ m [(sc A2 e.Nodes D2),(sc A3 e.Outs D3)] 25::l
 refine qN i ?_
 refine aU ?_
 obtain ⟨q,j,b⟩:=bd b
 refine bI ?_
 refine lM _ (fun w s=>(s.d 1 R)) ?_
 refine lC 1 B9 R (Z1a_ok j) R ?_
 rintro _
 refine lN i ?_
 refine dG ?_
 split at b
 refine dI ?_
 cases b
 exact qF () (tE 3 [])
 refine bI ?_
 obtain ⟨u,g,b⟩:=bd b
 refine bI ?_
 refine lM _ (fun w s=>(s.d 2 R)) ?_
 refine lC 1 sM R (Z1i_ok g) R ?_
 rintro _
 refine lN i ?_
 refine dG ?_
 split at b
 refine dI ?_
 cases b
 exact qF () (tE 3 [])
 refine dG ?_
 cases b
 exact qF () (tE 3 [])
theorem Zf_ok  {e:(List Int)}{r:(List Int)}(b:Zf e=some r) :
 FnOk Tryz.prog 9 [(.slice A2 N2 D2)] [aN kT3 (.slice A2 N2 D2) e] (fun (h:HH)=>((s3 h),[ow kT3 3 (s3 h) r])):=by
 unfold Zf at b
 refine aP Tryz.func9 R 22 R R fun C V=>?_
 refine cL 0 aA ?_
 rintro rfl
 let q:=RR kT3 A2 D2 e::V
 refine cN q ?_
 refine bW ?_
 obtain ⟨i,b⟩:=gd b
 refine aQ ?_
 refine fO (K:=kT3) (m:=(e.length:Int)) (z:=(0:Int)) R R bM cJ kk (Zr.zk zT3 gV) (by decide) R R i.1 i.2.1 i.2.2 (fun A4 D4=>(lS R (aC (aG (aK (bB (A:=((List Int))×(Unit)) (fun a=>Zf_J1 a.1=some r) (fun a=>[(3,(sc A4 (List.replicate (e.length:Int).toNat (0:Int)) D4))]) (fun a=>ow kT3 3 (.slice A4 (List.replicate (e.length:Int).toNat (0:Int)).length D4) a.1::q) ?_ ?_))))))
 refine bW ?_
 obtain ⟨O,E,D⟩:=bd b
 refine bD (A:=Unit) E (fun s a=>[(0,(sc A2 e D2)),(3,(sc A4 (List.replicate (e.length:Int).toNat (0:Int)) D4)),(4,(iv s.2))]) (fun s a=>ow kT3 3 (.slice A4 (List.replicate (e.length:Int).toNat (0:Int)).length D4) s.1::q) () (aS R) tI ?_
 rintro ⟨F,j⟩ _ σ1 G b B
 dsimp only [Zf_L1] at b
 refine dA ?_
 split at b
 refine cI ?_
 obtain ⟨l,b⟩:=gd b
 obtain ⟨g,b⟩:=gd b
 refine cI ?_
 refine bC 1 aA (show 0<e.length by have:=l; omega) (fun J o19 u=>?_)
 subst u
 refine aU ?_
 refine bC 0 aB (show 0<(List.replicate (e.length:Int).toNat (0:Int)).length by have:=g; omega) (fun L o22 u=>?_)
 subst u
 refine bX ?_
 refine eL (K:=kT3) (x':=(ix e j)) 0 j R R cJ R R g.1 g.2 ?_ ?_
 exact fun I h s=>(gR).put I h () (ix e j) s
 refine dI ?_
 cases b
 exact qA () tI
 refine aQ ?_
 cases b
 obtain rfl:=B _ R
 have b:=D
 refine aU ?_
 exact qI (F,()) b tI
 rintro ⟨M,_⟩ σ1 b
 dsimp only [Zf_J1] at b
 refine dU ?_
 cases b
 exact qF (A4,(List.replicate (e.length:Int).toNat (0:Int)).length,D4) (tE 2 [0])
theorem Z35_ok  {a:Node}{r:Node}(j:Z35 a=some r) :
 FnOk Tryz.prog 61 [(.agg [(iv a.Op),(.slice A2 N2 D2),(.slice A3 N3 D3),(.slice A4 N4 D4),(aE a.Form),(.slice A5 N5 D5)].toArray)] [aN kT3 (.slice A2 N2 D2) a.Args,aN kT3 (.slice A3 N3 D3) a.Dims,aN kT3 (.slice A4 N4 D4) a.Ints,aN kT3 (.slice A5 N5 D5) a.Data] (fun (h:HH×HH×HH×HH)=>((.agg [(iv r.Op),(s3 h.1),(s3 h.2.1),(s3 h.2.2.1),(aE r.Form),(s3 h.2.2.2)].toArray),[ow kT3 3 (s3 h.1) r.Args,ow kT3 3 (s3 h.2.1) r.Dims,ow kT3 3 (s3 h.2.2.1) r.Ints,ow kT3 3 (s3 h.2.2.2) r.Data])):=by
 unfold Z35 at j
 refine aP Tryz.func61 R 27 R R fun C V=>?_
 refine cL 0 aA ?_
 rintro rfl
 refine cL 1 aA ?_
 rintro rfl
 refine cL 2 aA ?_
 rintro rfl
 refine cL 3 aA ?_
 rintro rfl
 let J:=RR kT3 A2 D2 a.Args::RR kT3 A3 D3 a.Dims::RR kT3 A4 D4 a.Ints::RR kT3 A5 D5 a.Data::V
 refine cN J ?_
 refine aU ?_
 refine eJ R fun O=>?_
 refine bE R R pu (fun T=>(aC ?_))
 let q:=aJ O [(iv a.Op),(sc A2 a.Args D2),(sc A3 a.Dims D3),(sc A4 a.Ints D4),(aE a.Form),(sc A5 a.Data D5)] 75::J
 refine aQ ?_
 refine bE R R pu (fun D=>(aC (aG (aK (aD (lO (fX 0 sN R) (lO (gF 2 fP R R R) (lO (fX 0 jR R) (cZ 0 R R cJ R R R R R (lN (aJ D [(iv a.Op),(.slice none 0 0),(.slice none 0 0),(.slice none 0 0),(aE ([]:aO)),(.slice none 0 0)] 65::_::q) ?_))))))))))
 refine aQ ?_
 obtain ⟨B,E,j⟩:=bd j
 refine aQ ?_
 refine lM _ (fun w s=>(s.d 3 R)) ?_
 refine lC 1 vQ R (Zf_ok E) R ?_
 rintro ⟨A11,N11,D11⟩
 refine aM 0 aB ?_
 rintro rfl
 refine bX ?_
 refine cZ 1 R R fJ R R R R R (lN (_::aJ D [(iv a.Op),(sc A11 B D11),(.slice none 0 0),(.slice none 0 0),(aE ([]:aO)),(.slice none 0 0)] 65::_::q) ?_)
 refine aQ ?_
 obtain ⟨b,F,j⟩:=bd j
 refine aQ ?_
 refine lM _ (fun w s=>(s.d 5 R)) ?_
 refine lC 1 vQ R (Zf_ok F) R ?_
 rintro ⟨A14,N14,D14⟩
 refine aM 0 aB ?_
 rintro rfl
 refine bX ?_
 refine cZ 2 R R fJ R R R R R (lN (_::_::aJ D [(iv a.Op),(sc A11 B D11),(sc A14 b D14),(.slice none 0 0),(aE ([]:aO)),(.slice none 0 0)] 65::_::q) ?_)
 refine aQ ?_
 obtain ⟨i,G,j⟩:=bd j
 refine aQ ?_
 refine lM _ (fun w s=>(s.d 7 R)) ?_
 refine lC 1 vQ R (Zf_ok G) R ?_
 rintro ⟨e,L,g⟩
 refine aM 0 aB ?_
 rintro rfl
 refine bX ?_
 refine cZ 3 R R fJ R R R R R (lN (_::_::_::aJ D [(iv a.Op),(sc A11 B D11),(sc A14 b D14),(sc e i g),(aE ([]:aO)),(.slice none 0 0)] 65::_::q) ?_)
 refine dU ?_
 refine cZ 3 R R rQ R R R R R (lN (_::_::_::aJ D [(iv a.Op),(sc A11 B D11),(sc A14 b D14),(sc e i g),(aE a.Form),(.slice none 0 0)] 65::_::q) ?_)
 refine aQ ?_
 obtain ⟨u,I,j⟩:=bd j
 refine aQ ?_
 refine lM _ (fun w s=>(s.d 9 R)) ?_
 refine lC 1 vQ R (Zf_ok I) R ?_
 rintro ⟨l,M,m⟩
 refine aM 0 aB ?_
 rintro rfl
 refine bX ?_
 refine cZ 4 R R fJ R R R R R (lN (_::_::_::_::aJ D [(iv a.Op),(sc A11 B D11),(sc A14 b D14),(sc e i g),(aE a.Form),(sc l u m)] 65::_::q) ?_)
 refine cI ?_
 refine aL 5 R R iW R R R R R R (lN (_::_::_::_::_::aJ T [(iv a.Op),(sc A11 B D11),(sc A14 b D14),(sc e i g),(aE a.Form),(sc l u m)] 65::q) ?_)
 refine aQ ?_
 cases j
 exact qS ((A11,B.length,D11),(A14,b.length,D14),(e,i.length,g),(l,u.length,m)) (tE 11 [3,2,1,0])
theorem Z0p_ok  {g:(List Node)}{r:(List Node)}(b:Z0p g=some r) :
 FnOk Tryz.prog 28 [(.slice A2 N2 D2)] [aN j0 (.slice A2 N2 D2) g] (fun (h:HH)=>((s3 h),[ow cP 65 (s3 h) r])):=by
 unfold Z0p at b
 refine aP Tryz.func28 R 23 R R fun C V=>?_
 refine cL 0 aA ?_
 rintro rfl
 let W0:=RR j0 A2 D2 g::V
 refine cN W0 ?_
 refine bW ?_
 obtain ⟨u,b⟩:=gd b
 refine aQ ?_
 refine fO (K:=cP) (m:=(g.length:Int)) (z:=zT65.z) R R mC iW Ba (Zr.zk zT65 pu) (by decide) R R u.1 u.2.1 u.2.2 (fun A4 D4=>(lS R (aC (aG (aK (bB (A:=((List Node))×(Unit)) (fun a=>Z0p_J1 a.1=some r) (fun a=>[(3,(sc A4 (List.replicate (g.length:Int).toNat zT65.z) D4))]) (fun a=>ow cP 65 (.slice A4 (List.replicate (g.length:Int).toNat zT65.z).length D4) a.1::W0) ?_ ?_))))))
 refine bW ?_
 obtain ⟨e1,a7,a6⟩:=bd b
 refine bD (A:=Unit) a7 (fun s a=>[(0,(sc A2 g D2)),(3,(sc A4 (List.replicate (g.length:Int).toNat zT65.z) D4)),(4,(iv s.2))]) (fun s a=>ow cP 65 (.slice A4 (List.replicate (g.length:Int).toNat zT65.z).length D4) s.1::W0) () (aS R) tI ?_
 rintro ⟨a8,i⟩ _ σ1 a9 b a5
 dsimp only [Z0p_L1] at b
 refine dA ?_
 split at b
 refine cI ?_
 obtain ⟨l,b⟩:=gd b
 obtain ⟨j,B,b⟩:=bd b
 obtain ⟨q,b⟩:=gd b
 refine cI ?_
 refine bC 1 aA (show 0<g.length by have:=l; omega) (fun ag o29 ha=>?_)
 subst ha
 refine bX ?_
 refine fN (K:=j0) 1 i dT75.dec R l.1 l.2 ?_
 rintro ⟨-,⟨D,T⟩,⟨E,U⟩,⟨F,Y⟩,-,⟨G,Z⟩⟩
 refine lO (vz (.agg [(iv (ix g i).Op),(sc D ((ix g i).Args) T),(sc E ((ix g i).Dims) U),(sc F ((ix g i).Ints) Y),(aE (ix g i).Form),(sc G ((ix g i).Data) Z)].toArray) (eF (fo:=0) 0 x5 x0 R R R R)) (lM _ (fun w s=>(((((s.d 1 R).d 3 R).d 5 R).d 7 R).e 10 [3,2,1,0,4,5,6,7,8,9])) ?_)
 refine lC 4 Bb R (Z35_ok B) R ?_
 rintro ⟨⟨J,aa,a0⟩,⟨L,ab,a2⟩,⟨M,ac,a3⟩,⟨O,ae,a4⟩⟩
 refine aM 0 aB ?_
 rintro rfl
 refine aM 1 aB ?_
 rintro rfl
 refine aM 2 aB ?_
 rintro rfl
 refine aM 3 aB ?_
 rintro rfl
 refine bC 9 aB (show 0<(List.replicate (g.length:Int).toNat zT65.z).length by have:=q; omega) (fun ah o42 ha=>?_)
 subst ha
 refine bX ?_
 refine lM _ (fun w s=>(s.f 10 [9,1,0,9])) ?_
 refine eL (K:=cP) (x':=j) 4 i R R iW R R q.1 q.2 ?_ ?_
 exact fun I h s=>(B5).put I h ((),(sc J j.Args a0),(sc L j.Dims a2),(sc M j.Ints a3),(),(sc O j.Data a4)) j s
 refine dI ?_
 cases b
 exact qA () (tE 6 [0])
 refine aQ ?_
 cases b
 obtain rfl:=a5 _ R
 have b:=a6
 refine aU ?_
 exact qI (a8,()) b tI
 rintro ⟨ai,_⟩ σ1 b
 dsimp only [Z0p_J1] at b
 refine dU ?_
 cases b
 exact qF (A4,(List.replicate (g.length:Int).toNat zT65.z).length,D4) (tE 2 [0])
theorem Z1w_ok  {a:Graph}{r:Graph}(e:Z1w a=some r) :
 FnOk Tryz.prog 8 [(.agg [(.slice A2 N2 D2),(.slice A3 N3 D3)].toArray)] [aN j0 (.slice A2 N2 D2) a.Nodes,aN kT3 (.slice A3 N3 D3) a.Outs] (fun (h:HH×HH)=>((.agg [(s3 h.1),(s3 h.2)].toArray),[ow cP 65 (s3 h.1) r.Nodes,ow kT3 3 (s3 h.2) r.Outs])):=by
 unfold Z1w at e
 refine aP Tryz.func8 R 13 R R fun C V=>?_
 refine cL 0 aA ?_
 rintro rfl
 refine cL 1 aA ?_
 rintro rfl
 let m:=RR j0 A2 D2 a.Nodes::RR kT3 A3 D3 a.Outs::V
 refine cN m ?_
 refine aU ?_
 refine eJ R fun u=>?_
 refine bE R R xd (fun B=>(aC ?_))
 let j:=aJ u [(sc A2 a.Nodes D2),(sc A3 a.Outs D3)] 25::m
 refine aQ ?_
 refine bE R R xd (fun q=>(aC (aG (aK ?_))))
 obtain ⟨i,l,e⟩:=bd e
 refine aQ ?_
 refine lM _ (fun w s=>(s.d 3 R)) ?_
 refine lC 1 Bc R (Z0p_ok l) R ?_
 rintro ⟨A9,N9,D9⟩
 refine aM 0 aB ?_
 rintro rfl
 refine bX ?_
 refine cZ 1 R R yQ R R R R R (lN (_::aJ q [(sc A9 i D9),(.slice none 0 0)] 31::_::j) ?_)
 refine aQ ?_
 obtain ⟨b,g,e⟩:=bd e
 refine aQ ?_
 refine lM _ (fun w s=>(s.d 5 R)) ?_
 refine lC 1 vQ R (Zf_ok g) R ?_
 rintro ⟨A12,N12,D12⟩
 refine aM 0 aB ?_
 rintro rfl
 refine bX ?_
 refine cZ 2 R R fJ R R R R R (lN (_::_::aJ q [(sc A9 i D9),(sc A12 b D12)] 31::_::j) ?_)
 refine cI ?_
 refine aL 3 R R lT R R R R R R (lN (_::_::_::aJ B [(sc A9 i D9),(sc A12 b D12)] 31::j) ?_)
 refine aQ ?_
 cases e
 exact qS ((A9,i.length,D9),(A12,b.length,D12)) (tE 7 [1,0])
theorem fE  {b e:aO}{mG:Int}{r:Int}(a:cV b e=some r) :
 FnOk Tryz.prog 162 [(aE b),(aE e)] [gl 0 mG] (fun (_:Unit)=>((iv r),[])):=by
 unfold cV at a
 obtain ⟨g,a⟩:=gd a
 obtain rfl:=so a
 exact yC fun w h=>Tryz.stringslite_Index ⟨b.toArray⟩ ⟨e.toArray⟩ mG w (by simpa [ByteArray.size] using g) h
theorem Z2h_ok  {p1:aO}{a:aO}{mG:Int}{r:Int}(b:Z2h p1 a=some r) :
 FnOk Tryz.prog 148 [(aE p1),(aE a)] [gl 0 mG] (fun (h:Unit)=>((iv r),[])):=by
 unfold Z2h at b
 refine aP Tryz.func148 R 8 R R fun C V=>?_
 let g:=gl 0 mG::V
 refine cN g ?_
 refine bW ?_
 obtain ⟨i,e,b⟩:=bd b
 refine aD (lO (vp (aE p1) R) (lO (vp (aE a) R) (lM _ (fun w s=>(s.dg 0 R)) ?_)))
 refine lC 1 w9 R (fE e) R ?_
 rintro _
 refine lN g ?_
 refine bI ?_
 cases b
 exact qF () (tE 1 [])
theorem Z40_ok  {p1:aO}{a:aO}{mG:Int}{r:Bool}(b:Z40 p1 a=some r) :
 FnOk Tryz.prog 116 [(aE p1),(aE a)] [gl 0 mG] (fun (h:Unit)=>((.bool r),[])):=by
 unfold Z40 at b
 refine aP Tryz.func116 R 9 R R fun C V=>?_
 let g:=gl 0 mG::V
 refine cN g ?_
 refine bW ?_
 obtain ⟨i,e,b⟩:=bd b
 refine aD (lO (vp (aE p1) R) (lO (vp (aE a) R) (lM _ (fun w s=>(s.dg 0 R)) ?_)))
 refine lC 1 wc R (Z2h_ok e) R ?_
 rintro _
 refine lN g ?_
 refine cI ?_
 cases b
 exact qF () (tE 1 [])
theorem Z11_ok  {e:(List Int)}{g:(List Int)}{r:Bool}(b:Z11 e g=some r) :
 FnOk Tryz.prog 41 [(.slice A2 N2 D2),(.slice A4 N4 D4)] [aN kT3 (.slice A2 N2 D2) e,aN kT3 (.slice A4 N4 D4) g] (fun (h:Unit)=>((.bool r),[])):=by
 unfold Z11 at b
 refine aP Tryz.func41 R 26 R R fun C V=>?_
 refine cL 0 aA ?_
 rintro rfl
 refine cL 1 aA ?_
 rintro rfl
 let q:=RR kT3 A2 D2 e::RR kT3 A4 D4 g::V
 refine cN q ?_
 refine ov ?_
 split at b
 refine dI ?_
 cases b
 exact qF () (tE 2 [])
 refine bI ?_
 refine bB (A:=(Unit)×(Unit)) (fun a=>Z11_J1=some r) (fun a=>[]) (fun a=>q) ?_ ?_
 refine dI ?_
 obtain ⟨I,B,m⟩:=bd b
 refine bD (A:=Unit) B (fun s a=>[(0,(sc A2 e D2)),(1,(sc A4 g D4)),(12,(il e)),(13,(iv s))]) (fun s a=>q) () (aS R) tI ?_
 rintro G _ σ1 D b i
 dsimp only [Z11_L1] at b
 refine bW ?_
 split at b
 refine iM ?_
 obtain ⟨j,b⟩:=gd b
 obtain ⟨l,b⟩:=gd b
 refine bA 0 aA (show 0<e.length by have:=j; omega) (fun E o18 u=>?_)
 subst u
 refine bA 1 aA (show 0<g.length by have:=l; omega) (fun F o21 u=>?_)
 subst u
 refine dF 9 [] bO fun L J=>?_
 refine vO 0 [] ?_
 refine dD (aG ?_)
 split at b
 refine dA ?_
 cases b
 obtain rfl:=i _ R
 have b:=m
 refine aQ ?_
 cases b
 exact qF () (tE 2 [])
 refine dI ?_
 cases b
 exact qA () tI
 refine aQ ?_
 cases b
 obtain rfl:=i _ R
 have b:=m
 refine aU ?_
 exact cU ((),()) b trivial tI
 rintro ⟨_,_⟩ σ1 b
 dsimp only [Z11_J1] at b
 refine bW ?_
 cases b
 exact qF () (tE 2 [])
theorem iE  {p1:aO}{a:aO}{mG:Int}{r:aO×aO×Bool}(b:eH p1 a=some r) :
 FnOk Tryz.prog 209 [(aE p1),(aE a)] [gl 0 mG] (fun (h:Unit)=>((.tuple [(aE r.1),(aE r.2.1),(.bool r.2.2)].toArray),[])):=by
 unfold eH at b
 refine aP Tryz.func209 R 23 R R fun C V=>?_
 let l:=gl 0 mG::V
 refine cN l ?_
 refine aU ?_
 refine lO (vp (aE ([]:aO)) R) (lO (vp (aE ([]:aO)) R) ?_)
 refine cI ?_
 obtain ⟨i,j,b⟩:=bd b
 refine aD (lO (vp (aE p1) R) (lO (vp (aE a) R) (lM _ (fun w s=>(s.dg 0 R)) ?_)))
 refine lC 1 w9 R (fE j) R ?_
 rintro _
 refine lN l ?_
 refine dA ?_
 split at b
 refine aU ?_
 obtain ⟨e,b⟩:=gd b
 obtain ⟨g,b⟩:=gd b
 refine dF 12 [] bO fun q m=>?_
 refine dR 0 R (vp (aE p1) R) (dR 1 R (vI R) (dR 2 R (vz (aE (sub p1 (0:Int) i)) (hT (0:Int) i fW R R R e.1 e.2.1 e.2.2)) (dR 3 R (vp (aE p1) R) (dR 4 R (vI R) (dR 5 R (vp (aE a) R) (dR 6 R (vz (il a) (dT fW R)) (dR 7 R (jt R R) (dR 8 R (vz (aE (sub p1 (aH (i+(a.length:Int))) (p1.length:Int))) (hT (aH (i+(a.length:Int))) (p1.length:Int) fW R R R g.1 g.2.1 g.2.2)) (dR 9 R (vp (aE (sub p1 (0:Int) i)) R) (dR 10 R (vp (aE (sub p1 (aH (i+(a.length:Int))) (p1.length:Int))) R) (dR 11 R (vB R) (dD ?_))))))))))))
 refine aQ ?_
 cases b
 exact iy () (tE 1 [])
 refine cI ?_
 refine lO (vp (aE p1) R) (lO (vp (aE p1) R) (lO (vp (aE ([]:aO)) R) ?_))
 refine bI ?_
 cases b
 exact iy () (tE 1 [])
theorem Z39_ok  {p1:aO}{a:aO}{mG:Int}{r:aO×aO×Bool}(b:Z39 p1 a=some r) :
 FnOk Tryz.prog 207 [(aE p1),(aE a)] [gl 0 mG] (fun (h:Unit)=>((.tuple [(aE r.1),(aE r.2.1),(.bool r.2.2)].toArray),[])):=by
 unfold Z39 at b
 refine aP Tryz.func207 R 13 R R fun C V=>?_
 let i:=gl 0 mG::V
 refine cN i ?_
 refine aU ?_
 refine lO (vp (aE ([]:aO)) R) (lO (vp (aE ([]:aO)) R) ?_)
 refine bI ?_
 obtain ⟨e,g,b⟩:=bd b
 refine aD (lO (vp (aE p1) R) (lO (vp (aE a) R) (lM _ (fun w s=>(s.dg 0 R)) ?_)))
 refine lC 1 zw R (iE g) R ?_
 rintro _
 refine lN i ?_
 refine lO (vp (aE e.1) R) (lO (vp (aE e.2.1) R) (lB R (lO (vp (aE e.1) R) (lO (vp (aE e.2.1) R) ?_))))
 refine bI ?_
 cases b
 exact iy () (tE 1 [])
theorem Z3j_ok  {b e:aO}{r:Int}(a:Z3j b e=some r) :
 FnOk Tryz.prog 212 [(aE b),(aE e)] [] (fun (_:Unit)=>((iv r),[])):=by
 unfold Z3j at a
 split at a
 ·rename_i c
  obtain rfl:=so a
  exact qm fun w=>Tryz.strings_Count_one ⟨b.toArray⟩ c w
 ·cases a
theorem Z0l_ok  {p1:aO}{j:aO}{b:Int}{n4:Int}{mG:Int}{r:(List aO)}(g:Z0l p1 j b n4=some r) :
 FnOk Tryz.prog 210 [(aE p1),(aE j),(iv b),(iv n4)] [gl 0 mG] (fun (h:HH)=>((s3 h),[aN dV (s3 h) r])):=by
 unfold Z0l at g
 refine aP Tryz.func210 R 66 R R fun C V=>?_
 let U:=gl 0 mG::V
 refine cN U ?_
 refine iM ?_
 rcases cH g with ⟨_,g⟩|⟨_,g⟩
 refine dI ?_
 cases g
 exact qF (none,0,0) (fun w s=>((s.nilr dV).e 2 [0]))
 refine bW ?_
 refine lO (vp (aE j) R) (lO (vz (.bool (j==([]:aO))) (jr R R R)) ?_)
 refine aU ?_
 rcases cH g with ⟨_,g⟩|⟨_,g⟩
 refine bX ?_
 cases g
 refine bI ?_
 refine bB (A:=(Int)×(Unit)) (fun a=>Z0l_J2 p1 j b a.1=some r) (fun a=>[(0,(aE p1)),(1,(aE j)),(2,(iv b)),(3,(iv a.1))]) (fun a=>U) ?_ ?_
 refine bW ?_
 rcases cH g with ⟨_,g⟩|⟨_,g⟩
 refine bX ?_
 obtain ⟨r8,a6,g⟩:=bd g
 refine aD (lO (vp (aE p1) R) (lO (vp (aE j) R) (lC 0 zy R (Z3j_ok a6) R ?_)))
 rintro _
 refine aQ ?_
 exact qI ((aH (r8+1)),()) g tI
 refine aU ?_
 exact qI (n4,()) g tI
 rintro ⟨i,_⟩ σ1 g
 dsimp only [Z0l_J2] at g
 refine aQ ?_
 refine lO (vp (aE p1) R) (lO (vz (il p1) (dT fW R)) (lO (jt R R) (lO (vz (iv (if (aH ((p1.length:Int)+1))<i then (aH ((p1.length:Int)+1)) else i)) (vM R R)) ?_)))
 refine bI ?_
 obtain ⟨u,g⟩:=gd g
 refine aU ?_
 refine fO (K:=dV) (m:=(if (aH ((p1.length:Int)+1))<i then (aH ((p1.length:Int)+1)) else i)) (z:=([]:aO)) R R lG rQ Cg (Zr.zk zT9 yX) (by decide) R R u.1 u.2.1 u.2.2 (fun A12 D12=>(lS R (aC (aG (aK (aD (lI R (lO (uv R R) (lI R (aC (aG (aK (aD (lI R (aC (aG (aK (bB (A:=(aO×(List aO)×Int)×(Unit)) (fun a=>Z0l_J3 p1 i a.1.1 a.1.2.1 a.1.2.2=some r) (fun a=>[(0,(aE a.1.1)),(9,(sc A12 (List.replicate (if (aH ((p1.length:Int)+1))<i then (aH ((p1.length:Int)+1)) else i).toNat ([]:aO)) D12)),(10,(iv a.1.2.2))]) (fun a=>ow dV 9 (.slice A12 (List.replicate (if (aH ((p1.length:Int)+1))<i then (aH ((p1.length:Int)+1)) else i).toNat ([]:aO)).length D12) a.1.2.1::U) ?_ ?_))))))))))))))))))
 refine bX ?_
 obtain ⟨e1,a5,Z⟩:=bd g
 refine bD (A:=Unit) a5 (fun s a=>[(0,(aE s.1)),(1,(aE j)),(2,(iv b)),(3,(iv (aH ((if (aH ((p1.length:Int)+1))<i then (aH ((p1.length:Int)+1)) else i) - 1)))),(9,(sc A12 (List.replicate (if (aH ((p1.length:Int)+1))<i then (aH ((p1.length:Int)+1)) else i).toNat ([]:aO)) D12)),(10,(iv s.2.2))]) (fun s a=>ow dV 9 (.slice A12 (List.replicate (if (aH ((p1.length:Int)+1))<i then (aH ((p1.length:Int)+1)) else i).toNat ([]:aO)).length D12) s.2.1::U) () (aS R) tI ?_
 rintro ⟨l,O,T⟩ _ σ1 a8 g Y
 dsimp only [Z0l_L1] at g
 refine dI ?_
 rcases cH g with ⟨_,g⟩|⟨_,g⟩
 refine cI ?_
 obtain ⟨q,a0,g⟩:=bd g
 refine aD (lO (vp (aE l) R) (lO (vp (aE j) R) (lM (gl 0 mG::ow dV 9 (.slice A12 (List.replicate (if (aH ((p1.length:Int)+1))<i then (aH ((p1.length:Int)+1)) else i).toNat ([]:aO)).length D12) O::U) (fun w s=>(s.dg 1 R)) ?_)))
 refine lC 1 wc R (Z2h_ok a0) R ?_
 rintro _
 refine dG ?_
 rcases cH g with ⟨_,g⟩|⟨_,g⟩
 refine aQ ?_
 refine rY R ?_
 cases g
 obtain rfl:=Y _ R
 have g:=Z
 refine aU ?_
 exact qI ((l,O,T),()) g tI
 refine bI ?_
 obtain ⟨B,g⟩:=gd g
 obtain ⟨D,g⟩:=gd g
 refine aQ ?_
 refine lO (vp (aE l) R) ?_
 refine aQ ?_
 refine lO (vz (aE (sub l (0:Int) (aH (q+b)))) (hT (0:Int) (aH (q+b)) fW R R R B.1 B.2.1 B.2.2)) (bC 0 aB (show 0<(List.replicate (if (aH ((p1.length:Int)+1))<i then (aH ((p1.length:Int)+1)) else i).toNat ([]:aO)).length by have:=D; omega) (fun a4 o34 ha=>?_))
 subst ha
 refine bX ?_
 refine eL (K:=dV) (x':=(sub l (0:Int) (aH (q+b)))) 0 T R R rQ R R D.1 D.2 ?_ ?_
 exact fun I h s=>(ym).put I h () (sub l (0:Int) (aH (q+b))) s
 refine bX ?_
 obtain ⟨a7,J,g⟩:=bd g
 replace J:=Option.some.inj J
 refine qM (ow dV 9 (.slice (ad a4 o34) (List.replicate (if (aH ((p1.length:Int)+1))<i then (aH ((p1.length:Int)+1)) else i).toNat ([]:aO)).length D12) a7::U) (fun w s=>by rw [← J]; exact s) ?_
 refine aU ?_
 obtain ⟨E,g⟩:=gd g
 refine aD (lO (vp (aE l) R) (lI R (lO (vp (aE j) R) (lO (vz (il j) (dT fW R)) (lO (jt R R) (lO (vz (aE (sub l (aH (q+(j.length:Int))) (l.length:Int))) (hT (aH (q+(j.length:Int))) (l.length:Int) fW R R R E.1 E.2.1 E.2.2)) (lO (vp (aE (sub l (aH (q+(j.length:Int))) (l.length:Int))) R) ?_)))))))
 refine dI ?_
 cases g
 exact qA () tI
 refine aQ ?_
 cases g
 obtain rfl:=Y _ R
 have g:=Z
 refine aU ?_
 exact qI ((l,O,T),()) g tI
 rintro ⟨⟨M,a3,L⟩,_⟩ σ1 g
 dsimp only [Z0l_J3] at g
 refine bX ?_
 obtain ⟨F,g⟩:=gd g
 refine aQ ?_
 refine lO (vp (aE M) R) (bC 0 aB (show 0<(List.replicate (if (aH ((p1.length:Int)+1))<i then (aH ((p1.length:Int)+1)) else i).toNat ([]:aO)).length by have:=F; omega) (fun a9 o46 ha=>?_))
 subst ha
 refine bX ?_
 refine eL (K:=dV) (x':=M) 0 L R R rQ R R F.1 F.2 ?_ ?_
 exact fun I h s=>(ym).put I h () M s
 refine aQ ?_
 obtain ⟨G,g⟩:=gd g
 refine bI ?_
 refine iV (fun w s=>s.shr 0 R) (gJ (K:=dV) (0:Int) (aH (L+1)) 0 R R lG rQ R R R R G.1 G.2.1 G.2.2 (fun a1 a2=>(lS R (aC (aG (bY ?_))))))
 cases g
 exact qF (a1,(sub (a3.set L.toNat M) (0:Int) (aH (L+1))).length,a2) (tE 3 [0])
theorem Z3a_ok  {p1:aO}{a:aO}{mG:Int}{r:(List aO)}(b:Z3a p1 a=some r) :
 FnOk Tryz.prog 208 [(aE p1),(aE a)] [gl 0 mG] (fun (h:HH)=>((.slice h.1 h.2.1 h.2.2),[aN dV (.slice h.1 h.2.1 h.2.2) r])):=by
 unfold Z3a at b
 refine aP Tryz.func208 R 8 R R fun C V=>?_
 refine cN (_::V) ?_
 let g:List HP:=gl 0 mG::V
 refine cN g ?_
 refine aK (aD (lS R (aC (aG (aK ?_)))))
 obtain ⟨j,i,b⟩:=bd b
 refine aD (lO (vp (aE p1) R) (lO (vp (aE a) R) (lM (gl 0 mG::g) (fun w s=>(s.dg 0 R)) ?_)))
 refine lC 1 zA R (Z0l_ok i) R ?_
 rintro ⟨A5,N5,D5⟩
 refine lN (aN dV (.slice A5 N5 D5) j::g) ?_
 refine aM 0 aA ?_
 rintro rfl
 refine lS R (aC (aG (bY ?_)))
 obtain rfl:=so b
 exact qF (A5,j.length,D5) (fun w s=>(s.e 2 [0]))
theorem gN  {b:aO}{a:Int}{r:Int}(e:dK b a=some r) :
 FnOk Tryz.prog 172 [(aE b),(.int .u8 a)] [] (fun (_:Unit)=>((iv r),[])):=by
 unfold dK at e
 obtain rfl:=so e
 exact qm fun w=>Tryz.stringslite_IndexByte ⟨b.toArray⟩ a w
theorem Z1v_ok  {p1:aO}{e:Int}{r:Int}(a:Z1v p1 e=some r) :
 FnOk Tryz.prog 205 [(aE p1),(.int .u8 e)] [] (fun (h:Unit)=>((iv r),[])):=by
 unfold Z1v at a
 refine aP Tryz.func205 R 8 R R fun C V=>?_
 refine cN V ?_
 refine bW ?_
 obtain ⟨g,b,a⟩:=bd a
 refine aD (lO (vp (aE p1) R) (lI R (lC 0 zC R (gN b) R ?_)))
 rintro _
 refine bI ?_
 cases a
 exact qF () tI
theorem Zs_ok {g:List Int}{a:Option Addr}{b e:Nat}{r:(List Int)}(m:Zs g=some r) :
  FnOk Tryz.prog 43 [(.slice a b e)] [aN kT3 (.slice a b e) g] (fun (h:(Option Addr×Nat×Nat))=>((s3 h),[ow kT3 3 (s3 h) r])):=by
 unfold Zs at m
 obtain ⟨B,m⟩:=gd m
 obtain rfl:=Option.some.inj m
 refine aP Tryz.func43 rfl 8 rfl rfl fun C V=>(yy (V':=aN kT3 (.slice a b e) g::V) tI (bK 0 aA (fun (D:b=g.length)=>?_)))
 subst D
 refine aU ?_
 refine lS rfl ?_
 refine cI ?_
 refine lS rfl (sk (.bool a.isNone) (wK bM rfl rfl) rfl rfl (aC (aG ?_)))
 rcases Bool.eq_false_or_eq_true a.isNone with l | l
 ·refine bV rfl l ?_
  refine wN 0 aA l (fun (E:g=[])=>?_)
  subst E
  refine aU ?_
  refine lS rfl ?_
  refine bI ?_
  exact dC (vs:=[(.slice none 0 0)]) (.inl rfl) (none,0,0) rfl ⟨rfl,trivial⟩ rfl (fun w s=>((s.nilo kT3 3).sel 2 [0] rfl rfl))
 ·refine bG rfl l (cF (aG ?_))
  refine aU ?_
  refine bP (K:=kT3) (xs:=([]:List Int)) (vs:=[]) 0 rfl rfl bM cJ gV rfl rfl rfl rfl rfl rfl ?_ rfl (fun q u=>?_)
  ·exact fun I h s=>(gR).list [] I h s
  refine lS rfl (eP (K:=kT3) 17592186044416 rfl rfl bM cJ kk (Zr.zk zT3 gV) rfl rfl rfl rfl rfl rfl (s8 (Kind.scal_flat _ _)) (by simpa using B) (fun i j=>(lS rfl (aC (aG (bY ?_))))))
  exact dC (vs:=[(.slice i g.length j)]) (.inl rfl) (i,g.length,j) rfl ⟨rfl,trivial⟩ rfl tI
theorem Z2i_ok  {p1:Int}{r:Bool}(a:Z2i p1=some r) :
 FnOk Tryz.prog 117 [(iv p1)] [] (fun (h:Unit)=>((.bool r),[])):=by
 unfold Z2i at a
 refine aP Tryz.func117 R 6 R R fun C V=>?_
 refine cN V ?_
 refine nI ?_
 cases a
 exact qF () tI
theorem Z3b_ok  {p1:Int}{g:Int}{r:Bool}(e:Z3b p1 g=some r) :
 FnOk Tryz.prog 82 [(iv p1),(iv g)] [] (fun (h:Unit)=>((.bool r),[])):=by
 unfold Z3b at e
 refine aP Tryz.func82 R 17 R R fun C V=>?_
 refine cN V ?_
 refine bW ?_
 obtain ⟨l,i,e⟩:=bd e
 obtain ⟨m,j,e⟩:=bd e
 refine cQ [(4,(.bool ((l&&(!m))||(decide (p1<g)))))] (V) ?_ ?_
 refine aU ?_
 refine lC 0 wl R (Z2i_ok i) R ?_
 rintro _
 refine bX ?_
 rcases bo l with a | a
 refine bX ?_
 refine bU 0 R (dS a) wl R (Z2i_ok (bJ j a)) R ?_
 rintro _
 refine bX ?_
 refine lO (iC R a R) (lB R ?_)
 rcases bo (l&&(!m)) with b | b
 refine aQ ?_
 refine lO (fD (decide (p1<g)) R b) ?_
 refine aU ?_
 exact qj tI
 refine aQ ?_
 refine lO (fS R b R) ?_
 refine aU ?_
 exact qj tI
 refine aQ ?_
 refine lO (jP (!m) R a) ?_
 refine bI ?_
 refine lO (fS R (aF a) R) ?_
 refine aU ?_
 exact qj tI
 rintro σ1
 refine aU ?_
 cases e
 exact qF () tI
theorem Z2a_ok  {p1:Int}{r:Bool}(a:Z2a p1=some r) :
 FnOk Tryz.prog 83 [(iv p1)] [] (fun (h:Unit)=>((.bool r),[])):=by
 unfold Z2a at a
 refine aP Tryz.func83 R 6 R R fun C V=>?_
 refine cN V ?_
 refine nI ?_
 cases a
 exact qF () tI
theorem Z0m_ok  {p1:(List Int)}{e:Int}{r:Int×Bool}(i:Z0m p1 e=some r) :
 FnOk Tryz.prog 69 [(.slice A2 N2 D2),(iv e)] [aN kT3 (.slice A2 N2 D2) p1] (fun (h:Unit)=>((.tuple [(iv r.1),(.bool r.2)].toArray),[])):=by
 unfold Z0m at i
 refine aP Tryz.func69 R 54 R R fun C V=>?_
 refine cL 0 aA ?_
 rintro rfl
 let L:=RR kT3 A2 D2 p1::V
 refine cN L ?_
 refine sF ?_
 refine bB (A:=(Int)×(Unit)) (fun a=>Z0m_J1 p1 e a.1=some r) (fun a=>[(0,(sc A2 p1 D2)),(1,(iv e)),(6,(il p1)),(7,(iv a.1))]) (fun a=>L) ?_ ?_
 refine bX ?_
 obtain ⟨e1,U,T⟩:=bd i
 refine bD (A:=Unit) U (fun s a=>[(0,(sc A2 p1 D2)),(1,(iv e)),(6,(il p1)),(7,(iv s.1)),(8,(iv s.2))]) (fun s a=>L) () (aS R) tI ?_
 rintro ⟨q,E⟩ _ σ1 Y i O
 dsimp only [Z0m_L1] at i
 refine dI ?_
 split at i
 refine dA ?_
 refine lO (vz (.int .u64 (IntKind.wrap .u64 ((aH (q+E))))) (sg Ch wj R)) (lO (vz (.int .u64 ((IntKind.wrap .u64 ((aH (q+E)))) / 2 ^ (1:Int).toNat)) (yu R R (by decide) (by decide))) (lO (vz (iv (aH (((IntKind.wrap .u64 ((aH (q+E)))) / 2 ^ (1:Int).toNat)))) (sg wj Ch R)) ?_))
 refine bI ?_
 obtain ⟨F,i⟩:=gd i
 obtain ⟨a1,G,i⟩:=bd i
 refine aQ ?_
 refine bC 0 aA (show 0<p1.length by have:=F; omega) (fun Z o16 M=>?_)
 subst M
 refine aQ ?_
 refine lC 0 BH R (Z3b_ok G) R ?_
 rintro _
 refine aU ?_
 split at i
 refine dU ?_
 cases i
 exact qA () tI
 refine bW ?_
 cases i
 exact qA () tI
 refine aQ ?_
 cases i
 obtain rfl:=O _ R
 have i:=T
 refine aU ?_
 exact qI (q,()) i tI
 rintro ⟨l,_⟩ σ1 i
 dsimp only [Z0m_J1] at i
 refine bX ?_
 obtain ⟨m,i⟩:=gd i
 obtain ⟨D,i⟩:=gd i
 obtain ⟨u,I,i⟩:=bd i
 obtain ⟨B,J,i⟩:=bd i
 refine cQ [(4,(iv l)),(5,(.bool ((decide (l<(p1.length:Int)))&&(((ix p1 l)==e)||(u&&B)))))] (L) ?_ ?_
 refine bW ?_
 rcases bo (decide (l<(p1.length:Int))) with b | b
 refine aU ?_
 refine bC 0 aA (show 0<p1.length by have:=(m b); omega) (fun a0 o25 M=>?_)
 subst M
 refine lW (dS b) (eM bM cJ R R (m b)) (lW (dS b) (gK 0 fP aA R (m b)) ?_)
 refine aQ ?_
 rcases bo ((ix p1 l)==e) with g | g
 refine dA ?_
 refine lW (dS b) (fD (u&&B) R g) (lO (iC R b R) ?_)
 refine aQ ?_
 exact qj tI
 refine aU ?_
 refine lW (cC g) (eM bM cJ R R (D b g)) (lW (cC g) (gK 0 fP aA R (D b g)) (bU 0 R (cC g) Ae R (Z2a_ok (bJ I (nC b (cX g)))) R ?_))
 rintro _
 refine bX ?_
 rcases bo u with j | j
 refine bX ?_
 refine bU 0 R (dS j) Ae R (Z2a_ok (bJ J (nC b (nC (cX g) j)))) R ?_
 rintro _
 refine lW (cC g) (iC R j R) (lW (dS b) (fS R g R) (lO (iC R b R) ?_))
 refine aQ ?_
 exact qj tI
 refine aU ?_
 refine lW (cC g) (jP B R j) (lW (dS b) (fS R g R) (lO (iC R b R) ?_))
 refine aQ ?_
 exact qj tI
 refine pq ?_
 refine lO (jP (((ix p1 l)==e)||(u&&B)) R b) ?_
 refine aQ ?_
 exact qj tI
 rintro σ1
 refine aU ?_
 cases i
 exact jC () (tE 1 [])
theorem Z16_ok  {p1:(List Int)}{r:Int}(b:Z16 p1=some r) :
 FnOk Tryz.prog 67 [(.slice A2 N2 D2)] [aN kT3 (.slice A2 N2 D2) p1] (fun (h:Unit)=>((iv r),[])):=by
 unfold Z16 at b
 refine aP Tryz.func67 R 25 R R fun C V=>?_
 refine cL 0 aA ?_
 rintro rfl
 let g:=RR kT3 A2 D2 p1::V
 refine cN g ?_
 refine kh ?_
 split at b
 refine bX ?_
 cases b
 refine bI ?_
 obtain ⟨j,b⟩:=gd b
 refine aU ?_
 refine bC 0 aA (show 0<p1.length by have:=j; omega) (fun B o6 D=>?_)
 subst D
 refine bW ?_
 refine bB (A:=(Int)×(Unit)) (fun a=>Z16_J1 a.1=some r) (fun a=>[(3,(iv a.1))]) (fun a=>g) ?_ ?_
 refine bW ?_
 obtain ⟨F,m,l⟩:=bd b
 refine bD (A:=Unit) m (fun s a=>[(0,(sc (ad B o6) p1 D2)),(3,(iv s.1)),(4,(iv s.2))]) (fun s a=>g) () (aS R) tI ?_
 rintro ⟨q,e⟩ _ σ1 u b i
 dsimp only [Z16_L1] at b
 refine dA ?_
 split at b
 refine cI ?_
 obtain ⟨_,b⟩:=gd b
 refine bW ?_
 refine lO (vz (iv (if (ix p1 e)>q then (ix p1 e) else q)) (vL R R)) ?_
 refine dA ?_
 cases b
 exact qA () tI
 refine aQ ?_
 cases b
 obtain rfl:=i _ R
 have b:=l
 refine aU ?_
 exact qI (q,()) b tI
 rintro ⟨E,_⟩ σ1 b
 dsimp only [Z16_J1] at b
 refine dU ?_
 cases b
 exact qF () (tE 1 [])
theorem Z0b_ok  {e:(List Int)}{g:(List Int)}{r:Bool}(b:Z0b e g=some r) :
 FnOk Tryz.prog 12 [(.slice A2 N2 D2),(.slice A4 N4 D4)] [aN kT3 (.slice A2 N2 D2) e,aN kT3 (.slice A4 N4 D4) g] (fun (h:Unit)=>((.bool r),[])):=by
 unfold Z0b at b
 refine aP Tryz.func12 R 26 R R fun C V=>?_
 refine cL 0 aA ?_
 rintro rfl
 refine cL 1 aA ?_
 rintro rfl
 let q:=RR kT3 A2 D2 e::RR kT3 A4 D4 g::V
 refine cN q ?_
 refine ov ?_
 split at b
 refine dI ?_
 cases b
 exact qF () (tE 2 [])
 refine bI ?_
 refine bB (A:=(Unit)×(Unit)) (fun a=>Z0b_J1=some r) (fun a=>[]) (fun a=>q) ?_ ?_
 refine bW ?_
 obtain ⟨I,B,m⟩:=bd b
 refine bD (A:=Unit) B (fun s a=>[(0,(sc A2 e D2)),(1,(sc A4 g D4)),(5,(iv s))]) (fun s a=>q) () (aS R) tI ?_
 rintro G _ σ1 D b i
 dsimp only [Z0b_L1] at b
 refine dA ?_
 split at b
 refine bW ?_
 obtain ⟨j,b⟩:=gd b
 obtain ⟨l,b⟩:=gd b
 refine bA 0 aA (show 0<e.length by have:=j; omega) (fun E o18 u=>?_)
 subst u
 refine bA 1 aA (show 0<g.length by have:=l; omega) (fun F o21 u=>?_)
 subst u
 refine dF 9 [] bO fun L J=>?_
 refine vO 0 [] ?_
 refine dD (aG ?_)
 split at b
 refine dA ?_
 cases b
 obtain rfl:=i _ R
 have b:=m
 refine aQ ?_
 cases b
 exact qF () (tE 2 [])
 refine dA ?_
 cases b
 exact qA () tI
 refine aQ ?_
 cases b
 obtain rfl:=i _ R
 have b:=m
 refine aU ?_
 exact cU ((),()) b trivial tI
 rintro ⟨_,_⟩ σ1 b
 dsimp only [Z0b_J1] at b
 refine bW ?_
 cases b
 exact qF () (tE 2 [])
theorem Z2p_ok  {b:Node}{g:Node}{r:Bool}(a:Z2p b g=some r) :
 FnOk Tryz.prog 70 [(.agg [(iv b.Op),(.slice A2 N2 D2),(.slice A3 N3 D3),(.slice A4 N4 D4),(aE b.Form),(.slice A5 N5 D5)].toArray),(.agg [(iv g.Op),(.slice A7 N7 D7),(.slice A8 N8 D8),(.slice A9 N9 D9),(aE g.Form),(.slice A10 N10 D10)].toArray)] [aN kT3 (.slice A2 N2 D2) b.Args,aN kT3 (.slice A3 N3 D3) b.Dims,aN kT3 (.slice A4 N4 D4) b.Ints,aN kT3 (.slice A5 N5 D5) b.Data,aN kT3 (.slice A7 N7 D7) g.Args,aN kT3 (.slice A8 N8 D8) g.Dims,aN kT3 (.slice A9 N9 D9) g.Ints,aN kT3 (.slice A10 N10 D10) g.Data] (fun (h:Unit)=>((.bool r),[])):=by
 unfold Z2p at a
 refine aP Tryz.func70 R 39 R R fun C V=>?_
 refine cL 0 aA ?_
 rintro rfl
 refine cL 1 aA ?_
 rintro rfl
 refine cL 2 aA ?_
 rintro rfl
 refine cL 3 aA ?_
 rintro rfl
 refine cL 4 aA ?_
 rintro rfl
 refine cL 5 aA ?_
 rintro rfl
 refine cL 6 aA ?_
 rintro rfl
 refine cL 7 aA ?_
 rintro rfl
 let D:=RR kT3 A2 D2 b.Args::RR kT3 A3 D3 b.Dims::RR kT3 A4 D4 b.Ints::RR kT3 A5 D5 b.Data::RR kT3 A7 D7 g.Args::RR kT3 A8 D8 g.Dims::RR kT3 A9 D9 g.Ints::RR kT3 A10 D10 g.Data::V
 refine cN D ?_
 refine aU ?_
 refine eJ R fun u=>?_
 refine eJ R fun B=>?_
 refine aU ?_
 let i:=aJ B [(iv g.Op),(sc A7 g.Args D7),(sc A8 g.Dims D8),(sc A9 g.Ints D9),(aE g.Form),(sc A10 g.Data D10)] 65::aJ u [(iv b.Op),(sc A2 b.Args D2),(sc A3 b.Dims D3),(sc A4 b.Ints D4),(aE b.Form),(sc A5 b.Data D5)] 65::D
 refine qN i ?_
 refine iD ?_
 split at a
 refine dI ?_
 cases a
 exact qF () (tE 10 [])
 refine cI ?_
 obtain ⟨E,j,a⟩:=bd a
 refine cI ?_
 refine lM _ (fun w s=>(((s.d 2 R).d 7 R).e 2 [1,0])) ?_
 refine lC 2 rq R (Z0b_ok j) R ?_
 rintro _
 refine lN i ?_
 refine aQ ?_
 split at a
 refine dI ?_
 cases a
 exact qF () (tE 10 [])
 refine cI ?_
 obtain ⟨F,l,a⟩:=bd a
 refine cI ?_
 refine lM _ (fun w s=>(((s.d 3 R).d 8 R).e 2 [1,0])) ?_
 refine lC 2 rq R (Z0b_ok l) R ?_
 rintro _
 refine lN i ?_
 refine aQ ?_
 split at a
 refine dI ?_
 cases a
 exact qF () (tE 10 [])
 refine cI ?_
 obtain ⟨G,m,a⟩:=bd a
 refine cI ?_
 refine lM _ (fun w s=>(((s.d 4 R).d 9 R).e 2 [1,0])) ?_
 refine lC 2 rq R (Z0b_ok m) R ?_
 rintro _
 refine lN i ?_
 refine aQ ?_
 split at a
 refine dI ?_
 cases a
 exact qF () (tE 10 [])
 refine dG ?_
 refine lO (vz (.bool (!(b.Form==g.Form))) (jr R R R)) ?_
 refine aU ?_
 split at a
 refine dI ?_
 cases a
 exact qF () (tE 10 [])
 refine cI ?_
 obtain ⟨I,q,a⟩:=bd a
 refine cI ?_
 refine lM _ (fun w s=>(((s.d 5 R).d 10 R).e 2 [1,0])) ?_
 refine lC 2 rq R (Z0b_ok q) R ?_
 rintro _
 refine lN i ?_
 refine aQ ?_
 split at a
 refine dI ?_
 cases a
 exact qF () (tE 10 [])
 refine dA ?_
 cases a
 exact qF () (tE 10 [])
theorem Z1e_ok  {i:(List Node)}{j:(List Node)}{r:Bool}(g:Z1e i j=some r) :
 FnOk Tryz.prog 33 [(.slice A2 N2 D2),(.slice A4 N4 D4)] [aN cP (.slice A2 N2 D2) i,aN cP (.slice A4 N4 D4) j] (fun (h:Unit)=>((.bool r),[])):=by
 unfold Z1e at g
 refine aP Tryz.func33 R 27 R R fun C V=>?_
 refine cL 0 aA ?_
 rintro rfl
 refine cL 1 aA ?_
 rintro rfl
 let W0:=RR cP A2 D2 i::RR cP A4 D4 j::V
 refine cN W0 ?_
 refine ov ?_
 split at g
 refine dI ?_
 cases g
 exact qF () (tE 2 [])
 refine bI ?_
 refine bB (A:=(Unit)×(Unit)) (fun a=>Z1e_J1=some r) (fun a=>[]) (fun a=>W0) ?_ ?_
 refine bW ?_
 obtain ⟨e1,a4,u⟩:=bd g
 refine bD (A:=Unit) a4 (fun s a=>[(0,(sc A2 i D2)),(1,(sc A4 j D4)),(5,(iv s))]) (fun s a=>W0) () (aS R) tI ?_
 rintro b _ σ1 a5 g q
 dsimp only [Z1e_L1] at g
 refine dA ?_
 split at g
 refine bW ?_
 obtain ⟨l,g⟩:=gd g
 obtain ⟨m,g⟩:=gd g
 obtain ⟨a8,B,g⟩:=bd g
 refine bA 0 aA (show 0<i.length by have:=l; omega) (fun a6 o28 ha=>?_)
 subst ha
 refine dO (K:=cP) 0 b dT65.dec R l.1 l.2 ?_
 rintro ⟨-,⟨D,O⟩,⟨E,T⟩,⟨F,U⟩,-,⟨G,Y⟩⟩
 refine bA 6 aA (show 0<j.length by have:=m; omega) (fun a7 o35 ha=>?_)
 subst ha
 refine dO (K:=cP) 6 b dT65.dec R m.1 m.2 ?_
 rintro ⟨-,⟨I,Z⟩,⟨J,a0⟩,⟨L,a2⟩,-,⟨M,a3⟩⟩
 refine dF 10 [] bO fun ht hn=>?_
 refine iz 0 [] ?_
 refine dR 3 R (vz (.agg [(iv (ix i b).Op),(sc D ((ix i b).Args) O),(sc E ((ix i b).Dims) T),(sc F ((ix i b).Ints) U),(aE (ix i b).Form),(sc G ((ix i b).Data) Y)].toArray) (eF (fo:=0) 5 mD iW R R R R)) ?_
 refine iz 4 [] ?_
 refine dR 7 R (vz (.agg [(iv (ix j b).Op),(sc I ((ix j b).Args) Z),(sc J ((ix j b).Dims) a0),(sc L ((ix j b).Ints) a2),(aE (ix j b).Form),(sc M ((ix j b).Data) a3)].toArray) (eF (fo:=0) 0 mD iW R R R R)) (d1 8 R (lM _ (fun w s=>(((((((((s.d 6 R).d 8 R).d 10 R).d 12 R).d 5 R).d 7 R).d 9 R).d 11 R).e 18 [7,6,5,4,3,2,1,0,8,9,10,11,12,13,14,15,16,17])) ?_))
 refine lC 8 BO R (Z2p_ok B) R ?_
 rintro _
 refine aC (aI (sL []) (dR 9 R (pn R) (dD (aG ?_))))
 split at g
 refine dA ?_
 cases g
 obtain rfl:=q _ R
 have g:=u
 refine aQ ?_
 cases g
 exact qF () (tE 12 [])
 refine dA ?_
 cases g
 exact qA () (tE 10 [])
 refine aQ ?_
 cases g
 obtain rfl:=q _ R
 have g:=u
 refine aU ?_
 exact cU ((),()) g trivial tI
 rintro ⟨_,_⟩ σ1 g
 dsimp only [Z1e_J1] at g
 refine bW ?_
 cases g
 exact qF () (tE 2 [])
theorem Z33_ok  {b:Graph}{g:Graph}{r:Bool}(a:Z33 b g=some r) :
 FnOk Tryz.prog 11 [(.agg [(.slice A2 N2 D2),(.slice A3 N3 D3)].toArray),(.agg [(.slice A5 N5 D5),(.slice A6 N6 D6)].toArray)] [aN cP (.slice A2 N2 D2) b.Nodes,aN kT3 (.slice A3 N3 D3) b.Outs,aN cP (.slice A5 N5 D5) g.Nodes,aN kT3 (.slice A6 N6 D6) g.Outs] (fun (h:Unit)=>((.bool r),[])):=by
 unfold Z33 at a
 refine aP Tryz.func11 R 17 R R fun C V=>?_
 refine cL 0 aA ?_
 rintro rfl
 refine cL 1 aA ?_
 rintro rfl
 refine cL 2 aA ?_
 rintro rfl
 refine cL 3 aA ?_
 rintro rfl
 let m:=RR cP A2 D2 b.Nodes::RR kT3 A3 D3 b.Outs::RR cP A5 D5 g.Nodes::RR kT3 A6 D6 g.Outs::V
 refine cN m ?_
 refine aU ?_
 refine eJ R fun q=>?_
 refine eJ R fun u=>?_
 refine aU ?_
 let l:=aJ u [(sc A5 g.Nodes D5),(sc A6 g.Outs D6)] 31::aJ q [(sc A2 b.Nodes D2),(sc A3 b.Outs D3)] 31::m
 refine qN l ?_
 refine aQ ?_
 obtain ⟨D,i,a⟩:=bd a
 refine cI ?_
 refine lM _ (fun w s=>(((s.d 2 R).d 5 R).e 2 [1,0])) ?_
 refine lC 2 BP R (Z1e_ok i) R ?_
 rintro _
 refine lN l ?_
 refine aQ ?_
 split at a
 refine dI ?_
 cases a
 exact qF () (tE 6 [])
 refine cI ?_
 obtain ⟨B,j,a⟩:=bd a
 refine cI ?_
 refine lM _ (fun w s=>(((s.d 3 R).d 6 R).e 2 [1,0])) ?_
 refine lC 2 rq R (Z0b_ok j) R ?_
 rintro _
 refine lN l ?_
 refine aQ ?_
 split at a
 refine dI ?_
 cases a
 exact qF () (tE 6 [])
 refine dA ?_
 cases a
 exact qF () (tE 6 [])
end Go.Proofs.YthelanpdjajnbaaGreat
