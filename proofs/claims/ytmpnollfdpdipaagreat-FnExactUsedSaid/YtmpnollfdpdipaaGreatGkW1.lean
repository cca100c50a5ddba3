import Derived.Test.YtmpnollfdpdipaaGreatGkF
set_option linter.unusedVariables false
set_option maxRecDepth 20000
namespace Go.Proofs.YtmpnollfdpdipaaGreat
open Go Go.Pg
variable {A2 A3 A4 A5 A6 A7 A8 A9 A10:Option Addr}{D2 D3 D4 D5 D6 D7 D8 D9 D10 N2 N3 N4 N5 N6 N7 N8 N9 N10:Nat}
theorem Z1h_ok  {e:(List Int)}{a:Int}{r:Int}(b:Z1h e a=some r) :
 FnOk Tryz.prog 33 [(.slice A2 N2 D2),(iv a)] [aO kT3 (.slice A2 N2 D2) e] (fun (h:Unit)=>((iv r),[])):=by
 unfold Z1h at b
 refine aQ Tryz.func33 R 12 R R fun C V=>?_
 refine cL 0 aA ?_
 rintro rfl
 let g:=RR kT3 A2 D2 e::V
 refine cN g ?_
 refine us ?_
 split at b
 refine cZ ?_
 cases b
 exact qF () (tE 1 [])
 refine cU ?_
 cases b
 exact qF () (tE 1 [])
theorem Z2i_ok  {b:Node}{e:Int}{r:Int}(a:Z2i b e=some r) :
 FnOk Tryz.prog 50 [(.agg [(iv b.Op),(.slice A2 N2 D2),(.slice A3 N3 D3),(.slice A4 N4 D4),(aD b.Form),(.slice A5 N5 D5)].toArray),(iv e)] [aO kT3 (.slice A2 N2 D2) b.Args,aO kT3 (.slice A3 N3 D3) b.Dims,aO kT3 (.slice A4 N4 D4) b.Ints,aO kT3 (.slice A5 N5 D5) b.Data] (fun (h:Unit)=>((iv r),[])):=by
 unfold Z2i at a
 refine aQ Tryz.func50 R 37 R R fun C V=>?_
 refine cL 0 aA ?_
 rintro rfl
 refine cL 1 aA ?_
 rintro rfl
 refine cL 2 aA ?_
 rintro rfl
 refine cL 3 aA ?_
 rintro rfl
 let q:=RR kT3 A2 D2 b.Args::RR kT3 A3 D3 b.Dims::RR kT3 A4 D4 b.Ints::RR kT3 A5 D5 b.Data::V
 refine cN q ?_
 refine aV ?_
 refine eB R fun u=>?_
 refine aV ?_
 let l:=aJ u [(iv b.Op),(sc A2 b.Args D2),(sc A3 b.Dims D3),(sc A4 b.Ints D4),(aD b.Form),(sc A5 b.Data D5)] 70::q
 refine qN l ?_
 refine aV ?_
 obtain ⟨F,m,a⟩:=bd a
 refine bG ?_
 refine lM _ (fun w s=>(s.d 1 R)) ?_
 refine lC 1 sy R (Z1h_ok m) R ?_
 rintro _
 refine lN l ?_
 refine cU ?_
 split at a
 refine cZ ?_
 cases a
 exact qF () (tE 5 [])
 refine bG ?_
 obtain ⟨B,j,a⟩:=bd a
 refine bG ?_
 refine lM _ (fun w s=>(s.d 2 R)) ?_
 refine lC 1 sy R (Z1h_ok j) R ?_
 rintro _
 refine lN l ?_
 refine cU ?_
 split at a
 refine cZ ?_
 cases a
 exact qF () (tE 5 [])
 refine bG ?_
 obtain ⟨E,g,a⟩:=bd a
 refine bG ?_
 refine lM _ (fun w s=>(s.d 3 R)) ?_
 refine lC 1 sy R (Z1h_ok g) R ?_
 rintro _
 refine lN l ?_
 refine cU ?_
 split at a
 refine cZ ?_
 cases a
 exact qF () (tE 5 [])
 refine cZ ?_
 refine lO (vz (il b.Form) (dM fJ R)) ?_
 refine iB ?_
 split at a
 refine cZ ?_
 cases a
 exact qF () (tE 5 [])
 refine bG ?_
 obtain ⟨D,i,a⟩:=bd a
 refine bG ?_
 refine lM _ (fun w s=>(s.d 4 R)) ?_
 refine lC 1 sy R (Z1h_ok i) R ?_
 rintro _
 refine lN l ?_
 refine cU ?_
 split at a
 refine cZ ?_
 cases a
 exact qF () (tE 5 [])
 refine cU ?_
 cases a
 exact qF () (tE 5 [])
theorem Z18_ok  {i:(List Node)}{j:Int}{r:Int}(b:Z18 i j=some r) :
 FnOk Tryz.prog 32 [(.slice A2 N2 D2),(iv j)] [aO jV (.slice A2 N2 D2) i] (fun (h:Unit)=>((iv r),[])):=by
 unfold Z18 at b
 refine aQ Tryz.func32 R 27 R R fun C V=>?_
 refine cL 0 aA ?_
 rintro rfl
 let F:=RR jV A2 D2 i::V
 refine cN F ?_
 refine us ?_
 split at b
 refine cZ ?_
 cases b
 exact qF () (tE 1 [])
 refine bG ?_
 refine bB (A:=(Int)×(Unit)) (fun a=>Z18_J1 a.1=some r) (fun a=>[(1,(iv a.1))]) (fun a=>F) ?_ ?_
 refine bV ?_
 obtain ⟨e1,L,q⟩:=bd b
 refine bD (A:=Unit) L (fun s a=>[(0,(sc A2 i D2)),(1,(iv s.1)),(5,(iv s.2))]) (fun s a=>F) () (aS R) tI ?_
 rintro ⟨m,g⟩ _ σ1 Y b B
 dsimp only [Z18_L1] at b
 refine cX ?_
 split at b
 refine bV ?_
 obtain ⟨l,b⟩:=gd b
 obtain ⟨a2,u,b⟩:=bd b
 refine aP ?_
 refine bC 0 aA (show 0<i.length by have:=l; omega) (fun a0 o21 Z=>?_)
 subst Z
 refine bT ?_
 refine gS (K:=jV) 0 g dT70.dec R l.1 l.2 ?_
 rintro ⟨-,⟨T,E⟩,⟨J,G⟩,⟨I,O⟩,-,⟨M,U⟩⟩
 refine lO (vz (.agg [(iv (ix i g).Op),(sc T ((ix i g).Args) E),(sc J ((ix i g).Dims) G),(sc I ((ix i g).Ints) O),(aD (ix i g).Form),(sc M ((ix i g).Data) U)].toArray) (eK (fo:=0) 0 wN wM R R R R)) (lI R (lM _ (fun w s=>(((((s.d 1 R).d 3 R).d 5 R).d 7 R).e 9 [3,2,1,0,4,5,6,7,8])) ?_))
 refine lC 4 AR R (Z2i_ok u) R ?_
 rintro _
 refine cX ?_
 split at b
 refine cX ?_
 cases b
 obtain rfl:=B _ R
 have b:=q
 refine aP ?_
 cases b
 exact qF () (tE 6 [])
 refine cX ?_
 cases b
 exact qA () (tE 5 [])
 refine aP ?_
 cases b
 obtain rfl:=B _ R
 have b:=q
 refine aV ?_
 exact qI (m,()) b tI
 rintro ⟨D,_⟩ σ1 b
 dsimp only [Z18_J1] at b
 refine dN ?_
 cases b
 exact qF () (tE 1 [])
theorem Z2u_ok  {e:Graph}{a:Int}{r:Int}(b:Z2u e a=some r) :
 FnOk Tryz.prog 9 [(.agg [(.slice A2 N2 D2),(.slice A3 N3 D3)].toArray),(iv a)] [aO jV (.slice A2 N2 D2) e.Nodes,aO kT3 (.slice A3 N3 D3) e.Outs] (fun (h:Unit)=>((iv r),[])):=by
 unfold Z2u at b
 refine aQ Tryz.func9 R 18 R R fun C V=>?_
 refine cL 0 aA ?_
 rintro rfl
 refine cL 1 aA ?_
 rintro rfl
 let l:=RR jV A2 D2 e.Nodes::RR kT3 A3 D3 e.Outs::V
 refine cN l ?_
 refine aV ?_
 refine eB R fun m=>?_
 refine aV ?_
 let j:=aJ m [(sc A2 e.Nodes D2),(sc A3 e.Outs D3)] 25::l
 refine qN j ?_
 refine aV ?_
 obtain ⟨u,i,b⟩:=bd b
 refine bG ?_
 refine lM _ (fun w s=>(s.d 1 R)) ?_
 refine lC 1 AS R (Z18_ok i) R ?_
 rintro _
 refine lN j ?_
 refine cU ?_
 split at b
 refine cZ ?_
 cases b
 exact qF () (tE 3 [])
 refine bG ?_
 obtain ⟨q,g,b⟩:=bd b
 refine bG ?_
 refine lM _ (fun w s=>(s.d 2 R)) ?_
 refine lC 1 sy R (Z1h_ok g) R ?_
 rintro _
 refine lN j ?_
 refine cU ?_
 split at b
 refine cZ ?_
 cases b
 exact qF () (tE 3 [])
 refine cU ?_
 cases b
 exact qF () (tE 3 [])
theorem Z07_ok  {e:(List Int)}{r:(List Int)}(b:Z07 e=some r) :
 FnOk Tryz.prog 28 [(.slice A2 N2 D2)] [aO kT3 (.slice A2 N2 D2) e] (fun (h:HH)=>((s3 h),[ow kT3 3 (s3 h) r])):=by
 unfold Z07 at b
 refine aQ Tryz.func28 R 22 R R fun C V=>?_
 refine cL 0 aA ?_
 rintro rfl
 let B:=RR kT3 A2 D2 e::V
 refine cN B ?_
 refine bV ?_
 obtain ⟨j,b⟩:=gd b
 refine aP ?_
 refine fD (K:=kT3) (m:=(e.length:Int)) (z:=(0:Int)) R R bK cC kl (Zr.zk zT3 gF) (by decide) R R j.1 j.2.1 j.2.2 (fun A4 D4=>(lS R (aC (aI (aM (bB (A:=((List Int))×(Unit)) (fun a=>Z07_J1 a.1=some r) (fun a=>[(3,(sc A4 (List.replicate (e.length:Int).toNat (0:Int)) D4))]) (fun a=>ow kT3 3 (.slice A4 (List.replicate (e.length:Int).toNat (0:Int)).length D4) a.1::B) ?_ ?_))))))
 refine bV ?_
 obtain ⟨O,D,E⟩:=bd b
 refine bD (A:=Unit) D (fun s a=>[(0,(sc A2 e D2)),(3,(sc A4 (List.replicate (e.length:Int).toNat (0:Int)) D4)),(4,(iv s.2))]) (fun s a=>ow kT3 3 (.slice A4 (List.replicate (e.length:Int).toNat (0:Int)).length D4) s.1::B) () (aS R) tI ?_
 rintro ⟨q,i⟩ _ σ1 G b F
 dsimp only [Z07_L1] at b
 refine cX ?_
 split at b
 refine cA ?_
 obtain ⟨l,b⟩:=gd b
 obtain ⟨g,b⟩:=gd b
 refine cA ?_
 refine bC 1 aA (show 0<e.length by have:=l; omega) (fun M o19 u=>?_)
 subst u
 refine aV ?_
 refine bC 0 aB (show 0<(List.replicate (e.length:Int).toNat (0:Int)).length by have:=g; omega) (fun J o22 u=>?_)
 subst u
 refine bT ?_
 refine dV (K:=kT3) (x':=(ix e i)) 0 i R R cC R R g.1 g.2 ?_ ?_
 exact fun I h s=>(gD).put I h () (ix e i) s
 refine cZ ?_
 cases b
 exact qA () tI
 refine aP ?_
 cases b
 obtain rfl:=F _ R
 have b:=E
 refine aV ?_
 exact qI (q,()) b tI
 rintro ⟨L,_⟩ σ1 b
 dsimp only [Z07_J1] at b
 refine dN ?_
 cases b
 exact qF (A4,(List.replicate (e.length:Int).toNat (0:Int)).length,D4) (tE 2 [0])
theorem Z2v_ok  {a:Node}{r:Node}(j:Z2v a=some r) :
 FnOk Tryz.prog 58 [(.agg [(iv a.Op),(.slice A2 N2 D2),(.slice A3 N3 D3),(.slice A4 N4 D4),(aD a.Form),(.slice A5 N5 D5)].toArray)] [aO kT3 (.slice A2 N2 D2) a.Args,aO kT3 (.slice A3 N3 D3) a.Dims,aO kT3 (.slice A4 N4 D4) a.Ints,aO kT3 (.slice A5 N5 D5) a.Data] (fun (h:HH×HH×HH×HH)=>((.agg [(iv r.Op),(s3 h.1),(s3 h.2.1),(s3 h.2.2.1),(aD r.Form),(s3 h.2.2.2)].toArray),[ow kT3 3 (s3 h.1) r.Args,ow kT3 3 (s3 h.2.1) r.Dims,ow kT3 3 (s3 h.2.2.1) r.Ints,ow kT3 3 (s3 h.2.2.2) r.Data])):=by
 unfold Z2v at j
 refine aQ Tryz.func58 R 27 R R fun C V=>?_
 refine cL 0 aA ?_
 rintro rfl
 refine cL 1 aA ?_
 rintro rfl
 refine cL 2 aA ?_
 rintro rfl
 refine cL 3 aA ?_
 rintro rfl
 let J:=RR kT3 A2 D2 a.Args::RR kT3 A3 D3 a.Dims::RR kT3 A4 D4 a.Ints::RR kT3 A5 D5 a.Data::V
 refine cN J ?_
 refine aV ?_
 refine eB R fun O=>?_
 refine bF R R sB (fun L=>(aC ?_))
 let u:=aJ O [(iv a.Op),(sc A2 a.Args D2),(sc A3 a.Dims D3),(sc A4 a.Ints D4),(aD a.Form),(sc A5 a.Data D5)] 70::J
 refine aP ?_
 refine bF R R sB (fun D=>(aC (aI (aM (aE (lO (fS 0 sC R) (lO (gB 2 fP R R R) (lO (fS 0 jw R) (cT 0 R R cC R R R R R (lN (aJ D [(iv a.Op),(.slice none 0 0),(.slice none 0 0),(.slice none 0 0),(aD ([]:aN)),(.slice none 0 0)] 54::_::u) ?_))))))))))
 refine aP ?_
 obtain ⟨l,E,j⟩:=bd j
 refine aP ?_
 refine lM _ (fun w s=>(s.d 3 R)) ?_
 refine lC 1 sD R (Z07_ok E) R ?_
 rintro ⟨A11,N11,D11⟩
 refine aL 0 aB ?_
 rintro rfl
 refine bT ?_
 refine cT 1 R R fU R R R R R (lN (_::aJ D [(iv a.Op),(sc A11 l D11),(.slice none 0 0),(.slice none 0 0),(aD ([]:aN)),(.slice none 0 0)] 54::_::u) ?_)
 refine aP ?_
 obtain ⟨b,I,j⟩:=bd j
 refine aP ?_
 refine lM _ (fun w s=>(s.d 5 R)) ?_
 refine lC 1 sD R (Z07_ok I) R ?_
 rintro ⟨A14,N14,D14⟩
 refine aL 0 aB ?_
 rintro rfl
 refine bT ?_
 refine cT 2 R R fU R R R R R (lN (_::_::aJ D [(iv a.Op),(sc A11 l D11),(sc A14 b D14),(.slice none 0 0),(aD ([]:aN)),(.slice none 0 0)] 54::_::u) ?_)
 refine aP ?_
 obtain ⟨g,F,j⟩:=bd j
 refine aP ?_
 refine lM _ (fun w s=>(s.d 7 R)) ?_
 refine lC 1 sD R (Z07_ok F) R ?_
 rintro ⟨e,M,i⟩
 refine aL 0 aB ?_
 rintro rfl
 refine bT ?_
 refine cT 3 R R fU R R R R R (lN (_::_::_::aJ D [(iv a.Op),(sc A11 l D11),(sc A14 b D14),(sc e g i),(aD ([]:aN)),(.slice none 0 0)] 54::_::u) ?_)
 refine dN ?_
 refine cT 3 R R rh R R R R R (lN (_::_::_::aJ D [(iv a.Op),(sc A11 l D11),(sc A14 b D14),(sc e g i),(aD a.Form),(.slice none 0 0)] 54::_::u) ?_)
 refine aP ?_
 obtain ⟨q,G,j⟩:=bd j
 refine aP ?_
 refine lM _ (fun w s=>(s.d 9 R)) ?_
 refine lC 1 sD R (Z07_ok G) R ?_
 rintro ⟨m,T,B⟩
 refine aL 0 aB ?_
 rintro rfl
 refine bT ?_
 refine cT 4 R R fU R R R R R (lN (_::_::_::_::aJ D [(iv a.Op),(sc A11 l D11),(sc A14 b D14),(sc e g i),(aD a.Form),(sc m q B)] 54::_::u) ?_)
 refine cA ?_
 refine aK 5 R R lL R R R R R R (lN (_::_::_::_::_::aJ L [(iv a.Op),(sc A11 l D11),(sc A14 b D14),(sc e g i),(aD a.Form),(sc m q B)] 54::u) ?_)
 refine aP ?_
 cases j
 exact qS ((A11,l.length,D11),(A14,b.length,D14),(e,g.length,i),(m,q.length,B)) (tE 11 [3,2,1,0])
theorem Z0p_ok  {g:(List Node)}{r:(List Node)}(b:Z0p g=some r) :
 FnOk Tryz.prog 35 [(.slice A2 N2 D2)] [aO jV (.slice A2 N2 D2) g] (fun (h:HH)=>((s3 h),[ow cJ 54 (s3 h) r])):=by
 unfold Z0p at b
 refine aQ Tryz.func35 R 23 R R fun C V=>?_
 refine cL 0 aA ?_
 rintro rfl
 let W0:=RR jV A2 D2 g::V
 refine cN W0 ?_
 refine bV ?_
 obtain ⟨u,b⟩:=gd b
 refine aP ?_
 refine fD (K:=cJ) (m:=(g.length:Int)) (z:=zT54.z) R R sA lL AT (Zr.zk zT54 sB) (by decide) R R u.1 u.2.1 u.2.2 (fun A4 D4=>(lS R (aC (aI (aM (bB (A:=((List Node))×(Unit)) (fun a=>Z0p_J1 a.1=some r) (fun a=>[(3,(sc A4 (List.replicate (g.length:Int).toNat zT54.z) D4))]) (fun a=>ow cJ 54 (.slice A4 (List.replicate (g.length:Int).toNat zT54.z).length D4) a.1::W0) ?_ ?_))))))
 refine bV ?_
 obtain ⟨e1,O,T⟩:=bd b
 refine bD (A:=Unit) O (fun s a=>[(0,(sc A2 g D2)),(3,(sc A4 (List.replicate (g.length:Int).toNat zT54.z) D4)),(4,(iv s.2))]) (fun s a=>ow cJ 54 (.slice A4 (List.replicate (g.length:Int).toNat zT54.z).length D4) s.1::W0) () (aS R) tI ?_
 rintro ⟨J,i⟩ _ σ1 aa b a9
 dsimp only [Z0p_L1] at b
 refine cX ?_
 split at b
 refine cA ?_
 obtain ⟨l,b⟩:=gd b
 obtain ⟨j,B,b⟩:=bd b
 obtain ⟨q,b⟩:=gd b
 refine cA ?_
 refine bC 1 aA (show 0<g.length by have:=l; omega) (fun ae o29 E=>?_)
 subst E
 refine bT ?_
 refine gS (K:=jV) 1 i dT70.dec R l.1 l.2 ?_
 rintro ⟨-,⟨D,Y⟩,⟨a3,a2⟩,⟨a5,U⟩,-,⟨a0,a6⟩⟩
 refine lO (vz (.agg [(iv (ix g i).Op),(sc D ((ix g i).Args) Y),(sc a3 ((ix g i).Dims) a2),(sc a5 ((ix g i).Ints) U),(aD (ix g i).Form),(sc a0 ((ix g i).Data) a6)].toArray) (eK (fo:=0) 0 wN wM R R R R)) (lM _ (fun w s=>(((((s.d 1 R).d 3 R).d 5 R).d 7 R).e 10 [3,2,1,0,4,5,6,7,8,9])) ?_)
 refine lC 4 AU R (Z2v_ok B) R ?_
 rintro ⟨⟨Z,aj,L⟩,⟨a8,ah,a4⟩,⟨M,ab,F⟩,⟨G,ai,a7⟩⟩
 refine aL 0 aB ?_
 rintro rfl
 refine aL 1 aB ?_
 rintro rfl
 refine aL 2 aB ?_
 rintro rfl
 refine aL 3 aB ?_
 rintro rfl
 refine bC 9 aB (show 0<(List.replicate (g.length:Int).toNat zT54.z).length by have:=q; omega) (fun ag o42 E=>?_)
 subst E
 refine bT ?_
 refine lM _ (fun w s=>(s.f 10 [9,1,0,9])) ?_
 refine dV (K:=cJ) (x':=j) 4 i R R lL R R q.1 q.2 ?_ ?_
 exact fun I h s=>(pl).put I h ((),(sc Z j.Args L),(sc a8 j.Dims a4),(sc M j.Ints F),(),(sc G j.Data a7)) j s
 refine cZ ?_
 cases b
 exact qA () (tE 6 [0])
 refine aP ?_
 cases b
 obtain rfl:=a9 _ R
 have b:=T
 refine aV ?_
 exact qI (J,()) b tI
 rintro ⟨ac,_⟩ σ1 b
 dsimp only [Z0p_J1] at b
 refine dN ?_
 cases b
 exact qF (A4,(List.replicate (g.length:Int).toNat zT54.z).length,D4) (tE 2 [0])
theorem Z19_ok  {a:Graph}{r:Graph}(e:Z19 a=some r) :
 FnOk Tryz.prog 11 [(.agg [(.slice A2 N2 D2),(.slice A3 N3 D3)].toArray)] [aO jV (.slice A2 N2 D2) a.Nodes,aO kT3 (.slice A3 N3 D3) a.Outs] (fun (h:HH×HH)=>((.agg [(s3 h.1),(s3 h.2)].toArray),[ow cJ 54 (s3 h.1) r.Nodes,ow kT3 3 (s3 h.2) r.Outs])):=by
 unfold Z19 at e
 refine aQ Tryz.func11 R 13 R R fun C V=>?_
 refine cL 0 aA ?_
 rintro rfl
 refine cL 1 aA ?_
 rintro rfl
 let m:=RR jV A2 D2 a.Nodes::RR kT3 A3 D3 a.Outs::V
 refine cN m ?_
 refine aV ?_
 refine eB R fun u=>?_
 refine bF R R wU (fun B=>(aC ?_))
 let j:=aJ u [(sc A2 a.Nodes D2),(sc A3 a.Outs D3)] 25::m
 refine aP ?_
 refine bF R R wU (fun q=>(aC (aI (aM ?_))))
 obtain ⟨i,l,e⟩:=bd e
 refine aP ?_
 refine lM _ (fun w s=>(s.d 3 R)) ?_
 refine lC 1 AV R (Z0p_ok l) R ?_
 rintro ⟨A9,N9,D9⟩
 refine aL 0 aB ?_
 rintro rfl
 refine bT ?_
 refine cT 1 R R yE R R R R R (lN (_::aJ q [(sc A9 i D9),(.slice none 0 0)] 30::_::j) ?_)
 refine aP ?_
 obtain ⟨b,g,e⟩:=bd e
 refine aP ?_
 refine lM _ (fun w s=>(s.d 5 R)) ?_
 refine lC 1 sD R (Z07_ok g) R ?_
 rintro ⟨A12,N12,D12⟩
 refine aL 0 aB ?_
 rintro rfl
 refine bT ?_
 refine cT 2 R R fU R R R R R (lN (_::_::aJ q [(sc A9 i D9),(sc A12 b D12)] 30::_::j) ?_)
 refine cA ?_
 refine aK 3 R R nD R R R R R R (lN (_::_::_::aJ B [(sc A9 i D9),(sc A12 b D12)] 30::j) ?_)
 refine aP ?_
 cases e
 exact qS ((A9,i.length,D9),(A12,b.length,D12)) (tE 7 [1,0])
theorem eV  {e b:aN}{mG:Int}{r:Int}(a:cK e b=some r) :
 FnOk Tryz.prog 162 [(aD e),(aD b)] [gl 0 mG] (fun (_:Unit)=>((iv r),[])):=by
 unfold cK at a
 obtain ⟨g,a⟩:=gd a
 obtain rfl:=so a
 exact yq fun w h=>Tryz.stringslite_Index ⟨e.toArray⟩ ⟨b.toArray⟩ mG w (by simpa [ByteArray.size] using g) h
theorem Z2b_ok  {p1:aN}{a:aN}{mG:Int}{r:Int}(b:Z2b p1 a=some r) :
 FnOk Tryz.prog 154 [(aD p1),(aD a)] [gl 0 mG] (fun (h:Unit)=>((iv r),[])):=by
 unfold Z2b at b
 refine aQ Tryz.func154 R 8 R R fun C V=>?_
 let g:=gl 0 mG::V
 refine cN g ?_
 refine bV ?_
 obtain ⟨i,e,b⟩:=bd b
 refine aE (lO (vp (aD p1) R) (lO (vp (aD a) R) (lM _ (fun w s=>(s.dg 0 R)) ?_)))
 refine lC 1 vV R (eV e) R ?_
 rintro _
 refine lN g ?_
 refine bG ?_
 cases b
 exact qF () (tE 1 [])
theorem Z3p_ok  {p1:aN}{a:aN}{mG:Int}{r:Bool}(b:Z3p p1 a=some r) :
 FnOk Tryz.prog 136 [(aD p1),(aD a)] [gl 0 mG] (fun (h:Unit)=>((.bool r),[])):=by
 unfold Z3p at b
 refine aQ Tryz.func136 R 9 R R fun C V=>?_
 let g:=gl 0 mG::V
 refine cN g ?_
 refine bV ?_
 obtain ⟨i,e,b⟩:=bd b
 refine aE (lO (vp (aD p1) R) (lO (vp (aD a) R) (lM _ (fun w s=>(s.dg 0 R)) ?_)))
 refine lC 1 vW R (Z2b_ok e) R ?_
 rintro _
 refine lN g ?_
 refine cA ?_
 cases b
 exact qF () (tE 1 [])
theorem Z11_ok  {e:(List Int)}{g:(List Int)}{r:Bool}(b:Z11 e g=some r) :
 FnOk Tryz.prog 199 [(.slice A2 N2 D2),(.slice A4 N4 D4)] [aO kT3 (.slice A2 N2 D2) e,aO kT3 (.slice A4 N4 D4) g] (fun (h:Unit)=>((.bool r),[])):=by
 unfold Z11 at b
 refine aQ Tryz.func199 R 26 R R fun C V=>?_
 refine cL 0 aA ?_
 rintro rfl
 refine cL 1 aA ?_
 rintro rfl
 let u:=RR kT3 A2 D2 e::RR kT3 A4 D4 g::V
 refine cN u ?_
 refine oy ?_
 split at b
 refine cZ ?_
 cases b
 exact qF () (tE 2 [])
 refine bG ?_
 refine bB (A:=(Unit)×(Unit)) (fun a=>Z11_J1=some r) (fun a=>[]) (fun a=>u) ?_ ?_
 refine cZ ?_
 obtain ⟨L,B,i⟩:=bd b
 refine bD (A:=Unit) B (fun s a=>[(0,(sc A2 e D2)),(1,(sc A4 g D4)),(12,(il e)),(13,(iv s))]) (fun s a=>u) () (aS R) tI ?_
 rintro E _ σ1 D b l
 dsimp only [Z11_L1] at b
 refine bV ?_
 split at b
 refine iK ?_
 obtain ⟨j,b⟩:=gd b
 obtain ⟨m,b⟩:=gd b
 refine aZ 0 aA (show 0<e.length by have:=j; omega) (fun G o18 q=>?_)
 subst q
 refine aZ 1 aA (show 0<g.length by have:=m; omega) (fun F o21 q=>?_)
 subst q
 refine dG 9 [] bP fun I J=>?_
 refine vD 0 [] ?_
 refine dD (aI ?_)
 split at b
 refine cX ?_
 cases b
 obtain rfl:=l _ R
 have b:=i
 refine aP ?_
 cases b
 exact qF () (tE 2 [])
 refine cZ ?_
 cases b
 exact qA () tI
 refine aP ?_
 cases b
 obtain rfl:=l _ R
 have b:=i
 refine aV ?_
 exact cR ((),()) b trivial tI
 rintro ⟨_,_⟩ σ1 b
 dsimp only [Z11_J1] at b
 refine bV ?_
 cases b
 exact qF () (tE 2 [])
theorem iC  {p1:aN}{a:aN}{mG:Int}{r:aN×aN×Bool}(b:dY p1 a=some r) :
 FnOk Tryz.prog 212 [(aD p1),(aD a)] [gl 0 mG] (fun (h:Unit)=>((.tuple [(aD r.1),(aD r.2.1),(.bool r.2.2)].toArray),[])):=by
 unfold dY at b
 refine aQ Tryz.func212 R 23 R R fun C V=>?_
 let l:=gl 0 mG::V
 refine cN l ?_
 refine aV ?_
 refine lO (vp (aD ([]:aN)) R) (lO (vp (aD ([]:aN)) R) ?_)
 refine cA ?_
 obtain ⟨i,j,b⟩:=bd b
 refine aE (lO (vp (aD p1) R) (lO (vp (aD a) R) (lM _ (fun w s=>(s.dg 0 R)) ?_)))
 refine lC 1 vV R (eV j) R ?_
 rintro _
 refine lN l ?_
 refine cX ?_
 split at b
 refine aV ?_
 obtain ⟨e,b⟩:=gd b
 obtain ⟨g,b⟩:=gd b
 refine dG 12 [] bP fun q m=>?_
 refine dR 0 R (vp (aD p1) R) (dR 1 R (vI R) (dR 2 R (vz (aD (sub p1 (0:Int) i)) (hO (0:Int) i fJ R R R e.1 e.2.1 e.2.2)) (dR 3 R (vp (aD p1) R) (dR 4 R (vI R) (dR 5 R (vp (aD a) R) (dR 6 R (vz (il a) (dM fJ R)) (dR 7 R (kK R R) (dR 8 R (vz (aD (sub p1 (aH (i+(a.length:Int))) (p1.length:Int))) (hO (aH (i+(a.length:Int))) (p1.length:Int) fJ R R R g.1 g.2.1 g.2.2)) (dR 9 R (vp (aD (sub p1 (0:Int) i)) R) (dR 10 R (vp (aD (sub p1 (aH (i+(a.length:Int))) (p1.length:Int))) R) (dR 11 R (vB R) (dD ?_))))))))))))
 refine aP ?_
 cases b
 exact iu () (tE 1 [])
 refine cA ?_
 refine lO (vp (aD p1) R) (lO (vp (aD p1) R) (lO (vp (aD ([]:aN)) R) ?_))
 refine bG ?_
 cases b
 exact iu () (tE 1 [])
theorem Z2z_ok  {p1:aN}{a:aN}{mG:Int}{r:aN×aN×Bool}(e:Z2z p1 a=some r) :
 FnOk Tryz.prog 210 [(aD p1),(aD a)] [gl 0 mG] (fun (h:Unit)=>((.tuple [(aD r.1),(aD r.2.1),(.bool r.2.2)].toArray),[])):=by
 unfold Z2z at e
 refine aQ Tryz.func210 R 13 R R fun C V=>?_
 let i:=gl 0 mG::V
 refine cN i ?_
 refine aV ?_
 refine lO (vp (aD ([]:aN)) R) (lO (vp (aD ([]:aN)) R) ?_)
 refine bG ?_
 obtain ⟨b,g,e⟩:=bd e
 refine aE (lO (vp (aD p1) R) (lO (vp (aD a) R) (lM _ (fun w s=>(s.dg 0 R)) ?_)))
 refine lC 1 zg R (iC g) R ?_
 rintro _
 refine lN i ?_
 refine lO (vp (aD b.1) R) (lO (vp (aD b.2.1) R) (lB R (lO (vp (aD b.1) R) (lO (vp (aD b.2.1) R) ?_))))
 refine bG ?_
 cases e
 exact iu () (tE 1 [])
theorem Z38_ok  {b e:aN}{r:Int}(a:Z38 b e=some r) :
 FnOk Tryz.prog 215 [(aD b),(aD e)] [] (fun (_:Unit)=>((iv r),[])):=by
 unfold Z38 at a
 split at a
 ·rename_i c
  obtain rfl:=so a
  exact qh fun w=>Tryz.strings_Count_one ⟨b.toArray⟩ c w
 ·cases a
theorem Z0l_ok  {p1:aN}{j:aN}{b:Int}{n4:Int}{mG:Int}{r:(List aN)}(g:Z0l p1 j b n4=some r) :
 FnOk Tryz.prog 213 [(aD p1),(aD j),(iv b),(iv n4)] [gl 0 mG] (fun (h:HH)=>((s3 h),[aO dQ (s3 h) r])):=by
 unfold Z0l at g
 refine aQ Tryz.func213 R 66 R R fun C V=>?_
 let U:=gl 0 mG::V
 refine cN U ?_
 refine iK ?_
 rcases cG g with ⟨_,g⟩|⟨_,g⟩
 refine cZ ?_
 cases g
 exact qF (none,0,0) (fun w s=>((s.nilr dQ).e 2 [0]))
 refine bV ?_
 refine lO (vp (aD j) R) (lO (vz (.bool (j==([]:aN))) (jr R R R)) ?_)
 refine aV ?_
 rcases cG g with ⟨_,g⟩|⟨_,g⟩
 refine bT ?_
 cases g
 refine bG ?_
 refine bB (A:=(Int)×(Unit)) (fun a=>Z0l_J2 p1 j b a.1=some r) (fun a=>[(0,(aD p1)),(1,(aD j)),(2,(iv b)),(3,(iv a.1))]) (fun a=>U) ?_ ?_
 refine bV ?_
 rcases cG g with ⟨_,g⟩|⟨_,g⟩
 refine bT ?_
 obtain ⟨r8,a1,g⟩:=bd g
 refine aE (lO (vp (aD p1) R) (lO (vp (aD j) R) (lC 0 zi R (Z38_ok a1) R ?_)))
 rintro _
 refine aP ?_
 exact qI ((aH (r8+1)),()) g tI
 refine aV ?_
 exact qI (n4,()) g tI
 rintro ⟨i,_⟩ σ1 g
 dsimp only [Z0l_J2] at g
 refine aP ?_
 refine lO (vp (aD p1) R) (lO (vz (il p1) (dM fJ R)) (lO (kK R R) (lO (vz (iv (if (aH ((p1.length:Int)+1))<i then (aH ((p1.length:Int)+1)) else i)) (vy R R)) ?_)))
 refine bG ?_
 obtain ⟨E,g⟩:=gd g
 refine aV ?_
 refine fD (K:=dQ) (m:=(if (aH ((p1.length:Int)+1))<i then (aH ((p1.length:Int)+1)) else i)) (z:=([]:aN)) R R lD rh BT (Zr.zk zT9 yL) (by decide) R R E.1 E.2.1 E.2.2 (fun A12 D12=>(lS R (aC (aI (aM (aE (lI R (lO (wB R R) (lI R (aC (aI (aM (aE (lI R (aC (aI (aM (bB (A:=(aN×(List aN)×Int)×(Unit)) (fun a=>Z0l_J3 p1 i a.1.1 a.1.2.1 a.1.2.2=some r) (fun a=>[(0,(aD a.1.1)),(9,(sc A12 (List.replicate (if (aH ((p1.length:Int)+1))<i then (aH ((p1.length:Int)+1)) else i).toNat ([]:aN)) D12)),(10,(iv a.1.2.2))]) (fun a=>ow dQ 9 (.slice A12 (List.replicate (if (aH ((p1.length:Int)+1))<i then (aH ((p1.length:Int)+1)) else i).toNat ([]:aN)).length D12) a.1.2.1::U) ?_ ?_))))))))))))))))))
 refine bT ?_
 obtain ⟨e1,a3,Z⟩:=bd g
 refine bD (A:=Unit) a3 (fun s a=>[(0,(aD s.1)),(1,(aD j)),(2,(iv b)),(3,(iv (aH ((if (aH ((p1.length:Int)+1))<i then (aH ((p1.length:Int)+1)) else i) - 1)))),(9,(sc A12 (List.replicate (if (aH ((p1.length:Int)+1))<i then (aH ((p1.length:Int)+1)) else i).toNat ([]:aN)) D12)),(10,(iv s.2.2))]) (fun s a=>ow dQ 9 (.slice A12 (List.replicate (if (aH ((p1.length:Int)+1))<i then (aH ((p1.length:Int)+1)) else i).toNat ([]:aN)).length D12) s.2.1::U) () (aS R) tI ?_
 rintro ⟨l,T,O⟩ _ σ1 a8 g a0
 dsimp only [Z0l_L1] at g
 refine cZ ?_
 rcases cG g with ⟨_,g⟩|⟨_,g⟩
 refine cA ?_
 obtain ⟨q,Y,g⟩:=bd g
 refine aE (lO (vp (aD l) R) (lO (vp (aD j) R) (lM (gl 0 mG::ow dQ 9 (.slice A12 (List.replicate (if (aH ((p1.length:Int)+1))<i then (aH ((p1.length:Int)+1)) else i).toNat ([]:aN)).length D12) T::U) (fun w s=>(s.dg 1 R)) ?_)))
 refine lC 1 vW R (Z2b_ok Y) R ?_
 rintro _
 refine cU ?_
 rcases cG g with ⟨_,g⟩|⟨_,g⟩
 refine aP ?_
 refine rS R ?_
 cases g
 obtain rfl:=a0 _ R
 have g:=Z
 refine aV ?_
 exact qI ((l,T,O),()) g tI
 refine bG ?_
 obtain ⟨F,g⟩:=gd g
 obtain ⟨G,g⟩:=gd g
 refine aP ?_
 refine lO (vp (aD l) R) ?_
 refine aP ?_
 refine lO (vz (aD (sub l (0:Int) (aH (q+b)))) (hO (0:Int) (aH (q+b)) fJ R R R F.1 F.2.1 F.2.2)) (bC 0 aB (show 0<(List.replicate (if (aH ((p1.length:Int)+1))<i then (aH ((p1.length:Int)+1)) else i).toNat ([]:aN)).length by have:=G; omega) (fun a4 o34 ha=>?_))
 subst ha
 refine bT ?_
 refine dV (K:=dQ) (x':=(sub l (0:Int) (aH (q+b)))) 0 O R R rh R R G.1 G.2 ?_ ?_
 exact fun I h s=>(y7).put I h () (sub l (0:Int) (aH (q+b))) s
 refine bT ?_
 obtain ⟨a6,B,g⟩:=bd g
 replace B:=Option.some.inj B
 refine qM (ow dQ 9 (.slice (ad a4 o34) (List.replicate (if (aH ((p1.length:Int)+1))<i then (aH ((p1.length:Int)+1)) else i).toNat ([]:aN)).length D12) a6::U) (fun w s=>by rw [← B]; exact s) ?_
 refine aV ?_
 obtain ⟨D,g⟩:=gd g
 refine aE (lO (vp (aD l) R) (lI R (lO (vp (aD j) R) (lO (vz (il j) (dM fJ R)) (lO (kK R R) (lO (vz (aD (sub l (aH (q+(j.length:Int))) (l.length:Int))) (hO (aH (q+(j.length:Int))) (l.length:Int) fJ R R R D.1 D.2.1 D.2.2)) (lO (vp (aD (sub l (aH (q+(j.length:Int))) (l.length:Int))) R) ?_)))))))
 refine cZ ?_
 cases g
 exact qA () tI
 refine aP ?_
 cases g
 obtain rfl:=a0 _ R
 have g:=Z
 refine aV ?_
 exact qI ((l,T,O),()) g tI
 rintro ⟨⟨M,a5,L⟩,_⟩ σ1 g
 dsimp only [Z0l_J3] at g
 refine bT ?_
 obtain ⟨J,g⟩:=gd g
 refine aP ?_
 refine lO (vp (aD M) R) (bC 0 aB (show 0<(List.replicate (if (aH ((p1.length:Int)+1))<i then (aH ((p1.length:Int)+1)) else i).toNat ([]:aN)).length by have:=J; omega) (fun a9 o46 ha=>?_))
 subst ha
 refine bT ?_
 refine dV (K:=dQ) (x':=M) 0 L R R rh R R J.1 J.2 ?_ ?_
 exact fun I h s=>(y7).put I h () M s
 refine aP ?_
 obtain ⟨u,g⟩:=gd g
 refine bG ?_
 refine iT (fun w s=>s.shr 0 R) (gA (K:=dQ) (0:Int) (aH (L+1)) 0 R R lD rh R R R R u.1 u.2.1 u.2.2 (fun a7 a2=>(lS R (aC (aI (bW ?_))))))
 cases g
 exact qF (a7,(sub (a5.set L.toNat M) (0:Int) (aH (L+1))).length,a2) (tE 3 [0])
theorem Z30_ok  {p1:aN}{a:aN}{mG:Int}{r:(List aN)}(b:Z30 p1 a=some r) :
 FnOk Tryz.prog 211 [(aD p1),(aD a)] [gl 0 mG] (fun (h:HH)=>((.slice h.1 h.2.1 h.2.2),[aO dQ (.slice h.1 h.2.1 h.2.2) r])):=by
 unfold Z30 at b
 refine aQ Tryz.func211 R 8 R R fun C V=>?_
 refine cN (_::V) ?_
 let g:List HP:=gl 0 mG::V
 refine cN g ?_
 refine aM (aE (lS R (aC (aI (aM ?_)))))
 obtain ⟨j,i,b⟩:=bd b
 refine aE (lO (vp (aD p1) R) (lO (vp (aD a) R) (lM (gl 0 mG::g) (fun w s=>(s.dg 0 R)) ?_)))
 refine lC 1 zj R (Z0l_ok i) R ?_
 rintro ⟨A5,N5,D5⟩
 refine lN (aO dQ (.slice A5 N5 D5) j::g) ?_
 refine aL 0 aA ?_
 rintro rfl
 refine lS R (aC (aI (bW ?_)))
 obtain rfl:=so b
 exact qF (A5,j.length,D5) (fun w s=>(s.e 2 [0]))
theorem gE  {a:aN}{b:Int}{r:Int}(e:dE a b=some r) :
 FnOk Tryz.prog 171 [(aD a),(.int .u8 b)] [] (fun (_:Unit)=>((iv r),[])):=by
 unfold dE at e
 obtain rfl:=so e
 exact qh fun w=>Tryz.stringslite_IndexByte ⟨a.toArray⟩ b w
theorem Z1t_ok  {p1:aN}{e:Int}{r:Int}(a:Z1t p1 e=some r) :
 FnOk Tryz.prog 208 [(aD p1),(.int .u8 e)] [] (fun (h:Unit)=>((iv r),[])):=by
 unfold Z1t at a
 refine aQ Tryz.func208 R 8 R R fun C V=>?_
 refine cN V ?_
 refine bV ?_
 obtain ⟨g,b,a⟩:=bd a
 refine aE (lO (vp (aD p1) R) (lI R (lC 0 zm R (gE b) R ?_)))
 rintro _
 refine bG ?_
 cases a
 exact qF () tI
theorem Zn_ok {g:List Int}{a:Option Addr}{b e:Nat}{r:(List Int)}(m:Zn g=some r) :
  FnOk Tryz.prog 64 [(.slice a b e)] [aO kT3 (.slice a b e) g] (fun (h:(Option Addr×Nat×Nat))=>((s3 h),[ow kT3 3 (s3 h) r])):=by
 unfold Zn at m
 obtain ⟨B,m⟩:=gd m
 obtain rfl:=Option.some.inj m
 refine aQ Tryz.func64 rfl 8 rfl rfl fun C V=>(yj (V':=aO kT3 (.slice a b e) g::V) tI (bH 0 aA (fun (D:b=g.length)=>?_)))
 subst D
 refine aV ?_
 refine lS rfl ?_
 refine cA ?_
 refine lS rfl (s7 (.bool a.isNone) (wv bK rfl rfl) rfl rfl (aC (aI ?_)))
 rcases Bool.eq_false_or_eq_true a.isNone with l | l
 ·refine bZ rfl l ?_
  refine wA 0 aA l (fun (E:g=[])=>?_)
  subst E
  refine aV ?_
  refine lS rfl ?_
  refine bG ?_
  exact dI (vs:=[(.slice none 0 0)]) (.inl rfl) (none,0,0) rfl ⟨rfl,trivial⟩ rfl (fun w s=>((s.nilo kT3 3).sel 2 [0] rfl rfl))
 ·refine bJ rfl l (cP (aI ?_))
  refine aV ?_
  refine bM (K:=kT3) (xs:=([]:List Int)) (vs:=[]) 0 rfl rfl bK cC gF rfl rfl rfl rfl rfl rfl ?_ rfl (fun u q=>?_)
  ·exact fun I h s=>(gD).list [] I h s
  refine lS rfl (eD (K:=kT3) 17592186044416 rfl rfl bK cC kl (Zr.zk zT3 gF) rfl rfl rfl rfl rfl rfl (rX (Kind.scal_flat _ _)) (by simpa using B) (fun i j=>(lS rfl (aC (aI (bW ?_))))))
  exact dI (vs:=[(.slice i g.length j)]) (.inl rfl) (i,g.length,j) rfl ⟨rfl,trivial⟩ rfl tI
theorem Zw_ok  {e:(List Int)}{i:(List Int)}{r:Bool}(b:Zw e i=some r) :
 FnOk Tryz.prog 16 [(.slice A2 N2 D2),(.slice A4 N4 D4)] [aO kT3 (.slice A2 N2 D2) e,aO kT3 (.slice A4 N4 D4) i] (fun (h:Unit)=>((.bool r),[])):=by
 unfold Zw at b
 refine aQ Tryz.func16 R 26 R R fun C V=>?_
 refine cL 0 aA ?_
 rintro rfl
 refine cL 1 aA ?_
 rintro rfl
 let u:=RR kT3 A2 D2 e::RR kT3 A4 D4 i::V
 refine cN u ?_
 refine oy ?_
 split at b
 refine cZ ?_
 cases b
 exact qF () (tE 2 [])
 refine bG ?_
 refine bB (A:=(Unit)×(Unit)) (fun a=>Zw_J1=some r) (fun a=>[]) (fun a=>u) ?_ ?_
 refine bV ?_
 obtain ⟨L,B,g⟩:=bd b
 refine bD (A:=Unit) B (fun s a=>[(0,(sc A2 e D2)),(1,(sc A4 i D4)),(5,(iv s))]) (fun s a=>u) () (aS R) tI ?_
 rintro F _ σ1 D b l
 dsimp only [Zw_L1] at b
 refine cX ?_
 split at b
 refine bV ?_
 obtain ⟨j,b⟩:=gd b
 obtain ⟨m,b⟩:=gd b
 refine aZ 0 aA (show 0<e.length by have:=j; omega) (fun G o18 q=>?_)
 subst q
 refine aZ 1 aA (show 0<i.length by have:=m; omega) (fun E o21 q=>?_)
 subst q
 refine dG 9 [] bP fun I J=>?_
 refine vD 0 [] ?_
 refine dD (aI ?_)
 split at b
 refine cX ?_
 cases b
 obtain rfl:=l _ R
 have b:=g
 refine aP ?_
 cases b
 exact qF () (tE 2 [])
 refine cX ?_
 cases b
 exact qA () tI
 refine aP ?_
 cases b
 obtain rfl:=l _ R
 have b:=g
 refine aV ?_
 exact cR ((),()) b trivial tI
 rintro ⟨_,_⟩ σ1 b
 dsimp only [Zw_J1] at b
 refine bV ?_
 cases b
 exact qF () (tE 2 [])
theorem Z2h_ok  {b:Node}{g:Node}{r:Bool}(a:Z2h b g=some r) :
 FnOk Tryz.prog 60 [(.agg [(iv b.Op),(.slice A2 N2 D2),(.slice A3 N3 D3),(.slice A4 N4 D4),(aD b.Form),(.slice A5 N5 D5)].toArray),(.agg [(iv g.Op),(.slice A7 N7 D7),(.slice A8 N8 D8),(.slice A9 N9 D9),(aD g.Form),(.slice A10 N10 D10)].toArray)] [aO kT3 (.slice A2 N2 D2) b.Args,aO kT3 (.slice A3 N3 D3) b.Dims,aO kT3 (.slice A4 N4 D4) b.Ints,aO kT3 (.slice A5 N5 D5) b.Data,aO kT3 (.slice A7 N7 D7) g.Args,aO kT3 (.slice A8 N8 D8) g.Dims,aO kT3 (.slice A9 N9 D9) g.Ints,aO kT3 (.slice A10 N10 D10) g.Data] (fun (h:Unit)=>((.bool r),[])):=by
 unfold Z2h at a
 refine aQ Tryz.func60 R 39 R R fun C V=>?_
 refine cL 0 aA ?_
 rintro rfl
 refine cL 1 aA ?_
 rintro rfl
 refine cL 2 aA ?_
 rintro rfl
 refine cL 3 aA ?_
 rintro rfl
 refine cL 4 aA ?_
 rintro rfl
 refine cL 5 aA ?_
 rintro rfl
 refine cL 6 aA ?_
 rintro rfl
 refine cL 7 aA ?_
 rintro rfl
 let D:=RR kT3 A2 D2 b.Args::RR kT3 A3 D3 b.Dims::RR kT3 A4 D4 b.Ints::RR kT3 A5 D5 b.Data::RR kT3 A7 D7 g.Args::RR kT3 A8 D8 g.Dims::RR kT3 A9 D9 g.Ints::RR kT3 A10 D10 g.Data::V
 refine cN D ?_
 refine aV ?_
 refine eB R fun u=>?_
 refine eB R fun B=>?_
 refine aV ?_
 let m:=aJ B [(iv g.Op),(sc A7 g.Args D7),(sc A8 g.Dims D8),(sc A9 g.Ints D9),(aD g.Form),(sc A10 g.Data D10)] 54::aJ u [(iv b.Op),(sc A2 b.Args D2),(sc A3 b.Dims D3),(sc A4 b.Ints D4),(aD b.Form),(sc A5 b.Data D5)] 54::D
 refine qN m ?_
 refine iB ?_
 split at a
 refine cZ ?_
 cases a
 exact qF () (tE 10 [])
 refine cA ?_
 obtain ⟨I,l,a⟩:=bd a
 refine cA ?_
 refine lM _ (fun w s=>(((s.d 2 R).d 7 R).e 2 [1,0])) ?_
 refine lC 2 oM R (Zw_ok l) R ?_
 rintro _
 refine lN m ?_
 refine aP ?_
 split at a
 refine cZ ?_
 cases a
 exact qF () (tE 10 [])
 refine cA ?_
 obtain ⟨F,i,a⟩:=bd a
 refine cA ?_
 refine lM _ (fun w s=>(((s.d 3 R).d 8 R).e 2 [1,0])) ?_
 refine lC 2 oM R (Zw_ok i) R ?_
 rintro _
 refine lN m ?_
 refine aP ?_
 split at a
 refine cZ ?_
 cases a
 exact qF () (tE 10 [])
 refine cA ?_
 obtain ⟨E,q,a⟩:=bd a
 refine cA ?_
 refine lM _ (fun w s=>(((s.d 4 R).d 9 R).e 2 [1,0])) ?_
 refine lC 2 oM R (Zw_ok q) R ?_
 rintro _
 refine lN m ?_
 refine aP ?_
 split at a
 refine cZ ?_
 cases a
 exact qF () (tE 10 [])
 refine cU ?_
 refine lO (vz (.bool (!(b.Form==g.Form))) (jr R R R)) ?_
 refine aV ?_
 split at a
 refine cZ ?_
 cases a
 exact qF () (tE 10 [])
 refine cA ?_
 obtain ⟨G,j,a⟩:=bd a
 refine cA ?_
 refine lM _ (fun w s=>(((s.d 5 R).d 10 R).e 2 [1,0])) ?_
 refine lC 2 oM R (Zw_ok j) R ?_
 rintro _
 refine lN m ?_
 refine aP ?_
 split at a
 refine cZ ?_
 cases a
 exact qF () (tE 10 [])
 refine cX ?_
 cases a
 exact qF () (tE 10 [])
theorem Z1d_ok  {i:(List Node)}{j:(List Node)}{r:Bool}(g:Z1d i j=some r) :
 FnOk Tryz.prog 37 [(.slice A2 N2 D2),(.slice A4 N4 D4)] [aO cJ (.slice A2 N2 D2) i,aO cJ (.slice A4 N4 D4) j] (fun (h:Unit)=>((.bool r),[])):=by
 unfold Z1d at g
 refine aQ Tryz.func37 R 27 R R fun C V=>?_
 refine cL 0 aA ?_
 rintro rfl
 refine cL 1 aA ?_
 rintro rfl
 let Z:=RR cJ A2 D2 i::RR cJ A4 D4 j::V
 refine cN Z ?_
 refine oy ?_
 split at g
 refine cZ ?_
 cases g
 exact qF () (tE 2 [])
 refine bG ?_
 refine bB (A:=(Unit)×(Unit)) (fun a=>Z1d_J1=some r) (fun a=>[]) (fun a=>Z) ?_ ?_
 refine bV ?_
 obtain ⟨e1,J,q⟩:=bd g
 refine bD (A:=Unit) J (fun s a=>[(0,(sc A2 i D2)),(1,(sc A4 j D4)),(5,(iv s))]) (fun s a=>Z) () (aS R) tI ?_
 rintro b _ σ1 a7 g u
 dsimp only [Z1d_L1] at g
 refine cX ?_
 split at g
 refine bV ?_
 obtain ⟨m,g⟩:=gd g
 obtain ⟨l,g⟩:=gd g
 obtain ⟨a8,B,g⟩:=bd g
 refine aZ 0 aA (show 0<i.length by have:=m; omega) (fun a9 o28 E=>?_)
 subst E
 refine dL (K:=cJ) 0 b dT54.dec R m.1 m.2 ?_
 rintro ⟨-,⟨M,a5⟩,⟨D,T⟩,⟨a0,Y⟩,-,⟨a3,O⟩⟩
 refine aZ 6 aA (show 0<j.length by have:=l; omega) (fun aa o35 E=>?_)
 subst E
 refine dL (K:=cJ) 6 b dT54.dec R l.1 l.2 ?_
 rintro ⟨-,⟨U,I⟩,⟨a6,a2⟩,⟨L,F⟩,-,⟨G,a4⟩⟩
 refine dG 10 [] bP fun ht hn=>?_
 refine iw 0 [] ?_
 refine dR 3 R (vz (.agg [(iv (ix i b).Op),(sc M ((ix i b).Args) a5),(sc D ((ix i b).Dims) T),(sc a0 ((ix i b).Ints) Y),(aD (ix i b).Form),(sc a3 ((ix i b).Data) O)].toArray) (eK (fo:=0) 5 sE lL R R R R)) ?_
 refine iw 4 [] ?_
 refine dR 7 R (vz (.agg [(iv (ix j b).Op),(sc U ((ix j b).Args) I),(sc a6 ((ix j b).Dims) a2),(sc L ((ix j b).Ints) F),(aD (ix j b).Form),(sc G ((ix j b).Data) a4)].toArray) (eK (fo:=0) 0 sE lL R R R R)) (d1 8 R (lM _ (fun w s=>(((((((((s.d 6 R).d 8 R).d 10 R).d 12 R).d 5 R).d 7 R).d 9 R).d 11 R).e 18 [7,6,5,4,3,2,1,0,8,9,10,11,12,13,14,15,16,17])) ?_))
 refine lC 8 Bl R (Z2h_ok B) R ?_
 rintro _
 refine aC (aG (sL []) (dR 9 R (rJ R) (dD (aI ?_))))
 split at g
 refine cX ?_
 cases g
 obtain rfl:=u _ R
 have g:=q
 refine aP ?_
 cases g
 exact qF () (tE 12 [])
 refine cX ?_
 cases g
 exact qA () (tE 10 [])
 refine aP ?_
 cases g
 obtain rfl:=u _ R
 have g:=q
 refine aV ?_
 exact cR ((),()) g trivial tI
 rintro ⟨_,_⟩ σ1 g
 dsimp only [Z1d_J1] at g
 refine bV ?_
 cases g
 exact qF () (tE 2 [])
theorem Z2g_ok  {b:Graph}{g:Graph}{r:Bool}(a:Z2g b g=some r) :
 FnOk Tryz.prog 13 [(.agg [(.slice A2 N2 D2),(.slice A3 N3 D3)].toArray),(.agg [(.slice A5 N5 D5),(.slice A6 N6 D6)].toArray)] [aO cJ (.slice A2 N2 D2) b.Nodes,aO kT3 (.slice A3 N3 D3) b.Outs,aO cJ (.slice A5 N5 D5) g.Nodes,aO kT3 (.slice A6 N6 D6) g.Outs] (fun (h:Unit)=>((.bool r),[])):=by
 unfold Z2g at a
 refine aQ Tryz.func13 R 17 R R fun C V=>?_
 refine cL 0 aA ?_
 rintro rfl
 refine cL 1 aA ?_
 rintro rfl
 refine cL 2 aA ?_
 rintro rfl
 refine cL 3 aA ?_
 rintro rfl
 let m:=RR cJ A2 D2 b.Nodes::RR kT3 A3 D3 b.Outs::RR cJ A5 D5 g.Nodes::RR kT3 A6 D6 g.Outs::V
 refine cN m ?_
 refine aV ?_
 refine eB R fun q=>?_
 refine eB R fun u=>?_
 refine aV ?_
 let l:=aJ u [(sc A5 g.Nodes D5),(sc A6 g.Outs D6)] 30::aJ q [(sc A2 b.Nodes D2),(sc A3 b.Outs D3)] 30::m
 refine qN l ?_
 refine aP ?_
 obtain ⟨D,i,a⟩:=bd a
 refine cA ?_
 refine lM _ (fun w s=>(((s.d 2 R).d 5 R).e 2 [1,0])) ?_
 refine lC 2 Bm R (Z1d_ok i) R ?_
 rintro _
 refine lN l ?_
 refine aP ?_
 split at a
 refine cZ ?_
 cases a
 exact qF () (tE 6 [])
 refine cA ?_
 obtain ⟨B,j,a⟩:=bd a
 refine cA ?_
 refine lM _ (fun w s=>(((s.d 3 R).d 6 R).e 2 [1,0])) ?_
 refine lC 2 oM R (Zw_ok j) R ?_
 rintro _
 refine lN l ?_
 refine aP ?_
 split at a
 refine cZ ?_
 cases a
 exact qF () (tE 6 [])
 refine cX ?_
 cases a
 exact qF () (tE 6 [])
theorem Zu_ok  {g:(List Int)}{u:Int}{r:Int×(List Int)}(b:Zu g u=some r) :
 FnOk Tryz.prog 18 [(.slice A2 N2 D2),(iv u)] [ow kT3 3 (.slice A2 N2 D2) g] (fun (h:Unit)=>((iv r.1),[ow kT3 3 (.slice A2 N2 D2) r.2])):=by
 unfold Zu at b
 refine aQ Tryz.func18 R 19 R R fun C V=>?_
 refine cL 0 aB ?_
 rintro rfl
 refine bV ?_
 refine bB (A:=(Int×(List Int))×(Unit)) (fun a=>Zu_J1 a.1.1 a.1.2=some r) (fun a=>[(1,(iv a.1.1))]) (fun a=>ow kT3 3 (.slice A2 g.length D2) a.1.2::V) ?_ ?_
 refine bV ?_
 obtain ⟨L,i,j⟩:=bd b
 refine bD (A:=Unit) i (fun s a=>[(0,(sc A2 g D2)),(1,(iv s.2.1)),(5,(iv s.2.2))]) (fun s a=>ow kT3 3 (.slice A2 g.length D2) s.1::V) () (aS R) tI ?_
 rintro ⟨E,l,q⟩ _ σ1 B b m
 dsimp only [Zu_L1] at b
 refine cX ?_
 split at b
 refine bV ?_
 obtain ⟨e,b⟩:=gd b
 refine bG ?_
 refine bC 0 aB (show 0<g.length by have:=e; omega) (fun F o14 D=>?_)
 subst D
 refine bT ?_
 refine dV (K:=kT3) (x':=l) 0 q R R cC R R e.1 e.2 ?_ ?_
 exact fun I h s=>(gD).put I h () l s
 refine ov ?_
 cases b
 exact qA () tI
 refine aP ?_
 cases b
 obtain rfl:=m _ R
 have b:=j
 refine aV ?_
 exact qI ((l,E),()) b tI
 rintro ⟨⟨G,J⟩,_⟩ σ1 b
 dsimp only [Zu_J1] at b
 refine dN ?_
 cases b
 exact qF () tI
theorem Z0o_ok  {k1:Int}{r:aN}(b:Z0o k1=some r) :
 FnOk Tryz.prog 61 [(iv k1)] [] (fun (h:Unit)=>((aD r),[])):=by
 unfold Z0o at b
 refine aQ Tryz.func61 R 20 R R fun C V=>?_
 refine cN V ?_
 refine aV ?_
 refine lO (vp (aD ([]:aN)) R) ?_
 refine cX ?_
 split at b
 refine aP ?_
 refine lO (vp (aD yA) R) ?_
 refine bG ?_
 cases b
 exact qF () tI
 refine cA ?_
 refine lO (vp (aD ([]:aN)) R) ?_
 refine aP ?_
 refine bB (A:=(aN)×(Unit)) (fun a=>Z0o_J1 a.1=some r) (fun a=>[(3,(aD a.1))]) (fun a=>V) ?_ ?_
 refine bT ?_
 obtain ⟨D,m,q⟩:=bd b
 refine bD (A:=Unit) m (fun s a=>[(0,(iv s.1)),(3,(aD s.2))]) (fun s a=>V) () (aS R) tI ?_
 rintro ⟨e,l⟩ _ σ1 B b u
 dsimp only [Z0o_L1] at b
 refine dN ?_
 split at b
 refine cA ?_
 obtain ⟨j,b⟩:=gd b
 refine aV ?_
 refine lO (qc R R (by decide)) (lO (kK R R) (lO (vz (.int .u8 (IntKind.wrap .u8 ((aH ((48:Int)+(e.tmod (10:Int))))))) (wo un3 BU R)) (bM (K:=BR) (xs:=([(IntKind.wrap .u8 ((aH ((48:Int)+(e.tmod (10:Int))))))]:List Int)) (vs:=[(.int .u8 (IntKind.wrap .u8 ((aH ((48:Int)+(e.tmod (10:Int)))))))]) 0 R R sQ BV zc5 R R R R R R ?_ R (fun A9 D9=>?_))))
 exact fun I h s=>(mO5).list [((),(IntKind.wrap .u8 ((aH ((48:Int)+(e.tmod (10:Int)))))))] I h s
 refine lO (vz (aD (nz ([(IntKind.wrap .u8 ((aH ((48:Int)+(e.tmod (10:Int))))))]:List Int))) (yp 0 sQ BU fJ aB R)) (lO (vp (aD l) R) (lO (vz (aD ((nz ([(IntKind.wrap .u8 ((aH ((48:Int)+(e.tmod (10:Int))))))]:List Int))++l)) (nu R R j)) (lO (vp (aD ((nz ([(IntKind.wrap .u8 ((aH ((48:Int)+(e.tmod (10:Int))))))]:List Int))++l)) R) ?_)))
 refine bG ?_
 refine lO (vz (iv (aH (e.tdiv (10:Int)))) (mo R R (by decide))) ?_
 refine aP ?_
 cases b
 exact qA () (tE 1 [])
 refine aP ?_
 cases b
 obtain rfl:=u _ R
 have b:=q
 refine aV ?_
 exact qI (l,()) b tI
 rintro ⟨g,_⟩ σ1 b
 dsimp only [Z0o_J1] at b
 refine bT ?_
 obtain ⟨i,b⟩:=gd b
 refine aE (lO (vp (aD g) R) (lO (vz (aD (str8++g)) (nu R R i)) (lO (vp (aD (str8++g)) R) ?_)))
 refine aP ?_
 cases b
 exact qF () tI
theorem Z0m_ok  {B:(List Node)}{k3:Int}{r:Int×(List Node)}(q:Z0m B k3=some r) :
 FnOk Tryz.prog 39 [(.slice A2 N2 D2),(iv k3)] [ow cJ 54 (.slice A2 N2 D2) B] (fun (h:Unit)=>((iv r.1),[ow cJ 54 (.slice A2 N2 D2) r.2])):=by
 unfold Z0m at q
 refine aQ Tryz.func39 R 56 R R fun C V=>?_
 refine cL 0 aB ?_
 rintro rfl
 refine bV ?_
 refine bB (A:=(Int×(List Node))×(Unit)) (fun a=>Z0m_J1 a.1.1 a.1.2=some r) (fun a=>[(1,(iv a.1.1))]) (fun a=>ow cJ 54 (.slice A2 B.length D2) a.1.2::V) ?_ ?_
 refine bV ?_
 obtain ⟨e1,b8,b9⟩:=bd q
 refine bD (A:=Unit) b8 (fun s a=>[(0,(sc A2 B D2)),(1,(iv s.2.1)),(5,(iv s.2.2))]) (fun s a=>ow cJ 54 (.slice A2 B.length D2) s.1::V) () (aS R) tI ?_
 rintro ⟨a46,Z,b⟩ _ σ1 bc q bb
 dsimp only [Z0m_L1] at q
 refine cX ?_
 split at q
 refine bV ?_
 obtain ⟨m,q⟩:=gd q
 refine bG ?_
 refine bC 0 aB (show 0<B.length by have:=m; omega) (fun u o52 ha=>?_)
 subst ha
 refine bT ?_
 refine lO (vz (.pointer (some ⟨u,o52+b.toNat*6,none⟩)) (j4 jw R R)) (vx (K:=cJ) (fo:=0) (v:=(iv Z)) (f:=(fun x:Node=>(⟨Z,x.Args,x.Dims,x.Ints,x.Form,x.Data⟩:Node))) 0 b R R cC ?_ R R R R m.1 m.2 ?_)
 exact SetL.deep rb pl (fun a x=>((),(.slice a.2.1.1 x.Args.length a.2.1.2),(.slice a.2.2.1.1 x.Dims.length a.2.2.1.2),(.slice a.2.2.2.1.1 x.Ints.length a.2.2.2.1.2),(),(.slice a.2.2.2.2.2.1 x.Data.length a.2.2.2.2.2.2))) R (fun _ _=>R) (fun _ _=>R)
 refine bT ?_
 obtain ⟨j,G,q⟩:=bd q
 replace G:=Option.some.inj G
 refine qM (ow cJ 54 (.slice (ad u o52) B.length D2) j::V) (fun w s=>by rw [← G]; exact s) ?_
 refine cX ?_
 obtain ⟨O,ao,q⟩:=bd q
 refine bG ?_
 refine lO (vz (.pointer (some ⟨u,o52+b.toNat*6+1,none⟩)) (j4 mw R R)) (m7 (K:=cJ) rb 0 b R m.1 m.2 ?_)
 rintro ⟨-,⟨av,aj⟩,⟨a6,b6⟩,⟨an,am⟩,-,⟨al,a3⟩⟩
 refine lO (nx (fo:=1) 0 cO R R R) (lI R (lM (ow _ _ _ _::um _ _ _ _ _ _::ow _ _ _ _::ow _ _ _ _::ow _ _ _ _::V) (tE 5 [1,0,2,3,4]) ?_))
 refine lC 1 ri R (Zu_ok ao) R ?_
 rintro _
 refine aV ?_
 refine qM (ow cJ 54 (.slice (ad u o52) B.length D2) (j.set b.toNat (⟨(ix j b).Op,O.2,(ix j b).Dims,(ix j b).Ints,(ix j b).Form,(ix j b).Data⟩:Node))::V) (fun w s=>St.unfocus (E:=[ow kT3 3 (.slice av ((ix j b).Args).length aj) O.2,OO kT3 3 a6 b6 ((ix j b).Dims),OO kT3 3 an am ((ix j b).Ints),OO kT3 3 al a3 ((ix j b).Data)]) (⟨(ix j b).Op,O.2,(ix j b).Dims,(ix j b).Ints,(ix j b).Form,(ix j b).Data⟩:Node) (s.e 5 [1,0,2,3,4]) ?_) ?_
 exact fun I h s=>(pl).put I h ((),(sc av ((ix j b).Args) aj),(sc a6 ((ix j b).Dims) b6),(sc an ((ix j b).Ints) am),(),(sc al ((ix j b).Data) a3)) (⟨(ix j b).Op,O.2,(ix j b).Dims,(ix j b).Ints,(ix j b).Form,(ix j b).Data⟩:Node) s
 obtain ⟨g,L,q⟩:=bd q
 replace L:=Option.some.inj L
 refine qM (ow cJ 54 (.slice (ad u o52) B.length D2) g::V) (fun w s=>by rw [← L]; exact s) ?_
 refine aV ?_
 obtain ⟨Y,ap,q⟩:=bd q
 refine bG ?_
 refine lO (vz (.pointer (some ⟨u,o52+b.toNat*6+2,none⟩)) (j4 ks R R)) (m7 (K:=cJ) rb 0 b R m.1 m.2 ?_)
 rintro ⟨-,⟨aq,ab⟩,⟨b0,a5⟩,⟨b1,a7⟩,-,⟨b4,b3⟩⟩
 refine lO (nx (fo:=2) 0 cO R R R) (lI R (lM (ow _ _ _ _::um _ _ _ _ _ _::ow _ _ _ _::ow _ _ _ _::ow _ _ _ _::V) (tE 5 [2,0,1,3,4]) ?_))
 refine lC 1 ri R (Zu_ok ap) R ?_
 rintro _
 refine aV ?_
 refine qM (ow cJ 54 (.slice (ad u o52) B.length D2) (g.set b.toNat (⟨(ix g b).Op,(ix g b).Args,Y.2,(ix g b).Ints,(ix g b).Form,(ix g b).Data⟩:Node))::V) (fun w s=>St.unfocus (E:=[OO kT3 3 aq ab ((ix g b).Args),ow kT3 3 (.slice b0 ((ix g b).Dims).length a5) Y.2,OO kT3 3 b1 a7 ((ix g b).Ints),OO kT3 3 b4 b3 ((ix g b).Data)]) (⟨(ix g b).Op,(ix g b).Args,Y.2,(ix g b).Ints,(ix g b).Form,(ix g b).Data⟩:Node) (s.e 5 [1,2,0,3,4]) ?_) ?_
 exact fun I h s=>(pl).put I h ((),(sc aq ((ix g b).Args) ab),(sc b0 ((ix g b).Dims) a5),(sc b1 ((ix g b).Ints) a7),(),(sc b4 ((ix g b).Data) b3)) (⟨(ix g b).Op,(ix g b).Args,Y.2,(ix g b).Ints,(ix g b).Form,(ix g b).Data⟩:Node) s
 obtain ⟨i,F,q⟩:=bd q
 replace F:=Option.some.inj F
 refine qM (ow cJ 54 (.slice (ad u o52) B.length D2) i::V) (fun w s=>by rw [← F]; exact s) ?_
 refine aV ?_
 obtain ⟨U,ai,q⟩:=bd q
 refine bG ?_
 refine lO (vz (.pointer (some ⟨u,o52+b.toNat*6+3,none⟩)) (j4 gV R R)) (m7 (K:=cJ) rb 0 b R m.1 m.2 ?_)
 rintro ⟨-,⟨ae,ak⟩,⟨a2,a9⟩,⟨a8,aw⟩,-,⟨ag,ac⟩⟩
 refine lO (nx (fo:=3) 0 cO R R R) (lI R (lM (ow _ _ _ _::um _ _ _ _ _ _::ow _ _ _ _::ow _ _ _ _::ow _ _ _ _::V) (tE 5 [3,0,1,2,4]) ?_))
 refine lC 1 ri R (Zu_ok ai) R ?_
 rintro _
 refine aV ?_
 refine qM (ow cJ 54 (.slice (ad u o52) B.length D2) (i.set b.toNat (⟨(ix i b).Op,(ix i b).Args,(ix i b).Dims,U.2,(ix i b).Form,(ix i b).Data⟩:Node))::V) (fun w s=>St.unfocus (E:=[OO kT3 3 ae ak ((ix i b).Args),OO kT3 3 a2 a9 ((ix i b).Dims),ow kT3 3 (.slice a8 ((ix i b).Ints).length aw) U.2,OO kT3 3 ag ac ((ix i b).Data)]) (⟨(ix i b).Op,(ix i b).Args,(ix i b).Dims,U.2,(ix i b).Form,(ix i b).Data⟩:Node) (s.e 5 [1,2,3,0,4]) ?_) ?_
 exact fun I h s=>(pl).put I h ((),(sc ae ((ix i b).Args) ak),(sc a2 ((ix i b).Dims) a9),(sc a8 ((ix i b).Ints) aw),(),(sc ag ((ix i b).Data) ac)) (⟨(ix i b).Op,(ix i b).Args,(ix i b).Dims,U.2,(ix i b).Form,(ix i b).Data⟩:Node) s
 obtain ⟨b7,D,q⟩:=bd q
 replace D:=Option.some.inj D
 refine qM (ow cJ 54 (.slice (ad u o52) B.length D2) b7::V) (fun w s=>by rw [← D]; exact s) ?_
 refine aV ?_
 obtain ⟨au,b5,q⟩:=bd q
 refine bG ?_
 refine lC 0 Bo R (Z0o_ok b5) R ?_
 rintro _
 refine bT ?_
 refine lO (vz (.pointer (some ⟨u,o52+b.toNat*6+4,none⟩)) (j4 pm R R)) (vx (K:=cJ) (fo:=4) (v:=(aD au)) (f:=(fun x:Node=>(⟨x.Op,x.Args,x.Dims,x.Ints,au,x.Data⟩:Node))) 0 b R R rh ?_ R R R R m.1 m.2 ?_)
 exact SetL.deep rb pl (fun a x=>((),(.slice a.2.1.1 x.Args.length a.2.1.2),(.slice a.2.2.1.1 x.Dims.length a.2.2.1.2),(.slice a.2.2.2.1.1 x.Ints.length a.2.2.2.1.2),(),(.slice a.2.2.2.2.2.1 x.Data.length a.2.2.2.2.2.2))) R (fun _ _=>R) (fun _ _=>R)
 refine bT ?_
 obtain ⟨l,J,q⟩:=bd q
 replace J:=Option.some.inj J
 refine qM (ow cJ 54 (.slice (ad u o52) B.length D2) l::V) (fun w s=>by rw [← J]; exact s) ?_
 refine cZ ?_
 obtain ⟨T,a4,q⟩:=bd q
 refine bG ?_
 refine lO (vz (.pointer (some ⟨u,o52+b.toNat*6+5,none⟩)) (j4 nB R R)) (m7 (K:=cJ) rb 0 b R m.1 m.2 ?_)
 rintro ⟨-,⟨aa,ah⟩,⟨b2,a0⟩,⟨ay,az⟩,-,⟨ar,ax⟩⟩
 refine lO (nx (fo:=5) 0 cO R R R) (lI R (lM (ow _ _ _ _::um _ _ _ _ _ _::ow _ _ _ _::ow _ _ _ _::ow _ _ _ _::V) (fun w s=>(s.f 5 [4,1,0,4])) ?_))
 refine lC 1 ri R (Zu_ok a4) R ?_
 rintro _
 refine aV ?_
 refine qM (ow cJ 54 (.slice (ad u o52) B.length D2) (l.set b.toNat (⟨(ix l b).Op,(ix l b).Args,(ix l b).Dims,(ix l b).Ints,(ix l b).Form,T.2⟩:Node))::V) (fun w s=>St.unfocus (E:=[OO kT3 3 aa ah ((ix l b).Args),OO kT3 3 b2 a0 ((ix l b).Dims),OO kT3 3 ay az ((ix l b).Ints),ow kT3 3 (.slice ar ((ix l b).Data).length ax) T.2]) (⟨(ix l b).Op,(ix l b).Args,(ix l b).Dims,(ix l b).Ints,(ix l b).Form,T.2⟩:Node) (s.f 5 [1,4,0,1]) ?_) ?_
 exact fun I h s=>(pl).put I h ((),(sc aa ((ix l b).Args) ah),(sc b2 ((ix l b).Dims) a0),(sc ay ((ix l b).Ints) az),(),(sc ar ((ix l b).Data) ax)) (⟨(ix l b).Op,(ix l b).Args,(ix l b).Dims,(ix l b).Ints,(ix l b).Form,T.2⟩:Node) s
 obtain ⟨ba,M,q⟩:=bd q
 replace M:=Option.some.inj M
 refine qM (ow cJ 54 (.slice (ad u o52) B.length D2) ba::V) (fun w s=>by rw [← M]; exact s) ?_
 refine dN ?_
 cases q
 exact qA () tI
 refine aP ?_
 cases q
 obtain rfl:=bb _ R
 have q:=b9
 refine aV ?_
 exact qI ((Z,a46),()) q tI
 rintro ⟨⟨bf,be⟩,_⟩ σ1 q
 dsimp only [Z0m_J1] at q
 refine dN ?_
 cases q
 exact qF () tI
theorem Z24_ok  {b:Graph}{i:Int}{r:Int×(List Node)×(List Int)}(a:Z24 b i=some r) :
 FnOk Tryz.prog 17 [(.agg [(.slice A2 N2 D2),(.slice A3 N3 D3)].toArray),(iv i)] [ow cJ 54 (.slice A2 N2 D2) b.Nodes,ow kT3 3 (.slice A3 N3 D3) b.Outs] (fun (h:Unit)=>((iv r.1),[ow cJ 54 (.slice A2 N2 D2) r.2.1,ow kT3 3 (.slice A3 N3 D3) r.2.2])):=by
 unfold Z24 at a
 refine aQ Tryz.func17 R 14 R R fun C V=>?_
 refine cL 0 aB ?_
 rintro rfl
 refine cL 1 aB ?_
 rintro rfl
 refine aV ?_
 refine eB R fun j=>?_
 refine aV ?_
 refine qM _ (tE 3 [1,2,0]) ?_
 let m:=aJ j [(sc A2 b.Nodes D2),(sc A3 b.Outs D3)] 30::V
 refine aV ?_
 obtain ⟨q,e,a⟩:=bd a
 refine bG ?_
 refine lC 1 Bp R (Z0m_ok e) R ?_
 rintro _
 refine bG ?_
 obtain ⟨l,g,a⟩:=bd a
 refine bG ?_
 refine lM _ (tE 2 [1,0]) ?_
 refine lC 1 ri R (Zu_ok g) R ?_
 rintro _
 refine cU ?_
 cases a
 exact qF () (tE 3 [1,0])
theorem Z0d_ok  {g:(List Int)}{q:Int}{r:Int}(b:Z0d g q=some r) :
 FnOk Tryz.prog 19 [(.slice A2 N2 D2),(iv q)] [aO kT3 (.slice A2 N2 D2) g] (fun (h:Unit)=>((iv r),[])):=by
 unfold Z0d at b
 refine aQ Tryz.func19 R 21 R R fun C V=>?_
 refine cL 0 aA ?_
 rintro rfl
 let l:=RR kT3 A2 D2 g::V
 refine cN l ?_
 refine bV ?_
 refine bB (A:=(Int)×(Unit)) (fun a=>Z0d_J1 a.1=some r) (fun a=>[(1,(iv a.1))]) (fun a=>l) ?_ ?_
 refine bV ?_
 obtain ⟨I,m,i⟩:=bd b
 refine bD (A:=Unit) m (fun s a=>[(0,(sc A2 g D2)),(1,(iv s.1)),(5,(iv s.2))]) (fun s a=>l) () (aS R) tI ?_
 rintro ⟨F,G⟩ _ σ1 u b j
 dsimp only [Z0d_L1] at b
 refine cX ?_
 split at b
 refine dN ?_
 obtain ⟨e,b⟩:=gd b
 refine aP ?_
 refine bC 0 aA (show 0<g.length by have:=e; omega) (fun D o14 B=>?_)
 subst B
 refine bV ?_
 split at b
 refine cU ?_
 cases b
 obtain rfl:=j _ R
 have b:=i
 refine aP ?_
 cases b
 exact qF () (tE 1 [])
 refine oy ?_
 cases b
 exact qA () tI
 refine aP ?_
 cases b
 obtain rfl:=j _ R
 have b:=i
 refine aV ?_
 exact qI (F,()) b tI
 rintro ⟨E,_⟩ σ1 b
 dsimp only [Z0d_J1] at b
 refine dN ?_
 cases b
 exact qF () (tE 1 [])
end Go.Proofs.YtmpnollfdpdipaaGreat
