import Derived.Test.YtmpnollfdpdipaaGreatGkF
set_option linter.unusedVariables false
set_option maxRecDepth 20000
namespace Go.Proofs.YtmpnollfdpdipaaGreat
open Go Go.Pg
variable {A2 A3 A4 A5 A6 A7 A8 A9 A10:Option Addr}{D2 D3 D4 D5 D6 D7 D8 D9 D10 N2 N3 N4 N5 N6 N7 N8 N9 N10:Nat}
theorem Z1j_ok  {e:(List Int)}{a:Int}{r:Int}(b:Z1j e a=some r) :
 FnOk Tryz.prog 33 [(.slice A2 N2 D2),(iv a)] [aN kT3 (.slice A2 N2 D2) e] (fun (h:Unit)=>((iv r),[])):=by
 unfold Z1j at b
 refine aQ Tryz.func33 R 12 R R fun C V=>?_
 refine cL 0 aA ?_
 rintro rfl
 let g:=RR kT3 A2 D2 e::V
 refine cN g ?_
 refine uf ?_
 split at b
 refine cV ?_
 cases b
 exact qF () (tE 1 [])
 refine cP ?_
 cases b
 exact qF () (tE 1 [])
theorem Z2k_ok  {b:Node}{e:Int}{r:Int}(a:Z2k b e=some r) :
 FnOk Tryz.prog 50 [(.agg [(iv b.Op),(.slice A2 N2 D2),(.slice A3 N3 D3),(.slice A4 N4 D4),(aD b.Form),(.slice A5 N5 D5)].toArray),(iv e)] [aN kT3 (.slice A2 N2 D2) b.Args,aN kT3 (.slice A3 N3 D3) b.Dims,aN kT3 (.slice A4 N4 D4) b.Ints,aN kT3 (.slice A5 N5 D5) b.Data] (fun (h:Unit)=>((iv r),[])):=by
 unfold Z2k at a
 refine aQ Tryz.func50 R 37 R R fun C V=>?_
 refine cL 0 aA ?_
 rintro rfl
 refine cL 1 aA ?_
 rintro rfl
 refine cL 2 aA ?_
 rintro rfl
 refine cL 3 aA ?_
 rintro rfl
 let q:=RR kT3 A2 D2 b.Args::RR kT3 A3 D3 b.Dims::RR kT3 A4 D4 b.Ints::RR kT3 A5 D5 b.Data::V
 refine cN q ?_
 refine aU ?_
 refine eF R fun E=>?_
 refine aU ?_
 let l:=aJ E [(iv b.Op),(sc A2 b.Args D2),(sc A3 b.Dims D3),(sc A4 b.Ints D4),(aD b.Form),(sc A5 b.Data D5)] 70::q
 refine qN l ?_
 refine aU ?_
 obtain ⟨F,m,a⟩:=bd a
 refine bG ?_
 refine lM _ (fun w s=>(s.d 1 R)) ?_
 refine lC 1 sn R (Z1j_ok m) R ?_
 rintro _
 refine lN l ?_
 refine cP ?_
 split at a
 refine cV ?_
 cases a
 exact qF () (tE 5 [])
 refine bG ?_
 obtain ⟨B,g,a⟩:=bd a
 refine bG ?_
 refine lM _ (fun w s=>(s.d 2 R)) ?_
 refine lC 1 sn R (Z1j_ok g) R ?_
 rintro _
 refine lN l ?_
 refine cP ?_
 split at a
 refine cV ?_
 cases a
 exact qF () (tE 5 [])
 refine bG ?_
 obtain ⟨D,i,a⟩:=bd a
 refine bG ?_
 refine lM _ (fun w s=>(s.d 3 R)) ?_
 refine lC 1 sn R (Z1j_ok i) R ?_
 rintro _
 refine lN l ?_
 refine cP ?_
 split at a
 refine cV ?_
 cases a
 exact qF () (tE 5 [])
 refine cV ?_
 refine lO (vz (il b.Form) (dN fJ R)) ?_
 refine hN ?_
 split at a
 refine cV ?_
 cases a
 exact qF () (tE 5 [])
 refine bG ?_
 obtain ⟨u,j,a⟩:=bd a
 refine bG ?_
 refine lM _ (fun w s=>(s.d 4 R)) ?_
 refine lC 1 sn R (Z1j_ok j) R ?_
 rintro _
 refine lN l ?_
 refine cP ?_
 split at a
 refine cV ?_
 cases a
 exact qF () (tE 5 [])
 refine cP ?_
 cases a
 exact qF () (tE 5 [])
theorem Z1a_ok  {j:(List Node)}{i:Int}{r:Int}(b:Z1a j i=some r) :
 FnOk Tryz.prog 32 [(.slice A2 N2 D2),(iv i)] [aN jM (.slice A2 N2 D2) j] (fun (h:Unit)=>((iv r),[])):=by
 unfold Z1a at b
 refine aQ Tryz.func32 R 27 R R fun C V=>?_
 refine cL 0 aA ?_
 rintro rfl
 let E:=RR jM A2 D2 j::V
 refine cN E ?_
 refine uf ?_
 split at b
 refine cV ?_
 cases b
 exact qF () (tE 1 [])
 refine bG ?_
 refine aZ (A:=(Int)×(Unit)) (fun a=>Z1a_J1 a.1=some r) (fun a=>[(1,(iv a.1))]) (fun a=>E) ?_ ?_
 refine bT ?_
 obtain ⟨e1,L,q⟩:=bd b
 refine bD (A:=Unit) L (fun s a=>[(0,(sc A2 j D2)),(1,(iv s.1)),(5,(iv s.2))]) (fun s a=>E) () (aS R) tI ?_
 rintro ⟨m,g⟩ _ σ1 Y b B
 dsimp only [Z1a_L1] at b
 refine cU ?_
 split at b
 refine bT ?_
 obtain ⟨l,b⟩:=gd b
 obtain ⟨a0,u,b⟩:=bd b
 refine aP ?_
 refine bA 0 aA (show 0<j.length by have:=l; omega) (fun Z o21 ha=>?_)
 subst ha
 refine bU ?_
 refine gG (K:=jM) 0 g dT70.dec R l.1 l.2 ?_
 rintro ⟨-,⟨T,F⟩,⟨I,G⟩,⟨M,J⟩,-,⟨O,U⟩⟩
 refine lO (vz (.agg [(iv (ix j g).Op),(sc T ((ix j g).Args) F),(sc I ((ix j g).Dims) G),(sc M ((ix j g).Ints) J),(aD (ix j g).Form),(sc O ((ix j g).Data) U)].toArray) (eE (fo:=0) 0 wG wF R R R R)) (lI R (lM _ (fun w s=>(((((s.d 1 R).d 3 R).d 5 R).d 7 R).e 9 [3,2,1,0,4,5,6,7,8])) ?_))
 refine lC 4 AJ R (Z2k_ok u) R ?_
 rintro _
 refine cU ?_
 split at b
 refine cU ?_
 cases b
 obtain rfl:=B _ R
 have b:=q
 refine aP ?_
 cases b
 exact qF () (tE 6 [])
 refine cU ?_
 cases b
 exact qA () (tE 5 [])
 refine aP ?_
 cases b
 obtain rfl:=B _ R
 have b:=q
 refine aU ?_
 exact qI (m,()) b tI
 rintro ⟨D,_⟩ σ1 b
 dsimp only [Z1a_J1] at b
 refine dG ?_
 cases b
 exact qF () (tE 1 [])
theorem Z2x_ok  {e:Graph}{a:Int}{r:Int}(b:Z2x e a=some r) :
 FnOk Tryz.prog 9 [(.agg [(.slice A2 N2 D2),(.slice A3 N3 D3)].toArray),(iv a)] [aN jM (.slice A2 N2 D2) e.Nodes,aN kT3 (.slice A3 N3 D3) e.Outs] (fun (h:Unit)=>((iv r),[])):=by
 unfold Z2x at b
 refine aQ Tryz.func9 R 18 R R fun C V=>?_
 refine cL 0 aA ?_
 rintro rfl
 refine cL 1 aA ?_
 rintro rfl
 let l:=RR jM A2 D2 e.Nodes::RR kT3 A3 D3 e.Outs::V
 refine cN l ?_
 refine aU ?_
 refine eF R fun m=>?_
 refine aU ?_
 let j:=aJ m [(sc A2 e.Nodes D2),(sc A3 e.Outs D3)] 25::l
 refine qN j ?_
 refine aU ?_
 obtain ⟨q,i,b⟩:=bd b
 refine bG ?_
 refine lM _ (fun w s=>(s.d 1 R)) ?_
 refine lC 1 AK R (Z1a_ok i) R ?_
 rintro _
 refine lN j ?_
 refine cP ?_
 split at b
 refine cV ?_
 cases b
 exact qF () (tE 3 [])
 refine bG ?_
 obtain ⟨u,g,b⟩:=bd b
 refine bG ?_
 refine lM _ (fun w s=>(s.d 2 R)) ?_
 refine lC 1 sn R (Z1j_ok g) R ?_
 rintro _
 refine lN j ?_
 refine cP ?_
 split at b
 refine cV ?_
 cases b
 exact qF () (tE 3 [])
 refine cP ?_
 cases b
 exact qF () (tE 3 [])
theorem Z07_ok  {e:(List Int)}{r:(List Int)}(b:Z07 e=some r) :
 FnOk Tryz.prog 28 [(.slice A2 N2 D2)] [aN kT3 (.slice A2 N2 D2) e] (fun (h:HH)=>((s3 h),[ow kT3 3 (s3 h) r])):=by
 unfold Z07 at b
 refine aQ Tryz.func28 R 22 R R fun C V=>?_
 refine cL 0 aA ?_
 rintro rfl
 let q:=RR kT3 A2 D2 e::V
 refine cN q ?_
 refine bT ?_
 obtain ⟨i,b⟩:=gd b
 refine aP ?_
 refine fI (K:=kT3) (m:=(e.length:Int)) (z:=(0:Int)) R R bI cB jZ (Zr.zk zT3 f') (by decide) R R i.1 i.2.1 i.2.2 (fun A4 D4=>(lS R (aC (aI (aO (aZ (A:=((List Int))×(Unit)) (fun a=>Z07_J1 a.1=some r) (fun a=>[(3,(sc A4 (List.replicate (e.length:Int).toNat (0:Int)) D4))]) (fun a=>ow kT3 3 (.slice A4 (List.replicate (e.length:Int).toNat (0:Int)).length D4) a.1::q) ?_ ?_))))))
 refine bT ?_
 obtain ⟨O,D,u⟩:=bd b
 refine bD (A:=Unit) D (fun s a=>[(0,(sc A2 e D2)),(3,(sc A4 (List.replicate (e.length:Int).toNat (0:Int)) D4)),(4,(iv s.2))]) (fun s a=>ow kT3 3 (.slice A4 (List.replicate (e.length:Int).toNat (0:Int)).length D4) s.1::q) () (aS R) tI ?_
 rintro ⟨F,j⟩ _ σ1 G b E
 dsimp only [Z07_L1] at b
 refine cU ?_
 split at b
 refine bZ ?_
 obtain ⟨l,b⟩:=gd b
 obtain ⟨g,b⟩:=gd b
 refine bZ ?_
 refine bA 1 aA (show 0<e.length by have:=l; omega) (fun J o19 B=>?_)
 subst B
 refine aU ?_
 refine bA 0 aB (show 0<(List.replicate (e.length:Int).toNat (0:Int)).length by have:=g; omega) (fun L o22 B=>?_)
 subst B
 refine bU ?_
 refine eA (K:=kT3) (x':=(ix e j)) 0 j R R cB R R g.1 g.2 ?_ ?_
 exact fun I h s=>(fZ).put I h () (ix e j) s
 refine cV ?_
 cases b
 exact qA () tI
 refine aP ?_
 cases b
 obtain rfl:=E _ R
 have b:=u
 refine aU ?_
 exact qI (F,()) b tI
 rintro ⟨M,_⟩ σ1 b
 dsimp only [Z07_J1] at b
 refine dG ?_
 cases b
 exact qF (A4,(List.replicate (e.length:Int).toNat (0:Int)).length,D4) (tE 2 [0])
theorem Z2y_ok  {a:Node}{r:Node}(j:Z2y a=some r) :
 FnOk Tryz.prog 58 [(.agg [(iv a.Op),(.slice A2 N2 D2),(.slice A3 N3 D3),(.slice A4 N4 D4),(aD a.Form),(.slice A5 N5 D5)].toArray)] [aN kT3 (.slice A2 N2 D2) a.Args,aN kT3 (.slice A3 N3 D3) a.Dims,aN kT3 (.slice A4 N4 D4) a.Ints,aN kT3 (.slice A5 N5 D5) a.Data] (fun (h:HH×HH×HH×HH)=>((.agg [(iv r.Op),(s3 h.1),(s3 h.2.1),(s3 h.2.2.1),(aD r.Form),(s3 h.2.2.2)].toArray),[ow kT3 3 (s3 h.1) r.Args,ow kT3 3 (s3 h.2.1) r.Dims,ow kT3 3 (s3 h.2.2.1) r.Ints,ow kT3 3 (s3 h.2.2.2) r.Data])):=by
 unfold Z2y at j
 refine aQ Tryz.func58 R 27 R R fun C V=>?_
 refine cL 0 aA ?_
 rintro rfl
 refine cL 1 aA ?_
 rintro rfl
 refine cL 2 aA ?_
 rintro rfl
 refine cL 3 aA ?_
 rintro rfl
 let J:=RR kT3 A2 D2 a.Args::RR kT3 A3 D3 a.Dims::RR kT3 A4 D4 a.Ints::RR kT3 A5 D5 a.Data::V
 refine cN J ?_
 refine aU ?_
 refine eF R fun M=>?_
 refine bF R R qY (fun T=>(aC ?_))
 let u:=aJ M [(iv a.Op),(sc A2 a.Args D2),(sc A3 a.Dims D3),(sc A4 a.Ints D4),(aD a.Form),(sc A5 a.Data D5)] 70::J
 refine aP ?_
 refine bF R R qY (fun D=>(aC (aI (aO (aE (lO (fP 0 sq R) (lO (fW 2 fQ R R R) (lO (fP 0 ji R) (cK 0 R R cB R R R R R (lN (aJ D [(iv a.Op),(.slice none 0 0),(.slice none 0 0),(.slice none 0 0),(aD ([]:aM)),(.slice none 0 0)] 54::_::u) ?_))))))))))
 refine aP ?_
 obtain ⟨m,F,j⟩:=bd j
 refine aP ?_
 refine lM _ (fun w s=>(s.d 3 R)) ?_
 refine lC 1 sr R (Z07_ok F) R ?_
 rintro ⟨A11,N11,D11⟩
 refine aL 0 aB ?_
 rintro rfl
 refine bU ?_
 refine cK 1 R R fK R R R R R (lN (_::aJ D [(iv a.Op),(sc A11 m D11),(.slice none 0 0),(.slice none 0 0),(aD ([]:aM)),(.slice none 0 0)] 54::_::u) ?_)
 refine aP ?_
 obtain ⟨b,E,j⟩:=bd j
 refine aP ?_
 refine lM _ (fun w s=>(s.d 5 R)) ?_
 refine lC 1 sr R (Z07_ok E) R ?_
 rintro ⟨A14,N14,D14⟩
 refine aL 0 aB ?_
 rintro rfl
 refine bU ?_
 refine cK 2 R R fK R R R R R (lN (_::_::aJ D [(iv a.Op),(sc A11 m D11),(sc A14 b D14),(.slice none 0 0),(aD ([]:aM)),(.slice none 0 0)] 54::_::u) ?_)
 refine aP ?_
 obtain ⟨i,I,j⟩:=bd j
 refine aP ?_
 refine lM _ (fun w s=>(s.d 7 R)) ?_
 refine lC 1 sr R (Z07_ok I) R ?_
 rintro ⟨g,L,e⟩
 refine aL 0 aB ?_
 rintro rfl
 refine bU ?_
 refine cK 3 R R fK R R R R R (lN (_::_::_::aJ D [(iv a.Op),(sc A11 m D11),(sc A14 b D14),(sc g i e),(aD ([]:aM)),(.slice none 0 0)] 54::_::u) ?_)
 refine dG ?_
 refine cK 3 R R qZ R R R R R (lN (_::_::_::aJ D [(iv a.Op),(sc A11 m D11),(sc A14 b D14),(sc g i e),(aD a.Form),(.slice none 0 0)] 54::_::u) ?_)
 refine aP ?_
 obtain ⟨l,G,j⟩:=bd j
 refine aP ?_
 refine lM _ (fun w s=>(s.d 9 R)) ?_
 refine lC 1 sr R (Z07_ok G) R ?_
 rintro ⟨q,O,B⟩
 refine aL 0 aB ?_
 rintro rfl
 refine bU ?_
 refine cK 4 R R fK R R R R R (lN (_::_::_::_::aJ D [(iv a.Op),(sc A11 m D11),(sc A14 b D14),(sc g i e),(aD a.Form),(sc q l B)] 54::_::u) ?_)
 refine bZ ?_
 refine aK 5 R R jE R R R R R R (lN (_::_::_::_::_::aJ T [(iv a.Op),(sc A11 m D11),(sc A14 b D14),(sc g i e),(aD a.Form),(sc q l B)] 54::u) ?_)
 refine aP ?_
 cases j
 exact qS ((A11,m.length,D11),(A14,b.length,D14),(g,i.length,e),(q,l.length,B)) (tE 11 [3,2,1,0])
theorem Z0r_ok  {g:(List Node)}{r:(List Node)}(b:Z0r g=some r) :
 FnOk Tryz.prog 35 [(.slice A2 N2 D2)] [aN jM (.slice A2 N2 D2) g] (fun (h:HH)=>((s3 h),[ow dA 54 (s3 h) r])):=by
 unfold Z0r at b
 refine aQ Tryz.func35 R 23 R R fun C V=>?_
 refine cL 0 aA ?_
 rintro rfl
 let Z:=RR jM A2 D2 g::V
 refine cN Z ?_
 refine bT ?_
 obtain ⟨u,b⟩:=gd b
 refine aP ?_
 refine fI (K:=dA) (m:=(g.length:Int)) (z:=zT54.z) R R oy jE AL (Zr.zk zT54 qY) (by decide) R R u.1 u.2.1 u.2.2 (fun A4 D4=>(lS R (aC (aI (aO (aZ (A:=((List Node))×(Unit)) (fun a=>Z0r_J1 a.1=some r) (fun a=>[(3,(sc A4 (List.replicate (g.length:Int).toNat zT54.z) D4))]) (fun a=>ow dA 54 (.slice A4 (List.replicate (g.length:Int).toNat zT54.z).length D4) a.1::Z) ?_ ?_))))))
 refine bT ?_
 obtain ⟨e1,a8,a4⟩:=bd b
 refine bD (A:=Unit) a8 (fun s a=>[(0,(sc A2 g D2)),(3,(sc A4 (List.replicate (g.length:Int).toNat zT54.z) D4)),(4,(iv s.2))]) (fun s a=>ow dA 54 (.slice A4 (List.replicate (g.length:Int).toNat zT54.z).length D4) s.1::Z) () (aS R) tI ?_
 rintro ⟨F,i⟩ _ σ1 aa b M
 dsimp only [Z0r_L1] at b
 refine cU ?_
 split at b
 refine bZ ?_
 obtain ⟨l,b⟩:=gd b
 obtain ⟨j,B,b⟩:=bd b
 obtain ⟨q,b⟩:=gd b
 refine bZ ?_
 refine bA 1 aA (show 0<g.length by have:=l; omega) (fun ae o29 ha=>?_)
 subst ha
 refine bU ?_
 refine gG (K:=jM) 1 i dT70.dec R l.1 l.2 ?_
 rintro ⟨-,⟨a6,O⟩,⟨G,a2⟩,⟨J,U⟩,-,⟨D,a9⟩⟩
 refine lO (vz (.agg [(iv (ix g i).Op),(sc a6 ((ix g i).Args) O),(sc G ((ix g i).Dims) a2),(sc J ((ix g i).Ints) U),(aD (ix g i).Form),(sc D ((ix g i).Data) a9)].toArray) (eE (fo:=0) 0 wG wF R R R R)) (lM _ (fun w s=>(((((s.d 1 R).d 3 R).d 5 R).d 7 R).e 10 [3,2,1,0,4,5,6,7,8,9])) ?_)
 refine lC 4 AM R (Z2y_ok B) R ?_
 rintro ⟨⟨a5,ai,Y⟩,⟨E,ag,a3⟩,⟨L,ah,a7⟩,⟨T,ac,a0⟩⟩
 refine aL 0 aB ?_
 rintro rfl
 refine aL 1 aB ?_
 rintro rfl
 refine aL 2 aB ?_
 rintro rfl
 refine aL 3 aB ?_
 rintro rfl
 refine bA 9 aB (show 0<(List.replicate (g.length:Int).toNat zT54.z).length by have:=q; omega) (fun ab o42 ha=>?_)
 subst ha
 refine bU ?_
 refine lM _ (fun w s=>(s.f 10 [9,1,0,9])) ?_
 refine eA (K:=dA) (x':=j) 4 i R R jE R R q.1 q.2 ?_ ?_
 exact fun I h s=>(pd).put I h ((),(sc a5 j.Args Y),(sc E j.Dims a3),(sc L j.Ints a7),(),(sc T j.Data a0)) j s
 refine cV ?_
 cases b
 exact qA () (tE 6 [0])
 refine aP ?_
 cases b
 obtain rfl:=M _ R
 have b:=a4
 refine aU ?_
 exact qI (F,()) b tI
 rintro ⟨aj,_⟩ σ1 b
 dsimp only [Z0r_J1] at b
 refine dG ?_
 cases b
 exact qF (A4,(List.replicate (g.length:Int).toNat zT54.z).length,D4) (tE 2 [0])
theorem Z1b_ok  {a:Graph}{r:Graph}(e:Z1b a=some r) :
 FnOk Tryz.prog 11 [(.agg [(.slice A2 N2 D2),(.slice A3 N3 D3)].toArray)] [aN jM (.slice A2 N2 D2) a.Nodes,aN kT3 (.slice A3 N3 D3) a.Outs] (fun (h:HH×HH)=>((.agg [(s3 h.1),(s3 h.2)].toArray),[ow dA 54 (s3 h.1) r.Nodes,ow kT3 3 (s3 h.2) r.Outs])):=by
 unfold Z1b at e
 refine aQ Tryz.func11 R 13 R R fun C V=>?_
 refine cL 0 aA ?_
 rintro rfl
 refine cL 1 aA ?_
 rintro rfl
 let m:=RR jM A2 D2 a.Nodes::RR kT3 A3 D3 a.Outs::V
 refine cN m ?_
 refine aU ?_
 refine eF R fun B=>?_
 refine bF R R wN (fun u=>(aC ?_))
 let j:=aJ B [(sc A2 a.Nodes D2),(sc A3 a.Outs D3)] 25::m
 refine aP ?_
 refine bF R R wN (fun q=>(aC (aI (aO ?_))))
 obtain ⟨i,l,e⟩:=bd e
 refine aP ?_
 refine lM _ (fun w s=>(s.d 3 R)) ?_
 refine lC 1 AN R (Z0r_ok l) R ?_
 rintro ⟨A9,N9,D9⟩
 refine aL 0 aB ?_
 rintro rfl
 refine bU ?_
 refine cK 1 R R yx R R R R R (lN (_::aJ q [(sc A9 i D9),(.slice none 0 0)] 30::_::j) ?_)
 refine aP ?_
 obtain ⟨b,g,e⟩:=bd e
 refine aP ?_
 refine lM _ (fun w s=>(s.d 5 R)) ?_
 refine lC 1 sr R (Z07_ok g) R ?_
 rintro ⟨A12,N12,D12⟩
 refine aL 0 aB ?_
 rintro rfl
 refine bU ?_
 refine cK 2 R R fK R R R R R (lN (_::_::aJ q [(sc A9 i D9),(sc A12 b D12)] 30::_::j) ?_)
 refine bZ ?_
 refine aK 3 R R su R R R R R R (lN (_::_::_::aJ u [(sc A9 i D9),(sc A12 b D12)] 30::j) ?_)
 refine aP ?_
 cases e
 exact qS ((A9,i.length,D9),(A12,b.length,D12)) (tE 7 [1,0])
theorem eV  {b e:aM}{mG:Int}{r:Int}(a:cI b e=some r) :
 FnOk Tryz.prog 162 [(aD b),(aD e)] [gl 0 mG] (fun (_:Unit)=>((iv r),[])):=by
 unfold cI at a
 obtain ⟨g,a⟩:=gd a
 obtain rfl:=so a
 exact yh fun w h=>Tryz.stringslite_Index ⟨b.toArray⟩ ⟨e.toArray⟩ mG w (by simpa [ByteArray.size] using g) h
theorem Z2d_ok  {p1:aM}{a:aM}{mG:Int}{r:Int}(b:Z2d p1 a=some r) :
 FnOk Tryz.prog 154 [(aD p1),(aD a)] [gl 0 mG] (fun (h:Unit)=>((iv r),[])):=by
 unfold Z2d at b
 refine aQ Tryz.func154 R 8 R R fun C V=>?_
 let g:=gl 0 mG::V
 refine cN g ?_
 refine bT ?_
 obtain ⟨i,e,b⟩:=bd b
 refine aE (lO (vp (aD p1) R) (lO (vp (aD a) R) (lM _ (fun w s=>(s.dg 0 R)) ?_)))
 refine lC 1 vK R (eV e) R ?_
 rintro _
 refine lN g ?_
 refine bG ?_
 cases b
 exact qF () (tE 1 [])
theorem Z3t_ok  {p1:aM}{a:aM}{mG:Int}{r:Bool}(b:Z3t p1 a=some r) :
 FnOk Tryz.prog 136 [(aD p1),(aD a)] [gl 0 mG] (fun (h:Unit)=>((.bool r),[])):=by
 unfold Z3t at b
 refine aQ Tryz.func136 R 9 R R fun C V=>?_
 let g:=gl 0 mG::V
 refine cN g ?_
 refine bT ?_
 obtain ⟨i,e,b⟩:=bd b
 refine aE (lO (vp (aD p1) R) (lO (vp (aD a) R) (lM _ (fun w s=>(s.dg 0 R)) ?_)))
 refine lC 1 vL R (Z2d_ok e) R ?_
 rintro _
 refine lN g ?_
 refine bZ ?_
 cases b
 exact qF () (tE 1 [])
theorem Z13_ok  {e:(List Int)}{g:(List Int)}{r:Bool}(b:Z13 e g=some r) :
 FnOk Tryz.prog 199 [(.slice A2 N2 D2),(.slice A4 N4 D4)] [aN kT3 (.slice A2 N2 D2) e,aN kT3 (.slice A4 N4 D4) g] (fun (h:Unit)=>((.bool r),[])):=by
 unfold Z13 at b
 refine aQ Tryz.func199 R 26 R R fun C V=>?_
 refine cL 0 aA ?_
 rintro rfl
 refine cL 1 aA ?_
 rintro rfl
 let q:=RR kT3 A2 D2 e::RR kT3 A4 D4 g::V
 refine cN q ?_
 refine oj ?_
 split at b
 refine cV ?_
 cases b
 exact qF () (tE 2 [])
 refine bG ?_
 refine aZ (A:=(Unit)×(Unit)) (fun a=>Z13_J1=some r) (fun a=>[]) (fun a=>q) ?_ ?_
 refine cV ?_
 obtain ⟨J,B,j⟩:=bd b
 refine bD (A:=Unit) B (fun s a=>[(0,(sc A2 e D2)),(1,(sc A4 g D4)),(12,(il e)),(13,(iv s))]) (fun s a=>q) () (aS R) tI ?_
 rintro F _ σ1 D b m
 dsimp only [Z13_L1] at b
 refine bT ?_
 split at b
 refine hH ?_
 obtain ⟨l,b⟩:=gd b
 obtain ⟨i,b⟩:=gd b
 refine bB 0 aA (show 0<e.length by have:=l; omega) (fun G o18 u=>?_)
 subst u
 refine bB 1 aA (show 0<g.length by have:=i; omega) (fun E o21 u=>?_)
 subst u
 refine dF 9 [] bP fun I L=>?_
 refine vr 0 [] ?_
 refine dD (aI ?_)
 split at b
 refine cU ?_
 cases b
 obtain rfl:=m _ R
 have b:=j
 refine aP ?_
 cases b
 exact qF () (tE 2 [])
 refine cV ?_
 cases b
 exact qA () tI
 refine aP ?_
 cases b
 obtain rfl:=m _ R
 have b:=j
 refine aU ?_
 exact cS ((),()) b trivial tI
 rintro ⟨_,_⟩ σ1 b
 dsimp only [Z13_J1] at b
 refine bT ?_
 cases b
 exact qF () (tE 2 [])
theorem iy  {p1:aM}{a:aM}{mG:Int}{r:aM×aM×Bool}(b:dX p1 a=some r) :
 FnOk Tryz.prog 212 [(aD p1),(aD a)] [gl 0 mG] (fun (h:Unit)=>((.tuple [(aD r.1),(aD r.2.1),(.bool r.2.2)].toArray),[])):=by
 unfold dX at b
 refine aQ Tryz.func212 R 23 R R fun C V=>?_
 let l:=gl 0 mG::V
 refine cN l ?_
 refine aU ?_
 refine lO (vp (aD ([]:aM)) R) (lO (vp (aD ([]:aM)) R) ?_)
 refine bZ ?_
 obtain ⟨i,j,b⟩:=bd b
 refine aE (lO (vp (aD p1) R) (lO (vp (aD a) R) (lM _ (fun w s=>(s.dg 0 R)) ?_)))
 refine lC 1 vK R (eV j) R ?_
 rintro _
 refine lN l ?_
 refine cU ?_
 split at b
 refine aU ?_
 obtain ⟨e,b⟩:=gd b
 obtain ⟨g,b⟩:=gd b
 refine dF 12 [] bP fun q m=>?_
 refine dR 0 R (vp (aD p1) R) (dR 1 R (vI R) (dR 2 R (vz (aD (sub p1 (0:Int) i)) (hM (0:Int) i fJ R R R e.1 e.2.1 e.2.2)) (dR 3 R (vp (aD p1) R) (dR 4 R (vI R) (dR 5 R (vp (aD a) R) (dR 6 R (vz (il a) (dN fJ R)) (dR 7 R (kW R R) (dR 8 R (vz (aD (sub p1 (aH (i+(a.length:Int))) (p1.length:Int))) (hM (aH (i+(a.length:Int))) (p1.length:Int) fJ R R R g.1 g.2.1 g.2.2)) (dR 9 R (vp (aD (sub p1 (0:Int) i)) R) (dR 10 R (vp (aD (sub p1 (aH (i+(a.length:Int))) (p1.length:Int))) R) (dR 11 R (vB R) (dD ?_))))))))))))
 refine aP ?_
 cases b
 exact hW () (tE 1 [])
 refine bZ ?_
 refine lO (vp (aD p1) R) (lO (vp (aD p1) R) (lO (vp (aD ([]:aM)) R) ?_))
 refine bG ?_
 cases b
 exact hW () (tE 1 [])
theorem Z32_ok  {p1:aM}{a:aM}{mG:Int}{r:aM×aM×Bool}(b:Z32 p1 a=some r) :
 FnOk Tryz.prog 210 [(aD p1),(aD a)] [gl 0 mG] (fun (h:Unit)=>((.tuple [(aD r.1),(aD r.2.1),(.bool r.2.2)].toArray),[])):=by
 unfold Z32 at b
 refine aQ Tryz.func210 R 13 R R fun C V=>?_
 let i:=gl 0 mG::V
 refine cN i ?_
 refine aU ?_
 refine lO (vp (aD ([]:aM)) R) (lO (vp (aD ([]:aM)) R) ?_)
 refine bG ?_
 obtain ⟨e,g,b⟩:=bd b
 refine aE (lO (vp (aD p1) R) (lO (vp (aD a) R) (lM _ (fun w s=>(s.dg 0 R)) ?_)))
 refine lC 1 z7 R (iy g) R ?_
 rintro _
 refine lN i ?_
 refine lO (vp (aD e.1) R) (lO (vp (aD e.2.1) R) (lB R (lO (vp (aD e.1) R) (lO (vp (aD e.2.1) R) ?_))))
 refine bG ?_
 cases b
 exact hW () (tE 1 [])
theorem Z3c_ok  {b e:aM}{r:Int}(a:Z3c b e=some r) :
 FnOk Tryz.prog 215 [(aD b),(aD e)] [] (fun (_:Unit)=>((iv r),[])):=by
 unfold Z3c at a
 split at a
 ·rename_i c
  obtain rfl:=so a
  exact qa fun w=>Tryz.strings_Count_one ⟨b.toArray⟩ c w
 ·cases a
theorem Z0l_ok  {p1:aM}{j:aM}{b:Int}{n4:Int}{mG:Int}{r:(List aM)}(g:Z0l p1 j b n4=some r) :
 FnOk Tryz.prog 213 [(aD p1),(aD j),(iv b),(iv n4)] [gl 0 mG] (fun (h:HH)=>((s3 h),[aN dO (s3 h) r])):=by
 unfold Z0l at g
 refine aQ Tryz.func213 R 66 R R fun C V=>?_
 let U:=gl 0 mG::V
 refine cN U ?_
 refine hH ?_
 rcases cO g with ⟨_,g⟩|⟨_,g⟩
 refine cV ?_
 cases g
 exact qF (none,0,0) (fun w s=>((s.nilr dO).e 2 [0]))
 refine bT ?_
 refine lO (vp (aD j) R) (lO (vz (.bool (j==([]:aM))) (jd R R R)) ?_)
 refine aU ?_
 rcases cO g with ⟨_,g⟩|⟨_,g⟩
 refine bU ?_
 cases g
 refine bG ?_
 refine aZ (A:=(Int)×(Unit)) (fun a=>Z0l_J2 p1 j b a.1=some r) (fun a=>[(0,(aD p1)),(1,(aD j)),(2,(iv b)),(3,(iv a.1))]) (fun a=>U) ?_ ?_
 refine bT ?_
 rcases cO g with ⟨_,g⟩|⟨_,g⟩
 refine bU ?_
 obtain ⟨r8,a1,g⟩:=bd g
 refine aE (lO (vp (aD p1) R) (lO (vp (aD j) R) (lC 0 za R (Z3c_ok a1) R ?_)))
 rintro _
 refine aP ?_
 exact qI ((aH (r8+1)),()) g tI
 refine aU ?_
 exact qI (n4,()) g tI
 rintro ⟨i,_⟩ σ1 g
 dsimp only [Z0l_J2] at g
 refine aP ?_
 refine lO (vp (aD p1) R) (lO (vz (il p1) (dN fJ R)) (lO (kW R R) (lO (vz (iv (if (aH ((p1.length:Int)+1))<i then (aH ((p1.length:Int)+1)) else i)) (vo R R)) ?_)))
 refine bG ?_
 obtain ⟨D,g⟩:=gd g
 refine aU ?_
 refine fI (K:=dO) (m:=(if (aH ((p1.length:Int)+1))<i then (aH ((p1.length:Int)+1)) else i)) (z:=([]:aM)) R R lq qZ BP (Zr.zk zT9 yE) (by decide) R R D.1 D.2.1 D.2.2 (fun A12 D12=>(lS R (aC (aI (aO (aE (lI R (lO (wu R R) (lI R (aC (aI (aO (aE (lI R (aC (aI (aO (aZ (A:=(aM×(List aM)×Int)×(Unit)) (fun a=>Z0l_J3 p1 i a.1.1 a.1.2.1 a.1.2.2=some r) (fun a=>[(0,(aD a.1.1)),(9,(sc A12 (List.replicate (if (aH ((p1.length:Int)+1))<i then (aH ((p1.length:Int)+1)) else i).toNat ([]:aM)) D12)),(10,(iv a.1.2.2))]) (fun a=>ow dO 9 (.slice A12 (List.replicate (if (aH ((p1.length:Int)+1))<i then (aH ((p1.length:Int)+1)) else i).toNat ([]:aM)).length D12) a.1.2.1::U) ?_ ?_))))))))))))))))))
 refine bU ?_
 obtain ⟨e1,a7,a0⟩:=bd g
 refine bD (A:=Unit) a7 (fun s a=>[(0,(aD s.1)),(1,(aD j)),(2,(iv b)),(3,(iv (aH ((if (aH ((p1.length:Int)+1))<i then (aH ((p1.length:Int)+1)) else i) - 1)))),(9,(sc A12 (List.replicate (if (aH ((p1.length:Int)+1))<i then (aH ((p1.length:Int)+1)) else i).toNat ([]:aM)) D12)),(10,(iv s.2.2))]) (fun s a=>ow dO 9 (.slice A12 (List.replicate (if (aH ((p1.length:Int)+1))<i then (aH ((p1.length:Int)+1)) else i).toNat ([]:aM)).length D12) s.2.1::U) () (aS R) tI ?_
 rintro ⟨l,T,O⟩ _ σ1 a8 g Z
 dsimp only [Z0l_L1] at g
 refine cV ?_
 rcases cO g with ⟨_,g⟩|⟨_,g⟩
 refine bZ ?_
 obtain ⟨q,Y,g⟩:=bd g
 refine aE (lO (vp (aD l) R) (lO (vp (aD j) R) (lM (gl 0 mG::ow dO 9 (.slice A12 (List.replicate (if (aH ((p1.length:Int)+1))<i then (aH ((p1.length:Int)+1)) else i).toNat ([]:aM)).length D12) T::U) (fun w s=>(s.dg 1 R)) ?_)))
 refine lC 1 vL R (Z2d_ok Y) R ?_
 rintro _
 refine cP ?_
 rcases cO g with ⟨_,g⟩|⟨_,g⟩
 refine aP ?_
 refine rJ R ?_
 cases g
 obtain rfl:=Z _ R
 have g:=a0
 refine aU ?_
 exact qI ((l,T,O),()) g tI
 refine bG ?_
 obtain ⟨B,g⟩:=gd g
 obtain ⟨F,g⟩:=gd g
 refine aP ?_
 refine lO (vp (aD l) R) ?_
 refine aP ?_
 refine lO (vz (aD (sub l (0:Int) (aH (q+b)))) (hM (0:Int) (aH (q+b)) fJ R R R B.1 B.2.1 B.2.2)) (bA 0 aB (show 0<(List.replicate (if (aH ((p1.length:Int)+1))<i then (aH ((p1.length:Int)+1)) else i).toNat ([]:aM)).length by have:=F; omega) (fun a5 o34 ha=>?_))
 subst ha
 refine bU ?_
 refine eA (K:=dO) (x':=(sub l (0:Int) (aH (q+b)))) 0 O R R qZ R R F.1 F.2 ?_ ?_
 exact fun I h s=>(xX).put I h () (sub l (0:Int) (aH (q+b))) s
 refine bU ?_
 obtain ⟨a3,u,g⟩:=bd g
 replace u:=Option.some.inj u
 refine qM (ow dO 9 (.slice (ad a5 o34) (List.replicate (if (aH ((p1.length:Int)+1))<i then (aH ((p1.length:Int)+1)) else i).toNat ([]:aM)).length D12) a3::U) (fun w s=>by rw [← u]; exact s) ?_
 refine aU ?_
 obtain ⟨J,g⟩:=gd g
 refine aE (lO (vp (aD l) R) (lI R (lO (vp (aD j) R) (lO (vz (il j) (dN fJ R)) (lO (kW R R) (lO (vz (aD (sub l (aH (q+(j.length:Int))) (l.length:Int))) (hM (aH (q+(j.length:Int))) (l.length:Int) fJ R R R J.1 J.2.1 J.2.2)) (lO (vp (aD (sub l (aH (q+(j.length:Int))) (l.length:Int))) R) ?_)))))))
 refine cV ?_
 cases g
 exact qA () tI
 refine aP ?_
 cases g
 obtain rfl:=Z _ R
 have g:=a0
 refine aU ?_
 exact qI ((l,T,O),()) g tI
 rintro ⟨⟨M,a2,L⟩,_⟩ σ1 g
 dsimp only [Z0l_J3] at g
 refine bU ?_
 obtain ⟨G,g⟩:=gd g
 refine aP ?_
 refine lO (vp (aD M) R) (bA 0 aB (show 0<(List.replicate (if (aH ((p1.length:Int)+1))<i then (aH ((p1.length:Int)+1)) else i).toNat ([]:aM)).length by have:=G; omega) (fun a9 o46 ha=>?_))
 subst ha
 refine bU ?_
 refine eA (K:=dO) (x':=M) 0 L R R qZ R R G.1 G.2 ?_ ?_
 exact fun I h s=>(xX).put I h () M s
 refine aP ?_
 obtain ⟨E,g⟩:=gd g
 refine bG ?_
 refine iP (fun w s=>s.shr 0 R) (gC (K:=dO) (0:Int) (aH (L+1)) 0 R R lq qZ R R R R E.1 E.2.1 E.2.2 (fun a6 a4=>(lS R (aC (aI (bY ?_))))))
 cases g
 exact qF (a6,(sub (a2.set L.toNat M) (0:Int) (aH (L+1))).length,a4) (tE 3 [0])
theorem Z33_ok  {p1:aM}{a:aM}{mG:Int}{r:(List aM)}(b:Z33 p1 a=some r) :
 FnOk Tryz.prog 211 [(aD p1),(aD a)] [gl 0 mG] (fun (h:HH)=>((.slice h.1 h.2.1 h.2.2),[aN dO (.slice h.1 h.2.1 h.2.2) r])):=by
 unfold Z33 at b
 refine aQ Tryz.func211 R 8 R R fun C V=>?_
 refine cN (_::V) ?_
 let g:List HP:=gl 0 mG::V
 refine cN g ?_
 refine aO (aE (lS R (aC (aI (aO ?_)))))
 obtain ⟨j,i,b⟩:=bd b
 refine aE (lO (vp (aD p1) R) (lO (vp (aD a) R) (lM (gl 0 mG::g) (fun w s=>(s.dg 0 R)) ?_)))
 refine lC 1 zb R (Z0l_ok i) R ?_
 rintro ⟨A5,N5,D5⟩
 refine lN (aN dO (.slice A5 N5 D5) j::g) ?_
 refine aL 0 aA ?_
 rintro rfl
 refine lS R (aC (aI (bY ?_)))
 obtain rfl:=so b
 exact qF (A5,j.length,D5) (fun w s=>(s.e 2 [0]))
theorem gE  {a:aM}{b:Int}{r:Int}(e:dB a b=some r) :
 FnOk Tryz.prog 171 [(aD a),(.int .u8 b)] [] (fun (_:Unit)=>((iv r),[])):=by
 unfold dB at e
 obtain rfl:=so e
 exact qa fun w=>Tryz.stringslite_IndexByte ⟨a.toArray⟩ b w
theorem Z1v_ok  {p1:aM}{e:Int}{r:Int}(a:Z1v p1 e=some r) :
 FnOk Tryz.prog 208 [(aD p1),(.int .u8 e)] [] (fun (h:Unit)=>((iv r),[])):=by
 unfold Z1v at a
 refine aQ Tryz.func208 R 8 R R fun C V=>?_
 refine cN V ?_
 refine bT ?_
 obtain ⟨g,b,a⟩:=bd a
 refine aE (lO (vp (aD p1) R) (lI R (lC 0 ze R (gE b) R ?_)))
 rintro _
 refine bG ?_
 cases a
 exact qF () tI
theorem Zp_ok {g:List Int}{a:Option Addr}{b e:Nat}{r:(List Int)}(l:Zp g=some r) :
  FnOk Tryz.prog 64 [(.slice a b e)] [aN kT3 (.slice a b e) g] (fun (h:(Option Addr×Nat×Nat))=>((s3 h),[ow kT3 3 (s3 h) r])):=by
 unfold Zp at l
 obtain ⟨B,l⟩:=gd l
 obtain rfl:=Option.some.inj l
 refine aQ Tryz.func64 rfl 8 rfl rfl fun C V=>(yb (V':=aN kT3 (.slice a b e) g::V) tI (bJ 0 aA (fun (u:b=g.length)=>?_)))
 subst u
 refine aU ?_
 refine lS rfl ?_
 refine bZ ?_
 refine lS rfl (rT (.bool a.isNone) (wm bI rfl rfl) rfl rfl (aC (aI ?_)))
 rcases Bool.eq_false_or_eq_true a.isNone with m | m
 ·refine cC rfl m ?_
  refine wt 0 aA m (fun (E:g=[])=>?_)
  subst E
  refine aU ?_
  refine lS rfl ?_
  refine bG ?_
  exact dI (vs:=[(.slice none 0 0)]) (.inl rfl) (none,0,0) rfl ⟨rfl,trivial⟩ rfl (fun w s=>((s.nilo kT3 3).sel 2 [0] rfl rfl))
 ·refine bM rfl m (dE (aI ?_))
  refine aU ?_
  refine bK (K:=kT3) (xs:=([]:List Int)) (vs:=[]) 0 rfl rfl bI cB f' rfl rfl rfl rfl rfl rfl ?_ rfl (fun D q=>?_)
  ·exact fun I h s=>(fZ).list [] I h s
  refine lS rfl (eB (K:=kT3) 17592186044416 rfl rfl bI cB jZ (Zr.zk zT3 f') rfl rfl rfl rfl rfl rfl (rO (Kind.scal_flat _ _)) (by simpa using B) (fun i j=>(lS rfl (aC (aI (bY ?_))))))
  exact dI (vs:=[(.slice i g.length j)]) (.inl rfl) (i,g.length,j) rfl ⟨rfl,trivial⟩ rfl tI
theorem Z0p_ok  {p1:(List Int)}{v3:Int}{r:Int}(b:Z0p p1 v3=some r) :
 FnOk Tryz.prog 100 [(.slice A2 N2 D2),(iv v3)] [aN kT3 (.slice A2 N2 D2) p1] (fun (h:Unit)=>((iv r),[])):=by
 unfold Z0p at b
 refine aQ Tryz.func100 R 19 R R fun C V=>?_
 refine cL 0 aA ?_
 rintro rfl
 let j:=RR kT3 A2 D2 p1::V
 refine cN j ?_
 refine bT ?_
 refine aZ (A:=(Unit)×(Unit)) (fun a=>Z0p_J1=some r) (fun a=>[]) (fun a=>j) ?_ ?_
 refine cV ?_
 obtain ⟨B,l,e⟩:=bd b
 refine bD (A:=Unit) l (fun s a=>[(0,(sc A2 p1 D2)),(1,(iv v3)),(7,(il p1)),(8,(iv s))]) (fun s a=>j) () (aS R) tI ?_
 rintro D _ σ1 m b i
 dsimp only [Z0p_L1] at b
 refine bT ?_
 split at b
 refine hH ?_
 obtain ⟨g,b⟩:=gd b
 refine bG ?_
 refine bA 0 aA (show 0<p1.length by have:=g; omega) (fun q o13 u=>?_)
 subst u
 refine bZ ?_
 split at b
 refine cP ?_
 cases b
 obtain rfl:=i _ R
 have b:=e
 refine aP ?_
 cases b
 exact qF () (tE 1 [])
 refine cV ?_
 cases b
 exact qA () tI
 refine aP ?_
 cases b
 obtain rfl:=i _ R
 have b:=e
 refine aU ?_
 exact cS ((),()) b trivial tI
 rintro ⟨_,_⟩ σ1 b
 dsimp only [Z0p_J1] at b
 refine bT ?_
 cases b
 exact qF () (tE 1 [])
theorem Z2z_ok  {p1:(List Int)}{v3:Int}{r:Bool}(a:Z2z p1 v3=some r) :
 FnOk Tryz.prog 73 [(.slice A2 N2 D2),(iv v3)] [aN kT3 (.slice A2 N2 D2) p1] (fun (h:Unit)=>((.bool r),[])):=by
 unfold Z2z at a
 refine aQ Tryz.func73 R 9 R R fun C V=>?_
 refine cL 0 aA ?_
 rintro rfl
 let e:=RR kT3 A2 D2 p1::V
 refine cN e ?_
 refine bT ?_
 obtain ⟨g,b,a⟩:=bd a
 refine aP ?_
 refine lM _ (fun w s=>(s.d 0 R)) ?_
 refine lC 1 zM R (Z0p_ok b) R ?_
 rintro _
 refine lN e ?_
 refine bZ ?_
 cases a
 exact qF () (tE 1 [])
theorem Z17_ok  {p1:(List Int)}{r:Int}(b:Z17 p1=some r) :
 FnOk Tryz.prog 74 [(.slice A2 N2 D2)] [aN kT3 (.slice A2 N2 D2) p1] (fun (h:Unit)=>((iv r),[])):=by
 unfold Z17 at b
 refine aQ Tryz.func74 R 25 R R fun C V=>?_
 refine cL 0 aA ?_
 rintro rfl
 let g:=RR kT3 A2 D2 p1::V
 refine cN g ?_
 refine kj ?_
 split at b
 refine bU ?_
 cases b
 refine bG ?_
 obtain ⟨q,b⟩:=gd b
 refine aU ?_
 refine bA 0 aA (show 0<p1.length by have:=q; omega) (fun E o6 B=>?_)
 subst B
 refine bT ?_
 refine aZ (A:=(Int)×(Unit)) (fun a=>Z17_J1 a.1=some r) (fun a=>[(3,(iv a.1))]) (fun a=>g) ?_ ?_
 refine bT ?_
 obtain ⟨F,l,j⟩:=bd b
 refine bD (A:=Unit) l (fun s a=>[(0,(sc (ad E o6) p1 D2)),(3,(iv s.1)),(4,(iv s.2))]) (fun s a=>g) () (aS R) tI ?_
 rintro ⟨i,e⟩ _ σ1 u b m
 dsimp only [Z17_L1] at b
 refine cU ?_
 split at b
 refine bZ ?_
 obtain ⟨_,b⟩:=gd b
 refine bT ?_
 refine lO (vz (iv (if (ix p1 e)>i then (ix p1 e) else i)) (vn R R)) ?_
 refine cU ?_
 cases b
 exact qA () tI
 refine aP ?_
 cases b
 obtain rfl:=m _ R
 have b:=j
 refine aU ?_
 exact qI (i,()) b tI
 rintro ⟨D,_⟩ σ1 b
 dsimp only [Z17_J1] at b
 refine dG ?_
 cases b
 exact qF () (tE 1 [])
theorem Zx_ok  {g:(List Int)}{e:(List Int)}{r:Bool}(b:Zx g e=some r) :
 FnOk Tryz.prog 16 [(.slice A2 N2 D2),(.slice A4 N4 D4)] [aN kT3 (.slice A2 N2 D2) g,aN kT3 (.slice A4 N4 D4) e] (fun (h:Unit)=>((.bool r),[])):=by
 unfold Zx at b
 refine aQ Tryz.func16 R 26 R R fun C V=>?_
 refine cL 0 aA ?_
 rintro rfl
 refine cL 1 aA ?_
 rintro rfl
 let q:=RR kT3 A2 D2 g::RR kT3 A4 D4 e::V
 refine cN q ?_
 refine oj ?_
 split at b
 refine cV ?_
 cases b
 exact qF () (tE 2 [])
 refine bG ?_
 refine aZ (A:=(Unit)×(Unit)) (fun a=>Zx_J1=some r) (fun a=>[]) (fun a=>q) ?_ ?_
 refine bT ?_
 obtain ⟨J,B,j⟩:=bd b
 refine bD (A:=Unit) B (fun s a=>[(0,(sc A2 g D2)),(1,(sc A4 e D4)),(5,(iv s))]) (fun s a=>q) () (aS R) tI ?_
 rintro F _ σ1 D b m
 dsimp only [Zx_L1] at b
 refine cU ?_
 split at b
 refine bT ?_
 obtain ⟨l,b⟩:=gd b
 obtain ⟨i,b⟩:=gd b
 refine bB 0 aA (show 0<g.length by have:=l; omega) (fun G o18 u=>?_)
 subst u
 refine bB 1 aA (show 0<e.length by have:=i; omega) (fun E o21 u=>?_)
 subst u
 refine dF 9 [] bP fun I L=>?_
 refine vr 0 [] ?_
 refine dD (aI ?_)
 split at b
 refine cU ?_
 cases b
 obtain rfl:=m _ R
 have b:=j
 refine aP ?_
 cases b
 exact qF () (tE 2 [])
 refine cU ?_
 cases b
 exact qA () tI
 refine aP ?_
 cases b
 obtain rfl:=m _ R
 have b:=j
 refine aU ?_
 exact cS ((),()) b trivial tI
 rintro ⟨_,_⟩ σ1 b
 dsimp only [Zx_J1] at b
 refine bT ?_
 cases b
 exact qF () (tE 2 [])
theorem Z2j_ok  {b:Node}{g:Node}{r:Bool}(a:Z2j b g=some r) :
 FnOk Tryz.prog 60 [(.agg [(iv b.Op),(.slice A2 N2 D2),(.slice A3 N3 D3),(.slice A4 N4 D4),(aD b.Form),(.slice A5 N5 D5)].toArray),(.agg [(iv g.Op),(.slice A7 N7 D7),(.slice A8 N8 D8),(.slice A9 N9 D9),(aD g.Form),(.slice A10 N10 D10)].toArray)] [aN kT3 (.slice A2 N2 D2) b.Args,aN kT3 (.slice A3 N3 D3) b.Dims,aN kT3 (.slice A4 N4 D4) b.Ints,aN kT3 (.slice A5 N5 D5) b.Data,aN kT3 (.slice A7 N7 D7) g.Args,aN kT3 (.slice A8 N8 D8) g.Dims,aN kT3 (.slice A9 N9 D9) g.Ints,aN kT3 (.slice A10 N10 D10) g.Data] (fun (h:Unit)=>((.bool r),[])):=by
 unfold Z2j at a
 refine aQ Tryz.func60 R 39 R R fun C V=>?_
 refine cL 0 aA ?_
 rintro rfl
 refine cL 1 aA ?_
 rintro rfl
 refine cL 2 aA ?_
 rintro rfl
 refine cL 3 aA ?_
 rintro rfl
 refine cL 4 aA ?_
 rintro rfl
 refine cL 5 aA ?_
 rintro rfl
 refine cL 6 aA ?_
 rintro rfl
 refine cL 7 aA ?_
 rintro rfl
 let D:=RR kT3 A2 D2 b.Args::RR kT3 A3 D3 b.Dims::RR kT3 A4 D4 b.Ints::RR kT3 A5 D5 b.Data::RR kT3 A7 D7 g.Args::RR kT3 A8 D8 g.Dims::RR kT3 A9 D9 g.Ints::RR kT3 A10 D10 g.Data::V
 refine cN D ?_
 refine aU ?_
 refine eF R fun B=>?_
 refine eF R fun u=>?_
 refine aU ?_
 let q:=aJ u [(iv g.Op),(sc A7 g.Args D7),(sc A8 g.Dims D8),(sc A9 g.Ints D9),(aD g.Form),(sc A10 g.Data D10)] 54::aJ B [(iv b.Op),(sc A2 b.Args D2),(sc A3 b.Dims D3),(sc A4 b.Ints D4),(aD b.Form),(sc A5 b.Data D5)] 54::D
 refine qN q ?_
 refine hN ?_
 split at a
 refine cV ?_
 cases a
 exact qF () (tE 10 [])
 refine bZ ?_
 obtain ⟨I,l,a⟩:=bd a
 refine bZ ?_
 refine lM _ (fun w s=>(((s.d 2 R).d 7 R).e 2 [1,0])) ?_
 refine lC 2 oJ R (Zx_ok l) R ?_
 rintro _
 refine lN q ?_
 refine aP ?_
 split at a
 refine cV ?_
 cases a
 exact qF () (tE 10 [])
 refine bZ ?_
 obtain ⟨F,i,a⟩:=bd a
 refine bZ ?_
 refine lM _ (fun w s=>(((s.d 3 R).d 8 R).e 2 [1,0])) ?_
 refine lC 2 oJ R (Zx_ok i) R ?_
 rintro _
 refine lN q ?_
 refine aP ?_
 split at a
 refine cV ?_
 cases a
 exact qF () (tE 10 [])
 refine bZ ?_
 obtain ⟨E,m,a⟩:=bd a
 refine bZ ?_
 refine lM _ (fun w s=>(((s.d 4 R).d 9 R).e 2 [1,0])) ?_
 refine lC 2 oJ R (Zx_ok m) R ?_
 rintro _
 refine lN q ?_
 refine aP ?_
 split at a
 refine cV ?_
 cases a
 exact qF () (tE 10 [])
 refine cP ?_
 refine lO (vz (.bool (!(b.Form==g.Form))) (jd R R R)) ?_
 refine aU ?_
 split at a
 refine cV ?_
 cases a
 exact qF () (tE 10 [])
 refine bZ ?_
 obtain ⟨G,j,a⟩:=bd a
 refine bZ ?_
 refine lM _ (fun w s=>(((s.d 5 R).d 10 R).e 2 [1,0])) ?_
 refine lC 2 oJ R (Zx_ok j) R ?_
 rintro _
 refine lN q ?_
 refine aP ?_
 split at a
 refine cV ?_
 cases a
 exact qF () (tE 10 [])
 refine cU ?_
 cases a
 exact qF () (tE 10 [])
theorem Z1f_ok  {l:(List Node)}{i:(List Node)}{r:Bool}(g:Z1f l i=some r) :
 FnOk Tryz.prog 37 [(.slice A2 N2 D2),(.slice A4 N4 D4)] [aN dA (.slice A2 N2 D2) l,aN dA (.slice A4 N4 D4) i] (fun (h:Unit)=>((.bool r),[])):=by
 unfold Z1f at g
 refine aQ Tryz.func37 R 27 R R fun C V=>?_
 refine cL 0 aA ?_
 rintro rfl
 refine cL 1 aA ?_
 rintro rfl
 let U:=RR dA A2 D2 l::RR dA A4 D4 i::V
 refine cN U ?_
 refine oj ?_
 split at g
 refine cV ?_
 cases g
 exact qF () (tE 2 [])
 refine bG ?_
 refine aZ (A:=(Unit)×(Unit)) (fun a=>Z1f_J1=some r) (fun a=>[]) (fun a=>U) ?_ ?_
 refine bT ?_
 obtain ⟨e1,a5,u⟩:=bd g
 refine bD (A:=Unit) a5 (fun s a=>[(0,(sc A2 l D2)),(1,(sc A4 i D4)),(5,(iv s))]) (fun s a=>U) () (aS R) tI ?_
 rintro b _ σ1 a6 g q
 dsimp only [Z1f_L1] at g
 refine cU ?_
 split at g
 refine bT ?_
 obtain ⟨j,g⟩:=gd g
 obtain ⟨m,g⟩:=gd g
 obtain ⟨a7,B,g⟩:=bd g
 refine bB 0 aA (show 0<l.length by have:=j; omega) (fun a9 o28 ha=>?_)
 subst ha
 refine dL (K:=dA) 0 b dT54.dec R j.1 j.2 ?_
 rintro ⟨-,⟨L,D⟩,⟨a3,J⟩,⟨F,Z⟩,-,⟨I,O⟩⟩
 refine bB 6 aA (show 0<i.length by have:=m; omega) (fun a8 o35 ha=>?_)
 subst ha
 refine dL (K:=dA) 6 b dT54.dec R m.1 m.2 ?_
 rintro ⟨-,⟨a2,T⟩,⟨E,a0⟩,⟨G,a4⟩,-,⟨M,Y⟩⟩
 refine dF 10 [] bP fun ht hn=>?_
 refine hX 0 [] ?_
 refine dR 3 R (vz (.agg [(iv (ix l b).Op),(sc L ((ix l b).Args) D),(sc a3 ((ix l b).Dims) J),(sc F ((ix l b).Ints) Z),(aD (ix l b).Form),(sc I ((ix l b).Data) O)].toArray) (eE (fo:=0) 5 oz jE R R R R)) ?_
 refine hX 4 [] ?_
 refine dR 7 R (vz (.agg [(iv (ix i b).Op),(sc a2 ((ix i b).Args) T),(sc E ((ix i b).Dims) a0),(sc G ((ix i b).Ints) a4),(aD (ix i b).Form),(sc M ((ix i b).Data) Y)].toArray) (eE (fo:=0) 0 oz jE R R R R)) (d1 8 R (lM _ (fun w s=>(((((((((s.d 6 R).d 8 R).d 10 R).d 12 R).d 5 R).d 7 R).d 9 R).d 11 R).e 18 [7,6,5,4,3,2,1,0,8,9,10,11,12,13,14,15,16,17])) ?_))
 refine lC 8 Bd R (Z2j_ok B) R ?_
 rintro _
 refine aC (aG (sL []) (dR 9 R (rZ R) (dD (aI ?_))))
 split at g
 refine cU ?_
 cases g
 obtain rfl:=q _ R
 have g:=u
 refine aP ?_
 cases g
 exact qF () (tE 12 [])
 refine cU ?_
 cases g
 exact qA () (tE 10 [])
 refine aP ?_
 cases g
 obtain rfl:=q _ R
 have g:=u
 refine aU ?_
 exact cS ((),()) g trivial tI
 rintro ⟨_,_⟩ σ1 g
 dsimp only [Z1f_J1] at g
 refine bT ?_
 cases g
 exact qF () (tE 2 [])
theorem Z2i_ok  {b:Graph}{g:Graph}{r:Bool}(a:Z2i b g=some r) :
 FnOk Tryz.prog 13 [(.agg [(.slice A2 N2 D2),(.slice A3 N3 D3)].toArray),(.agg [(.slice A5 N5 D5),(.slice A6 N6 D6)].toArray)] [aN dA (.slice A2 N2 D2) b.Nodes,aN kT3 (.slice A3 N3 D3) b.Outs,aN dA (.slice A5 N5 D5) g.Nodes,aN kT3 (.slice A6 N6 D6) g.Outs] (fun (h:Unit)=>((.bool r),[])):=by
 unfold Z2i at a
 refine aQ Tryz.func13 R 17 R R fun C V=>?_
 refine cL 0 aA ?_
 rintro rfl
 refine cL 1 aA ?_
 rintro rfl
 refine cL 2 aA ?_
 rintro rfl
 refine cL 3 aA ?_
 rintro rfl
 let m:=RR dA A2 D2 b.Nodes::RR kT3 A3 D3 b.Outs::RR dA A5 D5 g.Nodes::RR kT3 A6 D6 g.Outs::V
 refine cN m ?_
 refine aU ?_
 refine eF R fun B=>?_
 refine eF R fun u=>?_
 refine aU ?_
 let l:=aJ u [(sc A5 g.Nodes D5),(sc A6 g.Outs D6)] 30::aJ B [(sc A2 b.Nodes D2),(sc A3 b.Outs D3)] 30::m
 refine qN l ?_
 refine aP ?_
 obtain ⟨D,j,a⟩:=bd a
 refine bZ ?_
 refine lM _ (fun w s=>(((s.d 2 R).d 5 R).e 2 [1,0])) ?_
 refine lC 2 Be R (Z1f_ok j) R ?_
 rintro _
 refine lN l ?_
 refine aP ?_
 split at a
 refine cV ?_
 cases a
 exact qF () (tE 6 [])
 refine bZ ?_
 obtain ⟨q,i,a⟩:=bd a
 refine bZ ?_
 refine lM _ (fun w s=>(((s.d 3 R).d 6 R).e 2 [1,0])) ?_
 refine lC 2 oJ R (Zx_ok i) R ?_
 rintro _
 refine lN l ?_
 refine aP ?_
 split at a
 refine cV ?_
 cases a
 exact qF () (tE 6 [])
 refine cU ?_
 cases a
 exact qF () (tE 6 [])
theorem Zv_ok  {g:(List Int)}{u:Int}{r:Int×(List Int)}(b:Zv g u=some r) :
 FnOk Tryz.prog 18 [(.slice A2 N2 D2),(iv u)] [ow kT3 3 (.slice A2 N2 D2) g] (fun (h:Unit)=>((iv r.1),[ow kT3 3 (.slice A2 N2 D2) r.2])):=by
 unfold Zv at b
 refine aQ Tryz.func18 R 19 R R fun C V=>?_
 refine cL 0 aB ?_
 rintro rfl
 refine bT ?_
 refine aZ (A:=(Int×(List Int))×(Unit)) (fun a=>Zv_J1 a.1.1 a.1.2=some r) (fun a=>[(1,(iv a.1.1))]) (fun a=>ow kT3 3 (.slice A2 g.length D2) a.1.2::V) ?_ ?_
 refine bT ?_
 obtain ⟨L,l,j⟩:=bd b
 refine bD (A:=Unit) l (fun s a=>[(0,(sc A2 g D2)),(1,(iv s.2.1)),(5,(iv s.2.2))]) (fun s a=>ow kT3 3 (.slice A2 g.length D2) s.1::V) () (aS R) tI ?_
 rintro ⟨J,i,q⟩ _ σ1 B b m
 dsimp only [Zv_L1] at b
 refine cU ?_
 split at b
 refine bT ?_
 obtain ⟨e,b⟩:=gd b
 refine bG ?_
 refine bA 0 aB (show 0<g.length by have:=e; omega) (fun D o14 E=>?_)
 subst E
 refine bU ?_
 refine eA (K:=kT3) (x':=i) 0 q R R cB R R e.1 e.2 ?_ ?_
 exact fun I h s=>(fZ).put I h () i s
 refine oi ?_
 cases b
 exact qA () tI
 refine aP ?_
 cases b
 obtain rfl:=m _ R
 have b:=j
 refine aU ?_
 exact qI ((i,J),()) b tI
 rintro ⟨⟨G,F⟩,_⟩ σ1 b
 dsimp only [Zv_J1] at b
 refine dG ?_
 cases b
 exact qF () tI
theorem Z0o_ok  {k1:Int}{r:aM}(b:Z0o k1=some r) :
 FnOk Tryz.prog 61 [(iv k1)] [] (fun (h:Unit)=>((aD r),[])):=by
 unfold Z0o at b
 refine aQ Tryz.func61 R 20 R R fun C V=>?_
 refine cN V ?_
 refine aU ?_
 refine lO (vp (aD ([]:aM)) R) ?_
 refine cU ?_
 split at b
 refine aP ?_
 refine lO (vp (aD yt) R) ?_
 refine bG ?_
 cases b
 exact qF () tI
 refine bZ ?_
 refine lO (vp (aD ([]:aM)) R) ?_
 refine aP ?_
 refine aZ (A:=(aM)×(Unit)) (fun a=>Z0o_J1 a.1=some r) (fun a=>[(3,(aD a.1))]) (fun a=>V) ?_ ?_
 refine bU ?_
 obtain ⟨D,q,m⟩:=bd b
 refine bD (A:=Unit) q (fun s a=>[(0,(iv s.1)),(3,(aD s.2))]) (fun s a=>V) () (aS R) tI ?_
 rintro ⟨e,l⟩ _ σ1 B b u
 dsimp only [Z0o_L1] at b
 refine dG ?_
 split at b
 refine bZ ?_
 obtain ⟨i,b⟩:=gd b
 refine aU ?_
 refine lO (pX R R (by decide)) (lO (kW R R) (lO (vz (.int .u8 (IntKind.wrap .u8 ((aH ((48:Int)+(e.tmod (10:Int))))))) (wd un3 BQ R)) (bK (K:=BO) (xs:=([(IntKind.wrap .u8 ((aH ((48:Int)+(e.tmod (10:Int))))))]:List Int)) (vs:=[(.int .u8 (IntKind.wrap .u8 ((aH ((48:Int)+(e.tmod (10:Int)))))))]) 0 R R sF BR zc5 R R R R R R ?_ R (fun A9 D9=>?_))))
 exact fun I h s=>(mO5).list [((),(IntKind.wrap .u8 ((aH ((48:Int)+(e.tmod (10:Int)))))))] I h s
 refine lO (vz (aD (nv ([(IntKind.wrap .u8 ((aH ((48:Int)+(e.tmod (10:Int))))))]:List Int))) (yg 0 sF BQ fJ aB R)) (lO (vp (aD l) R) (lO (vz (aD ((nv ([(IntKind.wrap .u8 ((aH ((48:Int)+(e.tmod (10:Int))))))]:List Int))++l)) (nl R R i)) (lO (vp (aD ((nv ([(IntKind.wrap .u8 ((aH ((48:Int)+(e.tmod (10:Int))))))]:List Int))++l)) R) ?_)))
 refine bG ?_
 refine lO (vz (iv (aH (e.tdiv (10:Int)))) (mf R R (by decide))) ?_
 refine aP ?_
 cases b
 exact qA () (tE 1 [])
 refine aP ?_
 cases b
 obtain rfl:=u _ R
 have b:=m
 refine aU ?_
 exact qI (l,()) b tI
 rintro ⟨g,_⟩ σ1 b
 dsimp only [Z0o_J1] at b
 refine bU ?_
 obtain ⟨j,b⟩:=gd b
 refine aE (lO (vp (aD g) R) (lO (vz (aD (str8++g)) (nl R R j)) (lO (vp (aD (str8++g)) R) ?_)))
 refine aP ?_
 cases b
 exact qF () tI
theorem Z0m_ok  {B:(List Node)}{k3:Int}{r:Int×(List Node)}(q:Z0m B k3=some r) :
 FnOk Tryz.prog 39 [(.slice A2 N2 D2),(iv k3)] [ow dA 54 (.slice A2 N2 D2) B] (fun (h:Unit)=>((iv r.1),[ow dA 54 (.slice A2 N2 D2) r.2])):=by
 unfold Z0m at q
 refine aQ Tryz.func39 R 56 R R fun C V=>?_
 refine cL 0 aB ?_
 rintro rfl
 refine bT ?_
 refine aZ (A:=(Int×(List Node))×(Unit)) (fun a=>Z0m_J1 a.1.1 a.1.2=some r) (fun a=>[(1,(iv a.1.1))]) (fun a=>ow dA 54 (.slice A2 B.length D2) a.1.2::V) ?_ ?_
 refine bT ?_
 obtain ⟨e1,bb,b9⟩:=bd q
 refine bD (A:=Unit) bb (fun s a=>[(0,(sc A2 B D2)),(1,(iv s.2.1)),(5,(iv s.2.2))]) (fun s a=>ow dA 54 (.slice A2 B.length D2) s.1::V) () (aS R) tI ?_
 rintro ⟨a46,Z,b⟩ _ σ1 bc q b8
 dsimp only [Z0m_L1] at q
 refine cU ?_
 split at q
 refine bT ?_
 obtain ⟨m,q⟩:=gd q
 refine bG ?_
 refine bA 0 aB (show 0<B.length by have:=m; omega) (fun u o52 ha=>?_)
 subst ha
 refine bU ?_
 refine lO (vz (.pointer (some ⟨u,o52+b.toNat*6,none⟩)) (jf ji R R)) (vm (K:=dA) (fo:=0) (v:=(iv Z)) (f:=(fun x:Node=>(⟨Z,x.Args,x.Dims,x.Ints,x.Form,x.Data⟩:Node))) 0 b R R cB ?_ R R R R m.1 m.2 ?_)
 exact SetL.deep qW pd (fun a x=>((),(.slice a.2.1.1 x.Args.length a.2.1.2),(.slice a.2.2.1.1 x.Dims.length a.2.2.1.2),(.slice a.2.2.2.1.1 x.Ints.length a.2.2.2.1.2),(),(.slice a.2.2.2.2.2.1 x.Data.length a.2.2.2.2.2.2))) R (fun _ _=>R) (fun _ _=>R)
 refine bU ?_
 obtain ⟨l,M,q⟩:=bd q
 replace M:=Option.some.inj M
 refine qM (ow dA 54 (.slice (ad u o52) B.length D2) l::V) (fun w s=>by rw [← M]; exact s) ?_
 refine cU ?_
 obtain ⟨Y,ao,q⟩:=bd q
 refine bG ?_
 refine lO (vz (.pointer (some ⟨u,o52+b.toNat*6+1,none⟩)) (jf mm R R)) (lU (K:=dA) qW 0 b R m.1 m.2 ?_)
 rintro ⟨-,⟨b0,ae⟩,⟨am,ai⟩,⟨ak,ar⟩,-,⟨az,ac⟩⟩
 refine lO (nr (fo:=1) 0 cJ R R R) (lI R (lM (ow _ _ _ _::u9 _ _ _ _ _ _::ow _ _ _ _::ow _ _ _ _::ow _ _ _ _::V) (tE 5 [1,0,2,3,4]) ?_))
 refine lC 1 r1 R (Zv_ok ao) R ?_
 rintro _
 refine aU ?_
 refine qM (ow dA 54 (.slice (ad u o52) B.length D2) (l.set b.toNat (⟨(ix l b).Op,Y.2,(ix l b).Dims,(ix l b).Ints,(ix l b).Form,(ix l b).Data⟩:Node))::V) (fun w s=>St.unfocus (E:=[ow kT3 3 (.slice b0 ((ix l b).Args).length ae) Y.2,OO kT3 3 am ai ((ix l b).Dims),OO kT3 3 ak ar ((ix l b).Ints),OO kT3 3 az ac ((ix l b).Data)]) (⟨(ix l b).Op,Y.2,(ix l b).Dims,(ix l b).Ints,(ix l b).Form,(ix l b).Data⟩:Node) (s.e 5 [1,0,2,3,4]) ?_) ?_
 exact fun I h s=>(pd).put I h ((),(sc b0 ((ix l b).Args) ae),(sc am ((ix l b).Dims) ai),(sc ak ((ix l b).Ints) ar),(),(sc az ((ix l b).Data) ac)) (⟨(ix l b).Op,Y.2,(ix l b).Dims,(ix l b).Ints,(ix l b).Form,(ix l b).Data⟩:Node) s
 obtain ⟨j,J,q⟩:=bd q
 replace J:=Option.some.inj J
 refine qM (ow dA 54 (.slice (ad u o52) B.length D2) j::V) (fun w s=>by rw [← J]; exact s) ?_
 refine aU ?_
 obtain ⟨O,ay,q⟩:=bd q
 refine bG ?_
 refine lO (vz (.pointer (some ⟨u,o52+b.toNat*6+2,none⟩)) (jf kl R R)) (lU (K:=dA) qW 0 b R m.1 m.2 ?_)
 rintro ⟨-,⟨ag,ab⟩,⟨a2,a7⟩,⟨b6,a8⟩,-,⟨a9,av⟩⟩
 refine lO (nr (fo:=2) 0 cJ R R R) (lI R (lM (ow _ _ _ _::u9 _ _ _ _ _ _::ow _ _ _ _::ow _ _ _ _::ow _ _ _ _::V) (tE 5 [2,0,1,3,4]) ?_))
 refine lC 1 r1 R (Zv_ok ay) R ?_
 rintro _
 refine aU ?_
 refine qM (ow dA 54 (.slice (ad u o52) B.length D2) (j.set b.toNat (⟨(ix j b).Op,(ix j b).Args,O.2,(ix j b).Ints,(ix j b).Form,(ix j b).Data⟩:Node))::V) (fun w s=>St.unfocus (E:=[OO kT3 3 ag ab ((ix j b).Args),ow kT3 3 (.slice a2 ((ix j b).Dims).length a7) O.2,OO kT3 3 b6 a8 ((ix j b).Ints),OO kT3 3 a9 av ((ix j b).Data)]) (⟨(ix j b).Op,(ix j b).Args,O.2,(ix j b).Ints,(ix j b).Form,(ix j b).Data⟩:Node) (s.e 5 [1,2,0,3,4]) ?_) ?_
 exact fun I h s=>(pd).put I h ((),(sc ag ((ix j b).Args) ab),(sc a2 ((ix j b).Dims) a7),(sc b6 ((ix j b).Ints) a8),(),(sc a9 ((ix j b).Data) av)) (⟨(ix j b).Op,(ix j b).Args,O.2,(ix j b).Ints,(ix j b).Form,(ix j b).Data⟩:Node) s
 obtain ⟨i,F,q⟩:=bd q
 replace F:=Option.some.inj F
 refine qM (ow dA 54 (.slice (ad u o52) B.length D2) i::V) (fun w s=>by rw [← F]; exact s) ?_
 refine aU ?_
 obtain ⟨T,b4,q⟩:=bd q
 refine bG ?_
 refine lO (vz (.pointer (some ⟨u,o52+b.toNat*6+3,none⟩)) (jf gT R R)) (lU (K:=dA) qW 0 b R m.1 m.2 ?_)
 rintro ⟨-,⟨an,b1⟩,⟨aj,a3⟩,⟨ax,aa⟩,-,⟨aq,au⟩⟩
 refine lO (nr (fo:=3) 0 cJ R R R) (lI R (lM (ow _ _ _ _::u9 _ _ _ _ _ _::ow _ _ _ _::ow _ _ _ _::ow _ _ _ _::V) (tE 5 [3,0,1,2,4]) ?_))
 refine lC 1 r1 R (Zv_ok b4) R ?_
 rintro _
 refine aU ?_
 refine qM (ow dA 54 (.slice (ad u o52) B.length D2) (i.set b.toNat (⟨(ix i b).Op,(ix i b).Args,(ix i b).Dims,T.2,(ix i b).Form,(ix i b).Data⟩:Node))::V) (fun w s=>St.unfocus (E:=[OO kT3 3 an b1 ((ix i b).Args),OO kT3 3 aj a3 ((ix i b).Dims),ow kT3 3 (.slice ax ((ix i b).Ints).length aa) T.2,OO kT3 3 aq au ((ix i b).Data)]) (⟨(ix i b).Op,(ix i b).Args,(ix i b).Dims,T.2,(ix i b).Form,(ix i b).Data⟩:Node) (s.e 5 [1,2,3,0,4]) ?_) ?_
 exact fun I h s=>(pd).put I h ((),(sc an ((ix i b).Args) b1),(sc aj ((ix i b).Dims) a3),(sc ax ((ix i b).Ints) aa),(),(sc aq ((ix i b).Data) au)) (⟨(ix i b).Op,(ix i b).Args,(ix i b).Dims,T.2,(ix i b).Form,(ix i b).Data⟩:Node) s
 obtain ⟨ba,D,q⟩:=bd q
 replace D:=Option.some.inj D
 refine qM (ow dA 54 (.slice (ad u o52) B.length D2) ba::V) (fun w s=>by rw [← D]; exact s) ?_
 refine aU ?_
 obtain ⟨a6,a4,q⟩:=bd q
 refine bG ?_
 refine lC 0 Bg R (Z0o_ok a4) R ?_
 rintro _
 refine bU ?_
 refine lO (vz (.pointer (some ⟨u,o52+b.toNat*6+4,none⟩)) (jf pg R R)) (vm (K:=dA) (fo:=4) (v:=(aD a6)) (f:=(fun x:Node=>(⟨x.Op,x.Args,x.Dims,x.Ints,a6,x.Data⟩:Node))) 0 b R R qZ ?_ R R R R m.1 m.2 ?_)
 exact SetL.deep qW pd (fun a x=>((),(.slice a.2.1.1 x.Args.length a.2.1.2),(.slice a.2.2.1.1 x.Dims.length a.2.2.1.2),(.slice a.2.2.2.1.1 x.Ints.length a.2.2.2.1.2),(),(.slice a.2.2.2.2.2.1 x.Data.length a.2.2.2.2.2.2))) R (fun _ _=>R) (fun _ _=>R)
 refine bU ?_
 obtain ⟨g,G,q⟩:=bd q
 replace G:=Option.some.inj G
 refine qM (ow dA 54 (.slice (ad u o52) B.length D2) g::V) (fun w s=>by rw [← G]; exact s) ?_
 refine cV ?_
 obtain ⟨U,al,q⟩:=bd q
 refine bG ?_
 refine lO (vz (.pointer (some ⟨u,o52+b.toNat*6+5,none⟩)) (jf nx R R)) (lU (K:=dA) qW 0 b R m.1 m.2 ?_)
 rintro ⟨-,⟨a5,aw⟩,⟨b5,b2⟩,⟨a0,b3⟩,-,⟨ap,ah⟩⟩
 refine lO (nr (fo:=5) 0 cJ R R R) (lI R (lM (ow _ _ _ _::u9 _ _ _ _ _ _::ow _ _ _ _::ow _ _ _ _::ow _ _ _ _::V) (fun w s=>(s.f 5 [4,1,0,4])) ?_))
 refine lC 1 r1 R (Zv_ok al) R ?_
 rintro _
 refine aU ?_
 refine qM (ow dA 54 (.slice (ad u o52) B.length D2) (g.set b.toNat (⟨(ix g b).Op,(ix g b).Args,(ix g b).Dims,(ix g b).Ints,(ix g b).Form,U.2⟩:Node))::V) (fun w s=>St.unfocus (E:=[OO kT3 3 a5 aw ((ix g b).Args),OO kT3 3 b5 b2 ((ix g b).Dims),OO kT3 3 a0 b3 ((ix g b).Ints),ow kT3 3 (.slice ap ((ix g b).Data).length ah) U.2]) (⟨(ix g b).Op,(ix g b).Args,(ix g b).Dims,(ix g b).Ints,(ix g b).Form,U.2⟩:Node) (s.f 5 [1,4,0,1]) ?_) ?_
 exact fun I h s=>(pd).put I h ((),(sc a5 ((ix g b).Args) aw),(sc b5 ((ix g b).Dims) b2),(sc a0 ((ix g b).Ints) b3),(),(sc ap ((ix g b).Data) ah)) (⟨(ix g b).Op,(ix g b).Args,(ix g b).Dims,(ix g b).Ints,(ix g b).Form,U.2⟩:Node) s
 obtain ⟨b7,L,q⟩:=bd q
 replace L:=Option.some.inj L
 refine qM (ow dA 54 (.slice (ad u o52) B.length D2) b7::V) (fun w s=>by rw [← L]; exact s) ?_
 refine dG ?_
 cases q
 exact qA () tI
 refine aP ?_
 cases q
 obtain rfl:=b8 _ R
 have q:=b9
 refine aU ?_
 exact qI ((Z,a46),()) q tI
 rintro ⟨⟨bf,be⟩,_⟩ σ1 q
 dsimp only [Z0m_J1] at q
 refine dG ?_
 cases q
 exact qF () tI
theorem Z26_ok  {b:Graph}{i:Int}{r:Int×(List Node)×(List Int)}(a:Z26 b i=some r) :
 FnOk Tryz.prog 17 [(.agg [(.slice A2 N2 D2),(.slice A3 N3 D3)].toArray),(iv i)] [ow dA 54 (.slice A2 N2 D2) b.Nodes,ow kT3 3 (.slice A3 N3 D3) b.Outs] (fun (h:Unit)=>((iv r.1),[ow dA 54 (.slice A2 N2 D2) r.2.1,ow kT3 3 (.slice A3 N3 D3) r.2.2])):=by
 unfold Z26 at a
 refine aQ Tryz.func17 R 14 R R fun C V=>?_
 refine cL 0 aB ?_
 rintro rfl
 refine cL 1 aB ?_
 rintro rfl
 refine aU ?_
 refine eF R fun j=>?_
 refine aU ?_
 refine qM _ (tE 3 [1,2,0]) ?_
 let q:=aJ j [(sc A2 b.Nodes D2),(sc A3 b.Outs D3)] 30::V
 refine aU ?_
 obtain ⟨l,g,a⟩:=bd a
 refine bG ?_
 refine lC 1 Bh R (Z0m_ok g) R ?_
 rintro _
 refine bG ?_
 obtain ⟨m,e,a⟩:=bd a
 refine bG ?_
 refine lM _ (tE 2 [1,0]) ?_
 refine lC 1 r1 R (Zv_ok e) R ?_
 rintro _
 refine cP ?_
 cases a
 exact qF () (tE 3 [1,0])
theorem Z0d_ok  {e:(List Int)}{q:Int}{r:Int}(b:Z0d e q=some r) :
 FnOk Tryz.prog 19 [(.slice A2 N2 D2),(iv q)] [aN kT3 (.slice A2 N2 D2) e] (fun (h:Unit)=>((iv r),[])):=by
 unfold Z0d at b
 refine aQ Tryz.func19 R 21 R R fun C V=>?_
 refine cL 0 aA ?_
 rintro rfl
 let l:=RR kT3 A2 D2 e::V
 refine cN l ?_
 refine bT ?_
 refine aZ (A:=(Int)×(Unit)) (fun a=>Z0d_J1 a.1=some r) (fun a=>[(1,(iv a.1))]) (fun a=>l) ?_ ?_
 refine bT ?_
 obtain ⟨I,m,g⟩:=bd b
 refine bD (A:=Unit) m (fun s a=>[(0,(sc A2 e D2)),(1,(iv s.1)),(5,(iv s.2))]) (fun s a=>l) () (aS R) tI ?_
 rintro ⟨B,G⟩ _ σ1 u b j
 dsimp only [Z0d_L1] at b
 refine cU ?_
 split at b
 refine dG ?_
 obtain ⟨i,b⟩:=gd b
 refine aP ?_
 refine bA 0 aA (show 0<e.length by have:=i; omega) (fun D o14 E=>?_)
 subst E
 refine bT ?_
 split at b
 refine cP ?_
 cases b
 obtain rfl:=j _ R
 have b:=g
 refine aP ?_
 cases b
 exact qF () (tE 1 [])
 refine oj ?_
 cases b
 exact qA () tI
 refine aP ?_
 cases b
 obtain rfl:=j _ R
 have b:=g
 refine aU ?_
 exact qI (B,()) b tI
 rintro ⟨F,_⟩ σ1 b
 dsimp only [Z0d_J1] at b
 refine dG ?_
 cases b
 exact qF () (tE 1 [])
end Go.Proofs.YtmpnollfdpdipaaGreat
