import Derived.Test.YtmpnollfdpdipaaGreatGkF
set_option linter.unusedVariables false
set_option maxRecDepth 20000
namespace Go.Proofs.YtmpnollfdpdipaaGreat
open Go Go.Pg
variable {A2 A3 A4 A5 A6 A7 A8 A9 A10:Option Addr}{D2 D3 D4 D5 D6 D7 D8 D9 D10 N2 N3 N4 N5 N6 N7 N8 N9 N10:Nat}
theorem Z1h_ok  {e:(List Int)}{a:Int}{r:Int}(b:Z1h e a=some r) :
 FnOk Tryz.prog 33 [(.slice A2 N2 D2),(iv a)] [aO kT3 (.slice A2 N2 D2) e] (fun (h:Unit)=>((iv r),[])):=by
 unfold Z1h at b
 refine aQ Tryz.func33 R 12 R R fun C V=>?_
 refine cL 0 aA ?_
 rintro rfl
 let g:=RR kT3 A2 D2 e::V
 refine cN g ?_
 refine u9 ?_
 split at b
 refine cV ?_
 cases b
 exact qF () (tE 1 [])
 refine cT ?_
 cases b
 exact qF () (tE 1 [])
theorem Z2k_ok  {b:Node}{e:Int}{r:Int}(a:Z2k b e=some r) :
 FnOk Tryz.prog 50 [(.agg [(iv b.Op),(.slice A2 N2 D2),(.slice A3 N3 D3),(.slice A4 N4 D4),(aD b.Form),(.slice A5 N5 D5)].toArray),(iv e)] [aO kT3 (.slice A2 N2 D2) b.Args,aO kT3 (.slice A3 N3 D3) b.Dims,aO kT3 (.slice A4 N4 D4) b.Ints,aO kT3 (.slice A5 N5 D5) b.Data] (fun (h:Unit)=>((iv r),[])):=by
 unfold Z2k at a
 refine aQ Tryz.func50 R 37 R R fun C V=>?_
 refine cL 0 aA ?_
 rintro rfl
 refine cL 1 aA ?_
 rintro rfl
 refine cL 2 aA ?_
 rintro rfl
 refine cL 3 aA ?_
 rintro rfl
 let q:=RR kT3 A2 D2 b.Args::RR kT3 A3 D3 b.Dims::RR kT3 A4 D4 b.Ints::RR kT3 A5 D5 b.Data::V
 refine cN q ?_
 refine aU ?_
 refine eG R fun B=>?_
 refine aU ?_
 let j:=aJ B [(iv b.Op),(sc A2 b.Args D2),(sc A3 b.Dims D3),(sc A4 b.Ints D4),(aD b.Form),(sc A5 b.Data D5)] 70::q
 refine qN j ?_
 refine aU ?_
 obtain ⟨F,m,a⟩:=bd a
 refine bG ?_
 refine lM _ (fun w s=>(s.d 1 R)) ?_
 refine lC 1 sd R (Z1h_ok m) R ?_
 rintro _
 refine lN j ?_
 refine cT ?_
 split at a
 refine cV ?_
 cases a
 exact qF () (tE 5 [])
 refine bG ?_
 obtain ⟨E,g,a⟩:=bd a
 refine bG ?_
 refine lM _ (fun w s=>(s.d 2 R)) ?_
 refine lC 1 sd R (Z1h_ok g) R ?_
 rintro _
 refine lN j ?_
 refine cT ?_
 split at a
 refine cV ?_
 cases a
 exact qF () (tE 5 [])
 refine bG ?_
 obtain ⟨D,l,a⟩:=bd a
 refine bG ?_
 refine lM _ (fun w s=>(s.d 3 R)) ?_
 refine lC 1 sd R (Z1h_ok l) R ?_
 rintro _
 refine lN j ?_
 refine cT ?_
 split at a
 refine cV ?_
 cases a
 exact qF () (tE 5 [])
 refine cV ?_
 refine lO (vz (il b.Form) (dJ fJ R)) ?_
 refine iu ?_
 split at a
 refine cV ?_
 cases a
 exact qF () (tE 5 [])
 refine bG ?_
 obtain ⟨u,i,a⟩:=bd a
 refine bG ?_
 refine lM _ (fun w s=>(s.d 4 R)) ?_
 refine lC 1 sd R (Z1h_ok i) R ?_
 rintro _
 refine lN j ?_
 refine cT ?_
 split at a
 refine cV ?_
 cases a
 exact qF () (tE 5 [])
 refine cT ?_
 cases a
 exact qF () (tE 5 [])
theorem Z18_ok  {j:(List Node)}{l:Int}{r:Int}(b:Z18 j l=some r) :
 FnOk Tryz.prog 32 [(.slice A2 N2 D2),(iv l)] [aO jL (.slice A2 N2 D2) j] (fun (h:Unit)=>((iv r),[])):=by
 unfold Z18 at b
 refine aQ Tryz.func32 R 27 R R fun C V=>?_
 refine cL 0 aA ?_
 rintro rfl
 let G:=RR jL A2 D2 j::V
 refine cN G ?_
 refine u9 ?_
 split at b
 refine cV ?_
 cases b
 exact qF () (tE 1 [])
 refine bG ?_
 refine bB (A:=(Int)×(Unit)) (fun a=>Z18_J1 a.1=some r) (fun a=>[(1,(iv a.1))]) (fun a=>G) ?_ ?_
 refine bS ?_
 obtain ⟨e1,T,u⟩:=bd b
 refine bC (A:=Unit) T (fun s a=>[(0,(sc A2 j D2)),(1,(iv s.1)),(5,(iv s.2))]) (fun s a=>G) () (aS R) tI ?_
 rintro ⟨m,g⟩ _ σ1 Y b q
 dsimp only [Z18_L1] at b
 refine cP ?_
 split at b
 refine bS ?_
 obtain ⟨i,b⟩:=gd b
 obtain ⟨a0,B,b⟩:=bd b
 refine aP ?_
 refine bD 0 aA (show 0<j.length by have:=i; omega) (fun a2 o21 Z=>?_)
 subst Z
 refine bR ?_
 refine gN (K:=jL) 0 g dT70.dec R i.1 i.2 ?_
 rintro ⟨-,⟨O,U⟩,⟨J,L⟩,⟨M,F⟩,-,⟨I,E⟩⟩
 refine lO (vz (.agg [(iv (ix j g).Op),(sc O ((ix j g).Args) U),(sc J ((ix j g).Dims) L),(sc M ((ix j g).Ints) F),(aD (ix j g).Form),(sc I ((ix j g).Data) E)].toArray) (eI (fo:=0) 0 wx ww R R R R)) (lI R (lM _ (fun w s=>(((((s.d 1 R).d 3 R).d 5 R).d 7 R).e 9 [3,2,1,0,4,5,6,7,8])) ?_))
 refine lC 4 Aw R (Z2k_ok B) R ?_
 rintro _
 refine cP ?_
 split at b
 refine cP ?_
 cases b
 obtain rfl:=q _ R
 have b:=u
 refine aP ?_
 cases b
 exact qF () (tE 6 [])
 refine cP ?_
 cases b
 exact qA () (tE 5 [])
 refine aP ?_
 cases b
 obtain rfl:=q _ R
 have b:=u
 refine aU ?_
 exact qI (m,()) b tI
 rintro ⟨D,_⟩ σ1 b
 dsimp only [Z18_J1] at b
 refine dH ?_
 cases b
 exact qF () (tE 1 [])
theorem Z2v_ok  {e:Graph}{a:Int}{r:Int}(b:Z2v e a=some r) :
 FnOk Tryz.prog 9 [(.agg [(.slice A2 N2 D2),(.slice A3 N3 D3)].toArray),(iv a)] [aO jL (.slice A2 N2 D2) e.Nodes,aO kT3 (.slice A3 N3 D3) e.Outs] (fun (h:Unit)=>((iv r),[])):=by
 unfold Z2v at b
 refine aQ Tryz.func9 R 18 R R fun C V=>?_
 refine cL 0 aA ?_
 rintro rfl
 refine cL 1 aA ?_
 rintro rfl
 let l:=RR jL A2 D2 e.Nodes::RR kT3 A3 D3 e.Outs::V
 refine cN l ?_
 refine aU ?_
 refine eG R fun m=>?_
 refine aU ?_
 let i:=aJ m [(sc A2 e.Nodes D2),(sc A3 e.Outs D3)] 25::l
 refine qN i ?_
 refine aU ?_
 obtain ⟨u,j,b⟩:=bd b
 refine bG ?_
 refine lM _ (fun w s=>(s.d 1 R)) ?_
 refine lC 1 Ax R (Z18_ok j) R ?_
 rintro _
 refine lN i ?_
 refine cT ?_
 split at b
 refine cV ?_
 cases b
 exact qF () (tE 3 [])
 refine bG ?_
 obtain ⟨q,g,b⟩:=bd b
 refine bG ?_
 refine lM _ (fun w s=>(s.d 2 R)) ?_
 refine lC 1 sd R (Z1h_ok g) R ?_
 rintro _
 refine lN i ?_
 refine cT ?_
 split at b
 refine cV ?_
 cases b
 exact qF () (tE 3 [])
 refine cT ?_
 cases b
 exact qF () (tE 3 [])
theorem Z03_ok  {e:(List Int)}{r:(List Int)}(b:Z03 e=some r) :
 FnOk Tryz.prog 28 [(.slice A2 N2 D2)] [aO kT3 (.slice A2 N2 D2) e] (fun (h:HH)=>((s3 h),[ow kT3 3 (s3 h) r])):=by
 unfold Z03 at b
 refine aQ Tryz.func28 R 22 R R fun C V=>?_
 refine cL 0 aA ?_
 rintro rfl
 let B:=RR kT3 A2 D2 e::V
 refine cN B ?_
 refine bS ?_
 obtain ⟨i,b⟩:=gd b
 refine aP ?_
 refine fI (K:=kT3) (m:=(e.length:Int)) (z:=(0:Int)) R R bL cE kv (Zr.zk zT3 gZ) (by decide) R R i.1 i.2.1 i.2.2 (fun A4 D4=>(lS R (aC (aI (aN (bB (A:=((List Int))×(Unit)) (fun a=>Z03_J1 a.1=some r) (fun a=>[(3,(sc A4 (List.replicate (e.length:Int).toNat (0:Int)) D4))]) (fun a=>ow kT3 3 (.slice A4 (List.replicate (e.length:Int).toNat (0:Int)).length D4) a.1::B) ?_ ?_))))))
 refine bS ?_
 obtain ⟨O,F,E⟩:=bd b
 refine bC (A:=Unit) F (fun s a=>[(0,(sc A2 e D2)),(3,(sc A4 (List.replicate (e.length:Int).toNat (0:Int)) D4)),(4,(iv s.2))]) (fun s a=>ow kT3 3 (.slice A4 (List.replicate (e.length:Int).toNat (0:Int)).length D4) s.1::B) () (aS R) tI ?_
 rintro ⟨q,j⟩ _ σ1 G b D
 dsimp only [Z03_L1] at b
 refine cP ?_
 split at b
 refine b' ?_
 obtain ⟨l,b⟩:=gd b
 obtain ⟨g,b⟩:=gd b
 refine b' ?_
 refine bD 1 aA (show 0<e.length by have:=l; omega) (fun M o19 u=>?_)
 subst u
 refine aU ?_
 refine bD 0 aB (show 0<(List.replicate (e.length:Int).toNat (0:Int)).length by have:=g; omega) (fun L o22 u=>?_)
 subst u
 refine bR ?_
 refine dX (K:=kT3) (x':=(ix e j)) 0 j R R cE R R g.1 g.2 ?_ ?_
 exact fun I h s=>(gJ).put I h () (ix e j) s
 refine cV ?_
 cases b
 exact qA () tI
 refine aP ?_
 cases b
 obtain rfl:=D _ R
 have b:=E
 refine aU ?_
 exact qI (q,()) b tI
 rintro ⟨J,_⟩ σ1 b
 dsimp only [Z03_J1] at b
 refine dH ?_
 cases b
 exact qF (A4,(List.replicate (e.length:Int).toNat (0:Int)).length,D4) (tE 2 [0])
theorem Z2w_ok  {a:Node}{r:Node}(j:Z2w a=some r) :
 FnOk Tryz.prog 58 [(.agg [(iv a.Op),(.slice A2 N2 D2),(.slice A3 N3 D3),(.slice A4 N4 D4),(aD a.Form),(.slice A5 N5 D5)].toArray)] [aO kT3 (.slice A2 N2 D2) a.Args,aO kT3 (.slice A3 N3 D3) a.Dims,aO kT3 (.slice A4 N4 D4) a.Ints,aO kT3 (.slice A5 N5 D5) a.Data] (fun (h:HH×HH×HH×HH)=>((.agg [(iv r.Op),(s3 h.1),(s3 h.2.1),(s3 h.2.2.1),(aD r.Form),(s3 h.2.2.2)].toArray),[ow kT3 3 (s3 h.1) r.Args,ow kT3 3 (s3 h.2.1) r.Dims,ow kT3 3 (s3 h.2.2.1) r.Ints,ow kT3 3 (s3 h.2.2.2) r.Data])):=by
 unfold Z2w at j
 refine aQ Tryz.func58 R 27 R R fun C V=>?_
 refine cL 0 aA ?_
 rintro rfl
 refine cL 1 aA ?_
 rintro rfl
 refine cL 2 aA ?_
 rintro rfl
 refine cL 3 aA ?_
 rintro rfl
 let J:=RR kT3 A2 D2 a.Args::RR kT3 A3 D3 a.Dims::RR kT3 A4 D4 a.Ints::RR kT3 A5 D5 a.Data::V
 refine cN J ?_
 refine aU ?_
 refine eG R fun L=>?_
 refine bE R R se (fun O=>(aC ?_))
 let u:=aJ L [(iv a.Op),(sc A2 a.Args D2),(sc A3 a.Dims D3),(sc A4 a.Ints D4),(aD a.Form),(sc A5 a.Data D5)] 70::J
 refine aP ?_
 refine bE R R se (fun D=>(aC (aI (aN (aE (lO (fZ 0 sf R) (lO (gI 2 fS R R R) (lO (fZ 0 jh R) (cR 0 R R cE R R R R R (lN (aJ D [(iv a.Op),(.slice none 0 0),(.slice none 0 0),(.slice none 0 0),(aD ([]:aM)),(.slice none 0 0)] 54::_::u) ?_))))))))))
 refine aP ?_
 obtain ⟨m,I,j⟩:=bd j
 refine aP ?_
 refine lM _ (fun w s=>(s.d 3 R)) ?_
 refine lC 1 sh R (Z03_ok I) R ?_
 rintro ⟨A11,N11,D11⟩
 refine aL 0 aB ?_
 rintro rfl
 refine bR ?_
 refine cR 1 R R eZ R R R R R (lN (_::aJ D [(iv a.Op),(sc A11 m D11),(.slice none 0 0),(.slice none 0 0),(aD ([]:aM)),(.slice none 0 0)] 54::_::u) ?_)
 refine aP ?_
 obtain ⟨b,G,j⟩:=bd j
 refine aP ?_
 refine lM _ (fun w s=>(s.d 5 R)) ?_
 refine lC 1 sh R (Z03_ok G) R ?_
 rintro ⟨A14,N14,D14⟩
 refine aL 0 aB ?_
 rintro rfl
 refine bR ?_
 refine cR 2 R R eZ R R R R R (lN (_::_::aJ D [(iv a.Op),(sc A11 m D11),(sc A14 b D14),(.slice none 0 0),(aD ([]:aM)),(.slice none 0 0)] 54::_::u) ?_)
 refine aP ?_
 obtain ⟨g,E,j⟩:=bd j
 refine aP ?_
 refine lM _ (fun w s=>(s.d 7 R)) ?_
 refine lC 1 sh R (Z03_ok E) R ?_
 rintro ⟨e,M,i⟩
 refine aL 0 aB ?_
 rintro rfl
 refine bR ?_
 refine cR 3 R R eZ R R R R R (lN (_::_::_::aJ D [(iv a.Op),(sc A11 m D11),(sc A14 b D14),(sc e g i),(aD ([]:aM)),(.slice none 0 0)] 54::_::u) ?_)
 refine dH ?_
 refine cR 3 R R qP R R R R R (lN (_::_::_::aJ D [(iv a.Op),(sc A11 m D11),(sc A14 b D14),(sc e g i),(aD a.Form),(.slice none 0 0)] 54::_::u) ?_)
 refine aP ?_
 obtain ⟨l,F,j⟩:=bd j
 refine aP ?_
 refine lM _ (fun w s=>(s.d 9 R)) ?_
 refine lC 1 sh R (Z03_ok F) R ?_
 rintro ⟨B,T,q⟩
 refine aL 0 aB ?_
 rintro rfl
 refine bR ?_
 refine cR 4 R R eZ R R R R R (lN (_::_::_::_::aJ D [(iv a.Op),(sc A11 m D11),(sc A14 b D14),(sc e g i),(aD a.Form),(sc B l q)] 54::_::u) ?_)
 refine b' ?_
 refine aK 5 R R mT R R R R R R (lN (_::_::_::_::_::aJ O [(iv a.Op),(sc A11 m D11),(sc A14 b D14),(sc e g i),(aD a.Form),(sc B l q)] 54::u) ?_)
 refine aP ?_
 cases j
 exact qS ((A11,m.length,D11),(A14,b.length,D14),(e,g.length,i),(B,l.length,q)) (tE 11 [3,2,1,0])
theorem Z0p_ok  {g:(List Node)}{r:(List Node)}(b:Z0p g=some r) :
 FnOk Tryz.prog 35 [(.slice A2 N2 D2)] [aO jL (.slice A2 N2 D2) g] (fun (h:HH)=>((s3 h),[ow dL 54 (s3 h) r])):=by
 unfold Z0p at b
 refine aQ Tryz.func35 R 23 R R fun C V=>?_
 refine cL 0 aA ?_
 rintro rfl
 let W0:=RR jL A2 D2 g::V
 refine cN W0 ?_
 refine bS ?_
 obtain ⟨u,b⟩:=gd b
 refine aP ?_
 refine fI (K:=dL) (m:=(g.length:Int)) (z:=zT54.z) R R ym mT Ay (Zr.zk zT54 se) (by decide) R R u.1 u.2.1 u.2.2 (fun A4 D4=>(lS R (aC (aI (aN (bB (A:=((List Node))×(Unit)) (fun a=>Z0p_J1 a.1=some r) (fun a=>[(3,(sc A4 (List.replicate (g.length:Int).toNat zT54.z) D4))]) (fun a=>ow dL 54 (.slice A4 (List.replicate (g.length:Int).toNat zT54.z).length D4) a.1::W0) ?_ ?_))))))
 refine bS ?_
 obtain ⟨e1,M,F⟩:=bd b
 refine bC (A:=Unit) M (fun s a=>[(0,(sc A2 g D2)),(3,(sc A4 (List.replicate (g.length:Int).toNat zT54.z) D4)),(4,(iv s.2))]) (fun s a=>ow dL 54 (.slice A4 (List.replicate (g.length:Int).toNat zT54.z).length D4) s.1::W0) () (aS R) tI ?_
 rintro ⟨a7,i⟩ _ σ1 a9 b a2
 dsimp only [Z0p_L1] at b
 refine cP ?_
 split at b
 refine b' ?_
 obtain ⟨q,b⟩:=gd b
 obtain ⟨j,B,b⟩:=bd b
 obtain ⟨l,b⟩:=gd b
 refine b' ?_
 refine bD 1 aA (show 0<g.length by have:=q; omega) (fun ah o29 ha=>?_)
 subst ha
 refine bR ?_
 refine gN (K:=jL) 1 i dT70.dec R q.1 q.2 ?_
 rintro ⟨-,⟨J,a0⟩,⟨D,G⟩,⟨a3,T⟩,-,⟨Y,a6⟩⟩
 refine lO (vz (.agg [(iv (ix g i).Op),(sc J ((ix g i).Args) a0),(sc D ((ix g i).Dims) G),(sc a3 ((ix g i).Ints) T),(aD (ix g i).Form),(sc Y ((ix g i).Data) a6)].toArray) (eI (fo:=0) 0 wx ww R R R R)) (lM _ (fun w s=>(((((s.d 1 R).d 3 R).d 5 R).d 7 R).e 10 [3,2,1,0,4,5,6,7,8,9])) ?_)
 refine lC 4 Az R (Z2w_ok B) R ?_
 rintro ⟨⟨a4,ab,a8⟩,⟨U,ai,a5⟩,⟨L,ae,E⟩,⟨Z,aa,O⟩⟩
 refine aL 0 aB ?_
 rintro rfl
 refine aL 1 aB ?_
 rintro rfl
 refine aL 2 aB ?_
 rintro rfl
 refine aL 3 aB ?_
 rintro rfl
 refine bD 9 aB (show 0<(List.replicate (g.length:Int).toNat zT54.z).length by have:=l; omega) (fun ag o42 ha=>?_)
 subst ha
 refine bR ?_
 refine lM _ (fun w s=>(s.f 10 [9,1,0,9])) ?_
 refine dX (K:=dL) (x':=j) 4 i R R mT R R l.1 l.2 ?_ ?_
 exact fun I h s=>(oY).put I h ((),(sc a4 j.Args a8),(sc U j.Dims a5),(sc L j.Ints E),(),(sc Z j.Data O)) j s
 refine cV ?_
 cases b
 exact qA () (tE 6 [0])
 refine aP ?_
 cases b
 obtain rfl:=a2 _ R
 have b:=F
 refine aU ?_
 exact qI (a7,()) b tI
 rintro ⟨ac,_⟩ σ1 b
 dsimp only [Z0p_J1] at b
 refine dH ?_
 cases b
 exact qF (A4,(List.replicate (g.length:Int).toNat zT54.z).length,D4) (tE 2 [0])
theorem Z19_ok  {a:Graph}{r:Graph}(e:Z19 a=some r) :
 FnOk Tryz.prog 11 [(.agg [(.slice A2 N2 D2),(.slice A3 N3 D3)].toArray)] [aO jL (.slice A2 N2 D2) a.Nodes,aO kT3 (.slice A3 N3 D3) a.Outs] (fun (h:HH×HH)=>((.agg [(s3 h.1),(s3 h.2)].toArray),[ow dL 54 (s3 h.1) r.Nodes,ow kT3 3 (s3 h.2) r.Outs])):=by
 unfold Z19 at e
 refine aQ Tryz.func11 R 13 R R fun C V=>?_
 refine cL 0 aA ?_
 rintro rfl
 refine cL 1 aA ?_
 rintro rfl
 let q:=RR jL A2 D2 a.Nodes::RR kT3 A3 D3 a.Outs::V
 refine cN q ?_
 refine aU ?_
 refine eG R fun B=>?_
 refine bE R R wE (fun u=>(aC ?_))
 let l:=aJ B [(sc A2 a.Nodes D2),(sc A3 a.Outs D3)] 25::q
 refine aP ?_
 refine bE R R wE (fun m=>(aC (aI (aN ?_))))
 obtain ⟨i,j,e⟩:=bd e
 refine aP ?_
 refine lM _ (fun w s=>(s.d 3 R)) ?_
 refine lC 1 AA R (Z0p_ok j) R ?_
 rintro ⟨A9,N9,D9⟩
 refine aL 0 aB ?_
 rintro rfl
 refine bR ?_
 refine cR 1 R R yn R R R R R (lN (_::aJ m [(sc A9 i D9),(.slice none 0 0)] 30::_::l) ?_)
 refine aP ?_
 obtain ⟨b,g,e⟩:=bd e
 refine aP ?_
 refine lM _ (fun w s=>(s.d 5 R)) ?_
 refine lC 1 sh R (Z03_ok g) R ?_
 rintro ⟨A12,N12,D12⟩
 refine aL 0 aB ?_
 rintro rfl
 refine bR ?_
 refine cR 2 R R eZ R R R R R (lN (_::_::aJ m [(sc A9 i D9),(sc A12 b D12)] 30::_::l) ?_)
 refine b' ?_
 refine aK 3 R R sj R R R R R R (lN (_::_::_::aJ u [(sc A9 i D9),(sc A12 b D12)] 30::l) ?_)
 refine aP ?_
 cases e
 exact qS ((A9,i.length,D9),(A12,b.length,D12)) (tE 7 [1,0])
theorem eV  {e b:aM}{mG:Int}{r:Int}(a:cI e b=some r) :
 FnOk Tryz.prog 162 [(aD e),(aD b)] [gl 0 mG] (fun (_:Unit)=>((iv r),[])):=by
 unfold cI at a
 obtain ⟨h,a⟩:=gd a
 obtain rfl:=so a
 exact y8 fun w g=>Tryz.stringslite_Index ⟨e.toArray⟩ ⟨b.toArray⟩ mG w (by simpa [ByteArray.size] using h) g
theorem Z2c_ok  {p1:aM}{a:aM}{mG:Int}{r:Int}(b:Z2c p1 a=some r) :
 FnOk Tryz.prog 154 [(aD p1),(aD a)] [gl 0 mG] (fun (h:Unit)=>((iv r),[])):=by
 unfold Z2c at b
 refine aQ Tryz.func154 R 8 R R fun C V=>?_
 let g:=gl 0 mG::V
 refine cN g ?_
 refine bS ?_
 obtain ⟨i,e,b⟩:=bd b
 refine aE (lO (vp (aD p1) R) (lO (vp (aD a) R) (lM _ (fun w s=>(s.dg 0 R)) ?_)))
 refine lC 1 vy R (eV e) R ?_
 rintro _
 refine lN g ?_
 refine bG ?_
 cases b
 exact qF () (tE 1 [])
theorem Z3q_ok  {p1:aM}{a:aM}{mG:Int}{r:Bool}(b:Z3q p1 a=some r) :
 FnOk Tryz.prog 136 [(aD p1),(aD a)] [gl 0 mG] (fun (h:Unit)=>((.bool r),[])):=by
 unfold Z3q at b
 refine aQ Tryz.func136 R 9 R R fun C V=>?_
 let g:=gl 0 mG::V
 refine cN g ?_
 refine bS ?_
 obtain ⟨i,e,b⟩:=bd b
 refine aE (lO (vp (aD p1) R) (lO (vp (aD a) R) (lM _ (fun w s=>(s.dg 0 R)) ?_)))
 refine lC 1 vC R (Z2c_ok e) R ?_
 rintro _
 refine lN g ?_
 refine b' ?_
 cases b
 exact qF () (tE 1 [])
theorem Z11_ok  {e:(List Int)}{g:(List Int)}{r:Bool}(b:Z11 e g=some r) :
 FnOk Tryz.prog 199 [(.slice A2 N2 D2),(.slice A4 N4 D4)] [aO kT3 (.slice A2 N2 D2) e,aO kT3 (.slice A4 N4 D4) g] (fun (h:Unit)=>((.bool r),[])):=by
 unfold Z11 at b
 refine aQ Tryz.func199 R 26 R R fun C V=>?_
 refine cL 0 aA ?_
 rintro rfl
 refine cL 1 aA ?_
 rintro rfl
 let u:=RR kT3 A2 D2 e::RR kT3 A4 D4 g::V
 refine cN u ?_
 refine nv ?_
 split at b
 refine cV ?_
 cases b
 exact qF () (tE 2 [])
 refine bG ?_
 refine bB (A:=(Unit)×(Unit)) (fun a=>Z11_J1=some r) (fun a=>[]) (fun a=>u) ?_ ?_
 refine cV ?_
 obtain ⟨L,B,j⟩:=bd b
 refine bC (A:=Unit) B (fun s a=>[(0,(sc A2 e D2)),(1,(sc A4 g D4)),(12,(il e)),(13,(iv s))]) (fun s a=>u) () (aS R) tI ?_
 rintro E _ σ1 D b i
 dsimp only [Z11_L1] at b
 refine bS ?_
 split at b
 refine iG ?_
 obtain ⟨l,b⟩:=gd b
 obtain ⟨m,b⟩:=gd b
 refine aZ 0 aA (show 0<e.length by have:=l; omega) (fun G o18 q=>?_)
 subst q
 refine aZ 1 aA (show 0<g.length by have:=m; omega) (fun F o21 q=>?_)
 subst q
 refine dC 9 [] bO fun J I=>?_
 refine vi 0 [] ?_
 refine dD (aI ?_)
 split at b
 refine cP ?_
 cases b
 obtain rfl:=i _ R
 have b:=j
 refine aP ?_
 cases b
 exact qF () (tE 2 [])
 refine cV ?_
 cases b
 exact qA () tI
 refine aP ?_
 cases b
 obtain rfl:=i _ R
 have b:=j
 refine aU ?_
 exact cJ ((),()) b trivial tI
 rintro ⟨_,_⟩ σ1 b
 dsimp only [Z11_J1] at b
 refine bS ?_
 cases b
 exact qF () (tE 2 [])
theorem iw  {p1:aM}{a:aM}{mG:Int}{r:aM×aM×Bool}(b:dU p1 a=some r) :
 FnOk Tryz.prog 212 [(aD p1),(aD a)] [gl 0 mG] (fun (h:Unit)=>((.tuple [(aD r.1),(aD r.2.1),(.bool r.2.2)].toArray),[])):=by
 unfold dU at b
 refine aQ Tryz.func212 R 23 R R fun C V=>?_
 let l:=gl 0 mG::V
 refine cN l ?_
 refine aU ?_
 refine lO (vp (aD ([]:aM)) R) (lO (vp (aD ([]:aM)) R) ?_)
 refine b' ?_
 obtain ⟨i,j,b⟩:=bd b
 refine aE (lO (vp (aD p1) R) (lO (vp (aD a) R) (lM _ (fun w s=>(s.dg 0 R)) ?_)))
 refine lC 1 vy R (eV j) R ?_
 rintro _
 refine lN l ?_
 refine cP ?_
 split at b
 refine aU ?_
 obtain ⟨g,b⟩:=gd b
 obtain ⟨e,b⟩:=gd b
 refine dC 12 [] bO fun q m=>?_
 refine dR 0 R (vp (aD p1) R) (dR 1 R (vI R) (dR 2 R (vz (aD (sub p1 (0:Int) i)) (hM (0:Int) i fJ R R R g.1 g.2.1 g.2.2)) (dR 3 R (vp (aD p1) R) (dR 4 R (vI R) (dR 5 R (vp (aD a) R) (dR 6 R (vz (il a) (dJ fJ R)) (dR 7 R (lq R R) (dR 8 R (vz (aD (sub p1 (aH (i+(a.length:Int))) (p1.length:Int))) (hM (aH (i+(a.length:Int))) (p1.length:Int) fJ R R R e.1 e.2.1 e.2.2)) (dR 9 R (vp (aD (sub p1 (0:Int) i)) R) (dR 10 R (vp (aD (sub p1 (aH (i+(a.length:Int))) (p1.length:Int))) R) (dR 11 R (vB R) (dD ?_))))))))))))
 refine aP ?_
 cases b
 exact hU () (tE 1 [])
 refine b' ?_
 refine lO (vp (aD p1) R) (lO (vp (aD p1) R) (lO (vp (aD ([]:aM)) R) ?_))
 refine bG ?_
 cases b
 exact hU () (tE 1 [])
theorem Z2z_ok  {p1:aM}{a:aM}{mG:Int}{r:aM×aM×Bool}(b:Z2z p1 a=some r) :
 FnOk Tryz.prog 210 [(aD p1),(aD a)] [gl 0 mG] (fun (h:Unit)=>((.tuple [(aD r.1),(aD r.2.1),(.bool r.2.2)].toArray),[])):=by
 unfold Z2z at b
 refine aQ Tryz.func210 R 13 R R fun C V=>?_
 let i:=gl 0 mG::V
 refine cN i ?_
 refine aU ?_
 refine lO (vp (aD ([]:aM)) R) (lO (vp (aD ([]:aM)) R) ?_)
 refine bG ?_
 obtain ⟨e,g,b⟩:=bd b
 refine aE (lO (vp (aD p1) R) (lO (vp (aD a) R) (lM _ (fun w s=>(s.dg 0 R)) ?_)))
 refine lC 1 yT R (iw g) R ?_
 rintro _
 refine lN i ?_
 refine lO (vp (aD e.1) R) (lO (vp (aD e.2.1) R) (lB R (lO (vp (aD e.1) R) (lO (vp (aD e.2.1) R) ?_))))
 refine bG ?_
 cases b
 exact hU () (tE 1 [])
theorem Z39_ok  {b e:aM}{r:Int}(a:Z39 b e=some r) :
 FnOk Tryz.prog 215 [(aD b),(aD e)] [] (fun (_:Unit)=>((iv r),[])):=by
 unfold Z39 at a
 split at a
 ·rename_i c
  obtain rfl:=so a
  exact pS fun w=>Tryz.strings_Count_one ⟨b.toArray⟩ c w
 ·cases a
theorem Z0h_ok  {p1:aM}{j:aM}{b:Int}{n4:Int}{mG:Int}{r:(List aM)}(g:Z0h p1 j b n4=some r) :
 FnOk Tryz.prog 213 [(aD p1),(aD j),(iv b),(iv n4)] [gl 0 mG] (fun (h:HH)=>((s3 h),[aO dM (s3 h) r])):=by
 unfold Z0h at g
 refine aQ Tryz.func213 R 66 R R fun C V=>?_
 let U:=gl 0 mG::V
 refine cN U ?_
 refine iG ?_
 rcases cK g with ⟨_,g⟩|⟨_,g⟩
 refine cV ?_
 cases g
 exact qF (none,0,0) (fun w s=>((s.nilr dM).e 2 [0]))
 refine bS ?_
 refine lO (vp (aD j) R) (lO (vz (.bool (j==([]:aM))) (jd R R R)) ?_)
 refine aU ?_
 rcases cK g with ⟨_,g⟩|⟨_,g⟩
 refine bR ?_
 cases g
 refine bG ?_
 refine bB (A:=(Int)×(Unit)) (fun a=>Z0h_J2 p1 j b a.1=some r) (fun a=>[(0,(aD p1)),(1,(aD j)),(2,(iv b)),(3,(iv a.1))]) (fun a=>U) ?_ ?_
 refine bS ?_
 rcases cK g with ⟨_,g⟩|⟨_,g⟩
 refine bR ?_
 obtain ⟨r8,a7,g⟩:=bd g
 refine aE (lO (vp (aD p1) R) (lO (vp (aD j) R) (lC 0 yV R (Z39_ok a7) R ?_)))
 rintro _
 refine aP ?_
 exact qI ((aH (r8+1)),()) g tI
 refine aU ?_
 exact qI (n4,()) g tI
 rintro ⟨i,_⟩ σ1 g
 dsimp only [Z0h_J2] at g
 refine aP ?_
 refine lO (vp (aD p1) R) (lO (vz (il p1) (dJ fJ R)) (lO (lq R R) (lO (vz (iv (if (aH ((p1.length:Int)+1))<i then (aH ((p1.length:Int)+1)) else i)) (vg R R)) ?_)))
 refine bG ?_
 obtain ⟨B,g⟩:=gd g
 refine aU ?_
 refine fI (K:=dM) (m:=(if (aH ((p1.length:Int)+1))<i then (aH ((p1.length:Int)+1)) else i)) (z:=([]:aM)) R R lu qP BA (Zr.zk zT9 yv) (by decide) R R B.1 B.2.1 B.2.2 (fun A12 D12=>(lS R (aC (aI (aN (aE (lI R (lO (wg R R) (lI R (aC (aI (aN (aE (lI R (aC (aI (aN (bB (A:=(aM×(List aM)×Int)×(Unit)) (fun a=>Z0h_J3 p1 i a.1.1 a.1.2.1 a.1.2.2=some r) (fun a=>[(0,(aD a.1.1)),(9,(sc A12 (List.replicate (if (aH ((p1.length:Int)+1))<i then (aH ((p1.length:Int)+1)) else i).toNat ([]:aM)) D12)),(10,(iv a.1.2.2))]) (fun a=>ow dM 9 (.slice A12 (List.replicate (if (aH ((p1.length:Int)+1))<i then (aH ((p1.length:Int)+1)) else i).toNat ([]:aM)).length D12) a.1.2.1::U) ?_ ?_))))))))))))))))))
 refine bR ?_
 obtain ⟨e1,a3,Z⟩:=bd g
 refine bC (A:=Unit) a3 (fun s a=>[(0,(aD s.1)),(1,(aD j)),(2,(iv b)),(3,(iv (aH ((if (aH ((p1.length:Int)+1))<i then (aH ((p1.length:Int)+1)) else i) - 1)))),(9,(sc A12 (List.replicate (if (aH ((p1.length:Int)+1))<i then (aH ((p1.length:Int)+1)) else i).toNat ([]:aM)) D12)),(10,(iv s.2.2))]) (fun s a=>ow dM 9 (.slice A12 (List.replicate (if (aH ((p1.length:Int)+1))<i then (aH ((p1.length:Int)+1)) else i).toNat ([]:aM)).length D12) s.2.1::U) () (aS R) tI ?_
 rintro ⟨l,O,T⟩ _ σ1 a8 g a0
 dsimp only [Z0h_L1] at g
 refine cV ?_
 rcases cK g with ⟨_,g⟩|⟨_,g⟩
 refine b' ?_
 obtain ⟨q,Y,g⟩:=bd g
 refine aE (lO (vp (aD l) R) (lO (vp (aD j) R) (lM (gl 0 mG::ow dM 9 (.slice A12 (List.replicate (if (aH ((p1.length:Int)+1))<i then (aH ((p1.length:Int)+1)) else i).toNat ([]:aM)).length D12) O::U) (fun w s=>(s.dg 1 R)) ?_)))
 refine lC 1 vC R (Z2c_ok Y) R ?_
 rintro _
 refine cT ?_
 rcases cK g with ⟨_,g⟩|⟨_,g⟩
 refine aP ?_
 refine rC R ?_
 cases g
 obtain rfl:=a0 _ R
 have g:=Z
 refine aU ?_
 exact qI ((l,O,T),()) g tI
 refine bG ?_
 obtain ⟨J,g⟩:=gd g
 obtain ⟨u,g⟩:=gd g
 refine aP ?_
 refine lO (vp (aD l) R) ?_
 refine aP ?_
 refine lO (vz (aD (sub l (0:Int) (aH (q+b)))) (hM (0:Int) (aH (q+b)) fJ R R R J.1 J.2.1 J.2.2)) (bD 0 aB (show 0<(List.replicate (if (aH ((p1.length:Int)+1))<i then (aH ((p1.length:Int)+1)) else i).toNat ([]:aM)).length by have:=u; omega) (fun a5 o34 ha=>?_))
 subst ha
 refine bR ?_
 refine dX (K:=dM) (x':=(sub l (0:Int) (aH (q+b)))) 0 T R R qP R R u.1 u.2 ?_ ?_
 exact fun I h s=>(xP).put I h () (sub l (0:Int) (aH (q+b))) s
 refine bR ?_
 obtain ⟨a4,E,g⟩:=bd g
 replace E:=Option.some.inj E
 refine qM (ow dM 9 (.slice (ad a5 o34) (List.replicate (if (aH ((p1.length:Int)+1))<i then (aH ((p1.length:Int)+1)) else i).toNat ([]:aM)).length D12) a4::U) (fun w s=>by rw [← E]; exact s) ?_
 refine aU ?_
 obtain ⟨D,g⟩:=gd g
 refine aE (lO (vp (aD l) R) (lI R (lO (vp (aD j) R) (lO (vz (il j) (dJ fJ R)) (lO (lq R R) (lO (vz (aD (sub l (aH (q+(j.length:Int))) (l.length:Int))) (hM (aH (q+(j.length:Int))) (l.length:Int) fJ R R R D.1 D.2.1 D.2.2)) (lO (vp (aD (sub l (aH (q+(j.length:Int))) (l.length:Int))) R) ?_)))))))
 refine cV ?_
 cases g
 exact qA () tI
 refine aP ?_
 cases g
 obtain rfl:=a0 _ R
 have g:=Z
 refine aU ?_
 exact qI ((l,O,T),()) g tI
 rintro ⟨⟨M,a6,L⟩,_⟩ σ1 g
 dsimp only [Z0h_J3] at g
 refine bR ?_
 obtain ⟨F,g⟩:=gd g
 refine aP ?_
 refine lO (vp (aD M) R) (bD 0 aB (show 0<(List.replicate (if (aH ((p1.length:Int)+1))<i then (aH ((p1.length:Int)+1)) else i).toNat ([]:aM)).length by have:=F; omega) (fun a9 o46 ha=>?_))
 subst ha
 refine bR ?_
 refine dX (K:=dM) (x':=M) 0 L R R qP R R F.1 F.2 ?_ ?_
 exact fun I h s=>(xP).put I h () M s
 refine aP ?_
 obtain ⟨G,g⟩:=gd g
 refine bG ?_
 refine iE (fun w s=>s.shr 0 R) (fY (K:=dM) (0:Int) (aH (L+1)) 0 R R lu qP R R R R G.1 G.2.1 G.2.2 (fun a2 a1=>(lS R (aC (aI (bV ?_))))))
 cases g
 exact qF (a2,(sub (a6.set L.toNat M) (0:Int) (aH (L+1))).length,a1) (tE 3 [0])
theorem Z30_ok  {p1:aM}{a:aM}{mG:Int}{r:(List aM)}(b:Z30 p1 a=some r) :
 FnOk Tryz.prog 211 [(aD p1),(aD a)] [gl 0 mG] (fun (h:HH)=>((.slice h.1 h.2.1 h.2.2),[aO dM (.slice h.1 h.2.1 h.2.2) r])):=by
 unfold Z30 at b
 refine aQ Tryz.func211 R 8 R R fun C V=>?_
 refine cN (_::V) ?_
 let g:List HP:=gl 0 mG::V
 refine cN g ?_
 refine aN (aE (lS R (aC (aI (aN ?_)))))
 obtain ⟨j,i,b⟩:=bd b
 refine aE (lO (vp (aD p1) R) (lO (vp (aD a) R) (lM (gl 0 mG::g) (fun w s=>(s.dg 0 R)) ?_)))
 refine lC 1 yW R (Z0h_ok i) R ?_
 rintro ⟨A5,N5,D5⟩
 refine lN (aO dM (.slice A5 N5 D5) j::g) ?_
 refine aL 0 aA ?_
 rintro rfl
 refine lS R (aC (aI (bV ?_)))
 obtain rfl:=so b
 exact qF (A5,j.length,D5) (fun w s=>(s.e 2 [0]))
theorem gA  {b:aM}{a:Int}{r:Int}(e:cZ b a=some r) :
 FnOk Tryz.prog 171 [(aD b),(.int .u8 a)] [] (fun (_:Unit)=>((iv r),[])):=by
 unfold cZ at e
 obtain rfl:=so e
 exact pS fun w=>Tryz.stringslite_IndexByte ⟨b.toArray⟩ a w
theorem Z1t_ok  {p1:aM}{e:Int}{r:Int}(a:Z1t p1 e=some r) :
 FnOk Tryz.prog 208 [(aD p1),(.int .u8 e)] [] (fun (h:Unit)=>((iv r),[])):=by
 unfold Z1t at a
 refine aQ Tryz.func208 R 8 R R fun C V=>?_
 refine cN V ?_
 refine bS ?_
 obtain ⟨g,b,a⟩:=bd a
 refine aE (lO (vp (aD p1) R) (lI R (lC 0 yY R (gA b) R ?_)))
 rintro _
 refine bG ?_
 cases a
 exact qF () tI
theorem Zg_ok {g:List Int}{a:Option Addr}{b e:Nat}{r:(List Int)}(m:Zg g=some r) :
  FnOk Tryz.prog 64 [(.slice a b e)] [aO kT3 (.slice a b e) g] (fun (h:(Option Addr×Nat×Nat))=>((s3 h),[ow kT3 3 (s3 h) r])):=by
 unfold Zg at m
 obtain ⟨E,m⟩:=gd m
 obtain rfl:=Option.some.inj m
 refine aQ Tryz.func64 rfl 8 rfl rfl fun C V=>(y0 (V':=aO kT3 (.slice a b e) g::V) tI (bI 0 aA (fun (B:b=g.length)=>?_)))
 subst B
 refine aU ?_
 refine lS rfl ?_
 refine b' ?_
 refine lS rfl (rM (.bool a.isNone) (w9 bL rfl rfl) rfl rfl (aC (aI ?_)))
 rcases Bool.eq_false_or_eq_true a.isNone with l | l
 ·refine cC rfl l ?_
  refine wf 0 aA l (fun (q:g=[])=>?_)
  subst q
  refine aU ?_
  refine lS rfl ?_
  refine bG ?_
  exact dF (vs:=[(.slice none 0 0)]) (.inl rfl) (none,0,0) rfl ⟨rfl,trivial⟩ rfl (fun w s=>((s.nilo kT3 3).sel 2 [0] rfl rfl))
 ·refine bM rfl l (dI (aI ?_))
  refine aU ?_
  refine bK (K:=kT3) (xs:=([]:List Int)) (vs:=[]) 0 rfl rfl bL cE gZ rfl rfl rfl rfl rfl rfl ?_ rfl (fun u D=>?_)
  ·exact fun I h s=>(gJ).list [] I h s
  refine lS rfl (eF (K:=kT3) 17592186044416 rfl rfl bL cE kv (Zr.zk zT3 gZ) rfl rfl rfl rfl rfl rfl (rH (Kind.scal_flat _ _)) (by simpa using E) (fun j i=>(lS rfl (aC (aI (bV ?_))))))
  exact dF (vs:=[(.slice j g.length i)]) (.inl rfl) (j,g.length,i) rfl ⟨rfl,trivial⟩ rfl tI
theorem Z05_ok  {i:(List Int)}{g:(List Int)}{r:Bool}(b:Z05 i g=some r) :
 FnOk Tryz.prog 16 [(.slice A2 N2 D2),(.slice A4 N4 D4)] [aO kT3 (.slice A2 N2 D2) i,aO kT3 (.slice A4 N4 D4) g] (fun (h:Unit)=>((.bool r),[])):=by
 unfold Z05 at b
 refine aQ Tryz.func16 R 26 R R fun C V=>?_
 refine cL 0 aA ?_
 rintro rfl
 refine cL 1 aA ?_
 rintro rfl
 let u:=RR kT3 A2 D2 i::RR kT3 A4 D4 g::V
 refine cN u ?_
 refine nv ?_
 split at b
 refine cV ?_
 cases b
 exact qF () (tE 2 [])
 refine bG ?_
 refine bB (A:=(Unit)×(Unit)) (fun a=>Z05_J1=some r) (fun a=>[]) (fun a=>u) ?_ ?_
 refine bS ?_
 obtain ⟨L,B,j⟩:=bd b
 refine bC (A:=Unit) B (fun s a=>[(0,(sc A2 i D2)),(1,(sc A4 g D4)),(5,(iv s))]) (fun s a=>u) () (aS R) tI ?_
 rintro G _ σ1 D b e
 dsimp only [Z05_L1] at b
 refine cP ?_
 split at b
 refine bS ?_
 obtain ⟨l,b⟩:=gd b
 obtain ⟨m,b⟩:=gd b
 refine aZ 0 aA (show 0<i.length by have:=l; omega) (fun F o18 q=>?_)
 subst q
 refine aZ 1 aA (show 0<g.length by have:=m; omega) (fun E o21 q=>?_)
 subst q
 refine dC 9 [] bO fun J I=>?_
 refine vi 0 [] ?_
 refine dD (aI ?_)
 split at b
 refine cP ?_
 cases b
 obtain rfl:=e _ R
 have b:=j
 refine aP ?_
 cases b
 exact qF () (tE 2 [])
 refine cP ?_
 cases b
 exact qA () tI
 refine aP ?_
 cases b
 obtain rfl:=e _ R
 have b:=j
 refine aU ?_
 exact cJ ((),()) b trivial tI
 rintro ⟨_,_⟩ σ1 b
 dsimp only [Z05_J1] at b
 refine bS ?_
 cases b
 exact qF () (tE 2 [])
theorem Z0i_ok  {u:(List (List Int))}{q:(List (List Int))}{r:Bool}(b:Z0i u q=some r) :
 FnOk Tryz.prog 22 [(.slice A2 N2 D2),(.slice A4 N4 D4)] [aO kT23 (.slice A2 N2 D2) u,aO kT23 (.slice A4 N4 D4) q] (fun (h:Unit)=>((.bool r),[])):=by
 unfold Z0i at b
 refine aQ Tryz.func22 R 27 R R fun C V=>?_
 refine cL 0 aA ?_
 rintro rfl
 refine cL 1 aA ?_
 rintro rfl
 let E:=RR kT23 A2 D2 u::RR kT23 A4 D4 q::V
 refine cN E ?_
 refine nv ?_
 split at b
 refine cV ?_
 cases b
 exact qF () (tE 2 [])
 refine bG ?_
 refine bB (A:=(Unit)×(Unit)) (fun a=>Z0i_J1=some r) (fun a=>[]) (fun a=>E) ?_ ?_
 refine bS ?_
 obtain ⟨e1,F,B⟩:=bd b
 refine bC (A:=Unit) F (fun s a=>[(0,(sc A2 u D2)),(1,(sc A4 q D4)),(5,(iv s))]) (fun s a=>E) () (aS R) tI ?_
 rintro j _ σ1 G b m
 dsimp only [Z0i_L1] at b
 refine cP ?_
 split at b
 refine bS ?_
 obtain ⟨g,b⟩:=gd b
 obtain ⟨i,b⟩:=gd b
 obtain ⟨I,l,b⟩:=bd b
 refine aZ 0 aA (show 0<u.length by have:=g; omega) (fun U o22 D=>?_)
 subst D
 refine dB (K:=kT23) 0 j dT23.dec R g.1 g.2 ?_
 rintro ⟨M,O⟩
 refine aZ 3 aA (show 0<q.length by have:=i; omega) (fun L o26 D=>?_)
 subst D
 refine dB (K:=kT23) 3 j dT23.dec R i.1 i.2 ?_
 rintro ⟨J,T⟩
 refine dC 10 [] bO fun Z Y=>?_
 refine hJ 0 [] ?_
 refine dR 3 R (eA (fo:=0) 2 cH R R R) ?_
 refine hJ 4 [] ?_
 refine dR 7 R (eA (fo:=0) 0 cH R R R) (d1 8 R (lM _ (fun w s=>(((s.d 3 R).d 2 R).e 6 [1,0,2,3,4,5])) ?_))
 refine lC 2 qR R (Z05_ok l) R ?_
 rintro _
 refine aC (aG (sL []) (dR 9 R (rt R) (dD (aI ?_))))
 split at b
 refine cP ?_
 cases b
 obtain rfl:=m _ R
 have b:=B
 refine aP ?_
 cases b
 exact qF () (tE 6 [])
 refine cP ?_
 cases b
 exact qA () (tE 4 [])
 refine aP ?_
 cases b
 obtain rfl:=m _ R
 have b:=B
 refine aU ?_
 exact cJ ((),()) b trivial tI
 rintro ⟨_,_⟩ σ1 b
 dsimp only [Z0i_J1] at b
 refine bS ?_
 cases b
 exact qF () (tE 2 [])
theorem Z2j_ok  {g:Node}{b:Node}{r:Bool}(a:Z2j g b=some r) :
 FnOk Tryz.prog 60 [(.agg [(iv g.Op),(.slice A2 N2 D2),(.slice A3 N3 D3),(.slice A4 N4 D4),(aD g.Form),(.slice A5 N5 D5)].toArray),(.agg [(iv b.Op),(.slice A7 N7 D7),(.slice A8 N8 D8),(.slice A9 N9 D9),(aD b.Form),(.slice A10 N10 D10)].toArray)] [aO kT3 (.slice A2 N2 D2) g.Args,aO kT3 (.slice A3 N3 D3) g.Dims,aO kT3 (.slice A4 N4 D4) g.Ints,aO kT3 (.slice A5 N5 D5) g.Data,aO kT3 (.slice A7 N7 D7) b.Args,aO kT3 (.slice A8 N8 D8) b.Dims,aO kT3 (.slice A9 N9 D9) b.Ints,aO kT3 (.slice A10 N10 D10) b.Data] (fun (h:Unit)=>((.bool r),[])):=by
 unfold Z2j at a
 refine aQ Tryz.func60 R 39 R R fun C V=>?_
 refine cL 0 aA ?_
 rintro rfl
 refine cL 1 aA ?_
 rintro rfl
 refine cL 2 aA ?_
 rintro rfl
 refine cL 3 aA ?_
 rintro rfl
 refine cL 4 aA ?_
 rintro rfl
 refine cL 5 aA ?_
 rintro rfl
 refine cL 6 aA ?_
 rintro rfl
 refine cL 7 aA ?_
 rintro rfl
 let D:=RR kT3 A2 D2 g.Args::RR kT3 A3 D3 g.Dims::RR kT3 A4 D4 g.Ints::RR kT3 A5 D5 g.Data::RR kT3 A7 D7 b.Args::RR kT3 A8 D8 b.Dims::RR kT3 A9 D9 b.Ints::RR kT3 A10 D10 b.Data::V
 refine cN D ?_
 refine aU ?_
 refine eG R fun u=>?_
 refine eG R fun B=>?_
 refine aU ?_
 let j:=aJ B [(iv b.Op),(sc A7 b.Args D7),(sc A8 b.Dims D8),(sc A9 b.Ints D9),(aD b.Form),(sc A10 b.Data D10)] 54::aJ u [(iv g.Op),(sc A2 g.Args D2),(sc A3 g.Dims D3),(sc A4 g.Ints D4),(aD g.Form),(sc A5 g.Data D5)] 54::D
 refine qN j ?_
 refine iu ?_
 split at a
 refine cV ?_
 cases a
 exact qF () (tE 10 [])
 refine b' ?_
 obtain ⟨G,m,a⟩:=bd a
 refine b' ?_
 refine lM _ (fun w s=>(((s.d 2 R).d 7 R).e 2 [1,0])) ?_
 refine lC 2 qR R (Z05_ok m) R ?_
 rintro _
 refine lN j ?_
 refine aP ?_
 split at a
 refine cV ?_
 cases a
 exact qF () (tE 10 [])
 refine b' ?_
 obtain ⟨I,l,a⟩:=bd a
 refine b' ?_
 refine lM _ (fun w s=>(((s.d 3 R).d 8 R).e 2 [1,0])) ?_
 refine lC 2 qR R (Z05_ok l) R ?_
 rintro _
 refine lN j ?_
 refine aP ?_
 split at a
 refine cV ?_
 cases a
 exact qF () (tE 10 [])
 refine b' ?_
 obtain ⟨E,q,a⟩:=bd a
 refine b' ?_
 refine lM _ (fun w s=>(((s.d 4 R).d 9 R).e 2 [1,0])) ?_
 refine lC 2 qR R (Z05_ok q) R ?_
 rintro _
 refine lN j ?_
 refine aP ?_
 split at a
 refine cV ?_
 cases a
 exact qF () (tE 10 [])
 refine cT ?_
 refine lO (vz (.bool (!(g.Form==b.Form))) (jd R R R)) ?_
 refine aU ?_
 split at a
 refine cV ?_
 cases a
 exact qF () (tE 10 [])
 refine b' ?_
 obtain ⟨F,i,a⟩:=bd a
 refine b' ?_
 refine lM _ (fun w s=>(((s.d 5 R).d 10 R).e 2 [1,0])) ?_
 refine lC 2 qR R (Z05_ok i) R ?_
 rintro _
 refine lN j ?_
 refine aP ?_
 split at a
 refine cV ?_
 cases a
 exact qF () (tE 10 [])
 refine cP ?_
 cases a
 exact qF () (tE 10 [])
theorem Z1d_ok  {l:(List Node)}{j:(List Node)}{r:Bool}(g:Z1d l j=some r) :
 FnOk Tryz.prog 37 [(.slice A2 N2 D2),(.slice A4 N4 D4)] [aO dL (.slice A2 N2 D2) l,aO dL (.slice A4 N4 D4) j] (fun (h:Unit)=>((.bool r),[])):=by
 unfold Z1d at g
 refine aQ Tryz.func37 R 27 R R fun C V=>?_
 refine cL 0 aA ?_
 rintro rfl
 refine cL 1 aA ?_
 rintro rfl
 let Z:=RR dL A2 D2 l::RR dL A4 D4 j::V
 refine cN Z ?_
 refine nv ?_
 split at g
 refine cV ?_
 cases g
 exact qF () (tE 2 [])
 refine bG ?_
 refine bB (A:=(Unit)×(Unit)) (fun a=>Z1d_J1=some r) (fun a=>[]) (fun a=>Z) ?_ ?_
 refine bS ?_
 obtain ⟨e1,J,q⟩:=bd g
 refine bC (A:=Unit) J (fun s a=>[(0,(sc A2 l D2)),(1,(sc A4 j D4)),(5,(iv s))]) (fun s a=>Z) () (aS R) tI ?_
 rintro b _ σ1 a7 g B
 dsimp only [Z1d_L1] at g
 refine cP ?_
 split at g
 refine bS ?_
 obtain ⟨m,g⟩:=gd g
 obtain ⟨i,g⟩:=gd g
 obtain ⟨a9,u,g⟩:=bd g
 refine aZ 0 aA (show 0<l.length by have:=m; omega) (fun aa o28 Y=>?_)
 subst Y
 refine dB (K:=dL) 0 b dT54.dec R m.1 m.2 ?_
 rintro ⟨-,⟨U,a5⟩,⟨G,a0⟩,⟨D,F⟩,-,⟨a2,M⟩⟩
 refine aZ 6 aA (show 0<j.length by have:=i; omega) (fun a8 o35 Y=>?_)
 subst Y
 refine dB (K:=dL) 6 b dT54.dec R i.1 i.2 ?_
 rintro ⟨-,⟨a3,a6⟩,⟨O,a4⟩,⟨I,E⟩,-,⟨T,L⟩⟩
 refine dC 10 [] bO fun ht hn=>?_
 refine hJ 0 [] ?_
 refine dR 3 R (vz (.agg [(iv (ix l b).Op),(sc U ((ix l b).Args) a5),(sc G ((ix l b).Dims) a0),(sc D ((ix l b).Ints) F),(aD (ix l b).Form),(sc a2 ((ix l b).Data) M)].toArray) (eI (fo:=0) 5 si mT R R R R)) ?_
 refine hJ 4 [] ?_
 refine dR 7 R (vz (.agg [(iv (ix j b).Op),(sc a3 ((ix j b).Args) a6),(sc O ((ix j b).Dims) a4),(sc I ((ix j b).Ints) E),(aD (ix j b).Form),(sc T ((ix j b).Data) L)].toArray) (eI (fo:=0) 0 si mT R R R R)) (d1 8 R (lM _ (fun w s=>(((((((((s.d 6 R).d 8 R).d 10 R).d 12 R).d 5 R).d 7 R).d 9 R).d 11 R).e 18 [7,6,5,4,3,2,1,0,8,9,10,11,12,13,14,15,16,17])) ?_))
 refine lC 8 AZ R (Z2j_ok u) R ?_
 rintro _
 refine aC (aG (sL []) (dR 9 R (rt R) (dD (aI ?_))))
 split at g
 refine cP ?_
 cases g
 obtain rfl:=B _ R
 have g:=q
 refine aP ?_
 cases g
 exact qF () (tE 12 [])
 refine cP ?_
 cases g
 exact qA () (tE 10 [])
 refine aP ?_
 cases g
 obtain rfl:=B _ R
 have g:=q
 refine aU ?_
 exact cJ ((),()) g trivial tI
 rintro ⟨_,_⟩ σ1 g
 dsimp only [Z1d_J1] at g
 refine bS ?_
 cases g
 exact qF () (tE 2 [])
theorem Z2i_ok  {b:Graph}{g:Graph}{r:Bool}(a:Z2i b g=some r) :
 FnOk Tryz.prog 13 [(.agg [(.slice A2 N2 D2),(.slice A3 N3 D3)].toArray),(.agg [(.slice A5 N5 D5),(.slice A6 N6 D6)].toArray)] [aO dL (.slice A2 N2 D2) b.Nodes,aO kT3 (.slice A3 N3 D3) b.Outs,aO dL (.slice A5 N5 D5) g.Nodes,aO kT3 (.slice A6 N6 D6) g.Outs] (fun (h:Unit)=>((.bool r),[])):=by
 unfold Z2i at a
 refine aQ Tryz.func13 R 17 R R fun C V=>?_
 refine cL 0 aA ?_
 rintro rfl
 refine cL 1 aA ?_
 rintro rfl
 refine cL 2 aA ?_
 rintro rfl
 refine cL 3 aA ?_
 rintro rfl
 let m:=RR dL A2 D2 b.Nodes::RR kT3 A3 D3 b.Outs::RR dL A5 D5 g.Nodes::RR kT3 A6 D6 g.Outs::V
 refine cN m ?_
 refine aU ?_
 refine eG R fun B=>?_
 refine eG R fun q=>?_
 refine aU ?_
 let l:=aJ q [(sc A5 g.Nodes D5),(sc A6 g.Outs D6)] 30::aJ B [(sc A2 b.Nodes D2),(sc A3 b.Outs D3)] 30::m
 refine qN l ?_
 refine aP ?_
 obtain ⟨D,i,a⟩:=bd a
 refine b' ?_
 refine lM _ (fun w s=>(((s.d 2 R).d 5 R).e 2 [1,0])) ?_
 refine lC 2 B0 R (Z1d_ok i) R ?_
 rintro _
 refine lN l ?_
 refine aP ?_
 split at a
 refine cV ?_
 cases a
 exact qF () (tE 6 [])
 refine b' ?_
 obtain ⟨u,j,a⟩:=bd a
 refine b' ?_
 refine lM _ (fun w s=>(((s.d 3 R).d 6 R).e 2 [1,0])) ?_
 refine lC 2 qR R (Z05_ok j) R ?_
 rintro _
 refine lN l ?_
 refine aP ?_
 split at a
 refine cV ?_
 cases a
 exact qF () (tE 6 [])
 refine cP ?_
 cases a
 exact qF () (tE 6 [])
theorem Zt_ok  {g:(List Int)}{u:Int}{r:Int×(List Int)}(b:Zt g u=some r) :
 FnOk Tryz.prog 18 [(.slice A2 N2 D2),(iv u)] [ow kT3 3 (.slice A2 N2 D2) g] (fun (h:Unit)=>((iv r.1),[ow kT3 3 (.slice A2 N2 D2) r.2])):=by
 unfold Zt at b
 refine aQ Tryz.func18 R 19 R R fun C V=>?_
 refine cL 0 aB ?_
 rintro rfl
 refine bS ?_
 refine bB (A:=(Int×(List Int))×(Unit)) (fun a=>Zt_J1 a.1.1 a.1.2=some r) (fun a=>[(1,(iv a.1.1))]) (fun a=>ow kT3 3 (.slice A2 g.length D2) a.1.2::V) ?_ ?_
 refine bS ?_
 obtain ⟨L,q,m⟩:=bd b
 refine bC (A:=Unit) q (fun s a=>[(0,(sc A2 g D2)),(1,(iv s.2.1)),(5,(iv s.2.2))]) (fun s a=>ow kT3 3 (.slice A2 g.length D2) s.1::V) () (aS R) tI ?_
 rintro ⟨F,j,i⟩ _ σ1 B b l
 dsimp only [Zt_L1] at b
 refine cP ?_
 split at b
 refine bS ?_
 obtain ⟨e,b⟩:=gd b
 refine bG ?_
 refine bD 0 aB (show 0<g.length by have:=e; omega) (fun G o14 D=>?_)
 subst D
 refine bR ?_
 refine dX (K:=kT3) (x':=j) 0 i R R cE R R e.1 e.2 ?_ ?_
 exact fun I h s=>(gJ).put I h () j s
 refine od ?_
 cases b
 exact qA () tI
 refine aP ?_
 cases b
 obtain rfl:=l _ R
 have b:=m
 refine aU ?_
 exact qI ((j,F),()) b tI
 rintro ⟨⟨J,E⟩,_⟩ σ1 b
 dsimp only [Zt_J1] at b
 refine dH ?_
 cases b
 exact qF () tI
theorem Z0o_ok  {k1:Int}{r:aM}(b:Z0o k1=some r) :
 FnOk Tryz.prog 61 [(iv k1)] [] (fun (h:Unit)=>((aD r),[])):=by
 unfold Z0o at b
 refine aQ Tryz.func61 R 20 R R fun C V=>?_
 refine cN V ?_
 refine aU ?_
 refine lO (vp (aD ([]:aM)) R) ?_
 refine cP ?_
 split at b
 refine aP ?_
 refine lO (vp (aD yh) R) ?_
 refine bG ?_
 cases b
 exact qF () tI
 refine b' ?_
 refine lO (vp (aD ([]:aM)) R) ?_
 refine aP ?_
 refine bB (A:=(aM)×(Unit)) (fun a=>Z0o_J1 a.1=some r) (fun a=>[(3,(aD a.1))]) (fun a=>V) ?_ ?_
 refine bR ?_
 obtain ⟨D,u,q⟩:=bd b
 refine bC (A:=Unit) u (fun s a=>[(0,(iv s.1)),(3,(aD s.2))]) (fun s a=>V) () (aS R) tI ?_
 rintro ⟨e,l⟩ _ σ1 B b m
 dsimp only [Z0o_L1] at b
 refine dH ?_
 split at b
 refine b' ?_
 obtain ⟨i,b⟩:=gd b
 refine aU ?_
 refine lO (pO R R (by decide)) (lO (lq R R) (lO (vz (.int .u8 (IntKind.wrap .u8 ((aH ((48:Int)+(e.tmod (10:Int))))))) (v' un3 BC R)) (bK (K:=Bz) (xs:=([(IntKind.wrap .u8 ((aH ((48:Int)+(e.tmod (10:Int))))))]:List Int)) (vs:=[(.int .u8 (IntKind.wrap .u8 ((aH ((48:Int)+(e.tmod (10:Int)))))))]) 0 R R sA BD zc5 R R R R R R ?_ R (fun A9 D9=>?_))))
 exact fun I h s=>(mO5).list [((),(IntKind.wrap .u8 ((aH ((48:Int)+(e.tmod (10:Int)))))))] I h s
 refine lO (vz (aD (nt ([(IntKind.wrap .u8 ((aH ((48:Int)+(e.tmod (10:Int))))))]:List Int))) (y7 0 sA BC fJ aB R)) (lO (vp (aD l) R) (lO (vz (aD ((nt ([(IntKind.wrap .u8 ((aH ((48:Int)+(e.tmod (10:Int))))))]:List Int))++l)) (nk R R i)) (lO (vp (aD ((nt ([(IntKind.wrap .u8 ((aH ((48:Int)+(e.tmod (10:Int))))))]:List Int))++l)) R) ?_)))
 refine bG ?_
 refine lO (vz (iv (aH (e.tdiv (10:Int)))) (mi R R (by decide))) ?_
 refine aP ?_
 cases b
 exact qA () (tE 1 [])
 refine aP ?_
 cases b
 obtain rfl:=m _ R
 have b:=q
 refine aU ?_
 exact qI (l,()) b tI
 rintro ⟨g,_⟩ σ1 b
 dsimp only [Z0o_J1] at b
 refine bR ?_
 obtain ⟨j,b⟩:=gd b
 refine aE (lO (vp (aD g) R) (lO (vz (aD (str8++g)) (nk R R j)) (lO (vp (aD (str8++g)) R) ?_)))
 refine aP ?_
 cases b
 exact qF () tI
theorem Z0k_ok  {B:(List Node)}{k3:Int}{r:Int×(List Node)}(q:Z0k B k3=some r) :
 FnOk Tryz.prog 39 [(.slice A2 N2 D2),(iv k3)] [ow dL 54 (.slice A2 N2 D2) B] (fun (h:Unit)=>((iv r.1),[ow dL 54 (.slice A2 N2 D2) r.2])):=by
 unfold Z0k at q
 refine aQ Tryz.func39 R 56 R R fun C V=>?_
 refine cL 0 aB ?_
 rintro rfl
 refine bS ?_
 refine bB (A:=(Int×(List Node))×(Unit)) (fun a=>Z0k_J1 a.1.1 a.1.2=some r) (fun a=>[(1,(iv a.1.1))]) (fun a=>ow dL 54 (.slice A2 B.length D2) a.1.2::V) ?_ ?_
 refine bS ?_
 obtain ⟨e1,b9,b8⟩:=bd q
 refine bC (A:=Unit) b9 (fun s a=>[(0,(sc A2 B D2)),(1,(iv s.2.1)),(5,(iv s.2.2))]) (fun s a=>ow dL 54 (.slice A2 B.length D2) s.1::V) () (aS R) tI ?_
 rintro ⟨a46,Z,b⟩ _ σ1 bc q ba
 dsimp only [Z0k_L1] at q
 refine cP ?_
 split at q
 refine bS ?_
 obtain ⟨m,q⟩:=gd q
 refine bG ?_
 refine bD 0 aB (show 0<B.length by have:=m; omega) (fun u o52 ha=>?_)
 subst ha
 refine bR ?_
 refine lO (vz (.pointer (some ⟨u,o52+b.toNat*6,none⟩)) (jB jh R R)) (vf (K:=dL) (fo:=0) (v:=(iv Z)) (f:=(fun x:Node=>(⟨Z,x.Args,x.Dims,x.Ints,x.Form,x.Data⟩:Node))) 0 b R R cE ?_ R R R R m.1 m.2 ?_)
 exact SetL.deep qL oY (fun a x=>((),(.slice a.2.1.1 x.Args.length a.2.1.2),(.slice a.2.2.1.1 x.Dims.length a.2.2.1.2),(.slice a.2.2.2.1.1 x.Ints.length a.2.2.2.1.2),(),(.slice a.2.2.2.2.2.1 x.Data.length a.2.2.2.2.2.2))) R (fun _ _=>R) (fun _ _=>R)
 refine bR ?_
 obtain ⟨j,M,q⟩:=bd q
 replace M:=Option.some.inj M
 refine qM (ow dL 54 (.slice (ad u o52) B.length D2) j::V) (fun w s=>by rw [← M]; exact s) ?_
 refine cP ?_
 obtain ⟨O,ay,q⟩:=bd q
 refine bG ?_
 refine lO (vz (.pointer (some ⟨u,o52+b.toNat*6+1,none⟩)) (jB sg R R)) (kE (K:=dL) qL 0 b R m.1 m.2 ?_)
 rintro ⟨-,⟨ag,a6⟩,⟨aw,a4⟩,⟨ab,ae⟩,-,⟨a9,ak⟩⟩
 refine lO (mn (fo:=1) 0 cH R R R) (lI R (lM (ow _ _ _ _::u3 _ _ _ _ _ _::ow _ _ _ _::ow _ _ _ _::ow _ _ _ _::V) (tE 5 [1,0,2,3,4]) ?_))
 refine lC 1 qT R (Zt_ok ay) R ?_
 rintro _
 refine aU ?_
 refine qM (ow dL 54 (.slice (ad u o52) B.length D2) (j.set b.toNat (⟨(ix j b).Op,O.2,(ix j b).Dims,(ix j b).Ints,(ix j b).Form,(ix j b).Data⟩:Node))::V) (fun w s=>St.unfocus (E:=[ow kT3 3 (.slice ag ((ix j b).Args).length a6) O.2,OO kT3 3 aw a4 ((ix j b).Dims),OO kT3 3 ab ae ((ix j b).Ints),OO kT3 3 a9 ak ((ix j b).Data)]) (⟨(ix j b).Op,O.2,(ix j b).Dims,(ix j b).Ints,(ix j b).Form,(ix j b).Data⟩:Node) (s.e 5 [1,0,2,3,4]) ?_) ?_
 exact fun I h s=>(oY).put I h ((),(sc ag ((ix j b).Args) a6),(sc aw ((ix j b).Dims) a4),(sc ab ((ix j b).Ints) ae),(),(sc a9 ((ix j b).Data) ak)) (⟨(ix j b).Op,O.2,(ix j b).Dims,(ix j b).Ints,(ix j b).Form,(ix j b).Data⟩:Node) s
 obtain ⟨i,D,q⟩:=bd q
 replace D:=Option.some.inj D
 refine qM (ow dL 54 (.slice (ad u o52) B.length D2) i::V) (fun w s=>by rw [← D]; exact s) ?_
 refine aU ?_
 obtain ⟨U,ai,q⟩:=bd q
 refine bG ?_
 refine lO (vz (.pointer (some ⟨u,o52+b.toNat*6+2,none⟩)) (jB ki R R)) (kE (K:=dL) qL 0 b R m.1 m.2 ?_)
 rintro ⟨-,⟨a2,al⟩,⟨b4,b6⟩,⟨av,am⟩,-,⟨b1,ax⟩⟩
 refine lO (mn (fo:=2) 0 cH R R R) (lI R (lM (ow _ _ _ _::u3 _ _ _ _ _ _::ow _ _ _ _::ow _ _ _ _::ow _ _ _ _::V) (tE 5 [2,0,1,3,4]) ?_))
 refine lC 1 qT R (Zt_ok ai) R ?_
 rintro _
 refine aU ?_
 refine qM (ow dL 54 (.slice (ad u o52) B.length D2) (i.set b.toNat (⟨(ix i b).Op,(ix i b).Args,U.2,(ix i b).Ints,(ix i b).Form,(ix i b).Data⟩:Node))::V) (fun w s=>St.unfocus (E:=[OO kT3 3 a2 al ((ix i b).Args),ow kT3 3 (.slice b4 ((ix i b).Dims).length b6) U.2,OO kT3 3 av am ((ix i b).Ints),OO kT3 3 b1 ax ((ix i b).Data)]) (⟨(ix i b).Op,(ix i b).Args,U.2,(ix i b).Ints,(ix i b).Form,(ix i b).Data⟩:Node) (s.e 5 [1,2,0,3,4]) ?_) ?_
 exact fun I h s=>(oY).put I h ((),(sc a2 ((ix i b).Args) al),(sc b4 ((ix i b).Dims) b6),(sc av ((ix i b).Ints) am),(),(sc b1 ((ix i b).Data) ax)) (⟨(ix i b).Op,(ix i b).Args,U.2,(ix i b).Ints,(ix i b).Form,(ix i b).Data⟩:Node) s
 obtain ⟨l,F,q⟩:=bd q
 replace F:=Option.some.inj F
 refine qM (ow dL 54 (.slice (ad u o52) B.length D2) l::V) (fun w s=>by rw [← F]; exact s) ?_
 refine aU ?_
 obtain ⟨Y,a8,q⟩:=bd q
 refine bG ?_
 refine lO (vz (.pointer (some ⟨u,o52+b.toNat*6+3,none⟩)) (jB gQ R R)) (kE (K:=dL) qL 0 b R m.1 m.2 ?_)
 rintro ⟨-,⟨ap,aj⟩,⟨b0,aq⟩,⟨ao,b2⟩,-,⟨b3,b5⟩⟩
 refine lO (mn (fo:=3) 0 cH R R R) (lI R (lM (ow _ _ _ _::u3 _ _ _ _ _ _::ow _ _ _ _::ow _ _ _ _::ow _ _ _ _::V) (tE 5 [3,0,1,2,4]) ?_))
 refine lC 1 qT R (Zt_ok a8) R ?_
 rintro _
 refine aU ?_
 refine qM (ow dL 54 (.slice (ad u o52) B.length D2) (l.set b.toNat (⟨(ix l b).Op,(ix l b).Args,(ix l b).Dims,Y.2,(ix l b).Form,(ix l b).Data⟩:Node))::V) (fun w s=>St.unfocus (E:=[OO kT3 3 ap aj ((ix l b).Args),OO kT3 3 b0 aq ((ix l b).Dims),ow kT3 3 (.slice ao ((ix l b).Ints).length b2) Y.2,OO kT3 3 b3 b5 ((ix l b).Data)]) (⟨(ix l b).Op,(ix l b).Args,(ix l b).Dims,Y.2,(ix l b).Form,(ix l b).Data⟩:Node) (s.e 5 [1,2,3,0,4]) ?_) ?_
 exact fun I h s=>(oY).put I h ((),(sc ap ((ix l b).Args) aj),(sc b0 ((ix l b).Dims) aq),(sc ao ((ix l b).Ints) b2),(),(sc b3 ((ix l b).Data) b5)) (⟨(ix l b).Op,(ix l b).Args,(ix l b).Dims,Y.2,(ix l b).Form,(ix l b).Data⟩:Node) s
 obtain ⟨b7,J,q⟩:=bd q
 replace J:=Option.some.inj J
 refine qM (ow dL 54 (.slice (ad u o52) B.length D2) b7::V) (fun w s=>by rw [← J]; exact s) ?_
 refine aU ?_
 obtain ⟨ar,ah,q⟩:=bd q
 refine bG ?_
 refine lC 0 B2 R (Z0o_ok ah) R ?_
 rintro _
 refine bR ?_
 refine lO (vz (.pointer (some ⟨u,o52+b.toNat*6+4,none⟩)) (jB oZ R R)) (vf (K:=dL) (fo:=4) (v:=(aD ar)) (f:=(fun x:Node=>(⟨x.Op,x.Args,x.Dims,x.Ints,ar,x.Data⟩:Node))) 0 b R R qP ?_ R R R R m.1 m.2 ?_)
 exact SetL.deep qL oY (fun a x=>((),(.slice a.2.1.1 x.Args.length a.2.1.2),(.slice a.2.2.1.1 x.Dims.length a.2.2.1.2),(.slice a.2.2.2.1.1 x.Ints.length a.2.2.2.1.2),(),(.slice a.2.2.2.2.2.1 x.Data.length a.2.2.2.2.2.2))) R (fun _ _=>R) (fun _ _=>R)
 refine bR ?_
 obtain ⟨g,G,q⟩:=bd q
 replace G:=Option.some.inj G
 refine qM (ow dL 54 (.slice (ad u o52) B.length D2) g::V) (fun w s=>by rw [← G]; exact s) ?_
 refine cV ?_
 obtain ⟨T,au,q⟩:=bd q
 refine bG ?_
 refine lO (vz (.pointer (some ⟨u,o52+b.toNat*6+5,none⟩)) (jB nw R R)) (kE (K:=dL) qL 0 b R m.1 m.2 ?_)
 rintro ⟨-,⟨aa,a5⟩,⟨ac,an⟩,⟨a0,a7⟩,-,⟨a3,az⟩⟩
 refine lO (mn (fo:=5) 0 cH R R R) (lI R (lM (ow _ _ _ _::u3 _ _ _ _ _ _::ow _ _ _ _::ow _ _ _ _::ow _ _ _ _::V) (fun w s=>(s.f 5 [4,1,0,4])) ?_))
 refine lC 1 qT R (Zt_ok au) R ?_
 rintro _
 refine aU ?_
 refine qM (ow dL 54 (.slice (ad u o52) B.length D2) (g.set b.toNat (⟨(ix g b).Op,(ix g b).Args,(ix g b).Dims,(ix g b).Ints,(ix g b).Form,T.2⟩:Node))::V) (fun w s=>St.unfocus (E:=[OO kT3 3 aa a5 ((ix g b).Args),OO kT3 3 ac an ((ix g b).Dims),OO kT3 3 a0 a7 ((ix g b).Ints),ow kT3 3 (.slice a3 ((ix g b).Data).length az) T.2]) (⟨(ix g b).Op,(ix g b).Args,(ix g b).Dims,(ix g b).Ints,(ix g b).Form,T.2⟩:Node) (s.f 5 [1,4,0,1]) ?_) ?_
 exact fun I h s=>(oY).put I h ((),(sc aa ((ix g b).Args) a5),(sc ac ((ix g b).Dims) an),(sc a0 ((ix g b).Ints) a7),(),(sc a3 ((ix g b).Data) az)) (⟨(ix g b).Op,(ix g b).Args,(ix g b).Dims,(ix g b).Ints,(ix g b).Form,T.2⟩:Node) s
 obtain ⟨bb,L,q⟩:=bd q
 replace L:=Option.some.inj L
 refine qM (ow dL 54 (.slice (ad u o52) B.length D2) bb::V) (fun w s=>by rw [← L]; exact s) ?_
 refine dH ?_
 cases q
 exact qA () tI
 refine aP ?_
 cases q
 obtain rfl:=ba _ R
 have q:=b8
 refine aU ?_
 exact qI ((Z,a46),()) q tI
 rintro ⟨⟨bf,be⟩,_⟩ σ1 q
 dsimp only [Z0k_J1] at q
 refine dH ?_
 cases q
 exact qF () tI
theorem Z25_ok  {b:Graph}{i:Int}{r:Int×(List Node)×(List Int)}(a:Z25 b i=some r) :
 FnOk Tryz.prog 17 [(.agg [(.slice A2 N2 D2),(.slice A3 N3 D3)].toArray),(iv i)] [ow dL 54 (.slice A2 N2 D2) b.Nodes,ow kT3 3 (.slice A3 N3 D3) b.Outs] (fun (h:Unit)=>((iv r.1),[ow dL 54 (.slice A2 N2 D2) r.2.1,ow kT3 3 (.slice A3 N3 D3) r.2.2])):=by
 unfold Z25 at a
 refine aQ Tryz.func17 R 14 R R fun C V=>?_
 refine cL 0 aB ?_
 rintro rfl
 refine cL 1 aB ?_
 rintro rfl
 refine aU ?_
 refine eG R fun j=>?_
 refine aU ?_
 refine qM _ (tE 3 [1,2,0]) ?_
 let m:=aJ j [(sc A2 b.Nodes D2),(sc A3 b.Outs D3)] 30::V
 refine aU ?_
 obtain ⟨q,g,a⟩:=bd a
 refine bG ?_
 refine lC 1 B3 R (Z0k_ok g) R ?_
 rintro _
 refine bG ?_
 obtain ⟨l,e,a⟩:=bd a
 refine bG ?_
 refine lM _ (tE 2 [1,0]) ?_
 refine lC 1 qT R (Zt_ok e) R ?_
 rintro _
 refine cT ?_
 cases a
 exact qF () (tE 3 [1,0])
theorem Z0j_ok  {m:(List (List Int))}{L:Int}{r:Int×(List (List Int))}(b:Z0j m L=some r) :
 FnOk Tryz.prog 23 [(.slice A2 N2 D2),(iv L)] [ow kT23 23 (.slice A2 N2 D2) m] (fun (h:Unit)=>((iv r.1),[ow kT23 23 (.slice A2 N2 D2) r.2])):=by
 unfold Z0j at b
 refine aQ Tryz.func23 R 19 R R fun C V=>?_
 refine cL 0 aB ?_
 rintro rfl
 refine bS ?_
 refine bB (A:=(Int×(List (List Int)))×(Unit)) (fun a=>Z0j_J1 a.1.1 a.1.2=some r) (fun a=>[(1,(iv a.1.1))]) (fun a=>ow kT23 23 (.slice A2 m.length D2) a.1.2::V) ?_ ?_
 refine bS ?_
 obtain ⟨Z,J,G⟩:=bd b
 refine bC (A:=Unit) J (fun s a=>[(0,(sc A2 m D2)),(1,(iv s.2.1)),(5,(iv s.2.2))]) (fun s a=>ow kT23 23 (.slice A2 m.length D2) s.1::V) () (aS R) tI ?_
 rintro ⟨i,D,l⟩ _ σ1 M b F
 dsimp only [Z0j_L1] at b
 refine cP ?_
 split at b
 refine b' ?_
 obtain ⟨g,b⟩:=gd b
 obtain ⟨j,B,b⟩:=bd b
 refine aP ?_
 refine bD 0 aB (show 0<m.length by have:=g; omega) (fun Y o17 O=>?_)
 subst O
 refine bR ?_
 refine kE (K:=kT23) s8 0 l R g.1 g.2 ?_
 rintro ⟨q,u⟩
 refine lO (mn (fo:=0) 0 cH R R R) (lI R (lM _ (tE 2 [1,0]) ?_))
 refine lC 1 qT R (Zt_ok B) R ?_
 rintro _
 refine aU ?_
 refine qM _ (fun w s=>St.unfocus (E:=[ow kT3 3 (.slice q (ix i l).length u) j.2]) j.2 (s.e 2 [1,0]) ?_) ?_
 exact fun I h s=>(l3).put I h (sc q (ix i l) u) j.2 s
 refine dH ?_
 cases b
 exact qA () tI
 refine aP ?_
 cases b
 obtain rfl:=F _ R
 have b:=G
 refine aU ?_
 exact qI ((D,i),()) b tI
 rintro ⟨⟨U,T⟩,_⟩ σ1 b
 dsimp only [Z0j_J1] at b
 refine dH ?_
 cases b
 exact qF () tI
theorem Z0n_ok  {i:(List Int)}{q:Int}{r:Int}(b:Z0n i q=some r) :
 FnOk Tryz.prog 19 [(.slice A2 N2 D2),(iv q)] [aO kT3 (.slice A2 N2 D2) i] (fun (h:Unit)=>((iv r),[])):=by
 unfold Z0n at b
 refine aQ Tryz.func19 R 21 R R fun C V=>?_
 refine cL 0 aA ?_
 rintro rfl
 let l:=RR kT3 A2 D2 i::V
 refine cN l ?_
 refine bS ?_
 refine bB (A:=(Int)×(Unit)) (fun a=>Z0n_J1 a.1=some r) (fun a=>[(1,(iv a.1))]) (fun a=>l) ?_ ?_
 refine bS ?_
 obtain ⟨I,m,j⟩:=bd b
 refine bC (A:=Unit) m (fun s a=>[(0,(sc A2 i D2)),(1,(iv s.1)),(5,(iv s.2))]) (fun s a=>l) () (aS R) tI ?_
 rintro ⟨E,B⟩ _ σ1 u b g
 dsimp only [Z0n_L1] at b
 refine cP ?_
 split at b
 refine dH ?_
 obtain ⟨e,b⟩:=gd b
 refine aP ?_
 refine bD 0 aA (show 0<i.length by have:=e; omega) (fun F o14 D=>?_)
 subst D
 refine bS ?_
 split at b
 refine cT ?_
 cases b
 obtain rfl:=g _ R
 have b:=j
 refine aP ?_
 cases b
 exact qF () (tE 1 [])
 refine nv ?_
 cases b
 exact qA () tI
 refine aP ?_
 cases b
 obtain rfl:=g _ R
 have b:=j
 refine aU ?_
 exact qI (E,()) b tI
 rintro ⟨G,_⟩ σ1 b
 dsimp only [Z0n_J1] at b
 refine dH ?_
 cases b
 exact qF () (tE 1 [])
theorem Z0c_ok  {i:(List (List Int))}{D:Int}{r:Int}(b:Z0c i D=some r) :
 FnOk Tryz.prog 24 [(.slice A2 N2 D2),(iv D)] [aO kT23 (.slice A2 N2 D2) i] (fun (h:Unit)=>((iv r),[])):=by
 unfold Z0c at b
 refine aQ Tryz.func24 R 21 R R fun C V=>?_
 refine cL 0 aA ?_
 rintro rfl
 let q:=RR kT23 A2 D2 i::V
 refine cN q ?_
 refine bS ?_
 refine bB (A:=(Int)×(Unit)) (fun a=>Z0c_J1 a.1=some r) (fun a=>[(1,(iv a.1))]) (fun a=>q) ?_ ?_
 refine bS ?_
 obtain ⟨O,u,j⟩:=bd b
 refine bC (A:=Unit) u (fun s a=>[(0,(sc A2 i D2)),(1,(iv s.1)),(5,(iv s.2))]) (fun s a=>q) () (aS R) tI ?_
 rintro ⟨m,B⟩ _ σ1 E b g
 dsimp only [Z0c_L1] at b
 refine cP ?_
 split at b
 refine bS ?_
 obtain ⟨e,b⟩:=gd b
 obtain ⟨I,l,b⟩:=bd b
 refine aP ?_
 refine bD 0 aA (show 0<i.length by have:=e; omega) (fun M o17 F=>?_)
 subst F
 refine bR ?_
 refine gN (K:=kT23) 0 B dT23.dec R e.1 e.2 ?_
 rintro ⟨G,J⟩
 refine lO (eA (fo:=0) 0 cH R R R) (lI R (lM _ (fun w s=>(s.d 1 R)) ?_))
 refine lC 1 B5 R (Z0n_ok l) R ?_
 rintro _
 refine cP ?_
 split at b
 refine cP ?_
 cases b
 obtain rfl:=g _ R
 have b:=j
 refine aP ?_
 cases b
 exact qF () (tE 3 [])
 refine cP ?_
 cases b
 exact qA () (tE 2 [])
 refine aP ?_
 cases b
 obtain rfl:=g _ R
 have b:=j
 refine aU ?_
 exact qI (m,()) b tI
 rintro ⟨L,_⟩ σ1 b
 dsimp only [Z0c_J1] at b
 refine dH ?_
 cases b
 exact qF () (tE 1 [])
end Go.Proofs.YtmpnollfdpdipaaGreat
