import Derived.Test.YtmpnollfdpdipaaGreatDoorCoF
import Derived.Test.YtmpnollfdpdipaaGreatDoorCoW2
import Derived.Test.YtmpnollfdpdipaaGreatDoorCoW4
set_option linter.unusedVariables false
set_option maxRecDepth 20000
namespace Go.Proofs.YtmpnollfdpdipaaGreatDoor
open Go Go.Pg
variable {A2 A3:Option Addr}{D2 D3 N2 N3:Nat}
theorem Z4_ok  {g1:Graph}{r:Int}(i:Z4 g1=some r) :
 FnOk Tryz.prog 41 [(.agg [(.slice A2 N2 D2),(.slice A3 N3 D3)].toArray)] [aO cB (.slice A2 N2 D2) g1.Nodes,aO kT3 (.slice A3 N3 D3) g1.Outs] (fun (h:Unit)=>((iv r),[])):=by
 unfold Z4 at i
 refine aR Tryz.func41 R 103 R R fun C V=>?_
 refine cL 0 aA ?_
 rintro rfl
 refine cL 1 aA ?_
 rintro rfl
 let W0:=RR cB A2 D2 g1.Nodes::RR kT3 A3 D3 g1.Outs::V
 refine cN W0 ?_
 refine aU ?_
 refine eE R fun b4=>?_
 refine aU ?_
 let W1:=aJ b4 [(sc A2 g1.Nodes D2),(sc A3 g1.Outs D3)] 67::W0
 refine qN W1 ?_
 refine aU ?_
 obtain ⟨E,bg,i⟩:=bd i
 refine aU ?_
 refine lM _ (fun w s=>(((s.d 1 R).d 3 R).e 2 [1,0])) ?_
 refine lC 2 yX R (Z0g_ok bg) R ?_
 rintro ⟨A7,N7,D7⟩
 refine aL 0 dC ?_
 rintro rfl
 refine bH ?_
 obtain ⟨g,bh,i⟩:=bd i
 refine aU ?_
 refine lM _ (fun w s=>(((s.d 2 R).d 4 R).e 3 [1,0,2])) ?_
 refine lC 2 y' R (Z07_ok bh) R ?_
 rintro ⟨A10,N10,D10⟩
 refine aL 0 aB ?_
 rintro rfl
 refine cY ?_
 refine bC (A:=(Int)×(Unit)) (fun a=>Z4_J9 a.1=some r) (fun a=>[(5,(iv a.1))]) (fun a=>W1) ?_ ?_
 refine bV ?_
 obtain ⟨e1,bc,b9⟩:=bd i
 refine bF (A:=HH) bc (fun s a=>[(1,(pt b4 0)),(3,(sc A7 E D7)),(4,(s3 a)),(5,(iv s.1)),(6,(iv s.2))]) (fun s a=>OO (bG).share 36 A7 D7 E::ow kT3 3 (s3 a) g::W1) (A10,g.length,D10) (aS R) (tE 2 [1,0]) ?_
 rintro ⟨j,b⟩ ⟨c0,b5,m⟩ σ1 a3 i b6
 dsimp only [Z4_L1] at i
 refine bI 1 aB (fun (hn:b5=g.length)=>?_)
 subst hn
 refine cY ?_
 split at i
 refine bH ?_
 refine bC (A:=(Int)×(HH)) (fun a=>Z4_J8 b a.1=some a3) (fun a=>[(1,(pt b4 0)),(3,(sc A7 E D7)),(4,(s3 a.2)),(5,(iv a.1)),(6,(iv b))]) (fun a=>OO (bG).share 36 A7 D7 E::ow kT3 3 (s3 a.2) g::W1) ?_ ?_
 refine aU ?_
 obtain ⟨b0,i⟩:=gd i
 obtain ⟨a4,i⟩:=gd i
 refine aZ 1 aB (show 0<g.length by have:=b0; omega) (fun q o91 ha=>?_)
 subst ha
 refine aZ 3 aA (show 0<g1.Nodes.length by have:=a4; omega) (fun c1 o94 ha=>?_)
 subst ha
 refine dI (K:=cB) 3 (ix g b) dT171.dec R a4.1 a4.2 ?_
 rintro ⟨-,⟨F,M⟩,⟨G,O⟩,⟨J,T⟩,-,⟨L,U⟩⟩
 refine dF 10 [] bO fun ht hn=>?_
 refine rq 0 [] ?_
 refine dR 7 R (vz (.agg [(iv (ix g1.Nodes (ix g b)).Op),(sc F ((ix g1.Nodes (ix g b)).Args) M),(sc G ((ix g1.Nodes (ix g b)).Dims) O),(sc J ((ix g1.Nodes (ix g b)).Ints) T),(aD (ix g1.Nodes (ix g b)).Form),(sc L ((ix g1.Nodes (ix g b)).Data) U)].toArray) (eF (fo:=0) 0 mx iz R R R R)) (d1 8 R (bD R R mw (fun a0=>(aC (aG (sL [0]) (d1 9 R (aK 0 R R iz R R R R R R (lN (aJ a0 [(iv (ix g1.Nodes (ix g b)).Op),(sc F ((ix g1.Nodes (ix g b)).Args) M),(sc G ((ix g1.Nodes (ix g b)).Dims) O),(sc J ((ix g1.Nodes (ix g b)).Ints) T),(aD (ix g1.Nodes (ix g b)).Form),(sc L ((ix g1.Nodes (ix g b)).Data) U)] 171::_::_::_::_::_::_::_::W1) ?_))))))))
 refine aC (aG (sL [0]) (dD ?_))
 refine cY ?_
 refine bC (A:=(Bool)×(Unit)) (fun a=>Z4_J5 g1 E g j b a.1=some a3) (fun a=>[(1,(pt b4 0)),(3,(sc A7 E D7)),(4,(sc (ad q o91) g m)),(5,(iv j)),(6,(iv b)),(7,(pt a0 0)),(37,(iv (ix g1.Nodes (ix g b)).Op)),(48,(.bool a.1))]) (fun a=>OO (bG).share 36 A7 D7 E::OO kT3 3 (ad q o91) m g::aJ a0 [(iv (ix g1.Nodes (ix g b)).Op),(sc F ((ix g1.Nodes (ix g b)).Args) M),(sc G ((ix g1.Nodes (ix g b)).Dims) O),(sc J ((ix g1.Nodes (ix g b)).Ints) T),(aD (ix g1.Nodes (ix g b)).Form),(sc L ((ix g1.Nodes (ix g b)).Data) U)] 171::RR kT3 F M ((ix g1.Nodes (ix g b)).Args)::RR kT3 G O ((ix g1.Nodes (ix g b)).Dims)::RR kT3 J T ((ix g1.Nodes (ix g b)).Ints)::RR kT3 L U ((ix g1.Nodes (ix g b)).Data)::W1) ?_ ?_
 refine bV ?_
 split at i
 refine aU ?_
 exact qI (((ix g1.Nodes (ix g b)).Op==1),()) i (fun w s=>(s.f 8 [6,2,0,1,2,4]))
 refine b' ?_
 exact qI (((ix g1.Nodes (ix g b)).Op==2),()) i (fun w s=>(s.f 8 [6,2,0,1,2,4]))
 rintro ⟨bz,_⟩ σ1 i
 dsimp only [Z4_J5] at i
 split at i
 refine bH ?_
 exact qI (j,((ad q o91),g.length,m)) i (tE 7 [0,1])
 refine dO ?_
 split at i
 refine aP ?_
 refine bL (K:=bG) (xs:=([]:List (List Int))) (vs:=[]) 0 R R iT eR jK R R R R R R ?_ R (fun ap au=>?_)
 exact fun I h s=>(lL).list [] I h s
 refine bH ?_
 refine bC (A:=((List (List Int)))×(HH)) (fun a=>Z4_J6 g1 g j b a.1=some a3) (fun a=>[(1,(pt b4 0)),(3,(sc A7 E D7)),(4,(sc (ad q o91) g m)),(5,(iv j)),(6,(iv b)),(7,(pt a0 0)),(8,(s3 a.2))]) (fun a=>OO (bG).share 36 A7 D7 E::OO kT3 3 (ad q o91) m g::aJ a0 [(iv (ix g1.Nodes (ix g b)).Op),(sc F ((ix g1.Nodes (ix g b)).Args) M),(sc G ((ix g1.Nodes (ix g b)).Dims) O),(sc J ((ix g1.Nodes (ix g b)).Ints) T),(aD (ix g1.Nodes (ix g b)).Form),(sc L ((ix g1.Nodes (ix g b)).Data) U)] 171::RR kT3 F M ((ix g1.Nodes (ix g b)).Args)::RR kT3 G O ((ix g1.Nodes (ix g b)).Dims)::RR kT3 J T ((ix g1.Nodes (ix g b)).Ints)::RR kT3 L U ((ix g1.Nodes (ix g b)).Data)::ow (bG).share 36 (s3 a.2) a.1::W1) ?_ ?_
 refine bV ?_
 obtain ⟨e2,be,ba⟩:=bd i
 refine bF (A:=HH) be (fun s a=>[(1,(pt b4 0)),(3,(sc A7 E D7)),(4,(sc (ad q o91) g m)),(5,(iv j)),(6,(iv b)),(7,(pt a0 0)),(8,(s3 a)),(9,(iv s.2))]) (fun s a=>OO (bG).share 36 A7 D7 E::OO kT3 3 (ad q o91) m g::aJ a0 [(iv (ix g1.Nodes (ix g b)).Op),(sc F ((ix g1.Nodes (ix g b)).Args) M),(sc G ((ix g1.Nodes (ix g b)).Dims) O),(sc J ((ix g1.Nodes (ix g b)).Ints) T),(aD (ix g1.Nodes (ix g b)).Form),(sc L ((ix g1.Nodes (ix g b)).Data) U)] 171::RR kT3 F M ((ix g1.Nodes (ix g b)).Args)::RR kT3 G O ((ix g1.Nodes (ix g b)).Dims)::RR kT3 J T ((ix g1.Nodes (ix g b)).Ints)::RR kT3 L U ((ix g1.Nodes (ix g b)).Data)::ow (bG).share 36 (s3 a) s.1::W1) (ap,([]:List (List Int)).length,au) (aS R) (fun w s=>((s.wk 0 R).f 8 [1,7,0,1])) ?_
 rintro ⟨l,D⟩ ⟨aq,ax,av⟩ σ1 bv i b7
 dsimp only [Z4_L2] at i
 refine bI 7 dC (fun (hn:ax=l.length)=>?_)
 subst hn
 refine cU ?_
 split at i
 refine b' ?_
 obtain ⟨aj,i⟩:=gd i
 obtain ⟨a1,i⟩:=gd i
 obtain ⟨ak,i⟩:=gd i
 refine bV ?_
 refine bA 3 aA (show 0<((ix g1.Nodes (ix g b)).Args).length by have:=aj; omega) (fun bp o122 ha=>?_)
 subst ha
 refine aU ?_
 refine bA 0 dC (show 0<E.length by have:=a1; omega) (fun bq o125 ha=>?_)
 subst ha
 refine bT ?_
 refine nr (K:=(bG).share) (fo:=0) 0 (ix ((ix g1.Nodes (ix g b)).Args) D) R R cK dT36.own (fun _ _=>R) R R a1.1 a1.2 ?_
 rintro ⟨a7,ac⟩
 refine lM _ (fun w s=>(s.d 0 R)) ?_
 refine bL (K:=(bG).share) (xs:=([(ix E (ix ((ix g1.Nodes (ix g b)).Args) D))]:List (List Int))) (vs:=[(sc a7 (ix E (ix ((ix g1.Nodes (ix g b)).Args) D)) ac)]) 1 R R iT eR jK R R R R R R ?_ R (fun bi bk=>?_)
 exact fun I h s=>(oc).list [((sc a7 (ix E (ix ((ix g1.Nodes (ix g b)).Args) D)) ac),(ix E (ix ((ix g1.Nodes (ix g b)).Args) D)))] I h s
 refine lM _ (fun w s=>(s.f 10 [9,1,0,9])) ?_
 refine eC (K:=(bG).share) 5864062014805 R R iT eR p7 (Zr.zk (Zr.share zT36) jK) R R R R R R dM ak (fun a8 ae=>(lN (OO (bG).share 36 a8 ae (l++([(ix E (ix ((ix g1.Nodes (ix g b)).Args) D))]:List (List Int)))::_::_::_::_::_::_::_::_::W1) ?_))
 refine cY ?_
 cases i
 exact qA (a8,(l++([(ix E (ix ((ix g1.Nodes (ix g b)).Args) D))]:List (List Int))).length,ae) (fun w s=>(s.f 9 [2,7,0,1]))
 refine aP ?_
 cases i
 obtain rfl:=b7 _ R
 have i:=ba
 refine aU ?_
 exact qI (l,(aq,l.length,av)) i tI
 rintro ⟨u,⟨a9,ay,ag⟩⟩ σ1 i
 dsimp only [Z4_J6] at i
 refine bI 7 dC (fun (hn:ay=u.length)=>?_)
 subst hn
 refine bT ?_
 obtain ⟨Y,am,i⟩:=bd i
 refine aP ?_
 refine lC 0 yM R (Z1_ok am) R ?_
 rintro ⟨aa,bm,ah⟩
 refine aL 0 aB ?_
 rintro rfl
 refine lO (vT R) (lS R (lO (vp (aD Y.2.1) R) (lB R (lS R (lO (vp (aD Y.2.1) R) ?_)))))
 refine bH ?_
 obtain ⟨Z,an,i⟩:=bd i
 refine aU ?_
 refine lO (vp (aD Y.2.1) R) (lS R (lM _ (fun w s=>(s.f 9 [0,1,8,1,1,7])) ?_))
 refine lC 2 vv R (FnOk.lends (A':=[OO dQ 9 aa ah Y.1,OO (bG).share 36 a9 ag u]) (A:=[RR dQ aa ah Y.1,RR bG a9 ag u]) (B:=[]) (Z3_ok an) ⟨aY,ns,trivial⟩ (fun _=>⟨(bK j9),trivial⟩)) R ?_
 rintro ⟨ab,bn,ai⟩
 refine aL 2 aB ?_
 rintro rfl
 refine lO (vT R) (lO (vp (aD Z.1) R) (lS R (lB R (lO (vp (aD Z.1) R) ?_))))
 refine cU ?_
 refine bC (A:=(Int)×(Unit)) (fun a=>Z4_J7 j b a.1=some a3) (fun a=>[(1,(pt b4 0)),(3,(sc A7 E D7)),(4,(sc (ad q o91) g m)),(5,(iv j)),(6,(iv b)),(16,(iv a.1))]) (fun a=>OO (bG).share 36 A7 D7 E::OO kT3 3 (ad q o91) m g::W1) ?_ ?_
 refine bV ?_
 obtain ⟨e3,bf,bb⟩:=bd i
 refine bF (A:=Unit) bf (fun s a=>[(1,(pt b4 0)),(3,(sc A7 E D7)),(4,(sc (ad q o91) g m)),(5,(iv j)),(6,(iv b)),(14,(sc ab Z.2.1 ai)),(16,(iv s.1)),(17,(iv s.2))]) (fun s a=>OO (bG).share 36 A7 D7 E::OO kT3 3 (ad q o91) m g::OO kT3 3 ab ai Z.2.1::W1) () (aS R) (tE 10 [3,4,2]) ?_
 rintro ⟨a5,bu⟩ _ σ1 bw i b8
 dsimp only [Z4_L3] at i
 refine cY ?_
 split at i
 refine b' ?_
 obtain ⟨al,i⟩:=gd i
 refine bH ?_
 refine bA 2 aB (show 0<Z.2.1.length by have:=al; omega) (fun br o150 ha=>?_)
 subst ha
 refine iE ?_
 cases i
 exact qA () tI
 refine aP ?_
 cases i
 obtain rfl:=b8 _ R
 have i:=bb
 refine aU ?_
 exact qI (a5,()) i (tE 3 [0,1])
 rintro ⟨a6,_⟩ σ1 i
 dsimp only [Z4_J7] at i
 refine dA ?_
 exact qI ((aH (j+a6)),((ad q o91),g.length,m)) i tI
 refine bT ?_
 obtain ⟨a2,i⟩:=gd i
 obtain ⟨b1,ao,i⟩:=bd i
 refine dO ?_
 refine bA 0 dC (show 0<E.length by have:=a2; omega) (fun bs o156 ha=>?_)
 subst ha
 refine bT ?_
 refine nr (K:=(bG).share) (fo:=0) 0 (ix g b) R R cK dT36.own (fun _ _=>R) R R a2.1 a2.2 ?_
 rintro ⟨bj,bl⟩
 refine lM _ (fun w s=>(s.d 0 R)) ?_
 refine lC 1 mW R (Zo_ok ao) R ?_
 rintro _
 refine b' ?_
 exact qI ((aH (j+b1)),((ad q o91),g.length,m)) i (tE 8 [1,2])
 rintro ⟨b2,⟨ar,az,aw⟩⟩ σ1 i
 dsimp only [Z4_J8] at i
 refine bI 1 aB (fun (hn:az=g.length)=>?_)
 subst hn
 refine b' ?_
 cases i
 exact qA (ar,g.length,aw) tI
 refine aP ?_
 cases i
 obtain rfl:=b6 _ R
 have i:=b9
 refine aU ?_
 exact qI (j,()) i (tE 2 [])
 rintro ⟨b3,_⟩ σ1 i
 dsimp only [Z4_J9] at i
 refine dO ?_
 cases i
 exact qF () (tE 3 [])
end Go.Proofs.YtmpnollfdpdipaaGreatDoor
