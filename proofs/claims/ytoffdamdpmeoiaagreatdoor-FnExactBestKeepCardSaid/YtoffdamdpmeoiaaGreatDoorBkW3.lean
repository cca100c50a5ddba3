import Derived.Test.YtoffdamdpmeoiaaGreatDoorBkF
import Derived.Test.YtoffdamdpmeoiaaGreatDoorBkW2
set_option linter.unusedVariables false
set_option maxRecDepth 20000
namespace Go.Proofs.YtoffdamdpmeoiaaGreatDoor
open Go Go.Pg
variable {A2 A3 A5 A6:Option Addr}{D2 D3 D5 D6 N2 N3 N5 N6:Nat}
theorem Z5_ok  {a5:aN}{j:(List Tensor)}{r:Tensor}(b:Z5 a5 j=some r) :
 FnOk Tryz.prog 90 [(aG a5),(.slice A3 N3 D3)] [aO dY (.slice A3 N3 D3) j] (fun (h:HH×HH)=>((.agg [(s3 h.1),(s3 h.2)].toArray),[ow kT3 3 (s3 h.1) r.Dims,ow kT3 3 (s3 h.2) r.Data])):=by
 unfold Z5 at b
 refine aR Tryz.func90 R 142 R R fun C V=>?_
 refine cL 0 aA ?_
 rintro rfl
 let W0:=RR dY A3 D3 j::V
 refine cN W0 ?_
 refine aZ ?_
 refine bG R R eG (fun Z=>(aB (aE (aH ?_))))
 obtain ⟨q,c5,b⟩:=bd b
 refine aC (lO (vp (aG a5) R) (lC 0 AE R (Z1_ok c5) R ?_))
 rintro ⟨A7,N7,D7⟩
 refine aM 0 aD ?_
 rintro rfl
 refine lO (vT R) (lS R (lO (vp (aG q.2.1) R) (lB R (lS R (lO (vp (aG q.2.1) R) ?_)))))
 refine cV ?_
 refine cQ [(1,(sc A3 j D3)),(4,(pt Z 0)),(5,(sc A7 q.1 D7)),(6,(aG q.2.1)),(35,(.bool ((!q.2.2)||((q.1.length:Int) != (j.length:Int)))))] (aK Z [(.slice none 0 0),(.slice none 0 0)] 77::OO dX 9 A7 D7 q.1::W0) ?_ ?_
 refine bL ?_
 rcases bo (!q.2.2) with br | br
 refine eD ?_
 exact qj (tE 2 [1,0])
 refine eD ?_
 exact qj (tE 2 [1,0])
 rintro σ1
 refine cP ?_
 split at b
 refine aV ?_
 refine lO (vz (.agg [(.slice none 0 0),(.slice none 0 0)].toArray) (bA hJ eG R R)) (aL 0 R R bX R R R R R R (aB (aE (bY (bZ ?_)))))
 cases b
 exact qS ((none,0,0),(none,0,0)) (fun w s=>(((s.nilo kT3 3).nilo kT3 3).e 5 [1,0]))
 refine cV ?_
 refine bO (K:=bF) (xs:=([]:List (List Int))) (vs:=[]) 0 R R iW fK lv R R R R R R ?_ R (fun A10 D10=>?_)
 exact fun I h s=>(nh).list [] I h s
 refine bL ?_
 refine bB (A:=((List (List Int)))×(HH)) (fun a=>Z5_J1 j q a.1=some r) (fun a=>[(1,(sc A3 j D3)),(4,(pt Z 0)),(5,(sc A7 q.1 D7)),(6,(aG q.2.1)),(8,(s3 a.2))]) (fun a=>aK Z [(.slice none 0 0),(.slice none 0 0)] 77::OO dX 9 A7 D7 q.1::ow (bF).share 23 (s3 a.2) a.1::W0) ?_ ?_
 refine cB ?_
 obtain ⟨e1,c1,ba⟩:=bd b
 refine bD (A:=HH) c1 (fun s a=>[(1,(sc A3 j D3)),(4,(pt Z 0)),(5,(sc A7 q.1 D7)),(6,(aG q.2.1)),(8,(s3 a)),(9,(iv s.2))]) (fun s a=>aK Z [(.slice none 0 0),(.slice none 0 0)] 77::OO dX 9 A7 D7 q.1::ow (bF).share 23 (s3 a) s.1::W0) (A10,([]:List (List Int)).length,D10) (aS R) (fun w s=>((s.wk 0 R).e 3 [1,2,0])) ?_
 rintro ⟨J,i25⟩ ⟨bj,bn,bl⟩ σ1 cc b b7
 dsimp only [Z5_L1] at b
 refine bK 2 eQ (fun (hn:bn=J.length)=>?_)
 subst hn
 refine dG ?_
 split at b
 refine eD ?_
 obtain ⟨ai,b⟩:=gd b
 obtain ⟨cw,bb,b⟩:=bd b
 refine aV ?_
 refine bE 3 aA (show 0<j.length by have:=ai; omega) (fun bq o29 ha=>?_)
 subst ha
 refine cP ?_
 refine fV (K:=dY) 3 i25 dT77.dec R ai.1 ai.2 ?_
 rintro ⟨⟨aq,ar⟩,⟨bk,bm⟩⟩
 refine lO (vz (.agg [(sc aq ((ix j i25).Dims) ar),(sc bk ((ix j i25).Data) bm)].toArray) (eK (fo:=0) 0 fX bX R R R R)) (lM _ (fun w s=>(((s.d 1 R).d 3 R).f 8 [1,1,0,1,2,6])) ?_)
 refine lC 2 oH R (Zv_ok bb) R ?_
 rintro _
 refine aV ?_
 split at b
 refine aV ?_
 refine lO (vz (.agg [(.slice none 0 0),(.slice none 0 0)].toArray) (bA hJ eG R R)) (aL 3 R R bX R R R R R R (aB (aE (bY (bZ (cG (bZ ?_)))))))
 cases b
 obtain rfl:=b7 _ R
 have b:=ba
 refine aV ?_
 cases b
 exact qS ((none,0,0),(none,0,0)) (fun w s=>(((s.nilo kT3 3).nilo kT3 3).e 9 [1,0]))
 refine aV ?_
 obtain ⟨b8,b⟩:=gd b
 refine cV ?_
 refine lO (vz (.pointer (some ⟨bq,o29+i25.toNat*2,none⟩)) (jF j7 R R)) (lO (eZ (fo:=0) 0 cH R R R) (lM _ (fun w s=>(s.d 1 R)) ?_))
 refine bO (K:=(bF).share) (xs:=([(ix j i25).Dims]:List (List Int))) (vs:=[(sc aq ((ix j i25).Dims) ar)]) 1 R R iW fK lv R R R R R R ?_ R (fun ck co=>?_)
 exact fun I h s=>(sI).list [((sc aq ((ix j i25).Dims) ar),(ix j i25).Dims)] I h s
 refine lM _ (fun w s=>(s.f 7 [6,1,0,6])) ?_
 refine eU (K:=(bF).share) 5864062014805 R R iW fK u6 (Zr.zk (Zr.share zT23) lv) R R R R R R eB b8 (fun b1 b5=>(lN (OO (bF).share 23 b1 b5 (J++([(ix j i25).Dims]:List (List Int)))::_::_::_::_::_::W0) ?_))
 refine dG ?_
 cases b
 exact qA (b1,(J++([(ix j i25).Dims]:List (List Int))).length,b5) (tE 6 [4,5,0])
 refine aV ?_
 cases b
 obtain rfl:=b7 _ R
 have b:=ba
 refine aZ ?_
 exact qI (J,(bj,J.length,bl)) b tI
 rintro ⟨a2,⟨b2,bp,b6⟩⟩ σ1 b
 dsimp only [Z5_J1] at b
 refine bK 2 eQ (fun (hn:bp=a2.length)=>?_)
 subst hn
 refine cP ?_
 obtain ⟨l,bc,b⟩:=bd b
 refine aZ ?_
 refine lO (vp (aG q.2.1) R) (lS R (lM _ (tE 3 [1,2,0]) ?_))
 refine lC 2 AF R (FnOk.lends (A':=[OO dX 9 A7 D7 q.1,OO (bF).share 23 b2 b6 a2]) (A:=[RR dX A7 D7 q.1,RR bF b2 b6 a2]) (B:=[]) (Z3_ok bc) ⟨aU,mL,trivial⟩ (fun _=>⟨(bN jw),trivial⟩)) R ?_
 rintro ⟨T,cr,U⟩
 refine aM 2 aD ?_
 rintro rfl
 refine lO (vT R) (lO (vp (aG l.1) R) (lS R (lB R (lO (vp (aG l.1) R) ?_))))
 refine cB ?_
 obtain ⟨aj,b⟩:=gd b
 obtain ⟨c6,be,b⟩:=bd b
 refine cQ [(1,(sc A3 j D3)),(4,(pt Z 0)),(5,(sc A7 q.1 D7)),(6,(aG q.2.1)),(10,(aG l.1)),(11,(sc T l.2.1 U)),(76,(.bool ((!l.2.2)||(!c6))))] (aK Z [(.slice none 0 0),(.slice none 0 0)] 77::OO dX 9 A7 D7 q.1::RR kT3 T U l.2.1::W0) ?_ ?_
 refine bL ?_
 rcases bo (!l.2.2) with L | L
 refine dN ?_
 exact qj (fun w s=>((s.shr 2 R).e 4 [3,1,0]))
 refine cP ?_
 refine lW (bW L) (vp (aG q.2.1) R) (lW (bW L) (vz (il q.2.1) (eC f' R)) (ji (fun w s=>s.shr 2 R) (gP (K:=kT3) (0:Int) (q.2.1.length:Int) 0 R (bW L) bH cO R R R R (aj L).1 (aj L).2.1 (aj L).2.2 (fun cm cp=>(lM _ (fun w s=>(s.d 0 R)) ?_)))))
 refine b' 1 R (bW L) iT R (Zq_ok (bM be (cZ L))) R ?_
 rintro _
 refine aV ?_
 exact qj (tE 5 [4,2,1])
 rintro σ1
 refine cP ?_
 split at b
 refine aV ?_
 refine lO (vz (.agg [(.slice none 0 0),(.slice none 0 0)].toArray) (bA hJ eG R R)) (aL 0 R R bX R R R R R R (lN (_::_::_::W0) ?_))
 refine bL ?_
 cases b
 exact qS ((none,0,0),(none,0,0)) (fun w s=>(((s.nilo kT3 3).nilo kT3 3).e 6 [1,0]))
 refine bL ?_
 obtain ⟨ak,b⟩:=gd b
 obtain ⟨i,bf,b⟩:=bd b
 refine aZ ?_
 refine lO (vp (aG q.2.1) R) (lO (vz (il q.2.1) (eC f' R)) (gP (K:=kT3) (0:Int) (q.2.1.length:Int) 2 R R bH cO R R R R ak.1 ak.2.1 ak.2.2 (fun cn cq=>(lM _ (fun w s=>(s.d 0 R)) ?_))))
 refine lC 1 lr R (Z0q_ok bf) R ?_
 rintro ⟨⟨u,cs,D⟩,⟨E,ct,F⟩⟩
 refine aM 0 aD ?_
 rintro rfl
 refine aM 1 aD ?_
 rintro rfl
 refine bG R R eG (fun G=>(aL 0 R R bX R R R R R R (lN (aK G [(sc u i.Dims D),(sc E i.Data F)] 77::_::_::_::_::_::_::W0) ?_)))
 refine dN ?_
 refine bB (A:=(Int)×(Unit)) (fun a=>Z5_J2 j q l i a.1=some r) (fun a=>[(1,(sc A3 j D3)),(4,(pt Z 0)),(5,(sc A7 q.1 D7)),(6,(aG q.2.1)),(10,(aG l.1)),(11,(sc T l.2.1 U)),(13,(pt G 0)),(14,(iv a.1))]) (fun a=>aK Z [(.slice none 0 0),(.slice none 0 0)] 77::OO dX 9 A7 D7 q.1::RR kT3 T U l.2.1::aK G [(sc u i.Dims D),(sc E i.Data F)] 77::OO kT3 3 u D i.Dims::OO kT3 3 E F i.Data::W0) ?_ ?_
 refine cB ?_
 obtain ⟨e2,c2,bw⟩:=bd b
 refine bD (A:=Unit) c2 (fun s a=>[(1,(sc A3 j D3)),(4,(pt Z 0)),(5,(sc A7 q.1 D7)),(6,(aG q.2.1)),(10,(aG l.1)),(11,(sc T l.2.1 U)),(13,(pt G 0)),(14,(iv s.1)),(15,(iv s.2))]) (fun s a=>aK Z [(.slice none 0 0),(.slice none 0 0)] 77::OO dX 9 A7 D7 q.1::RR kT3 T U l.2.1::aK G [(sc u i.Dims D),(sc E i.Data F)] 77::OO kT3 3 u D i.Dims::OO kT3 3 E F i.Data::W0) () (aS R) (fun w s=>(s.f 7 [4,3,0,3])) ?_
 rintro ⟨ao,cv⟩ _ σ1 cf b bs
 dsimp only [Z5_L2] at b
 refine dG ?_
 split at b
 refine cV ?_
 obtain ⟨b9,b⟩:=gd b
 refine bL ?_
 refine bE 2 aA (show 0<l.2.1.length by have:=b9; omega) (fun cu o68 ha=>?_)
 subst ha
 refine jl ?_
 cases b
 exact qA () tI
 refine aV ?_
 cases b
 obtain rfl:=bs _ R
 have b:=bw
 refine aZ ?_
 exact qI (ao,()) b tI
 rintro ⟨a4,_⟩ σ1 b
 dsimp only [Z5_J2] at b
 refine aH (bB (A:=((List Int))×(Unit)) (fun a=>Z5_J5 i a.1=some r) (fun a=>[(4,(pt Z 0)),(13,(pt G 0))]) (fun a=>aK Z [(.slice none 0 0),(.slice none 0 0)] 77::aK G [(sc u i.Dims D),(sc E i.Data F)] 77::OO kT3 3 u D i.Dims::ow kT3 3 (.slice E i.Data.length F) a.1::W0) ?_ ?_)
 refine cB ?_
 obtain ⟨e3,c3,bz⟩:=bd b
 refine bD (A:=Unit) c3 (fun s a=>[(1,(sc A3 j D3)),(4,(pt Z 0)),(5,(sc A7 q.1 D7)),(6,(aG q.2.1)),(10,(aG l.1)),(11,(sc T l.2.1 U)),(13,(pt G 0)),(14,(iv a4)),(16,(iv s.2))]) (fun s a=>aK Z [(.slice none 0 0),(.slice none 0 0)] 77::OO dX 9 A7 D7 q.1::RR kT3 T U l.2.1::aK G [(sc u i.Dims D),(sc E i.Data F)] 77::OO kT3 3 u D i.Dims::ow kT3 3 (.slice E i.Data.length F) s.1::W0) () (aS R) tI ?_
 rintro ⟨Y,al⟩ _ σ1 bg b bu
 dsimp only [Z5_L3] at b
 refine dN ?_
 split at b
 refine cB ?_
 obtain ⟨O,au,b⟩:=bd b
 refine aV ?_
 refine lM _ (fun w s=>(s.d 2 R)) ?_
 refine lC 1 ms R (Zm_ok au) R ?_
 rintro ⟨a0,c7,a1⟩
 refine aM 0 aD ?_
 rintro rfl
 refine dG ?_
 refine bB (A:=(Int)×(Unit)) (fun a=>Z5_J4 q i Y al O a.1=some bg) (fun a=>[(1,(sc A3 j D3)),(4,(pt Z 0)),(5,(sc A7 q.1 D7)),(6,(aG q.2.1)),(10,(aG l.1)),(11,(sc T l.2.1 U)),(13,(pt G 0)),(14,(iv a4)),(16,(iv al)),(17,(sc a0 O a1)),(18,(iv a.1))]) (fun a=>aK Z [(.slice none 0 0),(.slice none 0 0)] 77::OO dX 9 A7 D7 q.1::RR kT3 T U l.2.1::aK G [(sc u i.Dims D),(sc E i.Data F)] 77::OO kT3 3 u D i.Dims::ow kT3 3 (.slice E i.Data.length F) Y::OO kT3 3 a0 a1 O::W0) ?_ ?_
 refine cB ?_
 obtain ⟨e4,c4,c0⟩:=bd b
 refine bD (A:=Unit) c4 (fun s a=>[(1,(sc A3 j D3)),(4,(pt Z 0)),(5,(sc A7 q.1 D7)),(6,(aG q.2.1)),(10,(aG l.1)),(11,(sc T l.2.1 U)),(13,(pt G 0)),(14,(iv a4)),(16,(iv al)),(17,(sc a0 O a1)),(18,(iv s.1)),(19,(iv s.2))]) (fun s a=>aK Z [(.slice none 0 0),(.slice none 0 0)] 77::OO dX 9 A7 D7 q.1::RR kT3 T U l.2.1::aK G [(sc u i.Dims D),(sc E i.Data F)] 77::OO kT3 3 u D i.Dims::ow kT3 3 (.slice E i.Data.length F) Y::OO kT3 3 a0 a1 O::W0) () (aS R) (fun w s=>(s.f 7 [1,6,0,1])) ?_
 rintro ⟨bi,M⟩ _ σ1 cg b bv
 dsimp only [Z5_L4] at b
 refine dG ?_
 split at b
 refine cV ?_
 obtain ⟨a6,b⟩:=gd b
 obtain ⟨a7,b⟩:=gd b
 obtain ⟨am,av,b⟩:=bd b
 obtain ⟨ch,aw,b⟩:=bd b
 obtain ⟨ci,ax,b⟩:=bd b
 refine bC 7 aA (show 0<j.length by have:=a6; omega) (fun c9 o149 ha=>?_)
 subst ha
 refine dU (K:=dY) 7 M dT77.dec R a6.1 a6.2 ?_
 rintro ⟨⟨a9,ac⟩,⟨aa,ae⟩⟩
 refine bC 4 aD (show 0<q.1.length by have:=a7; omega) (fun ca o154 ha=>?_)
 subst ha
 refine dP 15 [] bS fun ht hn=>?_
 refine qg 0 [] ?_
 refine dR 4 R (vz (.agg [(sc a9 ((ix j M).Dims) ac),(sc aa ((ix j M).Data) ae)].toArray) (eK (fo:=0) 0 fX bX R R R R)) ?_
 refine j6 5 [] ?_
 refine dR 8 R (vz (aG (ix q.1 M)) (kn (K:=dX) (fo:=0) (pr:=fun x=>(aG x)) 4 M qh (dT9.leaf fun _ _=>R) aD R a7.1 a7.2)) (dR 9 R (vp (aG l.1) R) (dR 10 R (vS R) (d1 11 R (lM _ (fun w s=>(s.f 10 [9,1,0,9])) ?_))))
 refine lC 1 AG R (FnOk.lends (A':=[OO kT3 3 a0 a1 O]) (A:=[RR kT3 a0 a1 O]) (B:=[]) (Zi_ok av) ⟨aU,trivial⟩ (fun _=>⟨(bN jw),trivial⟩)) R ?_
 rintro ⟨ab,c8,ag⟩
 refine aM 1 aD ?_
 rintro rfl
 refine aB (aJ (fun w s=>(s.f 11 [2,9,0,1])) (d1 12 R (lM _ (fun w s=>(((s.d 3 R).d 5 R).f 13 [3,1,1,1,0,1,2,1,4,9])) ?_)))
 refine lC 3 o0 R (FnOk.lends (A':=[OO kT3 3 ab ag am]) (A:=[RR kT3 ab ag am]) (B:=[RR kT3 a9 ac ((ix j M).Dims),RR kT3 aa ae ((ix j M).Data)]) (FnOk.perm (Z1e_ok aw) (Pre':=[RR kT3 ab ag am,RR kT3 a9 ac ((ix j M).Dims),RR kT3 aa ae ((ix j M).Data)]) (fun _ _ _ s=>(s.e 3 [1,2,0]))) ⟨aU,trivial⟩ (fun _=>trivial)) R ?_
 rintro _
 refine aB (aJ (fun w s=>(s.f 11 [2,9,1,1])) (d1 13 R (lC 0 pI R (Z1o_ok ax) R ?_)))
 rintro _
 refine aB (aJ (fun w s=>(s.f 11 [2,9,1,1])) (dR 14 R (vI R) (hS:=(fun w s=>(s.f 11 [2,9,1,1]))) (dD ?_)))
 refine eD ?_
 cases b
 exact qA () (fun w s=>(s.f 11 [5,6,1,1]))
 refine aV ?_
 cases b
 obtain rfl:=bv _ R
 have b:=c0
 refine aZ ?_
 exact qI (bi,()) b tI
 rintro ⟨cj,_⟩ σ1 b
 dsimp only [Z5_J4] at b
 refine cP ?_
 obtain ⟨a8,b⟩:=gd b
 obtain ⟨bh,ay,b⟩:=bd b
 refine dP 8 [6] bS fun ht hn=>?_
 refine j6 0 [6] ?_
 refine dR 3 R (vp (aG q.2.1) R) (hS:=(sL [6])) (dR 4 R (vz (il q.2.1) (eC f' R)) (hS:=(sL [6])) (d1 5 R (ji (fun w s=>s.shr 6 R) (gP (K:=kT3) (0:Int) (q.2.1.length:Int) 0 R R bH cO R R R R a8.1 a8.2.1 a8.2.2 (fun b0 b3=>(aB (aJ (sL [1,0]) (d1 6 R (lM _ (fun w s=>((s.d 0 R).f 9 [7,1,0,7,8,1])) ?_)))))))))
 refine lC 2 u5 R (FnOk.lends (A':=[OO kT3 3 u D i.Dims]) (A:=[RR kT3 u D i.Dims]) (B:=[RR kT3 b0 b3 (sub O (0:Int) (q.2.1.length:Int))]) (Z0t_ok ay) ⟨aU,trivial⟩ (fun _=>trivial)) R ?_
 rintro _
 refine aB (aJ (tE 8 [3,4,5,6,0,7]) (dR 7 R (vI R) (hS:=(tE 8 [3,4,5,6,0,7])) (dD (aE ?_))))
 obtain ⟨a3,b⟩:=gd b
 obtain ⟨ap,az,b⟩:=bd b
 refine bC 7 aD (show 0<i.Data.length by have:=a3; omega) (fun cb o171 ha=>?_)
 subst ha
 refine dP 12 [7] bS fun ht hn=>?_
 refine tl 0 [7] ?_
 refine pC 8 [7] ?_
 refine d1 7 R (lO (fQ 7 fC aD R a3) (aB (aJ (sL [7]) (d1 9 R (lC 0 rM R (Z1v_ok az) R ?_)))))
 rintro _
 refine aB (aJ (sL [7]) ?_)
 refine pC 10 [7] ?_
 refine d1 11 R (lM _ (fun w s=>(s.f 8 [7,1,0,7])) ?_)
 refine eO (K:=kT3) (x':=ap) 0 bh R R cO R R a3.1 a3.2 ?_ ?_
 exact fun I h s=>(gM).put I h () ap s
 refine aB (aJ (sL [0]) (dD ?_))
 refine eD ?_
 cases b
 exact qA () (tE 8 [4,5,6,7,1,0])
 refine aV ?_
 cases b
 obtain rfl:=bu _ R
 have b:=bz
 refine aZ ?_
 exact qI (Y,()) b (tE 6 [0,3,4,5])
 rintro ⟨an,_⟩ σ1 b
 dsimp only [Z5_J5] at b
 refine aV ?_
 refine aL 0 R R bX R R R R R R (lN (aK Z [(sc u i.Dims D),(sc E i.Data F)] 77::aK G [(sc u i.Dims D),(sc E i.Data F)] 77::_::ow kT3 3 (.slice E i.Data.length F) an::W0) ?_)
 refine aV ?_
 cases b
 exact qS ((u,i.Dims.length,D),(E,i.Data.length,F)) (tE 5 [2,3])
theorem Z0p_ok  {v1:View}{r:View}(b:Z0p v1=some r) :
 FnOk Tryz.prog 137 [(.agg [(.slice A2 N2 D2),(.slice A3 N3 D3),(iv v1.Offset),(iv v1.Base)].toArray)] [aO kT3 (.slice A2 N2 D2) v1.Dims,ow kT3 3 (.slice A3 N3 D3) v1.Strides] (fun (h:HH×HH)=>((.agg [(s3 h.1),(s3 h.2),(iv r.Offset),(iv r.Base)].toArray),[aO kT3 (s3 h.1) r.Dims,ow kT3 3 (s3 h.2) r.Strides])):=by
 unfold Z0p at b
 refine aR Tryz.func137 R 22 R R fun C V=>?_
 refine cM _ (tE 2 [1,0]) ?_
 refine cL 0 aD ?_
 rintro rfl
 refine cL 1 aA ?_
 rintro rfl
 let M:=RR kT3 A2 D2 v1.Dims::V
 refine aZ ?_
 refine eT R fun D=>?_
 refine bG R R cI (fun j=>(aB (qM _ (tE 3 [0,2,1]) ?_)))
 let B:=aK D [(sc A2 v1.Dims D2),(sc A3 v1.Strides D3),(iv v1.Offset),(iv v1.Base)] 125::M
 refine aZ ?_
 refine bB (A:=((List Int))×(Unit)) (fun a=>Z0p_J3 v1 a.1=some r) (fun a=>[(1,(pt D 0)),(2,(pt j 0))]) (fun a=>aK j [(.slice none 0 0),(.slice none 0 0),(iv 0),(iv 0)] 125::ow kT3 3 (.slice A3 v1.Strides.length D3) a.1::B) ?_ ?_
 refine cB ?_
 obtain ⟨Y,J,G⟩:=bd b
 refine bD (A:=Unit) J (fun s a=>[(1,(pt D 0)),(2,(pt j 0)),(3,(iv s.1))]) (fun s a=>aK j [(.slice none 0 0),(.slice none 0 0),(iv 0),(iv 0)] 125::ow kT3 3 (.slice A3 v1.Strides.length D3) s.2::B) () (aS R) tI ?_
 rintro ⟨i,l⟩ _ σ1 u b F
 dsimp only [Z0p_L1] at b
 refine dJ ?_
 split at b
 refine bL ?_
 refine bB (A:=((List Int))×(Unit)) (fun a=>Z0p_J2 i a.1=some u) (fun a=>[(1,(pt D 0)),(2,(pt j 0)),(3,(iv i))]) (fun a=>aK j [(.slice none 0 0),(.slice none 0 0),(iv 0),(iv 0)] 125::ow kT3 3 (.slice A3 v1.Strides.length D3) a.1::B) ?_ ?_
 refine aZ ?_
 obtain ⟨q,b⟩:=gd b
 refine bL ?_
 refine bE 3 aA (show 0<v1.Dims.length by have:=q; omega) (fun O o20 E=>?_)
 subst E
 refine cV ?_
 split at b
 refine cP ?_
 obtain ⟨e,b⟩:=gd b
 refine bL ?_
 refine bE 1 aD (show 0<v1.Strides.length by have:=e; omega) (fun T o24 E=>?_)
 subst E
 refine cP ?_
 refine lM _ (tE 2 [1,0]) ?_
 refine eO (K:=kT3) (x':=(0:Int)) 0 i R R cO R R e.1 e.2 ?_ ?_
 exact fun I h s=>(gM).put I h () (0:Int) s
 refine aZ ?_
 exact qI ((l.set i.toNat (0:Int)),()) b (tE 2 [1,0])
 refine aV ?_
 exact qI (l,()) b tI
 rintro ⟨U,_⟩ σ1 b
 dsimp only [Z0p_J2] at b
 refine cV ?_
 cases b
 exact qA () tI
 refine aV ?_
 cases b
 obtain rfl:=F _ R
 have b:=G
 refine aZ ?_
 exact qI (l,()) b tI
 rintro ⟨L,_⟩ σ1 b
 dsimp only [Z0p_J3] at b
 refine aV ?_
 refine aL 0 R R bU R R R R R R (lN (aK j [(sc A2 v1.Dims D2),(sc A3 v1.Strides D3),(iv v1.Offset),(iv v1.Base)] 125::ow kT3 3 (.slice A3 v1.Strides.length D3) L::B) ?_)
 refine aV ?_
 cases b
 exact qS ((A2,v1.Dims.length,D2),(A3,v1.Strides.length,D3)) (tE 4 [3,1])
theorem Z00_ok  {b:(List Int)}{r:View}(i:Z00 b=some r) :
 FnOk Tryz.prog 93 [(.slice A2 N2 D2)] [aO kT3 (.slice A2 N2 D2) b] (fun (h:HH×HH)=>((.agg [(.slice h.1.1 h.1.2.1 h.1.2.2),(.slice h.2.1 h.2.2.1 h.2.2.2),(iv r.Offset),(iv r.Base)].toArray),[aO kT3 (.slice h.1.1 h.1.2.1 h.1.2.2) r.Dims,ow kT3 3 (.slice h.2.1 h.2.2.1 h.2.2.2) r.Strides])):=by
 unfold Z00 at i
 refine aR Tryz.func93 R 32 R R fun C V=>?_
 refine cN (_::V) ?_
 refine cL 0 aA ?_
 rintro rfl
 let q:List HP:=RR kT3 A2 D2 b::V
 refine cN q ?_
 refine aH (aC (bG R R cI (fun b3=>(aB (aE (aH (aH ?_)))))))
 obtain ⟨r4,ao,i⟩:=bd i
 refine aC (lS R (lM (RR kT3 A2 D2 b::_::q) (fun w s=>(s.d 1 R)) ?_))
 refine lC 1 iT R (Zq_ok ao) R ?_
 rintro _
 refine lN (_::q) ?_
 refine lO (ne R) (aB (aE ?_))
 rcases cF i with ⟨a4,i⟩|⟨a4,i⟩
 refine bJ R a4 (aH (aC (lO (vz (.agg [(.slice none 0 0),(.slice none 0 0),(iv 0),(iv 0)].toArray) (bA eJ cI R R)) (aL 0 R R bU R R R R R R (aB (aE (bY (bZ ?_))))))))
 obtain rfl:=so i
 exact dL (vs:=[(.agg [(.slice none 0 0),(.slice none 0 0),(iv 0),(iv 0)].toArray)]) (.inl R) ((none,0,0),(none,0,0)) R ⟨⟨0,b3,_,_,R,R,.inl ⟨eR,bU,R⟩⟩,trivial⟩ R (fun w s=>(((s.nilr kT3).nilo kT3 3).e 4 [1,0]))
 refine aY R a4 (bQ (aE (aH ?_)))
 obtain ⟨D,ap,i⟩:=bd i
 obtain ⟨l,a8,i⟩:=bd i
 refine aC (lS R (lM (RR kT3 A2 D2 b::_::q) (fun w s=>(s.d 1 R)) ?_))
 refine lC 1 kt R (Zx_ok ap) R ?_
 rintro ⟨A9,N9,D9⟩
 refine lN (ow kT3 3 (.slice A9 N9 D9) D::_::q) ?_
 refine aM 0 aD ?_
 rintro rfl
 refine lS R (lM (RR kT3 A2 D2 b::_::_::q) (fun w s=>(s.d 2 R)) ?_)
 refine lC 1 nS R (Zs_ok a8) R ?_
 rintro _
 refine lN (_::_::q) ?_
 refine lO (vz (.agg [(sc A9 D D9),(.slice none 0 0),(iv 0),(iv l)].toArray) (bA eJ cI R R)) (bG R R cI (fun B=>(aL 0 R R bU R R R R R R (lN (aK B [(sc A9 D D9),(.slice none 0 0),(iv 0),(iv l)] 125::_::_::q) ?_))))
 refine aB (aE (aH (bB (A:=((List Int))×(HH)) (fun a=>Z00_J1 D l a.1=some r) (fun a=>[(2,(pt b3 0)),(3,(pt B 0))]) (fun a=>aK b3 [(.slice none 0 0),(.slice none 0 0),(iv 0),(iv 0)] 125::aK B [(sc A9 D D9),(.slice a.2.1 a.2.2.1 a.2.2.2),(iv 0),(iv l)] 125::OO kT3 3 A9 D9 D::ow kT3 3 (.slice a.2.1 a.2.2.1 a.2.2.2) a.1::q) ?_ ?_)))
 refine aH (aC (lI R (aB (aE (bV ?_)))))
 obtain ⟨e1,an,am⟩:=bd i
 refine bD (A:=HH) an (fun s a=>[(0,(sc A2 b D2)),(2,(pt b3 0)),(3,(pt B 0)),(4,(iv s.2))]) (fun s a=>aK b3 [(.slice none 0 0),(.slice none 0 0),(iv 0),(iv 0)] 125::aK B [(sc A9 D D9),(.slice a.1 a.2.1 a.2.2),(iv 0),(iv l)] 125::OO kT3 3 A9 D9 D::ow kT3 3 (.slice a.1 a.2.1 a.2.2) s.1::q) (none,0,0) (aS R) (fun w s=>((s.nilo kT3 3).e 4 [3,1,2,0])) ?_
 rintro ⟨u,U⟩ ⟨Y,ag,a1⟩ σ1 ab i al
 replace i:Z00_L1 b u U=some ab:=i
 unfold Z00_L1 at i
 refine bK 3 aD (fun (hn:ag=u.length)=>?_)
 subst hn
 refine aH (aH (aC (lI R (lS R (lO (eN bH R) (lO (jG R R) (aB (aE ?_))))))))
 rcases cF i with ⟨G,i⟩|⟨G,i⟩
 refine bJ R G (bQ (aE (aH (bV ?_))))
 obtain ⟨J,i⟩:=gd i
 obtain ⟨E,a9,i⟩:=bd i
 obtain ⟨a7,i⟩:=gd i
 refine dP 8 [] bS (fun ht hn=>(dR 0 R (eW 1 eX R) (dR 1 R (eS 1 cH R R R) (dR 2 R (vS R) (dR 3 R (vI R) (dR 4 R (iE R R) (d1 5 R (gP (K:=kT3) (aI (U+(1:Int))) (b.length:Int) 4 R R bH cO R R R R J.1 J.2.1 J.2.2 (fun a5 a6=>(aB (aJ (sL [0]) (d1 6 R (lM (RR kT3 a5 a6 (sub b (aI (U+(1:Int))) (b.length:Int))::RR kT3 a5 a6 (sub b (aI (U+(1:Int))) (b.length:Int))::_::aK B [(sc A9 D D9),(sc Y u a1),(iv 0),(iv l)] 125::_::OO kT3 3 Y a1 u::q) (fun w s=>(s.d 0 R)) ?_)))))))))))))
 refine lC 1 nS R (Zs_ok a9) R ?_
 rintro _
 refine lN (_::_::_::_::_::q) ?_
 refine aB (aJ (sL [0]) (d1 7 R (bO (K:=kT3) (xs:=([E]:List Int)) (vs:=[(iv E)]) 0 R R bH cO gN R R R R R R ?_ R (fun ac ae=>?_))))
 exact fun I h s=>(gM).list [((),E)] I h s
 refine lN (OO kT3 3 ac ae ([E]:List Int)::_::_::_::_::_::q) ?_
 refine aB (aJ (sL [1,0]) (d1 8 R (lM (ow _ _ _ _::ow _ _ _ _::aO _ _ _::aK _ _ _::aK _ _ _::ow _ _ _ _::q) (fun w s=>(s.f 6 [5,1,0,5])) ?_)))
 refine eU (K:=kT3) 17592186044416 R R bH cO kE (Zr.zk zT3 gN) R R R R R R eB a7 (fun Z a2=>(lN (OO kT3 3 Z a2 (u++([E]:List Int))::_::_::_::_::q) ?_))
 refine aB (qE (d1 9 R (lO (eW 1 eX R) (aB (qE (d1 10 R (dI 3 R R fK R R R R R (lN (_::_::_::aK B [(sc A9 D D9),(sc Z (u++([E]:List Int)) a2),(iv 0),(iv l)] 125::_::q) ?_))))))))
 refine aB (qE (dD (cD (aE (aC (lI R (lO (iE R R) (lI R (aB ?_)))))))))
 obtain rfl:=so i
 exact qA (Z,(u++([E]:List Int)).length,a2) (fun w s=>(s.e 5 [2,3,4,0]))
 refine aY R G (eA (cE ?_))
 obtain rfl:=so i
 obtain rfl:=al _ R
 have i:=am
 refine cE (dH ?_)
 exact qI (u,(Y,u.length,a1)) i (fun w s=>s)
 rintro ⟨F,⟨a0,ai,a3⟩⟩ σ1 i
 replace i:Z00_J1 D l F=some r:=i
 unfold Z00_J1 at i
 refine bK 3 aD (fun (hn:ai=F.length)=>?_)
 subst hn
 refine aH ?_
 obtain ⟨j,aa,i⟩:=bd i
 refine aC (lO (vz (.agg [(sc A9 D D9),(sc a0 F a3),(iv 0),(iv l)].toArray) (dA 1 eR bU R R R R)) (ji (fun w s=>s.shr 2 R) (lM (RR kT3 A9 D9 D::OO kT3 3 a0 a3 F::RR kT3 A9 D9 D::aK _ _ _::aK B [(sc A9 D D9),(sc a0 F a3),(iv 0),(iv l)] 125::q) (fun w s=>((s.d 0 R).e 5 [0,4,1,2,3])) ?_)))
 refine lC 2 AH R (Z0p_ok (v1:=(⟨D,F,(0:Int),l⟩:View)) aa) R ?_
 rintro ⟨⟨L,aj,O⟩,⟨M,ak,T⟩⟩
 refine lN (aO kT3 (.slice L aj O) j.Dims::ow kT3 3 (.slice M ak T) j.Strides::_::_::_::q) ?_
 refine aM 0 aA ?_
 rintro rfl
 refine aM 1 aD ?_
 rintro rfl
 refine aL 3 R R bU R R R R R R (lN (_::_::_::aK b3 [(sc L j.Dims O),(sc M j.Strides T),(iv j.Offset),(iv j.Base)] 125::_::q) ?_)
 refine aB (aE (bY ?_))
 obtain rfl:=so i
 exact dL (vs:=[(.agg [(sc L j.Dims O),(sc M j.Strides T),(iv j.Offset),(iv j.Base)].toArray)]) (.inl R) ((L,j.Dims.length,O),(M,j.Strides.length,T)) R ⟨⟨3,b3,_,_,R,R,.inl ⟨eR,bU,R⟩⟩,trivial⟩ R (fun w s=>(s.e 6 [0,1]))
theorem Z1d_ok  {v1:View}{b:(List Int)}{r:Int}(e:Z1d v1 b=some r) :
 FnOk Tryz.prog 157 [(.agg [(.slice A2 N2 D2),(.slice A3 N3 D3),(iv v1.Offset),(iv v1.Base)].toArray),(.slice A5 N5 D5)] [aO kT3 (.slice A2 N2 D2) v1.Dims,aO kT3 (.slice A3 N3 D3) v1.Strides,aO kT3 (.slice A5 N5 D5) b] (fun (h:Unit)=>((iv r),[])):=by
 unfold Z1d at e
 refine aR Tryz.func157 R 28 R R fun C V=>?_
 refine cL 0 aA ?_
 rintro rfl
 refine cL 1 aA ?_
 rintro rfl
 refine cL 2 aA ?_
 rintro rfl
 let F:=RR kT3 A2 D2 v1.Dims::RR kT3 A3 D3 v1.Strides::RR kT3 A5 D5 b::V
 refine cN F ?_
 refine aZ ?_
 refine eT R fun G=>?_
 refine aZ ?_
 let l:=aK G [(sc A2 v1.Dims D2),(sc A3 v1.Strides D3),(iv v1.Offset),(iv v1.Base)] 125::F
 refine qN l ?_
 refine dG ?_
 refine bB (A:=(Int)×(Unit)) (fun a=>Z1d_J1 a.1=some r) (fun a=>[(5,(iv a.1))]) (fun a=>l) ?_ ?_
 refine cB ?_
 obtain ⟨T,D,B⟩:=bd e
 refine bD (A:=Unit) D (fun s a=>[(1,(sc A5 b D5)),(2,(pt G 0)),(5,(iv s.1)),(6,(iv s.2))]) (fun s a=>l) () (aS R) tI ?_
 rintro ⟨E,M⟩ _ σ1 I e u
 dsimp only [Z1d_L1] at e
 refine dG ?_
 split at e
 refine cV ?_
 obtain ⟨i,e⟩:=gd e
 obtain ⟨j,e⟩:=gd e
 refine bC 3 aA (show 0<b.length by have:=i; omega) (fun J o19 q=>?_)
 subst q
 refine bC 2 aA (show 0<v1.Strides.length by have:=j; omega) (fun L o22 q=>?_)
 subst q
 refine dP 13 [] bS fun Y U=>?_
 refine nQ 0 [] ?_
 refine dD ?_
 refine eD ?_
 cases e
 exact qA () tI
 refine aV ?_
 cases e
 obtain rfl:=u _ R
 have e:=B
 refine aZ ?_
 exact qI (E,()) e tI
 rintro ⟨O,_⟩ σ1 e
 dsimp only [Z1d_J1] at e
 refine eD ?_
 cases e
 exact qF () (tE 4 [])
theorem Z0j_ok  {v1:View}{r:(List Int)}(b:Z0j v1=some r) :
 FnOk Tryz.prog 136 [(.agg [(.slice A2 N2 D2),(.slice A3 N3 D3),(iv v1.Offset),(iv v1.Base)].toArray)] [aO kT3 (.slice A2 N2 D2) v1.Dims,aO kT3 (.slice A3 N3 D3) v1.Strides] (fun (h:HH)=>((.slice h.1 h.2.1 h.2.2),[ow kT3 3 (.slice h.1 h.2.1 h.2.2) r])):=by
 unfold Z0j at b
 refine aR Tryz.func136 R 25 R R fun C V=>?_
 refine cN (_::_::V) ?_
 refine cL 0 aA ?_
 rintro rfl
 refine cL 1 aA ?_
 rintro rfl
 let W0:List HP:=RR kT3 A2 D2 v1.Dims::RR kT3 A3 D3 v1.Strides::V
 refine cN W0 ?_
 refine aH (aC (eT R (fun b4=>(lS R (aB ?_)))))
 let j:List HP:=aK b4 [(sc A2 v1.Dims D2),(sc A3 v1.Strides D3),(iv v1.Offset),(iv v1.Base)] 125::W0
 refine qN j ?_
 refine aE (aH (aC (bO (K:=kT3) (xs:=([]:List Int)) (vs:=[]) 0 R R bH cO gN R R R R R R ?_ R (fun A5 D5=>?_))))
 exact fun I h s=>(gM).list [] I h s
 refine lN (OO kT3 3 A5 D5 ([]:List Int)::j) ?_
 refine lS R (aB (aE (aH ?_)))
 obtain ⟨r6,aa,b⟩:=bd b
 refine aC (lO (eW 0 eE R) (lO (eS 1 cH R R R) (lM (RR kT3 A2 D2 v1.Dims::_::j) (fun w s=>(s.d 2 R)) ?_)))
 refine lC 1 nS R (Zs_ok aa) R ?_
 rintro _
 refine lN (_::j) ?_
 refine lI R (aB (aE (aH (bB (A:=((List Int))×(HH)) (fun a=>Z0j_J1 a.1=some r) (fun a=>[(3,(.slice a.2.1 a.2.2.1 a.2.2.2))]) (fun a=>ow kT3 3 (.slice a.2.1 a.2.2.1 a.2.2.2) a.1::j) ?_ ?_))))
 refine aH (aC (lI R (aB (aE (bV ?_)))))
 obtain ⟨e1,a9,a8⟩:=bd b
 refine bD (A:=HH) a9 (fun s a=>[(1,(pt b4 0)),(3,(.slice a.1 a.2.1 a.2.2)),(4,(iv r6)),(5,(iv s.2))]) (fun s a=>ow kT3 3 (.slice a.1 a.2.1 a.2.2) s.1::j) (A5,([]:List Int).length,D5) (aS R) (fun w s=>s) ?_
 rintro ⟨i,ab⟩ ⟨G,a4,L⟩ σ1 Y b a7
 replace b:Z0j_L1 v1 r6 i ab=some Y:=b
 unfold Z0j_L1 at b
 refine bK 0 aD (fun (Z:a4=i.length)=>?_)
 subst Z
 refine aH (aH (aC (lI R (lI R (lO (jG R R) (aB (aE ?_)))))))
 rcases cF b with ⟨q,b⟩|⟨q,b⟩
 refine bJ R q (bQ (aE (aH (bV ?_))))
 obtain ⟨E,T,b⟩:=bd b
 obtain ⟨l,U,b⟩:=bd b
 obtain ⟨O,b⟩:=gd b
 refine dP 10 [0] bS (fun ht Z=>(dR 0 R (vS R) (hS:=(sL [0])) (dR 1 R (vz (.agg [(sc A2 v1.Dims D2),(sc A3 v1.Strides D3),(iv v1.Offset),(iv v1.Base)].toArray) (dA 0 eR bU R R R R)) (hS:=(sL [0])) (dR 2 R (eW 0 eE R) (hS:=(sL [0])) (dR 3 R (eS 0 cH R R R) (hS:=(sL [0])) (dR 4 R (vI R) (hS:=(sL [0])) (d1 5 R (lM (RR kT3 A2 D2 v1.Dims::OO kT3 3 G L i::j) (fun w s=>(s.d 2 R)) ?_))))))))
 refine lC 1 ms R (Zm_ok T) R ?_
 rintro ⟨u,a5,D⟩
 refine lN (ow kT3 3 (.slice u a5 D) E::_::j) ?_
 refine aM 0 aD ?_
 rintro rfl
 refine aB (aJ (sL [1,0]) (d1 6 R (lM (ow _ _ _ _::RR kT3 A2 D2 v1.Dims::RR kT3 A3 D3 v1.Strides::ow _ _ _ _::j) (fun w s=>(((s.d 3 R).d 5 R).e 4 [2,1,0,3])) ?_)))
 refine lC 3 AI R (FnOk.lends (A':=[OO kT3 3 u D E]) (A:=[RR kT3 u D E]) (B:=[RR kT3 A2 D2 v1.Dims,RR kT3 A3 D3 v1.Strides]) (FnOk.perm (Z1d_ok U) (Pre':=[RR kT3 u D E,RR kT3 A2 D2 v1.Dims,RR kT3 A3 D3 v1.Strides]) (fun _ _ _ s=>(s.e 3 [1,2,0]))) ⟨aU,trivial⟩ (fun _=>trivial)) R ?_
 rintro _
 refine lN (_::_::j) ?_
 refine aB (aJ (sL [1,0]) (d1 7 R (bO (K:=kT3) (xs:=([l]:List Int)) (vs:=[(iv l)]) 0 R R bH cO gN R R R R R R ?_ R (fun a0 a2=>?_))))
 exact fun I h s=>(gM).list [((),l)] I h s
 refine lN (OO kT3 3 a0 a2 ([l]:List Int)::_::_::j) ?_
 refine aB (aJ (sL [2,1,0]) (d1 8 R (lM (ow _ _ _ _::ow _ _ _ _::ow _ _ _ _::j) (fun w s=>(s.e 3 [2,0,1])) ?_)))
 refine eU (K:=kT3) 17592186044416 R R bH cO kE (Zr.zk zT3 gN) R R R R R R eB O (fun J M=>(lN (OO kT3 3 J M (i++([l]:List Int))::_::j) ?_))
 refine aB (aJ (sL [1,0]) (dR 9 R (vS R) (hS:=(sL [1,0])) (dD (cD (aE (aC (lI R (lO (iE R R) (lI R (aB ?_))))))))))
 obtain rfl:=so b
 exact qA (J,(i++([l]:List Int)).length,M) (fun w s=>(s.e 2 [0]))
 refine aY R q (eA (cE ?_))
 obtain rfl:=so b
 obtain rfl:=a7 _ R
 have b:=a8
 refine cE (dH ?_)
 exact qI (i,(G,i.length,L)) b (fun w s=>s)
 rintro ⟨F,⟨a1,a6,a3⟩⟩ σ1 b
 replace b:Z0j_J1 F=some r:=b
 unfold Z0j_J1 at b
 refine bK 0 aD (fun (Z:a6=F.length)=>?_)
 subst Z
 refine aH (aC (lS R (lS R (aB (aE (bY ?_))))))
 obtain rfl:=so b
 exact qF (a1,F.length,a3) (fun w s=>(s.e 4 [0]))
theorem Zb_ok  {v1:View}{r:Bool}(b:Zb v1=some r) :
 FnOk Tryz.prog 135 [(.agg [(.slice A2 N2 D2),(.slice A3 N3 D3),(iv v1.Offset),(iv v1.Base)].toArray)] [aO kT3 (.slice A2 N2 D2) v1.Dims,aO kT3 (.slice A3 N3 D3) v1.Strides] (fun (h:Unit)=>((.bool r),[])):=by
 unfold Zb at b
 refine aR Tryz.func135 R 84 R R fun C V=>?_
 refine cL 0 aA ?_
 rintro rfl
 refine cL 1 aA ?_
 rintro rfl
 let W0:=RR kT3 A2 D2 v1.Dims::RR kT3 A3 D3 v1.Strides::V
 refine cN W0 ?_
 refine aZ ?_
 refine eT R fun E=>?_
 refine aZ ?_
 let q:=aK E [(sc A2 v1.Dims D2),(sc A3 v1.Strides D3),(iv v1.Offset),(iv v1.Base)] 125::W0
 refine qN q ?_
 refine aV ?_
 obtain ⟨F,a7,b⟩:=bd b
 refine cQ [(1,(pt E 0)),(40,(.bool ((((((!F)||((v1.Strides.length:Int) != (v1.Dims.length:Int)))||(decide (v1.Base<1)))||(decide (v1.Base>4096)))||(decide (v1.Offset<0)))||(decide (v1.Offset≥v1.Base)))))] (q) ?_ ?_
 refine aV ?_
 refine lM _ (fun w s=>(s.d 1 R)) ?_
 refine lC 1 iT R (Zq_ok a7) R ?_
 rintro _
 refine lN q ?_
 refine aZ ?_
 rcases bo (!F) with a2 | a2
 refine yj ?_
 exact qj tI
 refine dG ?_
 rcases bo ((!F)||((v1.Strides.length:Int) != (v1.Dims.length:Int))) with a3 | a3
 refine Ao ?_
 exact qj tI
 refine cV ?_
 rcases bo (((!F)||((v1.Strides.length:Int) != (v1.Dims.length:Int)))||(decide (v1.Base<1))) with a4 | a4
 refine qv ?_
 exact qj tI
 refine cV ?_
 rcases bo ((((!F)||((v1.Strides.length:Int) != (v1.Dims.length:Int)))||(decide (v1.Base<1)))||(decide (v1.Base>4096))) with I | I
 refine jl ?_
 exact qj tI
 refine cV ?_
 rcases bo (((((!F)||((v1.Strides.length:Int) != (v1.Dims.length:Int)))||(decide (v1.Base<1)))||(decide (v1.Base>4096)))||(decide (v1.Offset<0))) with J | J
 refine eD ?_
 exact qj tI
 refine eD ?_
 exact qj tI
 rintro σ1
 refine cP ?_
 split at b
 refine dN ?_
 cases b
 exact qF () (tE 3 [])
 refine bL ?_
 refine bB (A:=(Unit)×(Unit)) (fun a=>Zb_J1 v1=some r) (fun a=>[(1,(pt E 0))]) (fun a=>q) ?_ ?_
 refine cB ?_
 obtain ⟨e1,a5,Y⟩:=bd b
 refine bD (A:=Unit) a5 (fun s a=>[(1,(pt E 0)),(3,(iv s))]) (fun s a=>q) () (aS R) tI ?_
 rintro u _ σ1 a8 b O
 dsimp only [Zb_L1] at b
 refine dJ ?_
 split at b
 refine cB ?_
 obtain ⟨U,b⟩:=gd b
 refine cQ [(1,(pt E 0)),(3,(iv u)),(61,(.bool ((decide ((ix v1.Strides u)<(-4096:Int)))||(decide ((ix v1.Strides u)>4096)))))] (q) ?_ ?_
 refine bL ?_
 refine bE 2 aA (show 0<v1.Strides.length by have:=U; omega) (fun ab o23 G=>?_)
 subst G
 refine bL ?_
 rcases bo (decide ((ix v1.Strides u)<(-4096:Int))) with L | L
 refine dN ?_
 exact qj tI
 refine dN ?_
 exact qj tI
 rintro σ1
 refine cP ?_
 split at b
 refine dG ?_
 cases b
 obtain rfl:=O _ R
 have b:=Y
 refine aV ?_
 cases b
 exact qF () (tE 3 [])
 refine dG ?_
 cases b
 exact qA () tI
 refine aV ?_
 cases b
 obtain rfl:=O _ R
 have b:=Y
 refine aZ ?_
 exact qI ((),()) b tI
 rintro ⟨_,_⟩ σ1 b
 dsimp only [Zb_J1] at b
 refine cP ?_
 obtain ⟨i,a0,b⟩:=bd b
 refine aZ ?_
 refine lM _ (fun w s=>(((s.d 1 R).d 3 R).e 2 [1,0])) ?_
 refine lC 2 rO R (Z0j_ok a0) R ?_
 rintro ⟨j,aa,l⟩
 refine aM 0 aD ?_
 rintro rfl
 refine bL ?_
 refine bB (A:=(Unit)×(Unit)) (fun a=>Zb_J2=some r) (fun a=>[]) (fun a=>q) ?_ ?_
 refine cB ?_
 obtain ⟨e2,a6,Z⟩:=bd b
 refine bD (A:=Unit) a6 (fun s a=>[(1,(pt E 0)),(4,(sc j i l)),(5,(iv s))]) (fun s a=>OO kT3 3 j l i::q) () (aS R) tI ?_
 rintro B _ σ1 a9 b T
 dsimp only [Zb_L2] at b
 refine dG ?_
 split at b
 refine cB ?_
 obtain ⟨D,b⟩:=gd b
 refine cQ [(1,(pt E 0)),(4,(sc j i l)),(5,(iv B)),(83,(.bool ((decide ((ix i B)<0))||(decide ((ix i B)≥v1.Base)))))] (OO kT3 3 j l i::q) ?_ ?_
 rcases bo (decide ((ix i B)<0)) with M | M
 refine bC 0 aD (show 0<i.length by have:=D; omega) (fun a1 o40 G=>?_)
 subst G
 refine dP 14 [] bS fun ht hn=>?_
 refine vU 0 [] ?_
 refine dD ?_
 exact qj tI
 refine bC 0 aD (show 0<i.length by have:=D; omega) (fun a1 o40 G=>?_)
 subst G
 refine dP 14 [] bS fun ht hn=>?_
 refine vU 0 [] ?_
 refine dD ?_
 exact qj tI
 rintro σ1
 refine cP ?_
 split at b
 refine dG ?_
 cases b
 obtain rfl:=T _ R
 have b:=Z
 refine aV ?_
 cases b
 exact qF () (tE 4 [])
 refine dG ?_
 cases b
 exact qA () tI
 refine aV ?_
 cases b
 obtain rfl:=T _ R
 have b:=Z
 refine aZ ?_
 exact dC ((),()) b trivial (tE 1 [])
 rintro ⟨_,_⟩ σ1 b
 dsimp only [Zb_J2] at b
 refine cB ?_
 cases b
 exact qF () (tE 3 [])
theorem Z03_ok  {v1:View}{b:(List Int)}{r:View}(j:Z03 v1 b=some r) :
 FnOk Tryz.prog 92 [(.agg [(.slice A2 N2 D2),(.slice A3 N3 D3),(iv v1.Offset),(iv v1.Base)].toArray),(.slice A5 N5 D5)] [aO kT3 (.slice A2 N2 D2) v1.Dims,aO kT3 (.slice A3 N3 D3) v1.Strides,aO kT3 (.slice A5 N5 D5) b] (fun (h:HH×HH)=>((.agg [(.slice h.1.1 h.1.2.1 h.1.2.2),(.slice h.2.1 h.2.2.1 h.2.2.2),(iv r.Offset),(iv r.Base)].toArray),[ow kT3 3 (.slice h.1.1 h.1.2.1 h.1.2.2) r.Dims,ow kT3 3 (.slice h.2.1 h.2.2.1 h.2.2.2) r.Strides])):=by
 unfold Z03 at j
 refine aR Tryz.func92 R 77 R R fun C V=>?_
 refine cN (_::_::_::V) ?_
 refine cL 0 aA ?_
 rintro rfl
 refine cL 1 aA ?_
 rintro rfl
 refine cL 2 aA ?_
 rintro rfl
 let W0:List HP:=RR kT3 A2 D2 v1.Dims::RR kT3 A3 D3 v1.Strides::RR kT3 A5 D5 b::V
 refine cN W0 ?_
 refine aH (aC (eT R (fun b6=>(bG R R cI (fun b7=>(aB ?_))))))
 let J:List HP:=aK b6 [(sc A2 v1.Dims D2),(sc A3 v1.Strides D3),(iv v1.Offset),(iv v1.Base)] 125::W0
 refine qN (_::J) ?_
 refine aE (aH (aC (lS R (lO (eN bH R) (lO (eW 0 eE R) (lO (eS 1 cH R R R) (lO (eN bH R) (lO (sG R R) (lI R (aB (aE (aH (aH ?_)))))))))))))
 obtain ⟨r8,ap,j⟩:=bd j
 obtain ⟨ae,aj,j⟩:=bd j
 refine cQ [(1,(sc A5 b D5)),(2,(pt b6 0)),(4,(pt b7 0)),(5,(iv (aI ((b.length:Int) - (v1.Dims.length:Int))))),(25,(.bool (((!r8)||(!ae))||(decide ((aI ((b.length:Int) - (v1.Dims.length:Int)))<(0:Int))))))] (aK b7 [(.slice none 0 0),(.slice none 0 0),(iv 0),(iv 0)] 125::J) ?_ ?_
 refine aC (lO (vz (.agg [(sc A2 v1.Dims D2),(sc A3 v1.Strides D3),(iv v1.Offset),(iv v1.Base)].toArray) (dA 1 eR bU R R R R)) (lM (RR kT3 A2 D2 v1.Dims::RR kT3 A3 D3 v1.Strides::aK _ _ _::J) (fun w s=>(((s.d 2 R).d 4 R).e 3 [1,0,2])) ?_))
 refine lC 2 mt R (Zb_ok ap) R ?_
 rintro _
 refine lN (_::J) ?_
 refine lO (ne R) (lB R ?_)
 rcases bo (!r8) with E | E
 refine lf (cX E) (lf (cX E) (lf (cX E) (lO (fB (!ae) R E) (lB R (lf (cX (oT E)) (lf (cX (oT E)) (lO (fB (decide ((aI ((b.length:Int) - (v1.Dims.length:Int)))<(0:Int))) R (oT E)) (aB ?_))))))))
 exact qJ (fun w s=>s)
 refine lW (bW E) (vS R) (lM (RR kT3 A5 D5 b::_::J) (fun w s=>(s.d 4 R)) ?_)
 refine b' 1 R (bW E) iT R (Zq_ok (bM aj (cZ E))) R ?_
 rintro _
 refine lN (_::J) ?_
 refine lW (bW E) (ne R) (lO (fG R E R) (lB R ?_))
 rcases bo ((!r8)||(!ae)) with T | T
 refine lf (cX T) (lf (cX T) (lO (fB (decide ((aI ((b.length:Int) - (v1.Dims.length:Int)))<(0:Int))) R T) (aB ?_)))
 exact qJ (fun w s=>s)
 refine lW (bW T) (vI R) (lW (bW T) (jG R R) (lO (fG R T R) (aB ?_)))
 exact qJ (fun w s=>s)
 rintro σ1
 refine aE ?_
 rcases cF j with ⟨a4,j⟩|⟨a4,j⟩
 refine bJ R a4 (aH (aC (lO (vz (.agg [(.slice none 0 0),(.slice none 0 0),(iv 0),(iv 0)].toArray) (bA eJ cI R R)) (aL 0 R R bU R R R R R R (aB (aE (bY (bZ ?_))))))))
 obtain rfl:=so j
 exact dL (vs:=[(.agg [(.slice none 0 0),(.slice none 0 0),(iv 0),(iv 0)].toArray)]) (.inl R) ((none,0,0),(none,0,0)) R ⟨⟨0,b7,_,_,R,R,.inl ⟨eR,bU,R⟩⟩,trivial⟩ R (fun w s=>(((s.nilo kT3 3).nilo kT3 3).e 7 [1,0]))
 refine aY R a4 (bQ (aE (aH ?_)))
 obtain ⟨i,a1,j⟩:=bd j
 obtain ⟨D,j⟩:=gd j
 refine jt (A:=(Unit)×(Nat×HH×HH)) (fun _=>True) (fun a=>[(1,(sc A5 b D5)),(2,(pt b6 0)),(4,(pt b7 0)),(5,(iv (aI ((b.length:Int) - (v1.Dims.length:Int))))),(6,(pt a.2.1 0))]) (fun a=>aK b7 [(.slice none 0 0),(.slice none 0 0),(iv 0),(iv 0)] 125::aK a.2.1 [(.slice a.2.2.1.1 a.2.2.1.2.1 a.2.2.1.2.2),(.slice a.2.2.2.1 a.2.2.2.2.1 a.2.2.2.2.2),(iv v1.Offset),(iv v1.Base)] 125::ow kT3 3 (.slice a.2.2.1.1 a.2.2.1.2.1 a.2.2.1.2.2) i::ow kT3 3 (.slice a.2.2.2.1 a.2.2.2.2.1 a.2.2.2.2.2) (List.replicate (b.length:Int).toNat (0:Int))::J) ?_ ?_
 refine dP 12 [] bS (fun ht hn=>(dR 0 R (vS R) (dR 2 R (vS R) (dR 3 R (eN bH R) (dR 5 R (eW 2 lx R) (dR 6 R (eS 1 fC R R R) (dR 7 R (eW 3 rN R) (dR 8 R (eS 1 fC R R R) (iQ [1,4,10] (by kernel_rfl) R ⟨?_,?_,?_,trivial⟩)))))))))
 refine lM (RR kT3 A5 D5 b::_::J) (fun w s=>(s.d 4 R)) ?_
 refine lC 1 kt R (Zx_ok a1) R ?_
 rintro ⟨l,U,q⟩
 refine lN (ow kT3 3 (.slice l U q) i::_::J) ?_
 refine aM 0 aD ?_
 rintro rfl
 refine aB (aJ (sL [0]) (iQ [4,10] (by kernel_rfl) R ⟨?_,?_,trivial⟩))
 refine fW (K:=kT3) (m:=(b.length:Int)) (z:=(0:Int)) R R bH cO kE (Zr.zk zT3 gN) (by decide) R R D.1 D.2.1 D.2.2 (fun u B=>(aB (aJ (sL [1,0]) (dR 9 R (vz (.agg [(sc l i q),(sc u (List.replicate (b.length:Int).toNat (0:Int)) B),(iv v1.Offset),(iv v1.Base)].toArray) (bA eJ cI R R)) (hS:=(sL [1,0])) (d1 10 R (bG R R cI (fun G=>(aB (aJ (sL [2,1,0]) (d1 11 R (aL 0 R R bU R R R R R R (lN (aK G [(sc l i q),(sc u (List.replicate (b.length:Int).toNat (0:Int)) B),(iv v1.Offset),(iv v1.Base)] 125::OO kT3 3 u B (List.replicate (b.length:Int).toNat (0:Int))::_::_::J) ?_))))))))))))
 refine aB (aJ (sL [2,1,0]) (dD ?_))
 exact dC ((),(G,(l,i.length,q),(u,(List.replicate (b.length:Int).toNat (0:Int)).length,B))) trivial (aS R) (fun w s=>(s.e 4 [3,0,2,1]))
 refine bG R R cI (fun G=>(aB (aJ (sL [1,0]) (d1 4 R (fW (K:=kT3) (m:=(b.length:Int)) (z:=(0:Int)) R R bH cO kE (Zr.zk zT3 gN) (by decide) R R D.1 D.2.1 D.2.2 (fun u B=>(aB (aJ (sL [2,1,0]) (dR 9 R (vz (.agg [(sc l i q),(sc u (List.replicate (b.length:Int).toNat (0:Int)) B),(iv v1.Offset),(iv v1.Base)].toArray) (bA eJ cI R R)) (hS:=(sL [2,1,0])) (d1 11 R (aL 1 R R bU R R R R R R (lN (_::_::_::_::J) ?_))))))))))))
 refine aB (aJ (sL [2,1,0]) (dD ?_))
 exact dC ((),(G,(l,i.length,q),(u,(List.replicate (b.length:Int).toNat (0:Int)).length,B))) trivial (aS R) (fun w s=>(s.e 4 [3,1,2,0]))
 refine fW (K:=kT3) (m:=(b.length:Int)) (z:=(0:Int)) R R bH cO kE (Zr.zk zT3 gN) (by decide) R R D.1 D.2.1 D.2.2 (fun u B=>(aB (aJ (sL [0]) (iQ [1,10] (by kernel_rfl) R ⟨?_,?_,trivial⟩))))
 refine lM (RR kT3 A5 D5 b::_::_::J) (fun w s=>(s.d 5 R)) ?_
 refine lC 1 kt R (Zx_ok a1) R ?_
 rintro ⟨l,U,q⟩
 refine lN (ow kT3 3 (.slice l U q) i::_::_::J) ?_
 refine aM 0 aD ?_
 rintro rfl
 refine aB (aJ (sL [1,0]) (dR 9 R (vz (.agg [(sc l i q),(sc u (List.replicate (b.length:Int).toNat (0:Int)) B),(iv v1.Offset),(iv v1.Base)].toArray) (bA eJ cI R R)) (hS:=(sL [1,0])) (d1 10 R (bG R R cI (fun G=>(aB (aJ (sL [2,1,0]) (d1 11 R (aL 0 R R bU R R R R R R (lN (aK G [(sc l i q),(sc u (List.replicate (b.length:Int).toNat (0:Int)) B),(iv v1.Offset),(iv v1.Base)] 125::_::_::_::J) ?_))))))))))
 refine aB (aJ (sL [2,1,0]) (dD ?_))
 exact dC ((),(G,(l,i.length,q),(u,(List.replicate (b.length:Int).toNat (0:Int)).length,B))) trivial (aS R) (fun w s=>(s.e 4 [3,0,1,2]))
 refine bG R R cI (fun G=>(aB (aJ (sL [1,0]) (d1 1 R (lM (RR kT3 A5 D5 b::_::_::_::J) (fun w s=>(s.d 6 R)) ?_)))))
 refine lC 1 kt R (Zx_ok a1) R ?_
 rintro ⟨l,U,q⟩
 refine lN (ow kT3 3 (.slice l U q) i::_::_::_::J) ?_
 refine aM 0 aD ?_
 rintro rfl
 refine aB (aJ (sL [2,1,0]) (dR 9 R (vz (.agg [(sc l i q),(sc u (List.replicate (b.length:Int).toNat (0:Int)) B),(iv v1.Offset),(iv v1.Base)].toArray) (bA eJ cI R R)) (hS:=(sL [2,1,0])) (d1 11 R (aL 1 R R bU R R R R R R (lN (_::aK G [(sc l i q),(sc u (List.replicate (b.length:Int).toNat (0:Int)) B),(iv v1.Offset),(iv v1.Base)] 125::_::_::J) ?_)))))
 refine aB (aJ (sL [2,1,0]) (dD ?_))
 exact dC ((),(G,(l,i.length,q),(u,(List.replicate (b.length:Int).toNat (0:Int)).length,B))) trivial (aS R) (fun w s=>(s.e 4 [3,1,0,2]))
 refine bG R R cI (fun G=>(aB (aJ (sL [0]) (iQ [1,4] (by kernel_rfl) R ⟨?_,?_,trivial⟩))))
 refine lM (RR kT3 A5 D5 b::_::_::J) (fun w s=>(s.d 5 R)) ?_
 refine lC 1 kt R (Zx_ok a1) R ?_
 rintro ⟨l,U,q⟩
 refine lN (ow kT3 3 (.slice l U q) i::_::_::J) ?_
 refine aM 0 aD ?_
 rintro rfl
 refine aB (aJ (sL [1,0]) (d1 4 R (fW (K:=kT3) (m:=(b.length:Int)) (z:=(0:Int)) R R bH cO kE (Zr.zk zT3 gN) (by decide) R R D.1 D.2.1 D.2.2 (fun u B=>(aB (aJ (sL [2,1,0]) (dR 9 R (vz (.agg [(sc l i q),(sc u (List.replicate (b.length:Int).toNat (0:Int)) B),(iv v1.Offset),(iv v1.Base)].toArray) (bA eJ cI R R)) (hS:=(sL [2,1,0])) (d1 11 R (aL 2 R R bU R R R R R R (lN (OO kT3 3 u B (List.replicate (b.length:Int).toNat (0:Int))::_::aK G [(sc l i q),(sc u (List.replicate (b.length:Int).toNat (0:Int)) B),(iv v1.Offset),(iv v1.Base)] 125::_::J) ?_))))))))))
 refine aB (aJ (sL [2,1,0]) (dD ?_))
 exact dC ((),(G,(l,i.length,q),(u,(List.replicate (b.length:Int).toNat (0:Int)).length,B))) trivial (aS R) (fun w s=>(s.e 4 [3,2,1,0]))
 refine fW (K:=kT3) (m:=(b.length:Int)) (z:=(0:Int)) R R bH cO kE (Zr.zk zT3 gN) (by decide) R R D.1 D.2.1 D.2.2 (fun u B=>(aB (aJ (sL [1,0]) (d1 1 R (lM (RR kT3 A5 D5 b::_::aK G [(.slice none 0 0),(.slice none 0 0),(iv 0),(iv 0)] 125::_::J) (fun w s=>(s.d 6 R)) ?_)))))
 refine lC 1 kt R (Zx_ok a1) R ?_
 rintro ⟨l,U,q⟩
 refine lN (ow kT3 3 (.slice l U q) i::_::_::_::J) ?_
 refine aM 0 aD ?_
 rintro rfl
 refine aB (aJ (sL [2,1,0]) (dR 9 R (vz (.agg [(sc l i q),(sc u (List.replicate (b.length:Int).toNat (0:Int)) B),(iv v1.Offset),(iv v1.Base)].toArray) (bA eJ cI R R)) (hS:=(sL [2,1,0])) (d1 11 R (aL 2 R R bU R R R R R R (lN (_::_::aK G [(sc l i q),(sc u (List.replicate (b.length:Int).toNat (0:Int)) B),(iv v1.Offset),(iv v1.Base)] 125::_::J) ?_)))))
 refine aB (aJ (sL [2,1,0]) (dD ?_))
 exact dC ((),(G,(l,i.length,q),(u,(List.replicate (b.length:Int).toNat (0:Int)).length,B))) trivial (aS R) (fun w s=>(s.e 4 [3,2,0,1]))
 rintro ⟨_,⟨Z,⟨L,am,O⟩,⟨M,an,F⟩⟩⟩ σ1 -
 refine iR 2 aD (fun (hn:am=i.length)=>?_)
 subst hn
 refine iR 3 aD (fun (hn:an=(List.replicate (b.length:Int).toNat (0:Int)).length)=>?_)
 subst hn
 refine aE (aH (bB (A:=((List Int))×(Unit)) (fun a=>Z03_J3 v1 i a.1=some r) (fun a=>[(4,(pt b7 0)),(6,(pt Z 0))]) (fun a=>aK b7 [(.slice none 0 0),(.slice none 0 0),(iv 0),(iv 0)] 125::aK Z [(sc L i O),(sc M (List.replicate (b.length:Int).toNat (0:Int)) F),(iv v1.Offset),(iv v1.Base)] 125::OO kT3 3 L O i::ow kT3 3 (.slice M (List.replicate (b.length:Int).toNat (0:Int)).length F) a.1::J) ?_ ?_))
 refine aH (aC (lI R (aB (aE (bV ?_)))))
 obtain ⟨e1,ao,ai⟩:=bd j
 refine bD (A:=Unit) ao (fun s a=>[(1,(sc A5 b D5)),(2,(pt b6 0)),(4,(pt b7 0)),(5,(iv (aI ((b.length:Int) - (v1.Dims.length:Int))))),(6,(pt Z 0)),(7,(iv s.2))]) (fun s a=>aK b7 [(.slice none 0 0),(.slice none 0 0),(iv 0),(iv 0)] 125::aK Z [(sc L i O),(sc M (List.replicate (b.length:Int).toNat (0:Int)) F),(iv v1.Offset),(iv v1.Base)] 125::OO kT3 3 L O i::ow kT3 3 (.slice M (List.replicate (b.length:Int).toNat (0:Int)).length F) s.1::J) () (aS R) (fun w s=>s) ?_
 rintro ⟨a3,Y⟩ _ σ1 ab j ag
 replace j:Z03_L1 v1 b a3 Y=some ab:=j
 unfold Z03_L1 at j
 refine aH (aH (aC (lI R (lO (eW 0 eE R) (lO (eS 4 cH R R R) (lO (eN bH R) (lO (jG R R) (aB (aE ?_)))))))))
 rcases cF j with ⟨a5,j⟩|⟨a5,j⟩
 refine bJ R a5 (bQ (aE (aH (bB (A:=((List Int))×(Unit)) (fun a=>Z03_J2 Y a.1=some ab) (fun a=>[(1,(sc A5 b D5)),(2,(pt b6 0)),(4,(pt b7 0)),(5,(iv (aI ((b.length:Int) - (v1.Dims.length:Int))))),(6,(pt Z 0)),(7,(iv Y))]) (fun a=>aK b7 [(.slice none 0 0),(.slice none 0 0),(iv 0),(iv 0)] 125::aK Z [(sc L i O),(sc M (List.replicate (b.length:Int).toNat (0:Int)) F),(iv v1.Offset),(iv v1.Base)] 125::OO kT3 3 L O i::ow kT3 3 (.slice M (List.replicate (b.length:Int).toNat (0:Int)).length F) a.1::J) ?_ ?_))))
 refine bV (bV (aH ?_))
 obtain ⟨a0,j⟩:=gd j
 obtain ⟨a8,j⟩:=gd j
 refine bC 5 aA (show 0<v1.Dims.length by have:=a0; omega) (fun ar o47 ha=>?_)
 subst ha
 refine bC 7 aA (show 0<b.length by have:=a8; omega) (fun au o50 ha=>?_)
 subst ha
 refine dP 13 [] bS (fun ht hn=>(dR 0 R (eW 0 eE R) (dR 1 R (eS 4 cH R R R) (dR 2 R (vI R) (dR 3 R (dV bH cO R R a0) (dR 4 R (fQ 5 fC aA R a0) (dR 5 R (vS R) (dR 6 R (vI R) (dR 7 R (vI R) (dR 8 R (iE R R) (dR 9 R (dV bH cO R R a8) (dR 10 R (fQ 7 fC aA R a8) (dR 11 R (kO R R) (dR 12 R (vB R) (dD (aE ?_))))))))))))))))
 rcases cF j with ⟨a6,j⟩|⟨a6,j⟩
 refine bJ R a6 ?_
 obtain ⟨a9,j⟩:=gd j
 obtain ⟨a2,j⟩:=gd j
 refine bC 6 aA (show 0<v1.Strides.length by have:=a9; omega) (fun av o54 ha=>?_)
 subst ha
 refine bC 3 aD (show 0<(List.replicate (b.length:Int).toNat (0:Int)).length by have:=a2; omega) (fun ac o57 ha=>?_)
 subst ha
 refine dP 12 [3] bS (fun ht hn=>(dR 0 R (eW 1 eX R) (hS:=(sL [3])) (dR 1 R (eS 1 cH R R R) (hS:=(sL [3])) (dR 2 R (vI R) (hS:=(sL [3])) (dR 3 R (vI R) (hS:=(sL [3])) (dR 4 R (iE R R) (hS:=(sL [3])) (dR 5 R (eW 1 eX R) (hS:=(sL [3])) (dR 6 R (eS 3 cH R R R) (hS:=(sL [3])) (dR 7 R (vI R) (hS:=(sL [3])) (dR 8 R (dV bH cO R R a9) (hS:=(sL [3])) (dR 9 R (fQ 5 fC aA R a9) (hS:=(sL [3])) (dR 10 R (dV bH cO R R a2) (hS:=(sL [3])) (d1 11 R (lM (ow kT3 3 (.slice (ad ac o57) (List.replicate (b.length:Int).toNat (0:Int)).length F) a3::aK _ _ _::aK Z [(sc L i O),(sc (ad ac o57) (List.replicate (b.length:Int).toNat (0:Int)) F),(iv v1.Offset),(iv v1.Base)] 125::OO kT3 3 L O i::J) (fun w s=>(s.e 4 [3,0,1,2])) ?_))))))))))))))
 refine eO (K:=kT3) (x':=(ix v1.Strides Y)) 0 (aI ((aI ((b.length:Int) - (v1.Dims.length:Int)))+Y)) R R cO R R a2.1 a2.2 ?_ ?_
 exact fun I h s=>(gM).put I h () (ix v1.Strides Y) s
 refine lN (ow kT3 3 (.slice (ad ac o57) (List.replicate (b.length:Int).toNat (0:Int)).length F) (a3.set (aI ((aI ((b.length:Int) - (v1.Dims.length:Int)))+Y)).toNat (ix v1.Strides Y))::_::_::_::J) ?_
 refine aB (aJ (sL [0]) (dD ?_))
 obtain ⟨ak,aa,j⟩:=bd j
 replace aa:=Option.some.inj aa
 refine qM (ow kT3 3 (.slice (ad ac o57) (List.replicate (b.length:Int).toNat (0:Int)).length F) ak::_::_::_::J) (fun w s=>by rw [← aa]; exact s) ?_
 refine cD (cD ?_)
 exact qI (ak,()) j (fun w s=>(s.e 4 [1,2,3,0]))
 refine aY R a6 (aH (aC (lO (eW 0 eE R) (lO (eS 4 cH R R R) (lI R (lO (dV bH cO R R a0) (lO (fQ 5 fC aA R a0) (lO (vt R R) (lB R (aB (aE ?_)))))))))))
 rcases cF j with ⟨a7,j⟩|⟨a7,j⟩
 refine bJ R a7 (aH (aC (lO (vz (.agg [(.slice none 0 0),(.slice none 0 0),(iv 0),(iv 0)].toArray) (bA eJ cI R R)) (aL 0 R R bU R R R R R R (lN (_::aK Z [(sc L i O),(sc M (List.replicate (b.length:Int).toNat (0:Int)) F),(iv v1.Offset),(iv v1.Base)] 125::_::ow kT3 3 (.slice M (List.replicate (b.length:Int).toNat (0:Int)).length F) a3::J) ?_)))))
 refine aB (aE (bY (cG (cG (bZ ?_)))))
 obtain rfl:=so j
 obtain rfl:=ag _ R
 have j:=ai
 refine bZ (cG (bZ ?_))
 obtain rfl:=so j
 exact dL (vs:=[(.agg [(.slice none 0 0),(.slice none 0 0),(iv 0),(iv 0)].toArray)]) (.inl R) ((none,0,0),(none,0,0)) R ⟨⟨0,b7,_,_,R,R,.inl ⟨eR,bU,R⟩⟩,trivial⟩ R (fun w s=>(((s.nilo kT3 3).nilo kT3 3).e 10 [1,0]))
 refine aY R a7 (bQ (cD (cD ?_)))
 exact qI (a3,()) j (fun w s=>s)
 rintro ⟨aq,_⟩ σ1 j
 replace j:Z03_J2 Y aq=some ab:=j
 unfold Z03_J2 at j
 refine aC (lI R (lO (iE R R) (lI R (aB ?_))))
 obtain rfl:=so j
 exact qA () (fun w s=>s)
 refine aY R a5 (eA (cE ?_))
 obtain rfl:=so j
 obtain rfl:=ag _ R
 have j:=ai
 refine cE (dH ?_)
 exact qI (a3,()) j (fun w s=>s)
 rintro ⟨al,_⟩ σ1 j
 replace j:Z03_J3 v1 i al=some r:=j
 unfold Z03_J3 at j
 refine aH (aC (lO (vz (.agg [(sc L i O),(sc M (List.replicate (b.length:Int).toNat (0:Int)) F),(iv v1.Offset),(iv v1.Base)].toArray) (dA 1 eR bU R R R R)) (aL 0 R R bU R R R R R R (lN (aK b7 [(sc L i O),(sc M (List.replicate (b.length:Int).toNat (0:Int)) F),(iv v1.Offset),(iv v1.Base)] 125::_::_::ow kT3 3 (.slice M (List.replicate (b.length:Int).toNat (0:Int)).length F) al::J) ?_))))
 refine aB (aE (bY ?_))
 obtain rfl:=so j
 exact dL (vs:=[(.agg [(sc L i O),(sc M (List.replicate (b.length:Int).toNat (0:Int)) F),(iv v1.Offset),(iv v1.Base)].toArray)]) (.inl R) ((L,i.length,O),(M,(List.replicate (b.length:Int).toNat (0:Int)).length,F)) R ⟨⟨0,b7,_,_,R,R,.inl ⟨eR,bU,R⟩⟩,trivial⟩ R (fun w s=>(s.e 8 [2,3]))
theorem Z09_ok  {t1:Tensor}{v4:View}{r:Tensor}(j:Z09 t1 v4=some r) :
 FnOk Tryz.prog 91 [(.agg [(.slice A2 N2 D2),(.slice A3 N3 D3)].toArray),(.agg [(.slice A5 N5 D5),(.slice A6 N6 D6),(iv v4.Offset),(iv v4.Base)].toArray)] [aO kT3 (.slice A2 N2 D2) t1.Dims,aO kT3 (.slice A3 N3 D3) t1.Data,aO kT3 (.slice A5 N5 D5) v4.Dims,aO kT3 (.slice A6 N6 D6) v4.Strides] (fun (h:HH×HH)=>((.agg [(s3 h.1),(s3 h.2)].toArray),[ow kT3 3 (s3 h.1) r.Dims,ow kT3 3 (s3 h.2) r.Data])):=by
 unfold Z09 at j
 refine aR Tryz.func91 R 51 R R fun C V=>?_
 refine cL 0 aA ?_
 rintro rfl
 refine cL 1 aA ?_
 rintro rfl
 refine cL 2 aA ?_
 rintro rfl
 refine cL 3 aA ?_
 rintro rfl
 let W0:=RR kT3 A2 D2 t1.Dims::RR kT3 A3 D3 t1.Data::RR kT3 A5 D5 v4.Dims::RR kT3 A6 D6 v4.Strides::V
 refine cN W0 ?_
 refine aZ ?_
 refine eT R fun b7=>?_
 refine eT R fun b8=>?_
 refine bG R R eG (fun Y=>(aB ?_))
 let L:=aK b8 [(sc A5 v4.Dims D5),(sc A6 v4.Strides D6),(iv v4.Offset),(iv v4.Base)] 125::aK b7 [(sc A2 t1.Dims D2),(sc A3 t1.Data D3)] 77::W0
 refine aV ?_
 obtain ⟨a1,a5,j⟩:=bd j
 obtain ⟨a9,a6,j⟩:=bd j
 refine cQ [(2,(pt b7 0)),(3,(pt b8 0)),(4,(pt Y 0)),(23,(.bool (((!a1)||(!a9))||(v4.Base != (t1.Data.length:Int)))))] (aK Y [(.slice none 0 0),(.slice none 0 0)] 77::L) ?_ ?_
 refine aZ ?_
 refine lM _ (fun w s=>(((s.d 3 R).d 5 R).e 3 [1,0,2])) ?_
 refine lC 2 oH R (Zv_ok a5) R ?_
 rintro _
 refine aZ ?_
 rcases bo (!a1) with G | G
 refine lq ?_
 exact qj tI
 refine cP ?_
 refine lM _ (fun w s=>(((s.d 5 R).d 7 R).e 3 [1,0,2])) ?_
 refine b' 2 R (bW G) mt R (Zb_ok (bM a6 (cZ G))) R ?_
 rintro _
 refine aV ?_
 rcases bo ((!a1)||(!a9)) with a2 | a2
 refine dN ?_
 exact qj tI
 refine dN ?_
 exact qj tI
 rintro σ1
 refine cP ?_
 split at j
 refine aV ?_
 refine lO (vz (.agg [(.slice none 0 0),(.slice none 0 0)].toArray) (bA hJ eG R R)) (aL 0 R R bX R R R R R R (aB (aE (bY (bZ ?_)))))
 cases j
 exact qS ((none,0,0),(none,0,0)) (fun w s=>(((s.nilo kT3 3).nilo kT3 3).e 9 [1,0]))
 refine bL ?_
 obtain ⟨l,a7,j⟩:=bd j
 refine aV ?_
 refine lM _ (fun w s=>(s.d 5 R)) ?_
 refine lC 1 kt R (Zx_ok a7) R ?_
 rintro ⟨q,aq,u⟩
 refine aM 0 aD ?_
 rintro rfl
 refine lO (vz (.agg [(sc q l u),(.slice none 0 0)].toArray) (bA hJ eG R R)) (bG R R eG (fun D=>(aL 0 R R bX R R R R R R (lN (aK D [(sc q l u),(.slice none 0 0)] 77::_::_::L) ?_))))
 refine aV ?_
 obtain ⟨b,a8,j⟩:=bd j
 refine aZ ?_
 refine lM _ (fun w s=>(((s.d 7 R).d 9 R).e 5 [1,0,2,3,4])) ?_
 refine lC 2 rO R (Z0j_ok a8) R ?_
 rintro ⟨M,ar,T⟩
 refine aM 0 aD ?_
 rintro rfl
 refine bL ?_
 refine bB (A:=((List Int))×(HH)) (fun a=>Z09_J1 l a.1=some r) (fun a=>[(4,(pt Y 0)),(5,(pt D 0))]) (fun a=>aK Y [(.slice none 0 0),(.slice none 0 0)] 77::aK D [(sc q l u),(s3 a.2)] 77::OO kT3 3 q u l::ow kT3 3 (s3 a.2) a.1::L) ?_ ?_
 refine cB ?_
 obtain ⟨e1,ao,an⟩:=bd j
 refine bD (A:=HH) ao (fun s a=>[(2,(pt b7 0)),(4,(pt Y 0)),(5,(pt D 0)),(6,(sc M b T)),(7,(iv s.2))]) (fun s a=>aK Y [(.slice none 0 0),(.slice none 0 0)] 77::aK D [(sc q l u),(s3 a)] 77::OO kT3 3 q u l::ow kT3 3 (s3 a) s.1::OO kT3 3 M T b::L) (none,0,0) (aS R) (fun w s=>((s.nilo kT3 3).e 5 [4,2,3,0,1])) ?_
 rintro ⟨B,i⟩ ⟨aa,aj,ae⟩ σ1 ap j am
 dsimp only [Z09_L1] at j
 refine bK 3 aD (fun (hn:aj=B.length)=>?_)
 subst hn
 refine dG ?_
 rcases cF j with ⟨Z,j⟩|⟨Z,j⟩
 refine cV ?_
 obtain ⟨a3,j⟩:=gd j
 obtain ⟨a4,j⟩:=gd j
 obtain ⟨a0,j⟩:=gd j
 refine jt (A:=(Unit)×(HH)) (fun _=>True) (fun a=>[(2,(pt b7 0)),(4,(pt Y 0)),(5,(pt D 0)),(6,(sc M b T)),(7,(iv i))]) (fun a=>aK Y [(.slice none 0 0),(.slice none 0 0)] 77::aK D [(sc q l u),(s3 a.2)] 77::OO kT3 3 q u l::ow kT3 3 (s3 a.2) (B++([(ix t1.Data (ix b i))]:List Int))::OO kT3 3 M T b::L) ?_ ?_
 refine bC 4 aD (show 0<b.length by have:=a3; omega) (fun au o41 ha=>?_)
 subst ha
 refine bC 8 aA (show 0<t1.Data.length by have:=a4; omega) (fun av o44 ha=>?_)
 subst ha
 refine dP 14 [3,1] bS fun ht hn=>?_
 refine pC 0 [3,1] ?_
 refine vR 2 [3,1] ?_
 refine iQ [1,10] (by kernel_rfl) R ⟨?_,?_,trivial⟩
 refine lO (eS 1 cH R R R) (aB (aJ (sL [3,1]) (d1 10 R (bO (K:=kT3) (xs:=([(ix t1.Data (ix b i))]:List Int)) (vs:=[(iv (ix t1.Data (ix b i)))]) 0 R R bH cO gN R R R R R R ?_ R (fun ab ag=>?_)))))
 exact fun I h s=>(gM).list [((),(ix t1.Data (ix b i)))] I h s
 refine aB (aJ (sL [4,2,0]) (d1 11 R (lM _ (tE 6 [4,0,1,2,3,5]) ?_)))
 refine eU (K:=kT3) 17592186044416 R R bH cO kE (Zr.zk zT3 gN) R R R R R R eB a0 (fun E F=>(lN (OO kT3 3 E F (B++([(ix t1.Data (ix b i))]:List Int))::_::_::_::_::L) ?_))
 refine aB (aJ (sL [2,0]) ?_)
 refine pC 12 [2,0] ?_
 refine d1 13 R (dI 2 R R fK R R R R R (lN (_::_::aK D [(sc q l u),(sc E (B++([(ix t1.Data (ix b i))]:List Int)) F)] 77::_::_::L) ?_))
 refine aB (aJ (sL [2,0]) (dD ?_))
 exact dC ((),(E,(B++([(ix t1.Data (ix b i))]:List Int)).length,F)) trivial (aS R) (tE 5 [1,2,3,0,4])
 refine bO (K:=kT3) (xs:=([(ix t1.Data (ix b i))]:List Int)) (vs:=[(iv (ix t1.Data (ix b i)))]) 0 R R bH cO gN R R R R R R ?_ R (fun ab ag=>?_)
 exact fun I h s=>(gM).list [((),(ix t1.Data (ix b i)))] I h s
 refine aB (aJ (sL [4,2,0]) (d1 1 R (lO (eS 2 cH R R R) (aB (aJ (sL [4,2,0]) (d1 11 R (lM _ (tE 6 [4,0,1,2,3,5]) ?_)))))))
 refine eU (K:=kT3) 17592186044416 R R bH cO kE (Zr.zk zT3 gN) R R R R R R eB a0 (fun E F=>(lN (OO kT3 3 E F (B++([(ix t1.Data (ix b i))]:List Int))::_::_::_::_::L) ?_))
 refine aB (aJ (sL [2,0]) ?_)
 refine pC 12 [2,0] ?_
 refine d1 13 R (dI 2 R R fK R R R R R (lN (_::_::aK D [(sc q l u),(sc E (B++([(ix t1.Data (ix b i))]:List Int)) F)] 77::_::_::L) ?_))
 refine aB (aJ (sL [2,0]) (dD ?_))
 exact dC ((),(E,(B++([(ix t1.Data (ix b i))]:List Int)).length,F)) trivial (aS R) (tE 5 [1,2,3,0,4])
 rintro ⟨_,⟨ac,ak,ai⟩⟩ σ1 -
 refine iR 3 aD (fun (hn:ak=(B++([(ix t1.Data (ix b i))]:List Int)).length)=>?_)
 subst hn
 refine eD ?_
 cases j
 exact qA (ac,(B++([(ix t1.Data (ix b i))]:List Int)).length,ai) tI
 refine aY R Z ?_
 refine aZ ?_
 cases j
 obtain rfl:=am _ R
 have j:=an
 refine aZ ?_
 exact qI (B,(aa,B.length,ae)) j (fun w s=>(s.f 5 [0,4]))
 rintro ⟨J,⟨O,al,U⟩⟩ σ1 j
 dsimp only [Z09_J1] at j
 refine bK 3 aD (fun (hn:al=J.length)=>?_)
 subst hn
 refine aV ?_
 refine aL 0 R R bX R R R R R R (lN (aK Y [(sc q l u),(sc O J U)] 77::aK D [(sc q l u),(sc O J U)] 77::_::OO kT3 3 O U J::L) ?_)
 refine aV ?_
 cases j
 exact qS ((q,l.length,u),(O,J.length,U)) (tE 10 [2,3])
theorem Z0i_ok  {v1:View}{l:(List Int)}{r:View}(i:Z0i v1 l=some r) :
 FnOk Tryz.prog 94 [(.agg [(.slice A2 N2 D2),(.slice A3 N3 D3),(iv v1.Offset),(iv v1.Base)].toArray),(.slice A5 N5 D5)] [aO kT3 (.slice A2 N2 D2) v1.Dims,aO kT3 (.slice A3 N3 D3) v1.Strides,aO kT3 (.slice A5 N5 D5) l] (fun (h:HH×HH)=>((.agg [(s3 h.1),(s3 h.2),(iv r.Offset),(iv r.Base)].toArray),[ow kT3 3 (s3 h.1) r.Dims,ow kT3 3 (s3 h.2) r.Strides])):=by
 unfold Z0i at i
 refine aR Tryz.func94 R 77 R R fun C V=>?_
 refine cL 0 aA ?_
 rintro rfl
 refine cL 1 aA ?_
 rintro rfl
 refine cL 2 aA ?_
 rintro rfl
 let W0:=RR kT3 A2 D2 v1.Dims::RR kT3 A3 D3 v1.Strides::RR kT3 A5 D5 l::V
 refine cN W0 ?_
 refine aZ ?_
 refine eT R fun b6=>?_
 refine bG R R cI (fun b7=>(aB ?_))
 let W1:=aK b6 [(sc A2 v1.Dims D2),(sc A3 v1.Strides D3),(iv v1.Offset),(iv v1.Base)] 125::W0
 refine aV ?_
 obtain ⟨r8,ac,i⟩:=bd i
 obtain ⟨ax,a6,i⟩:=bd i
 obtain ⟨b9,an,i⟩:=bd i
 obtain ⟨ba,ao,i⟩:=bd i
 refine cQ [(1,(sc A5 l D5)),(2,(pt b6 0)),(4,(pt b7 0)),(24,(.bool (((!r8)||(!ax))||(b9 != ba))))] (aK b7 [(.slice none 0 0),(.slice none 0 0),(iv 0),(iv 0)] 125::W1) ?_ ?_
 rcases bo (!r8) with T | T
 refine dP 16 [] bS fun ht hn=>?_
 refine pC 0 [] ?_
 refine d1 1 R (lM _ (fun w s=>(((s.d 2 R).d 4 R).e 3 [1,0,2])) ?_)
 refine lC 2 mt R (Zb_ok ac) R ?_
 rintro _
 refine aB (aJ (sL []) ?_)
 refine vU 2 [] ?_
 refine dD ?_
 exact qj tI
 rcases bo ((!r8)||(!ax)) with U | U
 refine dP 16 [] bS fun ht hn=>?_
 refine pC 0 [] ?_
 refine d1 1 R (lM _ (fun w s=>(((s.d 2 R).d 4 R).e 3 [1,0,2])) ?_)
 refine lC 2 mt R (Zb_ok ac) R ?_
 rintro _
 refine aB (aJ (sL []) ?_)
 refine j6 2 [] ?_
 refine d1 5 R (lM _ (fun w s=>(s.d 4 R)) ?_)
 refine b' 1 R (bW T) iT R (Zq_ok (bM a6 (cZ T))) R ?_
 rintro _
 refine aB (aJ (sL []) ?_)
 refine pD 6 [] ?_
 refine dD ?_
 exact qj tI
 refine dP 16 [] bS fun ht hn=>?_
 refine pC 0 [] ?_
 refine d1 1 R (lM _ (fun w s=>(((s.d 2 R).d 4 R).e 3 [1,0,2])) ?_)
 refine lC 2 mt R (Zb_ok ac) R ?_
 rintro _
 refine aB (aJ (sL []) ?_)
 refine j6 2 [] ?_
 refine d1 5 R (lM _ (fun w s=>(s.d 4 R)) ?_)
 refine b' 1 R (bW T) iT R (Zq_ok (bM a6 (cZ T))) R ?_
 rintro _
 refine aB (aJ (sL []) ?_)
 refine qg 6 [] ?_
 refine iM 11 [] ?_
 refine d1 10 R (lM _ (fun w s=>(s.d 4 R)) ?_)
 refine b' 1 R (bW U) nS R (Zs_ok (bM an (cZ U))) R ?_
 rintro _
 refine aB (aJ (sL []) (d1 13 R (lM _ (fun w s=>(s.d 2 R)) ?_)))
 refine b' 1 R (bW U) nS R (Zs_ok (bM ao (cZ U))) R ?_
 rintro _
 refine aB (aJ (sL []) ?_)
 refine iM 14 [] ?_
 refine dD ?_
 exact qj tI
 rintro σ1
 refine cP ?_
 split at i
 refine aV ?_
 refine lO (vz (.agg [(.slice none 0 0),(.slice none 0 0),(iv 0),(iv 0)].toArray) (bA eJ cI R R)) (aL 0 R R bU R R R R R R (aB (aE (bY (bZ ?_)))))
 cases i
 exact qS ((none,0,0),(none,0,0)) (fun w s=>(((s.nilo kT3 3).nilo kT3 3).e 7 [1,0]))
 refine bL ?_
 obtain ⟨b,ap,i⟩:=bd i
 refine aZ ?_
 refine lM _ (fun w s=>(((s.d 2 R).d 4 R).e 3 [1,0,2])) ?_
 refine lC 2 rO R (Z0j_ok ap) R ?_
 rintro ⟨E,bi,F⟩
 refine aM 0 aD ?_
 rintro rfl
 refine bL ?_
 obtain ⟨j,a7,i⟩:=bd i
 obtain ⟨aj,i⟩:=gd i
 refine jt (A:=(Unit)×(Nat×HH)) (fun _=>True) (fun a=>[(1,(sc A5 l D5)),(4,(pt b7 0)),(5,(sc E b F)),(6,(pt a.2.1 0))]) (fun a=>aK b7 [(.slice none 0 0),(.slice none 0 0),(iv 0),(iv 0)] 125::OO kT3 3 E F b::aK a.2.1 [(s3 a.2.2),(.slice none 0 0),(iv (ix b 0)),(iv v1.Base)] 125::ow kT3 3 (s3 a.2.2) j::W1) ?_ ?_
 refine bC 0 aD (show 0<b.length by have:=aj; omega) (fun bk o27 ha=>?_)
 subst ha
 refine dP 10 [] bS fun ht hn=>?_
 refine dR 0 R (vS R) ?_
 refine kX 2 [] ?_
 refine iQ [1,8] (by kernel_rfl) R ⟨?_,?_,trivial⟩
 refine lM _ (fun w s=>(s.d 5 R)) ?_
 refine lC 1 kt R (Zx_ok a7) R ?_
 rintro ⟨Y,b0,Z⟩
 refine aM 0 aD ?_
 rintro rfl
 refine aB (aJ (sL [0]) (dR 7 R (vz (.agg [(sc Y j Z),(.slice none 0 0),(iv (ix b 0)),(iv v1.Base)].toArray) (bA eJ cI R R)) (hS:=(sL [0])) (d1 8 R (bG R R cI (fun a1=>(aB (aJ (sL [1,0]) (d1 9 R (aL 0 R R bU R R R R R R (lN (aK a1 [(sc Y j Z),(.slice none 0 0),(iv (ix b 0)),(iv v1.Base)] 125::_::_::_::W1) ?_))))))))))
 refine aB (aJ (sL [1,0]) (dD ?_))
 exact dC ((),(a1,(Y,j.length,Z))) trivial (aS R) (tE 4 [3,2,0,1])
 refine bG R R cI (fun a1=>(aB (aJ (sL [0]) (d1 1 R (lM _ (fun w s=>(s.d 6 R)) ?_)))))
 refine lC 1 kt R (Zx_ok a7) R ?_
 rintro ⟨Y,b0,Z⟩
 refine aM 0 aD ?_
 rintro rfl
 refine aB (aJ (sL [1,0]) (dR 7 R (vz (.agg [(sc Y j Z),(.slice none 0 0),(iv (ix b 0)),(iv v1.Base)].toArray) (bA eJ cI R R)) (hS:=(sL [1,0])) (d1 9 R (aL 1 R R bU R R R R R R (lN (_::aK a1 [(sc Y j Z),(.slice none 0 0),(iv (ix b 0)),(iv v1.Base)] 125::_::_::W1) ?_)))))
 refine aB (aJ (sL [1,0]) (dD ?_))
 exact dC ((),(a1,(Y,j.length,Z))) trivial (aS R) (tE 4 [3,2,1,0])
 rintro ⟨_,⟨M,⟨q,b1,u⟩⟩⟩ σ1 -
 refine iR 3 aD (fun (hn:b1=j.length)=>?_)
 subst hn
 refine aZ ?_
 refine bB (A:=((List Int))×(HH)) (fun a=>Z0i_J3 v1 b j a.1=some r) (fun a=>[(4,(pt b7 0)),(5,(sc E b F)),(6,(pt M 0))]) (fun a=>aK b7 [(.slice none 0 0),(.slice none 0 0),(iv 0),(iv 0)] 125::OO kT3 3 E F b::aK M [(sc q j u),(s3 a.2),(iv (ix b 0)),(iv v1.Base)] 125::OO kT3 3 q u j::ow kT3 3 (s3 a.2) a.1::W1) ?_ ?_
 refine cB ?_
 obtain ⟨e1,b8,b5⟩:=bd i
 refine bD (A:=HH) b8 (fun s a=>[(1,(sc A5 l D5)),(4,(pt b7 0)),(5,(sc E b F)),(6,(pt M 0)),(7,(iv s.2))]) (fun s a=>aK b7 [(.slice none 0 0),(.slice none 0 0),(iv 0),(iv 0)] 125::OO kT3 3 E F b::aK M [(sc q j u),(s3 a),(iv (ix b 0)),(iv v1.Base)] 125::OO kT3 3 q u j::ow kT3 3 (s3 a) s.1::W1) (none,0,0) (aS R) (fun w s=>((s.nilo kT3 3).f 5 [1,4,0,1])) ?_
 rintro ⟨O,ae⟩ ⟨a8,b2,aa⟩ σ1 aw i b4
 dsimp only [Z0i_L1] at i
 refine bK 4 aD (fun (hn:b2=O.length)=>?_)
 subst hn
 refine dG ?_
 rcases cF i with ⟨a3,i⟩|⟨a3,i⟩
 refine hG ?_
 refine bB (A:=(Int)×(Unit)) (fun a=>Z0i_J2 O ae a.1=some aw) (fun a=>[(1,(sc A5 l D5)),(4,(pt b7 0)),(5,(sc E b F)),(6,(pt M 0)),(7,(iv ae)),(8,(iv a.1))]) (fun a=>aK b7 [(.slice none 0 0),(.slice none 0 0),(iv 0),(iv 0)] 125::OO kT3 3 E F b::aK M [(sc q j u),(sc a8 O aa),(iv (ix b 0)),(iv v1.Base)] 125::OO kT3 3 q u j::OO kT3 3 a8 aa O::W1) ?_ ?_
 refine cP ?_
 obtain ⟨ak,i⟩:=gd i
 refine aV ?_
 refine bE 8 aA (show 0<l.length by have:=ak; omega) (fun bl o53 ha=>?_)
 subst ha
 refine cV ?_
 rcases cF i with ⟨a4,i⟩|⟨a4,i⟩
 refine cP ?_
 obtain ⟨a2,i⟩:=gd i
 obtain ⟨bb,aq,i⟩:=bd i
 obtain ⟨al,i⟩:=gd i
 refine bC 1 aD (show 0<b.length by have:=al; omega) (fun bm o61 ha=>?_)
 subst ha
 refine dP 13 [] bS fun ht hn=>?_
 refine qg 0 [] ?_
 refine j6 8 [] ?_
 refine d1 4 R (gP (K:=kT3) (aI (ae+1)) (l.length:Int) 8 R R bH cO R R R R a2.1 a2.2.1 a2.2.2 (fun be bg=>(aB (aJ (sL [0]) (d1 5 R (lM _ (fun w s=>(s.d 0 R)) ?_))))))
 refine lC 1 nS R (Zs_ok aq) R ?_
 rintro _
 refine aB (aJ (sL [0]) ?_)
 refine iM 6 [0] ?_
 refine iM 11 [0] ?_
 refine dD ?_
 exact qI ((aI ((ix b bb) - (ix b 0))),()) i (fun w s=>(s.f 6 [1,5]))
 refine aY R a4 (bQ ?_)
 exact qI ((0:Int),()) i tI
 rintro ⟨a0,_⟩ σ1 i
 dsimp only [Z0i_J2] at i
 obtain ⟨am,i⟩:=gd i
 refine bL ?_
 refine bO (K:=kT3) (xs:=([a0]:List Int)) (vs:=[(iv a0)]) 0 R R bH cO gN R R R R R R ?_ R (fun bf bh=>?_)
 exact fun I h s=>(gM).list [((),a0)] I h s
 refine lM _ (fun w s=>(s.f 6 [5,1,0,5])) ?_
 refine eU (K:=kT3) 17592186044416 R R bH cO kE (Zr.zk zT3 gN) R R R R R R eB am (fun a9 ab=>(lN (OO kT3 3 a9 ab (O++([a0]:List Int))::_::_::_::_::W1) ?_))
 refine cP ?_
 refine dI 3 R R fK R R R R R (lN (_::_::_::aK M [(sc q j u),(sc a9 (O++([a0]:List Int)) ab),(iv (ix b 0)),(iv v1.Base)] 125::_::W1) ?_)
 refine dN ?_
 cases i
 exact qA (a9,(O++([a0]:List Int)).length,ab) (fun w s=>(s.f 5 [1,4,0,1]))
 refine aY R a3 ?_
 refine aZ ?_
 cases i
 obtain rfl:=b4 _ R
 have i:=b5
 refine aZ ?_
 exact qI (O,(a8,O.length,aa)) i tI
 rintro ⟨D,⟨J,b3,L⟩⟩ σ1 i
 dsimp only [Z0i_J3] at i
 refine bK 4 aD (fun (hn:b3=D.length)=>?_)
 subst hn
 refine aZ ?_
 obtain ⟨ay,ar,i⟩:=bd i
 obtain ⟨az,au,i⟩:=bd i
 obtain ⟨bc,av,i⟩:=bd i
 refine cQ [(4,(pt b7 0)),(6,(pt M 0)),(74,(.bool ((!ay)||(!bc))))] (aK b7 [(.slice none 0 0),(.slice none 0 0),(iv 0),(iv 0)] 125::aK M [(sc q j u),(sc J D L),(iv (ix b 0)),(iv v1.Base)] 125::OO kT3 3 q u j::OO kT3 3 J L D::W1) ?_ ?_
 refine aZ ?_
 refine lM _ (fun w s=>(s.f 5 [3,2,0,3])) ?_
 refine lC 2 mt R (FnOk.lends (A':=[OO kT3 3 q u j,OO kT3 3 J L D]) (A:=[RR kT3 q u j,RR kT3 J L D]) (B:=[]) (Zb_ok (v1:=(⟨j,D,(ix b 0),v1.Base⟩:View)) ar) ⟨aU,aU,trivial⟩ (fun _=>trivial)) R ?_
 rintro _
 refine aZ ?_
 rcases bo (!ay) with G | G
 refine eD ?_
 exact qj (tE 5 [2,4,0,1])
 refine lW (bW G) (vz (.agg [(sc q j u),(sc J D L),(iv (ix b 0)),(iv v1.Base)].toArray) (dA 4 eR bU R R R R)) (b' 2 R (bW G) rO R (FnOk.lends (A':=[OO kT3 3 q u j,OO kT3 3 J L D]) (A:=[RR kT3 q u j,RR kT3 J L D]) (B:=[]) (Z0j_ok (v1:=(⟨j,D,(ix b 0),v1.Base⟩:View)) (bM au (cZ G))) ⟨aU,aU,trivial⟩ (fun _=>⟨(bN jw),trivial⟩)) R ?_)
 rintro ⟨ag,bj,ai⟩
 refine aM 2 aD ?_
 rintro rfl
 refine cP ?_
 refine lM _ (tE 6 [2,4,0,1,3,5]) ?_
 refine b' 2 R (bW G) yA R (FnOk.lends (A':=[OO kT3 3 ag ai az,OO kT3 3 E F b]) (A:=[RR kT3 ag ai az,RR kT3 E F b]) (B:=[]) (Z06_ok (bM av (cZ G))) ⟨aU,aU,trivial⟩ (fun _=>trivial)) R ?_
 rintro _
 refine aV ?_
 exact qj (tE 6 [4,5,2,3])
 rintro σ1
 refine cP ?_
 rcases cF i with ⟨a5,i⟩|⟨a5,i⟩
 refine aV ?_
 refine lO (vz (.agg [(.slice none 0 0),(.slice none 0 0),(iv 0),(iv 0)].toArray) (bA eJ cI R R)) (aL 0 R R bU R R R R R R (lN (_::_::_::_::W1) ?_))
 refine bL ?_
 cases i
 exact qS ((none,0,0),(none,0,0)) (fun w s=>(((s.nilo kT3 3).nilo kT3 3).e 10 [1,0]))
 refine aY R a5 ?_
 refine cV ?_
 refine aL 0 R R bU R R R R R R (lN (aK b7 [(sc q j u),(sc J D L),(iv (ix b 0)),(iv v1.Base)] 125::_::_::_::W1) ?_)
 refine aV ?_
 cases i
 exact qS ((q,j.length,u),(J,D.length,L)) (tE 8 [2,3])
theorem Z2i_ok  {v1:View}{a:Int}{r:Bool}(b:Z2i v1 a=some r) :
 FnOk Tryz.prog 138 [(.agg [(.slice A2 N2 D2),(.slice A3 N3 D3),(iv v1.Offset),(iv v1.Base)].toArray),(iv a)] [aO kT3 (.slice A2 N2 D2) v1.Dims,aO kT3 (.slice A3 N3 D3) v1.Strides] (fun (h:Unit)=>((.bool r),[])):=by
 unfold Z2i at b
 refine aR Tryz.func138 R 18 R R fun C V=>?_
 refine cL 0 aA ?_
 rintro rfl
 refine cL 1 aA ?_
 rintro rfl
 let B:=RR kT3 A2 D2 v1.Dims::RR kT3 A3 D3 v1.Strides::V
 refine cN B ?_
 refine aZ ?_
 refine eT R fun D=>?_
 refine aZ ?_
 let i:=aK D [(sc A2 v1.Dims D2),(sc A3 v1.Strides D3),(iv v1.Offset),(iv v1.Base)] 125::B
 refine qN i ?_
 refine aZ ?_
 obtain ⟨u,q,b⟩:=bd b
 refine cQ [(4,(.bool ((u&&(decide (a≥0)))&&(decide (a<(v1.Dims.length:Int))))))] (i) ?_ ?_
 refine aZ ?_
 refine lM _ (fun w s=>(((s.d 1 R).d 3 R).e 2 [1,0])) ?_
 refine lC 2 mt R (Zb_ok q) R ?_
 rintro _
 refine lN i ?_
 refine cP ?_
 rcases bo u with j | j
 refine bL ?_
 rcases bo (u&&(decide (a≥0))) with l | l
 refine dN ?_
 exact qj tI
 refine dN ?_
 exact qj tI
 refine jl ?_
 exact qj tI
 rintro σ1
 refine aZ ?_
 cases b
 exact qF () (tE 3 [])
theorem Z2k_ok  {v1:View}{r:View}(a:Z2k v1=some r) :
 FnOk Tryz.prog 139 [(.agg [(.slice A2 N2 D2),(.slice A3 N3 D3),(iv v1.Offset),(iv v1.Base)].toArray)] [aO kT3 (.slice A2 N2 D2) v1.Dims,aO kT3 (.slice A3 N3 D3) v1.Strides] (fun (h:HH×HH)=>((.agg [(s3 h.1),(s3 h.2),(iv r.Offset),(iv r.Base)].toArray),[ow kT3 3 (s3 h.1) r.Dims,ow kT3 3 (s3 h.2) r.Strides])):=by
 unfold Z2k at a
 refine aR Tryz.func139 R 14 R R fun C V=>?_
 refine cL 0 aA ?_
 rintro rfl
 refine cL 1 aA ?_
 rintro rfl
 let l:=RR kT3 A2 D2 v1.Dims::RR kT3 A3 D3 v1.Strides::V
 refine cN l ?_
 refine aZ ?_
 refine eT R fun u=>?_
 refine bG R R cI (fun B=>(aB ?_))
 let q:=aK u [(sc A2 v1.Dims D2),(sc A3 v1.Strides D3),(iv v1.Offset),(iv v1.Base)] 125::l
 refine aZ ?_
 obtain ⟨i,e,a⟩:=bd a
 obtain ⟨j,b,a⟩:=bd a
 refine dP 12 [0] bS fun E D=>?_
 refine iM 0 [0] ?_
 refine iM 3 [0] ?_
 refine qg 6 [0] ?_
 refine d1 2 R (lM _ (fun w s=>(s.d 2 R)) ?_)
 refine lC 1 kt R (Zx_ok e) R ?_
 rintro ⟨A8,N8,D8⟩
 refine aM 0 aD ?_
 rintro rfl
 refine aB (aJ (sL [1,0]) (d1 5 R (lM _ (fun w s=>(s.d 4 R)) ?_)))
 refine lC 1 kt R (Zx_ok b) R ?_
 rintro ⟨A11,N11,D11⟩
 refine aM 0 aD ?_
 rintro rfl
 refine aB (aJ (sL [2,1,0]) (dR 10 R (vz (.agg [(sc A8 i D8),(sc A11 j D11),(iv v1.Offset),(iv v1.Base)].toArray) (bA eJ cI R R)) (hS:=(sL [2,1,0])) (d1 11 R (aL 2 R R bU R R R R R R (lN (_::_::aK B [(sc A8 i D8),(sc A11 j D11),(iv v1.Offset),(iv v1.Base)] 125::q) ?_)))))
 refine aB (aJ (sL [2,1,0]) (dD ?_))
 refine aZ ?_
 cases a
 exact qS ((A8,i.length,D8),(A11,j.length,D11)) (tE 6 [1,0])
theorem Z2l_ok  {v1:View}{r:View}(a:Z2l v1=some r) :
 FnOk Tryz.prog 140 [(.agg [(.slice A2 N2 D2),(.slice A3 N3 D3),(iv v1.Offset),(iv v1.Base)].toArray)] [aO kT3 (.slice A2 N2 D2) v1.Dims,aO kT3 (.slice A3 N3 D3) v1.Strides] (fun (h:HH×HH)=>((.agg [(s3 h.1),(s3 h.2),(iv r.Offset),(iv r.Base)].toArray),[aO kT3 (s3 h.1) r.Dims,aO kT3 (s3 h.2) r.Strides])):=by
 unfold Z2l at a
 refine aR Tryz.func140 R 8 R R fun C V=>?_
 refine cL 0 aA ?_
 rintro rfl
 refine cL 1 aA ?_
 rintro rfl
 let i:=RR kT3 A2 D2 v1.Dims::RR kT3 A3 D3 v1.Strides::V
 refine cN i ?_
 refine aZ ?_
 refine eT R fun l=>?_
 refine bG R R cI (fun q=>(aB ?_))
 let j:=aK l [(sc A2 v1.Dims D2),(sc A3 v1.Strides D3),(iv v1.Offset),(iv v1.Base)] 125::i
 refine aV ?_
 obtain ⟨u,b,a⟩:=bd a
 refine aZ ?_
 refine lM _ (fun w s=>(((s.d 2 R).d 4 R).e 3 [1,0,2])) ?_
 refine lC 2 mt R (Zb_ok b) R ?_
 rintro _
 refine aV ?_
 split at a
 refine aV ?_
 refine lO (vz (.agg [(.slice none 0 0),(.slice none 0 0),(iv 0),(iv 0)].toArray) (bA eJ cI R R)) (aL 0 R R bU R R R R R R (aB (aE (bY (bZ ?_)))))
 cases a
 exact qS ((none,0,0),(none,0,0)) (fun w s=>(((s.nilr kT3).nilr kT3).e 6 [1,0]))
 refine cB ?_
 refine aL 0 R R bU R R R R R R (lN (aK q [(sc A2 v1.Dims D2),(sc A3 v1.Strides D3),(iv v1.Offset),(iv v1.Base)] 125::j) ?_)
 refine aV ?_
 cases a
 exact qS ((A2,v1.Dims.length,D2),(A3,v1.Strides.length,D3)) (tE 4 [2,3])
theorem Z1j_ok  {v1:View}{i:Int}{O:Int}{b:Int}{l:Int}{r:View}(M:Z1j v1 i O b l=some r) :
 FnOk Tryz.prog 95 [(.agg [(.slice A2 N2 D2),(.slice A3 N3 D3),(iv v1.Offset),(iv v1.Base)].toArray),(iv i),(iv O),(iv b),(iv l)] [aO kT3 (.slice A2 N2 D2) v1.Dims,aO kT3 (.slice A3 N3 D3) v1.Strides] (fun (h:HH×HH)=>((.agg [(.slice h.1.1 h.1.2.1 h.1.2.2),(.slice h.2.1 h.2.2.1 h.2.2.2),(iv r.Offset),(iv r.Base)].toArray),[aO kT3 (.slice h.1.1 h.1.2.1 h.1.2.2) r.Dims,aO kT3 (.slice h.2.1 h.2.2.1 h.2.2.2) r.Strides])):=by
 unfold Z1j at M
 refine aR Tryz.func95 R 102 R R fun C V=>?_
 refine cN (_::_::V) ?_
 refine cL 0 aA ?_
 rintro rfl
 refine cL 1 aA ?_
 rintro rfl
 let W0:List HP:=RR kT3 A2 D2 v1.Dims::RR kT3 A3 D3 v1.Strides::V
 refine cN W0 ?_
 refine aH (aC (eT R (fun b8=>(bG R R cI (fun b9=>(aB ?_))))))
 let Z:List HP:=aK b8 [(sc A2 v1.Dims D2),(sc A3 v1.Strides D3),(iv v1.Offset),(iv v1.Base)] 125::W0
 refine qN (_::Z) ?_
 refine aE (aH (aH ?_))
 obtain ⟨a2,am,M⟩:=bd M
 obtain ⟨a9,M⟩:=gd M
 refine cQ [(1,(iv i)),(2,(iv O)),(3,(iv b)),(4,(iv l)),(5,(pt b8 0)),(10,(pt b9 0)),(45,(.bool (((((((!a2)||(decide (b<(1:Int))))||(decide (b>(4096:Int))))||(decide (l<(-4096:Int))))||(decide (l>(4096:Int))))||(decide (O<(0:Int))))||(decide (O≥(ix v1.Dims i))))))] (aK b9 [(.slice none 0 0),(.slice none 0 0),(iv 0),(iv 0)] 125::Z) ?_ ?_
 refine aC (lO (vz (.agg [(sc A2 v1.Dims D2),(sc A3 v1.Strides D3),(iv v1.Offset),(iv v1.Base)].toArray) (dA 1 eR bU R R R R)) (lI R (lM (RR kT3 A2 D2 v1.Dims::RR kT3 A3 D3 v1.Strides::aK _ _ _::Z) (fun w s=>(((s.d 2 R).d 4 R).e 3 [1,0,2])) ?_)))
 refine lC 2 xo R (Z2i_ok am) R ?_
 rintro _
 refine lN (_::Z) ?_
 refine lO (ne R) (lB R ?_)
 rcases bo (!a2) with q | q
 refine lf (cX q) (lf (cX q) (lO (fB (decide (b<(1:Int))) R q) (lB R (lf (cX (oT q)) (lf (cX (oT q)) (lO (fB (decide (b>(4096:Int))) R (oT q)) (lB R (lf (cX (oT (oT q))) (lf (cX (oT (oT q))) (lO (fB (decide (l<(-4096:Int))) R (oT (oT q))) (lB R (lf (cX (oT (oT (oT q)))) (lf (cX (oT (oT (oT q)))) (lO (fB (decide (l>(4096:Int))) R (oT (oT (oT q)))) (lB R (lf (cX (oT (oT (oT (oT q))))) (lf (cX (oT (oT (oT (oT q))))) (lO (fB (decide (O<(0:Int))) R (oT (oT (oT (oT q))))) (lB R (lf (cX (oT (oT (oT (oT (oT q)))))) (lf (cX (oT (oT (oT (oT (oT q)))))) (lf (cX (oT (oT (oT (oT (oT q)))))) (lf (cX (oT (oT (oT (oT (oT q)))))) (lf (cX (oT (oT (oT (oT (oT q)))))) (lf (cX (oT (oT (oT (oT (oT q)))))) (lf (cX (oT (oT (oT (oT (oT q)))))) (lO (fB (decide (O≥(ix v1.Dims i))) R (oT (oT (oT (oT (oT q)))))) (aB ?_))))))))))))))))))))))))))))
 exact qJ (fun w s=>s)
 refine lW (bW q) (vI R) (lW (bW q) (jG R R) (lO (fG R q R) (lB R ?_)))
 rcases bo ((!a2)||(decide (b<(1:Int)))) with u | u
 refine lf (cX u) (lf (cX u) (lO (fB (decide (b>(4096:Int))) R u) (lB R (lf (cX (oT u)) (lf (cX (oT u)) (lO (fB (decide (l<(-4096:Int))) R (oT u)) (lB R (lf (cX (oT (oT u))) (lf (cX (oT (oT u))) (lO (fB (decide (l>(4096:Int))) R (oT (oT u))) (lB R (lf (cX (oT (oT (oT u)))) (lf (cX (oT (oT (oT u)))) (lO (fB (decide (O<(0:Int))) R (oT (oT (oT u)))) (lB R (lf (cX (oT (oT (oT (oT u))))) (lf (cX (oT (oT (oT (oT u))))) (lf (cX (oT (oT (oT (oT u))))) (lf (cX (oT (oT (oT (oT u))))) (lf (cX (oT (oT (oT (oT u))))) (lf (cX (oT (oT (oT (oT u))))) (lf (cX (oT (oT (oT (oT u))))) (lO (fB (decide (O≥(ix v1.Dims i))) R (oT (oT (oT (oT u))))) (aB ?_))))))))))))))))))))))))
 exact qJ (fun w s=>s)
 refine lW (bW u) (vI R) (lW (bW u) (tj R R) (lO (fG R u R) (lB R ?_)))
 rcases bo (((!a2)||(decide (b<(1:Int))))||(decide (b>(4096:Int)))) with B | B
 refine lf (cX B) (lf (cX B) (lO (fB (decide (l<(-4096:Int))) R B) (lB R (lf (cX (oT B)) (lf (cX (oT B)) (lO (fB (decide (l>(4096:Int))) R (oT B)) (lB R (lf (cX (oT (oT B))) (lf (cX (oT (oT B))) (lO (fB (decide (O<(0:Int))) R (oT (oT B))) (lB R (lf (cX (oT (oT (oT B)))) (lf (cX (oT (oT (oT B)))) (lf (cX (oT (oT (oT B)))) (lf (cX (oT (oT (oT B)))) (lf (cX (oT (oT (oT B)))) (lf (cX (oT (oT (oT B)))) (lf (cX (oT (oT (oT B)))) (lO (fB (decide (O≥(ix v1.Dims i))) R (oT (oT (oT B)))) (aB ?_))))))))))))))))))))
 exact qJ (fun w s=>s)
 refine lW (bW B) (vI R) (lW (bW B) (jG R R) (lO (fG R B R) (lB R ?_)))
 rcases bo ((((!a2)||(decide (b<(1:Int))))||(decide (b>(4096:Int))))||(decide (l<(-4096:Int)))) with F | F
 refine lf (cX F) (lf (cX F) (lO (fB (decide (l>(4096:Int))) R F) (lB R (lf (cX (oT F)) (lf (cX (oT F)) (lO (fB (decide (O<(0:Int))) R (oT F)) (lB R (lf (cX (oT (oT F))) (lf (cX (oT (oT F))) (lf (cX (oT (oT F))) (lf (cX (oT (oT F))) (lf (cX (oT (oT F))) (lf (cX (oT (oT F))) (lf (cX (oT (oT F))) (lO (fB (decide (O≥(ix v1.Dims i))) R (oT (oT F))) (aB ?_))))))))))))))))
 exact qJ (fun w s=>s)
 refine lW (bW F) (vI R) (lW (bW F) (tj R R) (lO (fG R F R) (lB R ?_)))
 rcases bo (((((!a2)||(decide (b<(1:Int))))||(decide (b>(4096:Int))))||(decide (l<(-4096:Int))))||(decide (l>(4096:Int)))) with G | G
 refine lf (cX G) (lf (cX G) (lO (fB (decide (O<(0:Int))) R G) (lB R (lf (cX (oT G)) (lf (cX (oT G)) (lf (cX (oT G)) (lf (cX (oT G)) (lf (cX (oT G)) (lf (cX (oT G)) (lf (cX (oT G)) (lO (fB (decide (O≥(ix v1.Dims i))) R (oT G)) (aB ?_))))))))))))
 exact qJ (fun w s=>s)
 refine lW (bW G) (vI R) (lW (bW G) (jG R R) (lO (fG R G R) (lB R ?_)))
 rcases bo ((((((!a2)||(decide (b<(1:Int))))||(decide (b>(4096:Int))))||(decide (l<(-4096:Int))))||(decide (l>(4096:Int))))||(decide (O<(0:Int)))) with D | D
 refine lf (cX D) (lf (cX D) (lf (cX D) (lf (cX D) (lf (cX D) (lf (cX D) (lf (cX D) (lO (fB (decide (O≥(ix v1.Dims i))) R D) (aB ?_))))))))
 exact qJ (fun w s=>s)
 refine lW (bW D) (vI R) (lW (bW D) (eW 0 eE R) (lW (bW D) (eS 1 cH R R R) (lW (bW D) (vI R) (bE 2 aA (show 0<v1.Dims.length by have:=(a9 D); omega) (fun av o14 ha=>?_)))))
 subst ha
 refine lW (bW D) (dV bH cO R R (a9 D)) (lW (bW D) (fQ 2 fC aA R (a9 D)) (lW (bW D) (zP R R) (lO (fG R D R) (aB ?_))))
 exact qJ (fun w s=>s)
 rintro σ1
 refine aE ?_
 rcases cF M with ⟨a6,M⟩|⟨a6,M⟩
 refine bJ R a6 (aH (aC (lO (vz (.agg [(.slice none 0 0),(.slice none 0 0),(iv 0),(iv 0)].toArray) (bA eJ cI R R)) (aL 0 R R bU R R R R R R (aB (aE (bY (bZ ?_))))))))
 obtain rfl:=so M
 exact dL (vs:=[(.agg [(.slice none 0 0),(.slice none 0 0),(iv 0),(iv 0)].toArray)]) (.inl R) ((none,0,0),(none,0,0)) R ⟨⟨0,b9,_,_,R,R,.inl ⟨eR,bU,R⟩⟩,trivial⟩ R (fun w s=>(((s.nilr kT3).nilr kT3).e 6 [1,0]))
 refine aY R a6 (bQ (aE (aH (aC (lI R (lI R (lO (sG R R) (lI R (lO (rJ R R) (lO (iE R R) (lI R (aB (aE (aH (aH ?_)))))))))))))))
 obtain ⟨aa,M⟩:=gd M
 refine cQ [(1,(iv i)),(2,(iv O)),(3,(iv b)),(4,(iv l)),(5,(pt b8 0)),(10,(pt b9 0)),(63,(.bool ((decide ((aI (O+(aI ((aI (b - (1:Int)))*l))))<(0:Int)))||(decide ((aI (O+(aI ((aI (b - (1:Int)))*l))))≥(ix v1.Dims i))))))] (aK b9 [(.slice none 0 0),(.slice none 0 0),(iv 0),(iv 0)] 125::Z) ?_ ?_
 refine aC (lI R (lO (jG R R) (lB R ?_)))
 rcases bo (decide ((aI (O+(aI ((aI (b - (1:Int)))*l))))<(0:Int))) with E | E
 refine lf (cX E) (lf (cX E) (lf (cX E) (lf (cX E) (lf (cX E) (lf (cX E) (lf (cX E) (lO (fB (decide ((aI (O+(aI ((aI (b - (1:Int)))*l))))≥(ix v1.Dims i))) R E) (aB ?_))))))))
 exact qJ (fun w s=>s)
 refine lW (bW E) (vI R) (lW (bW E) (eW 0 eE R) (lW (bW E) (eS 1 cH R R R) (lW (bW E) (vI R) (bE 2 aA (show 0<v1.Dims.length by have:=(aa E); omega) (fun aw o24 ha=>?_)))))
 subst ha
 refine lW (bW E) (dV bH cO R R (aa E)) (lW (bW E) (fQ 2 fC aA R (aa E)) (lW (bW E) (zP R R) (lO (fG R E R) (aB ?_))))
 exact qJ (fun w s=>s)
 rintro σ1
 refine aE ?_
 rcases cF M with ⟨a7,M⟩|⟨a7,M⟩
 refine bJ R a7 (aH (aC (lO (vz (.agg [(.slice none 0 0),(.slice none 0 0),(iv 0),(iv 0)].toArray) (bA eJ cI R R)) (aL 0 R R bU R R R R R R (aB (aE (bY (bZ ?_))))))))
 obtain rfl:=so M
 exact dL (vs:=[(.agg [(.slice none 0 0),(.slice none 0 0),(iv 0),(iv 0)].toArray)]) (.inl R) ((none,0,0),(none,0,0)) R ⟨⟨0,b9,_,_,R,R,.inl ⟨eR,bU,R⟩⟩,trivial⟩ R (fun w s=>(((s.nilr kT3).nilr kT3).e 6 [1,0]))
 refine aY R a7 (bQ (aE (aH ?_)))
 obtain ⟨j,an,M⟩:=bd M
 refine aC (lO (vz (.agg [(sc A2 v1.Dims D2),(sc A3 v1.Strides D3),(iv v1.Offset),(iv v1.Base)].toArray) (dA 1 eR bU R R R R)) (lM (RR kT3 A2 D2 v1.Dims::RR kT3 A3 D3 v1.Strides::aK _ _ _::Z) (fun w s=>(((s.d 2 R).d 4 R).e 3 [1,0,2])) ?_))
 refine lC 2 xp R (Z2k_ok an) R ?_
 rintro ⟨⟨a5,ap,T⟩,⟨a4,aq,L⟩⟩
 refine lN (ow kT3 3 (.slice a5 ap T) j.Dims::ow kT3 3 (.slice a4 aq L) j.Strides::_::Z) ?_
 refine aM 0 aD ?_
 rintro rfl
 refine aM 1 aD ?_
 rintro rfl
 refine bG R R cI (fun a1=>(aL 0 R R bU R R R R R R (lN (aK a1 [(sc a5 j.Dims T),(sc a4 j.Strides L),(iv j.Offset),(iv j.Base)] 125::_::_::_::Z) ?_)))
 refine aB (aE (aH ?_))
 obtain ⟨J,M⟩:=gd M
 refine cQ [(1,(iv i)),(3,(iv b)),(4,(iv l)),(10,(pt b9 0)),(12,(pt a1 0))] (aK b9 [(.slice none 0 0),(.slice none 0 0),(iv 0),(iv 0)] 125::aK a1 [(sc a5 j.Dims T),(sc a4 j.Strides L),(iv (aI (j.Offset+(aI (O*(ix j.Strides i)))))),(iv j.Base)] 125::OO kT3 3 a5 T j.Dims::OO kT3 3 a4 L j.Strides::Z) ?_ ?_
 refine bC 2 aD (show 0<j.Strides.length by have:=J; omega) (fun al o34 ha=>?_)
 subst ha
 refine dP 12 [0] bS (fun ht hn=>(dR 0 R (eW 2 lx R) (hS:=(sL [0])) (dR 2 R (vI R) (hS:=(sL [0])) (dR 3 R (eW 1 eX R) (hS:=(sL [0])) (dR 5 R (vI R) (hS:=(sL [0])) (iQ [1,4] (by kernel_rfl) R ⟨?_,?_,trivial⟩))))))
 refine lO (eS 0 fC R R R) (aB (aJ (sL [0]) (d1 4 R (lO (eS 0 cH R R R) (aB (aJ (sL [0]) (dR 6 R (dV bH cO R R J) (hS:=(sL [0])) (dR 7 R (fQ 1 fC aD R J) (hS:=(sL [0])) (dR 8 R (rJ R R) (hS:=(sL [0])) (dR 9 R (iE R R) (hS:=(sL [0])) (dR 10 R (eW 2 lx R) (hS:=(sL [0])) (d1 11 R (dI 0 R R cO R R R R R (lN (aK a1 [(sc a5 j.Dims T),(sc (ad al o34) j.Strides L),(iv (aI (j.Offset+(aI (O*(ix j.Strides i)))))),(iv j.Base)] 125::_::OO kT3 3 (ad al o34) L j.Strides::_::Z) ?_))))))))))))))
 refine aB (aJ (sL [0]) (dD ?_))
 exact qJ (fun w s=>(s.e 4 [3,0,1,2]))
 refine lO (eS 0 cH R R R) (aB (aJ (sL [0]) (dR 6 R (dV bH cO R R J) (hS:=(sL [0])) (dR 7 R (fQ 1 fC aD R J) (hS:=(sL [0])) (dR 8 R (rJ R R) (hS:=(sL [0])) (d1 1 R (lO (eS 0 fC R R R) (aB (aJ (sL [0]) (dR 9 R (iE R R) (hS:=(sL [0])) (dR 10 R (eW 2 lx R) (hS:=(sL [0])) (d1 11 R (dI 0 R R cO R R R R R (aB (aJ (sL [0]) (dD ?_))))))))))))))))
 exact qJ (fun w s=>(s.e 4 [3,0,1,2]))
 rintro σ1
 refine aE (aH ?_)
 obtain ⟨a3,M⟩:=gd M
 refine aC (lO (eW 0 eE R) (lO (eS 1 cH R R R) (lI R (lI R (bE 2 aD (show 0<j.Dims.length by have:=a3; omega) (fun a0 o37 ha=>?_))))))
 subst ha
 refine lO (dV bH cO R R a3) (lM (OO kT3 3 (ad a0 o37) T j.Dims::aK _ _ _::aK a1 [(sc (ad a0 o37) j.Dims T),(sc a4 j.Strides L),(iv (aI (j.Offset+(aI (O*(ix j.Strides i)))))),(iv j.Base)] 125::OO kT3 3 a4 L j.Strides::Z) (fun w s=>(s.e 4 [2,0,1,3])) ?_)
 refine eO (K:=kT3) (x':=b) 0 i R R cO R R a3.1 a3.2 ?_ ?_
 exact fun I h s=>(gM).put I h () b s
 refine lN (ow kT3 3 (.slice (ad a0 o37) j.Dims.length T) (j.Dims.set i.toNat b)::_::_::_::Z) ?_
 refine aB (aE (aH (bC 3 aD (show 0<j.Strides.length by have:=J; omega) (fun Y o39 ha=>?_))))
 subst ha
 refine dP 12 [3] bS (fun ht hn=>(dR 0 R (eW 1 eX R) (hS:=(sL [3])) (dR 1 R (eS 2 cH R R R) (hS:=(sL [3])) (dR 2 R (vI R) (hS:=(sL [3])) (dR 3 R (eW 1 eX R) (hS:=(sL [3])) (dR 4 R (eS 2 cH R R R) (hS:=(sL [3])) (dR 5 R (vI R) (hS:=(sL [3])) (dR 6 R (dV bH cO R R J) (hS:=(sL [3])) (dR 8 R (vI R) (hS:=(sL [3])) (d1 7 R (lO (fQ 3 fC aD R J) (aB (aJ (sL [3]) (dR 9 R (rJ R R) (hS:=(sL [3])) (dR 10 R (dV bH cO R R J) (hS:=(sL [3])) (d1 11 R (lM (OO kT3 3 (ad Y o39) L j.Strides::ow _ _ _ _::aK _ _ _::aK a1 [(sc (ad a0 o37) j.Dims T),(sc (ad Y o39) j.Strides L),(iv (aI (j.Offset+(aI (O*(ix j.Strides i)))))),(iv j.Base)] 125::Z) (fun w s=>(s.e 4 [3,0,1,2])) ?_)))))))))))))))))
 refine eO (K:=kT3) (x':=(aI ((ix j.Strides i)*l))) 0 i R R cO R R J.1 J.2 ?_ ?_
 exact fun I h s=>(gM).put I h () (aI ((ix j.Strides i)*l)) s
 refine lN (ow kT3 3 (.slice (ad Y o39) j.Strides.length L) (j.Strides.set i.toNat (aI ((ix j.Strides i)*l)))::_::_::_::Z) ?_
 refine aB (aJ (sL [0]) (dD ?_))
 obtain ⟨aj,ab,M⟩:=bd M
 replace ab:=Option.some.inj ab
 refine qM (ow kT3 3 (.slice (ad Y o39) j.Strides.length L) aj::_::_::_::Z) (fun w s=>by rw [← ab]; exact s) ?_
 refine aE (aH (bB (A:=((List Int))×(Unit)) (fun a=>Z1j_J1 i O b j a.1=some r) (fun a=>[(10,(pt b9 0)),(12,(pt a1 0))]) (fun a=>aK b9 [(.slice none 0 0),(.slice none 0 0),(iv 0),(iv 0)] 125::aK a1 [(sc (ad a0 o37) j.Dims T),(sc (ad Y o39) j.Strides L),(iv (aI (j.Offset+(aI (O*(ix j.Strides i)))))),(iv j.Base)] 125::ow kT3 3 (.slice (ad a0 o37) j.Dims.length T) (j.Dims.set i.toNat b)::ow kT3 3 (.slice (ad Y o39) j.Strides.length L) a.1::Z) ?_ ?_))
 refine aH (aC (lI R (lO (kO R R) (aB (aE ?_)))))
 rcases cF M with ⟨a8,M⟩|⟨a8,M⟩
 refine bJ R a8 (aC (lO (eW 1 eX R) (lO (eS 3 cH R R R) (lI R (lO (dV bH cO R R J) (eO (K:=kT3) (x':=(0:Int)) 0 i R R cO R R J.1 J.2 ?_ ?_))))))
 exact fun I h s=>(gM).put I h () (0:Int) s
 refine lN (ow kT3 3 (.slice (ad Y o39) j.Strides.length L) (aj.set i.toNat (0:Int))::_::_::_::Z) ?_
 refine aB ?_
 exact qI ((aj.set i.toNat (0:Int)),()) M (fun w s=>(s.e 4 [2,3,1,0]))
 refine aY R a8 (bQ ?_)
 exact qI (aj,()) M (fun w s=>(s.e 4 [2,3,1,0]))
 rintro ⟨ak,_⟩ σ1 M
 replace M:Z1j_J1 i O b j ak=some r:=M
 unfold Z1j_J1 at M
 refine aH ?_
 obtain ⟨U,ao,M⟩:=bd M
 refine aC (lO (vz (.agg [(sc (ad a0 o37) j.Dims T),(sc (ad Y o39) j.Strides L),(iv (aI (j.Offset+(aI (O*(ix j.Strides i)))))),(iv j.Base)].toArray) (dA 1 eR bU R R R R)) (ji (fun w s=>s.shr 2 R) (ji (fun w s=>s.shr 3 R) (lM (aO kT3 (.slice (ad a0 o37) j.Dims.length T) (j.Dims.set i.toNat b)::aO kT3 (.slice (ad Y o39) j.Strides.length L) ak::aO kT3 (.slice (ad Y o39) j.Strides.length L) ak::aO kT3 (.slice (ad a0 o37) j.Dims.length T) (j.Dims.set i.toNat b)::aK _ _ _::aK _ _ _::Z) (fun w s=>(((s.d 1 R).d 1 R).e 6 [1,0,2,3,4,5])) ?_))))
 refine lC 2 xq R (Z2l_ok (v1:=(⟨(j.Dims.set i.toNat b),ak,(aI (j.Offset+(aI (O*(ix j.Strides i))))),j.Base⟩:View)) ao) R ?_
 rintro ⟨⟨ac,ar,ag⟩,⟨ae,au,ai⟩⟩
 refine lN (aO kT3 (.slice ac ar ag) U.Dims::aO kT3 (.slice ae au ai) U.Strides::_::_::_::_::Z) ?_
 refine aM 0 aA ?_
 rintro rfl
 refine aM 1 aA ?_
 rintro rfl
 refine aL 4 R R bU R R R R R R (lN (_::_::_::_::aK b9 [(sc ac U.Dims ag),(sc ae U.Strides ai),(iv U.Offset),(iv U.Base)] 125::_::Z) ?_)
 refine aB (aE (bY ?_))
 obtain rfl:=so M
 exact dL (vs:=[(.agg [(sc ac U.Dims ag),(sc ae U.Strides ai),(iv U.Offset),(iv U.Base)].toArray)]) (.inl R) ((ac,U.Dims.length,ag),(ae,U.Strides.length,ai)) R ⟨⟨4,b9,_,_,R,R,.inl ⟨eR,bU,R⟩⟩,trivial⟩ R (fun w s=>(s.e 9 [0,1]))
theorem Z23_ok  {t1:Tensor}{a:(List Int)}{j:Int}{r:(List Int)}(i:Z23 t1 a j=some r) :
 FnOk Tryz.prog 142 [(.agg [(.slice A2 N2 D2),(.slice A3 N3 D3)].toArray),(.slice A5 N5 D5),(iv j)] [aO kT3 (.slice A2 N2 D2) t1.Dims,ow kT3 3 (.slice A3 N3 D3) t1.Data,aO kT3 (.slice A5 N5 D5) a] (fun (h:Unit)=>((.tuple [].toArray),[ow kT3 3 (.slice A3 N3 D3) r])):=by
 unfold Z23 at i
 refine aR Tryz.func142 R 14 R R fun C V=>?_
 refine cM _ (tE 3 [1,0,2]) ?_
 refine cL 0 aD ?_
 rintro rfl
 refine cL 1 aA ?_
 rintro rfl
 refine cL 2 aA ?_
 rintro rfl
 let q:=RR kT3 A2 D2 t1.Dims::RR kT3 A5 D5 a::V
 refine aZ ?_
 refine eT R fun u=>?_
 refine aB (qM _ (tE 2 [1,0]) ?_)
 let F:=aK u [(sc A2 t1.Dims D2),(sc A3 t1.Data D3)] 77::q
 refine cP ?_
 obtain ⟨E,l,i⟩:=bd i
 obtain ⟨b,i⟩:=gd i
 refine bC 0 aD (show 0<t1.Data.length by have:=b; omega) (fun B o12 D=>?_)
 subst D
 refine dP 9 [0] bS fun J G=>?_
 refine kX 0 [0] ?_
 refine pC 6 [0] ?_
 refine d1 5 R (lM _ (fun w s=>(((s.d 2 R).d 4 R).e 3 [1,0,2])) ?_)
 refine lC 2 u5 R (Z0t_ok l) R ?_
 rintro _
 refine aB (aJ (sL [0]) ?_)
 refine pC 7 [0] ?_
 refine d1 8 R (eO (K:=kT3) (x':=j) 0 E R R cO R R b.1 b.2 ?_ ?_)
 exact fun I h s=>(gM).put I h () j s
 refine aB (aJ (sL [0]) (dD ?_))
 cases i
 exact DY () (tE 4 [0])
theorem Z10_ok  {t1:Tensor}{G:Int}{b:Int}{i:Int}{q:Int}{r:Tensor}(l:Z10 t1 G b i q=some r) :
 FnOk Tryz.prog 96 [(.agg [(.slice A2 N2 D2),(.slice A3 N3 D3)].toArray),(iv G),(iv b),(iv i),(iv q)] [aO kT3 (.slice A2 N2 D2) t1.Dims,aO kT3 (.slice A3 N3 D3) t1.Data] (fun (h:HH×HH)=>((.agg [(s3 h.1),(s3 h.2)].toArray),[ow kT3 3 (s3 h.1) r.Dims,ow kT3 3 (s3 h.2) r.Data])):=by
 unfold Z10 at l
 refine aR Tryz.func96 R 101 R R fun C V=>?_
 refine cL 0 aA ?_
 rintro rfl
 refine cL 1 aA ?_
 rintro rfl
 let W0:=RR kT3 A2 D2 t1.Dims::RR kT3 A3 D3 t1.Data::V
 refine cN W0 ?_
 refine aZ ?_
 refine eT R fun b8=>?_
 refine bG R R eG (fun Z=>(aB ?_))
 let W1:=aK b8 [(sc A2 t1.Dims D2),(sc A3 t1.Data D3)] 77::W0
 refine aV ?_
 obtain ⟨I,ae,l⟩:=bd l
 refine cQ [(1,(iv G)),(2,(iv b)),(3,(iv i)),(4,(iv q)),(5,(pt b8 0)),(10,(pt Z 0)),(43,(.bool (((((((!I)||(decide (b<0)))||(decide (b>4096)))||(decide (i<0)))||(decide (i>4096)))||(decide (q<0)))||(decide (q>4096)))))] (aK Z [(.slice none 0 0),(.slice none 0 0)] 77::W1) ?_ ?_
 refine aV ?_
 refine lM _ (fun w s=>(((s.d 2 R).d 4 R).e 3 [1,0,2])) ?_
 refine lC 2 pJ R (Z1p_ok ae) R ?_
 rintro _
 refine aZ ?_
 rcases bo (!I) with a4 | a4
 refine Cz ?_
 exact qj tI
 refine bL ?_
 rcases bo ((!I)||(decide (b<0))) with a5 | a5
 refine Cy ?_
 exact qj tI
 refine bL ?_
 rcases bo (((!I)||(decide (b<0)))||(decide (b>4096))) with a6 | a6
 refine An ?_
 exact qj tI
 refine bL ?_
 rcases bo ((((!I)||(decide (b<0)))||(decide (b>4096)))||(decide (i<0))) with a7 | a7
 refine jl ?_
 exact qj tI
 refine bL ?_
 rcases bo (((((!I)||(decide (b<0)))||(decide (b>4096)))||(decide (i<0)))||(decide (i>4096))) with a8 | a8
 refine dN ?_
 exact qj tI
 refine bL ?_
 rcases bo ((((((!I)||(decide (b<0)))||(decide (b>4096)))||(decide (i<0)))||(decide (i>4096)))||(decide (q<0))) with a9 | a9
 refine bL ?_
 exact qj tI
 refine bL ?_
 exact qj tI
 rintro σ1
 refine cP ?_
 split at l
 refine aV ?_
 refine lO (vz (.agg [(.slice none 0 0),(.slice none 0 0)].toArray) (bA hJ eG R R)) (aL 0 R R bX R R R R R R (aB (aE (bY (bZ ?_)))))
 cases l
 exact qS ((none,0,0),(none,0,0)) (fun w s=>(((s.nilo kT3 3).nilo kT3 3).e 6 [1,0]))
 refine bL ?_
 obtain ⟨aa,l⟩:=gd l
 refine bL ?_
 refine bE 2 aA (show 0<t1.Dims.length by have:=aa; omega) (fun b0 o21 ha=>?_)
 subst ha
 refine cB ?_
 obtain ⟨O,ag,l⟩:=bd l
 refine pB ?_
 refine lM _ (fun w s=>(s.d 2 R)) ?_
 refine lC 1 lu R (Z0r_ok ag) R ?_
 rintro ⟨L,av,M⟩
 refine aM 0 aD ?_
 rintro rfl
 refine cV ?_
 obtain ⟨b3,ai,l⟩:=bd l
 refine aZ ?_
 refine lC 1 iT R (FnOk.lends (A':=[OO kT3 3 L M O]) (A:=[RR kT3 L M O]) (B:=[]) (Zq_ok ai) ⟨aU,trivial⟩ (fun _=>trivial)) R ?_
 rintro _
 refine aV ?_
 split at l
 refine aV ?_
 refine lO (vz (.agg [(.slice none 0 0),(.slice none 0 0)].toArray) (bA hJ eG R R)) (aL 1 R R bX R R R R R R (aB (aE (bY (bZ ?_)))))
 cases l
 exact qS ((none,0,0),(none,0,0)) (fun w s=>(((s.nilo kT3 3).nilo kT3 3).e 7 [1,0]))
 refine bL ?_
 obtain ⟨j,aj,l⟩:=bd l
 refine aZ ?_
 refine lC 1 lr R (FnOk.lends (A':=[OO kT3 3 L M O]) (A:=[RR kT3 L M O]) (B:=[]) (Z0q_ok aj) ⟨aU,trivial⟩ (fun _=>⟨(bN jw),(bN jw),trivial⟩)) R ?_
 rintro ⟨⟨u,aw,E⟩,⟨D,ax,F⟩⟩
 refine aM 1 aD ?_
 rintro rfl
 refine aM 2 aD ?_
 rintro rfl
 refine bG R R eG (fun J=>(aL 0 R R bX R R R R R R (lN (aK J [(sc u j.Dims E),(sc D j.Data F)] 77::_::_::_::_::W1) ?_)))
 refine aV ?_
 refine bB (A:=((List Int))×(Unit)) (fun a=>Z10_J1 j a.1=some r) (fun a=>[(10,(pt Z 0)),(13,(pt J 0))]) (fun a=>aK Z [(.slice none 0 0),(.slice none 0 0)] 77::aK J [(sc u j.Dims E),(sc D j.Data F)] 77::OO kT3 3 u E j.Dims::ow kT3 3 (.slice D j.Data.length F) a.1::W1) ?_ ?_
 refine cB ?_
 obtain ⟨e1,ap,ao⟩:=bd l
 refine bD (A:=Unit) ap (fun s a=>[(1,(iv G)),(2,(iv b)),(4,(iv q)),(5,(pt b8 0)),(10,(pt Z 0)),(13,(pt J 0)),(14,(iv s.2))]) (fun s a=>aK Z [(.slice none 0 0),(.slice none 0 0)] 77::aK J [(sc u j.Dims E),(sc D j.Data F)] 77::OO kT3 3 u E j.Dims::ow kT3 3 (.slice D j.Data.length F) s.1::W1) () (aS R) (tE 5 [4,0,2,3]) ?_
 rintro ⟨T,b2⟩ _ σ1 ar l an
 dsimp only [Z10_L1] at l
 refine dJ ?_
 split at l
 refine cB ?_
 obtain ⟨a0,ak,l⟩:=bd l
 refine bL ?_
 refine lM _ (fun w s=>(s.d 5 R)) ?_
 refine lC 1 ms R (Zm_ok ak) R ?_
 rintro ⟨au,ay,a2⟩
 refine aM 0 aD ?_
 rintro rfl
 refine aV ?_
 obtain ⟨ab,l⟩:=gd l
 obtain ⟨a1,al,l⟩:=bd l
 obtain ⟨ac,l⟩:=gd l
 obtain ⟨b4,am,l⟩:=bd l
 refine bC 0 aD (show 0<a0.length by have:=ab; omega) (fun a3 o56 ha=>?_)
 subst ha
 refine bC 7 aA (show 0<t1.Data.length by have:=ac; omega) (fun b1 o62 ha=>?_)
 subst ha
 refine dP 19 [4] bS fun ht hn=>?_
 refine yk 0 [4] ?_
 refine kX 13 [4] ?_
 refine d1 12 R (lC 1 lu R (FnOk.lends (A':=[OO kT3 3 (ad a3 o56) a2 a0]) (A:=[RR kT3 (ad a3 o56) a2 a0]) (B:=[]) (Z0r_ok al) ⟨aU,trivial⟩ (fun _=>⟨(bN jw),trivial⟩)) R ?_)
 rintro ⟨U,az,Y⟩
 refine aM 1 aD ?_
 rintro rfl
 refine aB (aJ (sL [5,1]) (d1 18 R (lM _ (tE 6 [4,1,5,0,2,3]) ?_)))
 refine lC 3 u7 R (FnOk.lends (A':=[OO kT3 3 u E j.Dims,OO kT3 3 U Y a1]) (A:=[RR kT3 u E j.Dims,RR kT3 U Y a1]) (B:=[ow kT3 3 (.slice D j.Data.length F) T]) (FnOk.perm (Z23_ok (t1:=(⟨j.Dims,T⟩:Tensor)) am) (Pre':=[RR kT3 u E j.Dims,RR kT3 U Y a1,ow kT3 3 (.slice D j.Data.length F) T]) (fun _ _ _ s=>(s.e 3 [0,2,1]))) ⟨aU,aU,trivial⟩ (fun _=>⟨(bN jw),trivial⟩)) R ?_
 rintro _
 refine aB (aJ (tE 6 [3,4,5,0]) (dD ?_))
 refine eD ?_
 cases l
 exact qA () (tE 6 [4,5,0,2])
 refine aV ?_
 cases l
 obtain rfl:=an _ R
 have l:=ao
 refine aZ ?_
 exact qI (T,()) l tI
 rintro ⟨aq,_⟩ σ1 l
 dsimp only [Z10_J1] at l
 refine aV ?_
 refine aL 0 R R bX R R R R R R (lN (aK Z [(sc u j.Dims E),(sc D j.Data F)] 77::_::_::ow kT3 3 (.slice D j.Data.length F) aq::W1) ?_)
 refine aV ?_
 cases l
 exact qS ((u,j.Dims.length,E),(D,j.Data.length,F)) (tE 7 [2,3])
theorem Z0z_ok  {t1:Tensor}{D:Int}{b:(List Int)}{r:Tensor}(i:Z0z t1 D b=some r) :
 FnOk Tryz.prog 97 [(.agg [(.slice A2 N2 D2),(.slice A3 N3 D3)].toArray),(iv D),(.slice A6 N6 D6)] [aO kT3 (.slice A2 N2 D2) t1.Dims,aO kT3 (.slice A3 N3 D3) t1.Data,aO kT3 (.slice A6 N6 D6) b] (fun (h:HH×HH)=>((.agg [(s3 h.1),(s3 h.2)].toArray),[ow kT3 3 (s3 h.1) r.Dims,ow kT3 3 (s3 h.2) r.Data])):=by
 unfold Z0z at i
 refine aR Tryz.func97 R 70 R R fun C V=>?_
 refine cL 0 aA ?_
 rintro rfl
 refine cL 1 aA ?_
 rintro rfl
 refine cL 2 aA ?_
 rintro rfl
 let W0:=RR kT3 A2 D2 t1.Dims::RR kT3 A3 D3 t1.Data::RR kT3 A6 D6 b::V
 refine cN W0 ?_
 refine aZ ?_
 refine eT R fun b7=>?_
 refine bG R R eG (fun Z=>(aB ?_))
 let W1:=aK b7 [(sc A2 t1.Dims D2),(sc A3 t1.Data D3)] 77::W0
 refine aV ?_
 obtain ⟨r9,a7,i⟩:=bd i
 obtain ⟨T,i⟩:=gd i
 obtain ⟨an,a8,i⟩:=bd i
 refine cQ [(1,(iv D)),(2,(sc A6 b D6)),(3,(pt b7 0)),(6,(pt Z 0)),(29,(.bool (((!r9)||((b.length:Int)==0))||(!an))))] (aK Z [(.slice none 0 0),(.slice none 0 0)] 77::W1) ?_ ?_
 refine aV ?_
 refine lM _ (fun w s=>(((s.d 2 R).d 4 R).e 3 [1,0,2])) ?_
 refine lC 2 pJ R (Z1p_ok a7) R ?_
 rintro _
 refine aZ ?_
 rcases bo (!r9) with a4 | a4
 refine nP ?_
 exact qj tI
 refine cV ?_
 rcases bo ((!r9)||((b.length:Int)==0)) with l | l
 refine dJ ?_
 exact qj tI
 refine bL ?_
 refine bE 2 aA (show 0<t1.Dims.length by have:=(T l); omega) (fun az o13 ha=>?_)
 subst ha
 refine lW (bW l) (dV bH cO R R (T l)) (lW (bW l) (fQ 2 fC aA R (T l)) (lM _ (fun w s=>(s.d 4 R)) ?_))
 refine b' 1 R (bW l) vX R (Z0s_ok (bM a8 (cZ l))) R ?_
 rintro _
 refine aV ?_
 exact qj tI
 rintro σ1
 refine cP ?_
 split at i
 refine aV ?_
 refine lO (vz (.agg [(.slice none 0 0),(.slice none 0 0)].toArray) (bA hJ eG R R)) (aL 0 R R bX R R R R R R (aB (aE (bY (bZ ?_)))))
 cases i
 exact qS ((none,0,0),(none,0,0)) (fun w s=>(((s.nilo kT3 3).nilo kT3 3).e 7 [1,0]))
 refine bL ?_
 obtain ⟨L,a9,i⟩:=bd i
 refine cB ?_
 refine lM _ (fun w s=>(s.d 2 R)) ?_
 refine lC 1 lu R (Z0r_ok a9) R ?_
 rintro ⟨E,au,G⟩
 refine aM 0 aD ?_
 rintro rfl
 refine cV ?_
 obtain ⟨b2,aa,i⟩:=bd i
 refine aZ ?_
 refine lC 1 iT R (FnOk.lends (A':=[OO kT3 3 E G L]) (A:=[RR kT3 E G L]) (B:=[]) (Zq_ok aa) ⟨aU,trivial⟩ (fun _=>trivial)) R ?_
 rintro _
 refine aV ?_
 split at i
 refine aV ?_
 refine lO (vz (.agg [(.slice none 0 0),(.slice none 0 0)].toArray) (bA hJ eG R R)) (aL 1 R R bX R R R R R R (aB (aE (bY (bZ ?_)))))
 cases i
 exact qS ((none,0,0),(none,0,0)) (fun w s=>(((s.nilo kT3 3).nilo kT3 3).e 8 [1,0]))
 refine bL ?_
 obtain ⟨j,ab,i⟩:=bd i
 refine aZ ?_
 refine lC 1 lr R (FnOk.lends (A':=[OO kT3 3 E G L]) (A:=[RR kT3 E G L]) (B:=[]) (Z0q_ok ab) ⟨aU,trivial⟩ (fun _=>⟨(bN jw),(bN jw),trivial⟩)) R ?_
 rintro ⟨⟨F,av,J⟩,⟨q,aw,u⟩⟩
 refine aM 1 aD ?_
 rintro rfl
 refine aM 2 aD ?_
 rintro rfl
 refine bG R R eG (fun O=>(aL 0 R R bX R R R R R R (lN (aK O [(sc F j.Dims J),(sc q j.Data u)] 77::_::_::_::_::W1) ?_)))
 refine aV ?_
 refine bB (A:=((List Int))×(Unit)) (fun a=>Z0z_J1 j a.1=some r) (fun a=>[(6,(pt Z 0)),(8,(pt O 0))]) (fun a=>aK Z [(.slice none 0 0),(.slice none 0 0)] 77::aK O [(sc F j.Dims J),(sc q j.Data u)] 77::OO kT3 3 F J j.Dims::ow kT3 3 (.slice q j.Data.length u) a.1::W1) ?_ ?_
 refine cB ?_
 obtain ⟨e1,al,ak⟩:=bd i
 refine bD (A:=Unit) al (fun s a=>[(1,(iv D)),(2,(sc A6 b D6)),(3,(pt b7 0)),(6,(pt Z 0)),(7,(sc E L G)),(8,(pt O 0)),(9,(iv s.2))]) (fun s a=>aK Z [(.slice none 0 0),(.slice none 0 0)] 77::OO kT3 3 E G L::aK O [(sc F j.Dims J),(sc q j.Data u)] 77::OO kT3 3 F J j.Dims::ow kT3 3 (.slice q j.Data.length u) s.1::W1) () (aS R) (tE 5 [4,1,0,2,3]) ?_
 rintro ⟨ao,am⟩ _ σ1 aq i aj
 dsimp only [Z0z_L1] at i
 refine dJ ?_
 split at i
 refine cB ?_
 obtain ⟨a0,ac,i⟩:=bd i
 refine aV ?_
 refine lM _ (tE 5 [1,0,2,3,4]) ?_
 refine lC 1 ms R (FnOk.lends (A':=[OO kT3 3 E G L]) (A:=[RR kT3 E G L]) (B:=[]) (Zm_ok ac) ⟨aU,trivial⟩ (fun _=>⟨(bN jw),trivial⟩)) R ?_
 rintro ⟨ar,ax,a2⟩
 refine aM 1 aD ?_
 rintro rfl
 refine aV ?_
 obtain ⟨a5,i⟩:=gd i
 obtain ⟨a6,i⟩:=gd i
 obtain ⟨a1,ae,i⟩:=bd i
 obtain ⟨ai,ag,i⟩:=bd i
 obtain ⟨M,i⟩:=gd i
 refine bC 1 aD (show 0<a0.length by have:=a5; omega) (fun a3 o56 ha=>?_)
 subst ha
 refine bC 9 aA (show 0<b.length by have:=a6; omega) (fun b0 o59 ha=>?_)
 subst ha
 refine bC 5 aD (show 0<j.Data.length by have:=M; omega) (fun b1 o67 ha=>?_)
 subst ha
 refine dP 17 [5] bS fun ht hn=>?_
 refine nQ 0 [5] ?_
 refine d1 13 R (lM _ (tE 6 [1,0,2,3,4,5]) ?_)
 refine lC 1 lu R (FnOk.lends (A':=[OO kT3 3 (ad a3 o56) a2 a0]) (A:=[RR kT3 (ad a3 o56) a2 a0]) (B:=[]) (Z0r_ok ae) ⟨aU,trivial⟩ (fun _=>⟨(bN jw),trivial⟩)) R ?_
 rintro ⟨U,ay,Y⟩
 refine aM 1 aD ?_
 rintro rfl
 refine aB (aJ (tE 7 [2,0,3,4,5]) (d1 14 R (lM _ (fun w s=>(((s.d 8 R).d 10 R).e 9 [3,1,0,2,4,5,6,7,8])) ?_)))
 refine lC 3 o0 R (FnOk.lends (A':=[OO kT3 3 U Y a1]) (A:=[RR kT3 U Y a1]) (B:=[RR kT3 A2 D2 t1.Dims,RR kT3 A3 D3 t1.Data]) (FnOk.perm (Z1e_ok ag) (Pre':=[RR kT3 U Y a1,RR kT3 A2 D2 t1.Dims,RR kT3 A3 D3 t1.Data]) (fun _ _ _ s=>(s.e 3 [1,2,0]))) ⟨aU,trivial⟩ (fun _=>trivial)) R ?_
 rintro _
 refine aB (aJ (tE 7 [2,1,3,4,5]) (dR 15 R (dV bH cO R R M) (hS:=(tE 7 [2,1,3,4,5])) (d1 16 R (lM _ (fun w s=>(s.f 7 [6,1,0,6])) ?_))))
 refine eO (K:=kT3) (x':=ai) 0 am R R cO R R M.1 M.2 ?_ ?_
 exact fun I h s=>(gM).put I h () ai s
 refine aB (aJ (tE 7 [3,2,4,5,6]) (dD ?_))
 refine eD ?_
 cases i
 exact qA () (tE 7 [4,3,5,6,0])
 refine aV ?_
 cases i
 obtain rfl:=aj _ R
 have i:=ak
 refine aZ ?_
 exact qI (ao,()) i (tE 5 [0,2,3,4])
 rintro ⟨ap,_⟩ σ1 i
 dsimp only [Z0z_J1] at i
 refine aV ?_
 refine aL 0 R R bX R R R R R R (lN (aK Z [(sc F j.Dims J),(sc q j.Data u)] 77::aK O [(sc F j.Dims J),(sc q j.Data u)] 77::_::ow kT3 3 (.slice q j.Data.length u) ap::W1) ?_)
 refine aV ?_
 cases i
 exact qS ((F,j.Dims.length,J),(q,j.Data.length,u)) (tE 8 [2,3])
end Go.Proofs.YtoffdamdpmeoiaaGreatDoor
