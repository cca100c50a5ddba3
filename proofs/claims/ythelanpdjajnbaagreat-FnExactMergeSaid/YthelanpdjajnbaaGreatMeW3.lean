import Derived.Test.YthelanpdjajnbaaGreatMeF
import Derived.Test.YthelanpdjajnbaaGreatMeW2
set_option linter.unusedVariables false
set_option maxRecDepth 20000
namespace Go.Proofs.YthelanpdjajnbaaGreat
open Go Go.Pg
variable {A2 A3 A5 A6:Option Addr}{D2 D3 D5 D6 N2 N3 N5 N6:Nat}
theorem Z6_ok  {a4:aP}{i:(List Tensor)}{r:Tensor}(b:Z6 a4 i=some r) :
 FnOk Tryz.prog 91 [(aH a4),(.slice A3 N3 D3)] [aO dQ (.slice A3 N3 D3) i] (fun (h:HH×HH)=>((.agg [(s3 h.1),(s3 h.2)].toArray),[ow kT3 3 (s3 h.1) r.Dims,ow kT3 3 (s3 h.2) r.Data])):=by
 unfold Z6 at b
 refine aR Tryz.func91 R 142 R R fun C V=>?_
 refine cL 0 aA ?_
 rintro rfl
 let W0:=RR dQ A3 D3 i::V
 refine cN W0 ?_
 refine bA ?_
 refine aY R R dZ (fun U=>(aB (aE (aI ?_))))
 obtain ⟨l,c3,b⟩:=bd b
 refine aD (lO (vp (aH a4) R) (lC 0 zA R (Z1_ok c3) R ?_))
 rintro ⟨A7,N7,D7⟩
 refine aM 0 aC ?_
 rintro rfl
 refine lO (vT R) (lS R (lO (vp (aH l.2.1) R) (lB R (lS R (lO (vp (aH l.2.1) R) ?_)))))
 refine cU ?_
 refine cQ [(1,(sc A3 i D3)),(4,(pt U 0)),(5,(sc A7 l.1 D7)),(6,(aH l.2.1)),(35,(.bool ((!l.2.2)||((l.1.length:Int) != (i.length:Int)))))] (aJ U [(.slice none 0 0),(.slice none 0 0)] 42::OO kT9 9 A7 D7 l.1::W0) ?_ ?_
 refine bL ?_
 rcases bo (!l.2.2) with bp | bp
 refine dX ?_
 exact qj (tE 2 [1,0])
 refine dX ?_
 exact qj (tE 2 [1,0])
 rintro σ1
 refine cE ?_
 split at b
 refine aW ?_
 refine lO (vz (.agg [(.slice none 0 0),(.slice none 0 0)].toArray) (aV hM dZ R R)) (aL 0 R R bX R R R R R R (aB (aE (bO (bP ?_)))))
 cases b
 exact qS ((none,0,0),(none,0,0)) (fun w s=>(((s.nilo kT3 3).nilo kT3 3).e 5 [1,0]))
 refine cU ?_
 refine bK (K:=kT23) (xs:=([]:List (List Int))) (vs:=[]) 0 R R jp eX kO R R R R R R ?_ R (fun A10 D10=>?_)
 exact fun I h s=>(mZ).list [] I h s
 refine bL ?_
 refine bD (A:=((List (List Int)))×(HH)) (fun a=>Z6_J1 i l a.1=some r) (fun a=>[(1,(sc A3 i D3)),(4,(pt U 0)),(5,(sc A7 l.1 D7)),(6,(aH l.2.1)),(8,(s3 a.2))]) (fun a=>aJ U [(.slice none 0 0),(.slice none 0 0)] 42::OO kT9 9 A7 D7 l.1::ow (kT23).share 23 (s3 a.2) a.1::W0) ?_ ?_
 refine cH ?_
 obtain ⟨e1,bz,b8⟩:=bd b
 refine bE (A:=HH) bz (fun s a=>[(1,(sc A3 i D3)),(4,(pt U 0)),(5,(sc A7 l.1 D7)),(6,(aH l.2.1)),(8,(s3 a)),(9,(iv s.2))]) (fun s a=>aJ U [(.slice none 0 0),(.slice none 0 0)] 42::OO kT9 9 A7 D7 l.1::ow (kT23).share 23 (s3 a) s.1::W0) (A10,([]:List (List Int)).length,D10) (aS R) (fun w s=>((s.wk 0 R).e 3 [1,2,0])) ?_
 rintro ⟨F,Y⟩ ⟨bh,bl,bj⟩ σ1 ca b b5
 dsimp only [Z6_L1] at b
 refine bJ 2 cV (fun (hn:bl=F.length)=>?_)
 subst hn
 refine dJ ?_
 split at b
 refine dX ?_
 obtain ⟨ag,b⟩:=gd b
 obtain ⟨cu,b9,b⟩:=bd b
 refine aW ?_
 refine bC 3 aA (show 0<i.length by have:=ag; omega) (fun bn o29 ha=>?_)
 subst ha
 refine cE ?_
 refine gO (K:=dQ) 3 Y dT42.dec R ag.1 ag.2 ?_
 rintro ⟨⟨ao,ap⟩,⟨bi,bk⟩⟩
 refine lO (vz (.agg [(sc ao ((ix i Y).Dims) ap),(sc bi ((ix i Y).Data) bk)].toArray) (eF (fo:=0) 0 gA bX R R R R)) (lM _ (fun w s=>(((s.d 1 R).d 3 R).f 8 [1,1,0,1,2,6])) ?_)
 refine lC 2 og R (Zs_ok b9) R ?_
 rintro _
 refine aW ?_
 split at b
 refine aW ?_
 refine lO (vz (.agg [(.slice none 0 0),(.slice none 0 0)].toArray) (aV hM dZ R R)) (aL 3 R R bX R R R R R R (aB (aE (bO (bP (b' (bP ?_)))))))
 cases b
 obtain rfl:=b5 _ R
 have b:=b8
 refine aW ?_
 cases b
 exact qS ((none,0,0),(none,0,0)) (fun w s=>(((s.nilo kT3 3).nilo kT3 3).e 9 [1,0]))
 refine aW ?_
 obtain ⟨b6,b⟩:=gd b
 refine cU ?_
 refine lO (vz (.pointer (some ⟨bn,o29+Y.toNat*2,none⟩)) (iI j0 R R)) (lO (eO (fo:=0) 0 bZ R R R) (lM _ (fun w s=>(s.d 1 R)) ?_))
 refine bK (K:=(kT23).share) (xs:=([(ix i Y).Dims]:List (List Int))) (vs:=[(sc ao ((ix i Y).Dims) ap)]) 1 R R jp eX kO R R R R R R ?_ R (fun ci cm=>?_)
 exact fun I h s=>(nD).list [((sc ao ((ix i Y).Dims) ap),(ix i Y).Dims)] I h s
 refine lM _ (fun w s=>(s.f 7 [6,1,0,6])) ?_
 refine dV (K:=(kT23).share) 5864062014805 R R jp eX tj (Zr.zk (Zr.share zT23) kO) R R R R R R dA b6 (fun az b2=>(lN (OO (kT23).share 23 az b2 (F++([(ix i Y).Dims]:List (List Int)))::_::_::_::_::_::W0) ?_))
 refine dJ ?_
 cases b
 exact qA (az,(F++([(ix i Y).Dims]:List (List Int))).length,b2) (tE 6 [4,5,0])
 refine aW ?_
 cases b
 obtain rfl:=b5 _ R
 have b:=b8
 refine bA ?_
 exact qI (F,(bh,F.length,bj)) b tI
 rintro ⟨a1,⟨b0,bm,b3⟩⟩ σ1 b
 dsimp only [Z6_J1] at b
 refine bJ 2 cV (fun (hn:bm=a1.length)=>?_)
 subst hn
 refine cE ?_
 obtain ⟨j,ba,b⟩:=bd b
 refine bA ?_
 refine lO (vp (aH l.2.1) R) (lS R (lM _ (tE 3 [1,2,0]) ?_))
 refine lC 2 zB R (FnOk.lends (A':=[OO kT9 9 A7 D7 l.1,OO (kT23).share 23 b0 b3 a1]) (A:=[RR kT9 A7 D7 l.1,RR kT23 b0 b3 a1]) (B:=[]) (Z3_ok ba) ⟨aQ,kt,trivial⟩ (fun _=>⟨(bH iP),trivial⟩)) R ?_
 rintro ⟨M,cp,O⟩
 refine aM 2 aC ?_
 rintro rfl
 refine lO (vT R) (lO (vp (aH j.1) R) (lS R (lB R (lO (vp (aH j.1) R) ?_))))
 refine cH ?_
 obtain ⟨ah,b⟩:=gd b
 obtain ⟨c4,bb,b⟩:=bd b
 refine cQ [(1,(sc A3 i D3)),(4,(pt U 0)),(5,(sc A7 l.1 D7)),(6,(aH l.2.1)),(10,(aH j.1)),(11,(sc M j.2.1 O)),(76,(.bool ((!j.2.2)||(!c4))))] (aJ U [(.slice none 0 0),(.slice none 0 0)] 42::OO kT9 9 A7 D7 l.1::RR kT3 M O j.2.1::W0) ?_ ?_
 refine bL ?_
 rcases bo (!j.2.2) with G | G
 refine dM ?_
 exact qj (fun w s=>((s.shr 2 R).e 4 [3,1,0]))
 refine cE ?_
 refine lW (cG G) (vp (aH l.2.1) R) (lW (cG G) (vz (il l.2.1) (dT gH R)) (fS (fun w s=>s.shr 2 R) (gZ (K:=kT3) (0:Int) (l.2.1.length:Int) 0 R (cG G) bI cI R R R R (ah G).1 (ah G).2.1 (ah G).2.2 (fun cj cn=>(lM _ (fun w s=>(s.d 0 R)) ?_)))))
 refine cD 1 R (cG G) kD R (Zp_ok (bR bb (cY G))) R ?_
 rintro _
 refine aW ?_
 exact qj (tE 5 [4,2,1])
 rintro σ1
 refine cE ?_
 split at b
 refine aW ?_
 refine lO (vz (.agg [(.slice none 0 0),(.slice none 0 0)].toArray) (aV hM dZ R R)) (aL 0 R R bX R R R R R R (lN (_::_::_::W0) ?_))
 refine bL ?_
 cases b
 exact qS ((none,0,0),(none,0,0)) (fun w s=>(((s.nilo kT3 3).nilo kT3 3).e 6 [1,0]))
 refine bL ?_
 obtain ⟨ai,b⟩:=gd b
 obtain ⟨g,bc,b⟩:=bd b
 refine bA ?_
 refine lO (vp (aH l.2.1) R) (lO (vz (il l.2.1) (dT gH R)) (gZ (K:=kT3) (0:Int) (l.2.1.length:Int) 2 R R bI cI R R R R ai.1 ai.2.1 ai.2.2 (fun ck co=>(lM _ (fun w s=>(s.d 0 R)) ?_))))
 refine lC 1 la R (Z0k_ok bc) R ?_
 rintro ⟨⟨m,cq,q⟩,⟨u,cr,D⟩⟩
 refine aM 0 aC ?_
 rintro rfl
 refine aM 1 aC ?_
 rintro rfl
 refine aY R R dZ (fun E=>(aL 0 R R bX R R R R R R (lN (aJ E [(sc m g.Dims q),(sc u g.Data D)] 42::_::_::_::_::_::_::W0) ?_)))
 refine dM ?_
 refine bD (A:=(Int)×(Unit)) (fun a=>Z6_J2 i l j g a.1=some r) (fun a=>[(1,(sc A3 i D3)),(4,(pt U 0)),(5,(sc A7 l.1 D7)),(6,(aH l.2.1)),(10,(aH j.1)),(11,(sc M j.2.1 O)),(13,(pt E 0)),(14,(iv a.1))]) (fun a=>aJ U [(.slice none 0 0),(.slice none 0 0)] 42::OO kT9 9 A7 D7 l.1::RR kT3 M O j.2.1::aJ E [(sc m g.Dims q),(sc u g.Data D)] 42::OO kT3 3 m q g.Dims::OO kT3 3 u D g.Data::W0) ?_ ?_
 refine cH ?_
 obtain ⟨e2,c0,bu⟩:=bd b
 refine bE (A:=Unit) c0 (fun s a=>[(1,(sc A3 i D3)),(4,(pt U 0)),(5,(sc A7 l.1 D7)),(6,(aH l.2.1)),(10,(aH j.1)),(11,(sc M j.2.1 O)),(13,(pt E 0)),(14,(iv s.1)),(15,(iv s.2))]) (fun s a=>aJ U [(.slice none 0 0),(.slice none 0 0)] 42::OO kT9 9 A7 D7 l.1::RR kT3 M O j.2.1::aJ E [(sc m g.Dims q),(sc u g.Data D)] 42::OO kT3 3 m q g.Dims::OO kT3 3 u D g.Data::W0) () (aS R) (fun w s=>(s.f 7 [4,3,0,3])) ?_
 rintro ⟨am,ct⟩ _ σ1 cb b bq
 dsimp only [Z6_L2] at b
 refine dJ ?_
 split at b
 refine cU ?_
 obtain ⟨b7,b⟩:=gd b
 refine bL ?_
 refine bC 2 aA (show 0<j.2.1.length by have:=b7; omega) (fun cs o68 ha=>?_)
 subst ha
 refine iZ ?_
 cases b
 exact qA () tI
 refine aW ?_
 cases b
 obtain rfl:=bq _ R
 have b:=bu
 refine bA ?_
 exact qI (am,()) b tI
 rintro ⟨a3,_⟩ σ1 b
 dsimp only [Z6_J2] at b
 refine aI (bD (A:=((List Int))×(Unit)) (fun a=>Z6_J5 g a.1=some r) (fun a=>[(4,(pt U 0)),(13,(pt E 0))]) (fun a=>aJ U [(.slice none 0 0),(.slice none 0 0)] 42::aJ E [(sc m g.Dims q),(sc u g.Data D)] 42::OO kT3 3 m q g.Dims::ow kT3 3 (.slice u g.Data.length D) a.1::W0) ?_ ?_)
 refine cH ?_
 obtain ⟨e3,c1,bv⟩:=bd b
 refine bE (A:=Unit) c1 (fun s a=>[(1,(sc A3 i D3)),(4,(pt U 0)),(5,(sc A7 l.1 D7)),(6,(aH l.2.1)),(10,(aH j.1)),(11,(sc M j.2.1 O)),(13,(pt E 0)),(14,(iv a3)),(16,(iv s.2))]) (fun s a=>aJ U [(.slice none 0 0),(.slice none 0 0)] 42::OO kT9 9 A7 D7 l.1::RR kT3 M O j.2.1::aJ E [(sc m g.Dims q),(sc u g.Data D)] 42::OO kT3 3 m q g.Dims::ow kT3 3 (.slice u g.Data.length D) s.1::W0) () (aS R) tI ?_
 rintro ⟨T,aj⟩ _ σ1 be b br
 dsimp only [Z6_L3] at b
 refine dM ?_
 split at b
 refine cH ?_
 obtain ⟨L,aq,b⟩:=bd b
 refine aW ?_
 refine lM _ (fun w s=>(s.d 2 R)) ?_
 refine lC 1 mh R (Zl_ok aq) R ?_
 rintro ⟨Z,c5,a0⟩
 refine aM 0 aC ?_
 rintro rfl
 refine dJ ?_
 refine bD (A:=(Int)×(Unit)) (fun a=>Z6_J4 l g T aj L a.1=some be) (fun a=>[(1,(sc A3 i D3)),(4,(pt U 0)),(5,(sc A7 l.1 D7)),(6,(aH l.2.1)),(10,(aH j.1)),(11,(sc M j.2.1 O)),(13,(pt E 0)),(14,(iv a3)),(16,(iv aj)),(17,(sc Z L a0)),(18,(iv a.1))]) (fun a=>aJ U [(.slice none 0 0),(.slice none 0 0)] 42::OO kT9 9 A7 D7 l.1::RR kT3 M O j.2.1::aJ E [(sc m g.Dims q),(sc u g.Data D)] 42::OO kT3 3 m q g.Dims::ow kT3 3 (.slice u g.Data.length D) T::OO kT3 3 Z a0 L::W0) ?_ ?_
 refine cH ?_
 obtain ⟨e4,c2,bw⟩:=bd b
 refine bE (A:=Unit) c2 (fun s a=>[(1,(sc A3 i D3)),(4,(pt U 0)),(5,(sc A7 l.1 D7)),(6,(aH l.2.1)),(10,(aH j.1)),(11,(sc M j.2.1 O)),(13,(pt E 0)),(14,(iv a3)),(16,(iv aj)),(17,(sc Z L a0)),(18,(iv s.1)),(19,(iv s.2))]) (fun s a=>aJ U [(.slice none 0 0),(.slice none 0 0)] 42::OO kT9 9 A7 D7 l.1::RR kT3 M O j.2.1::aJ E [(sc m g.Dims q),(sc u g.Data D)] 42::OO kT3 3 m q g.Dims::ow kT3 3 (.slice u g.Data.length D) T::OO kT3 3 Z a0 L::W0) () (aS R) (fun w s=>(s.f 7 [1,6,0,1])) ?_
 rintro ⟨bg,J⟩ _ σ1 cc b bs
 dsimp only [Z6_L4] at b
 refine dJ ?_
 split at b
 refine cU ?_
 obtain ⟨a5,b⟩:=gd b
 obtain ⟨a6,b⟩:=gd b
 obtain ⟨ak,ar,b⟩:=bd b
 obtain ⟨cf,au,b⟩:=bd b
 obtain ⟨cg,av,b⟩:=bd b
 refine bB 7 aA (show 0<i.length by have:=a5; omega) (fun c7 o149 ha=>?_)
 subst ha
 refine dP (K:=dQ) 7 J dT42.dec R a5.1 a5.2 ?_
 rintro ⟨⟨a8,ab⟩,⟨a9,ac⟩⟩
 refine bB 4 aC (show 0<l.1.length by have:=a6; omega) (fun c8 o154 ha=>?_)
 subst ha
 refine dE 15 [] bQ fun ht hn=>?_
 refine pd 0 [] ?_
 refine dR 4 R (vz (.agg [(sc a8 ((ix i J).Dims) ab),(sc a9 ((ix i J).Data) ac)].toArray) (eF (fo:=0) 0 gA bX R R R R)) ?_
 refine iM 5 [] ?_
 refine dR 8 R (vz (aH (ix l.1 J)) (ja (K:=kT9) (fo:=0) (pr:=fun x=>(aH x)) 4 J pI (dT9.leaf fun _ _=>R) aC R a6.1 a6.2)) (dR 9 R (vp (aH j.1) R) (dR 10 R (vS R) (d1 11 R (lM _ (fun w s=>(s.f 10 [9,1,0,9])) ?_))))
 refine lC 1 zC R (FnOk.lends (A':=[OO kT3 3 Z a0 L]) (A:=[RR kT3 Z a0 L]) (B:=[]) (Zj_ok ar) ⟨aQ,trivial⟩ (fun _=>⟨(bH iP),trivial⟩)) R ?_
 rintro ⟨aa,c6,ae⟩
 refine aM 1 aC ?_
 rintro rfl
 refine aB (aG (fun w s=>(s.f 11 [2,9,0,1])) (d1 12 R (lM _ (fun w s=>(((s.d 3 R).d 5 R).f 13 [3,1,1,1,0,1,2,1,4,9])) ?_)))
 refine lC 3 nO R (FnOk.lends (A':=[OO kT3 3 aa ae ak]) (A:=[RR kT3 aa ae ak]) (B:=[RR kT3 a8 ab ((ix i J).Dims),RR kT3 a9 ac ((ix i J).Data)]) (FnOk.perm (Z1c_ok au) (Pre':=[RR kT3 aa ae ak,RR kT3 a8 ab ((ix i J).Dims),RR kT3 a9 ac ((ix i J).Data)]) (fun _ _ _ s=>(s.e 3 [1,2,0]))) ⟨aQ,trivial⟩ (fun _=>trivial)) R ?_
 rintro _
 refine aB (aG (fun w s=>(s.f 11 [2,9,1,1])) (d1 13 R (lC 0 pj R (Z1l_ok av) R ?_)))
 rintro _
 refine aB (aG (fun w s=>(s.f 11 [2,9,1,1])) (dR 14 R (vI R) (hS:=(fun w s=>(s.f 11 [2,9,1,1]))) (dD ?_)))
 refine dX ?_
 cases b
 exact qA () (fun w s=>(s.f 11 [5,6,1,1]))
 refine aW ?_
 cases b
 obtain rfl:=bs _ R
 have b:=bw
 refine bA ?_
 exact qI (bg,()) b tI
 rintro ⟨ch,_⟩ σ1 b
 dsimp only [Z6_J4] at b
 refine cE ?_
 obtain ⟨a7,b⟩:=gd b
 obtain ⟨bf,aw,b⟩:=bd b
 refine dE 8 [6] bQ fun ht hn=>?_
 refine iM 0 [6] ?_
 refine dR 3 R (vp (aH l.2.1) R) (hS:=(sL [6])) (dR 4 R (vz (il l.2.1) (dT gH R)) (hS:=(sL [6])) (d1 5 R (fS (fun w s=>s.shr 6 R) (gZ (K:=kT3) (0:Int) (l.2.1.length:Int) 0 R R bI cI R R R R a7.1 a7.2.1 a7.2.2 (fun ay b1=>(aB (aG (sL [1,0]) (d1 6 R (lM _ (fun w s=>((s.d 0 R).f 9 [7,1,0,7,8,1])) ?_)))))))))
 refine lC 2 th R (FnOk.lends (A':=[OO kT3 3 m q g.Dims]) (A:=[RR kT3 m q g.Dims]) (B:=[RR kT3 ay b1 (sub L (0:Int) (l.2.1.length:Int))]) (Z0w_ok aw) ⟨aQ,trivial⟩ (fun _=>trivial)) R ?_
 rintro _
 refine aB (aG (tE 8 [3,4,5,6,0,7]) (dR 7 R (vI R) (hS:=(tE 8 [3,4,5,6,0,7])) (dD (aE ?_))))
 obtain ⟨a2,b⟩:=gd b
 obtain ⟨an,ax,b⟩:=bd b
 refine bB 7 aC (show 0<g.Data.length by have:=a2; omega) (fun c9 o171 ha=>?_)
 subst ha
 refine dE 12 [7] bQ fun ht hn=>?_
 refine t6 0 [7] ?_
 refine pc 8 [7] ?_
 refine d1 7 R (lO (gP 7 fC aC R a2) (aB (aG (sL [7]) (d1 9 R (lC 0 qT R (Z1s_ok ax) R ?_)))))
 rintro _
 refine aB (aG (sL [7]) ?_)
 refine pc 10 [7] ?_
 refine d1 11 R (lM _ (fun w s=>(s.f 8 [7,1,0,7])) ?_)
 refine eB (K:=kT3) (x':=an) 0 bf R R cI R R a2.1 a2.2 ?_ ?_
 exact fun I h s=>(gF).put I h () an s
 refine aB (aG (sL [0]) (dD ?_))
 refine dX ?_
 cases b
 exact qA () (tE 8 [4,5,6,7,1,0])
 refine aW ?_
 cases b
 obtain rfl:=br _ R
 have b:=bv
 refine bA ?_
 exact qI (T,()) b (tE 6 [0,3,4,5])
 rintro ⟨al,_⟩ σ1 b
 dsimp only [Z6_J5] at b
 refine aW ?_
 refine aL 0 R R bX R R R R R R (lN (aJ U [(sc m g.Dims q),(sc u g.Data D)] 42::aJ E [(sc m g.Dims q),(sc u g.Data D)] 42::_::ow kT3 3 (.slice u g.Data.length D) al::W0) ?_)
 refine aW ?_
 cases b
 exact qS ((m,g.Dims.length,q),(u,g.Data.length,D)) (tE 5 [2,3])
theorem Z0j_ok  {v1:View}{r:View}(b:Z0j v1=some r) :
 FnOk Tryz.prog 135 [(.agg [(.slice A2 N2 D2),(.slice A3 N3 D3),(iv v1.Offset),(iv v1.Base)].toArray)] [aO kT3 (.slice A2 N2 D2) v1.Dims,ow kT3 3 (.slice A3 N3 D3) v1.Strides] (fun (h:HH×HH)=>((.agg [(s3 h.1),(s3 h.2),(iv r.Offset),(iv r.Base)].toArray),[aO kT3 (s3 h.1) r.Dims,ow kT3 3 (s3 h.2) r.Strides])):=by
 unfold Z0j at b
 refine aR Tryz.func135 R 22 R R fun C V=>?_
 refine cM _ (tE 2 [1,0]) ?_
 refine cL 0 aC ?_
 rintro rfl
 refine cL 1 aA ?_
 rintro rfl
 let J:=RR kT3 A2 D2 v1.Dims::V
 refine bA ?_
 refine eJ R fun u=>?_
 refine aY R R cF (fun i=>(aB (qM _ (tE 3 [0,2,1]) ?_)))
 let q:=aJ u [(sc A2 v1.Dims D2),(sc A3 v1.Strides D3),(iv v1.Offset),(iv v1.Base)] 111::J
 refine bA ?_
 refine bD (A:=((List Int))×(Unit)) (fun a=>Z0j_J3 v1 a.1=some r) (fun a=>[(1,(pt u 0)),(2,(pt i 0))]) (fun a=>aJ i [(.slice none 0 0),(.slice none 0 0),(iv 0),(iv 0)] 111::ow kT3 3 (.slice A3 v1.Strides.length D3) a.1::q) ?_ ?_
 refine cH ?_
 obtain ⟨T,F,E⟩:=bd b
 refine bE (A:=Unit) F (fun s a=>[(1,(pt u 0)),(2,(pt i 0)),(3,(iv s.1))]) (fun s a=>aJ i [(.slice none 0 0),(.slice none 0 0),(iv 0),(iv 0)] 111::ow kT3 3 (.slice A3 v1.Strides.length D3) s.2::q) () (aS R) tI ?_
 rintro ⟨g,j⟩ _ σ1 m b D
 dsimp only [Z0j_L1] at b
 refine dH ?_
 split at b
 refine bL ?_
 refine bD (A:=((List Int))×(Unit)) (fun a=>Z0j_J2 g a.1=some m) (fun a=>[(1,(pt u 0)),(2,(pt i 0)),(3,(iv g))]) (fun a=>aJ i [(.slice none 0 0),(.slice none 0 0),(iv 0),(iv 0)] 111::ow kT3 3 (.slice A3 v1.Strides.length D3) a.1::q) ?_ ?_
 refine bA ?_
 obtain ⟨l,b⟩:=gd b
 refine bL ?_
 refine bC 3 aA (show 0<v1.Dims.length by have:=l; omega) (fun L o20 B=>?_)
 subst B
 refine cU ?_
 split at b
 refine cE ?_
 obtain ⟨e,b⟩:=gd b
 refine bL ?_
 refine bC 1 aC (show 0<v1.Strides.length by have:=e; omega) (fun M o24 B=>?_)
 subst B
 refine cE ?_
 refine lM _ (tE 2 [1,0]) ?_
 refine eB (K:=kT3) (x':=(0:Int)) 0 g R R cI R R e.1 e.2 ?_ ?_
 exact fun I h s=>(gF).put I h () (0:Int) s
 refine bA ?_
 exact qI ((j.set g.toNat (0:Int)),()) b (tE 2 [1,0])
 refine aW ?_
 exact qI (j,()) b tI
 rintro ⟨O,_⟩ σ1 b
 dsimp only [Z0j_J2] at b
 refine cU ?_
 cases b
 exact qA () tI
 refine aW ?_
 cases b
 obtain rfl:=D _ R
 have b:=E
 refine bA ?_
 exact qI (j,()) b tI
 rintro ⟨G,_⟩ σ1 b
 dsimp only [Z0j_J3] at b
 refine aW ?_
 refine aL 0 R R bW R R R R R R (lN (aJ i [(sc A2 v1.Dims D2),(sc A3 v1.Strides D3),(iv v1.Offset),(iv v1.Base)] 111::ow kT3 3 (.slice A3 v1.Strides.length D3) G::q) ?_)
 refine aW ?_
 cases b
 exact qS ((A2,v1.Dims.length,D2),(A3,v1.Strides.length,D3)) (tE 4 [3,1])
theorem Zv_ok  {b:(List Int)}{r:View}(g:Zv b=some r) :
 FnOk Tryz.prog 94 [(.slice A2 N2 D2)] [aO kT3 (.slice A2 N2 D2) b] (fun (h:HH×HH)=>((.agg [(.slice h.1.1 h.1.2.1 h.1.2.2),(.slice h.2.1 h.2.2.1 h.2.2.2),(iv r.Offset),(iv r.Base)].toArray),[aO kT3 (.slice h.1.1 h.1.2.1 h.1.2.2) r.Dims,ow kT3 3 (.slice h.2.1 h.2.2.1 h.2.2.2) r.Strides])):=by
 unfold Zv at g
 refine aR Tryz.func94 R 32 R R fun C V=>?_
 refine cN (_::V) ?_
 refine cL 0 aA ?_
 rintro rfl
 let l:List HP:=RR kT3 A2 D2 b::V
 refine cN l ?_
 refine aI (aD (aY R R cF (fun b3=>(aB (aE (aI (aI ?_)))))))
 obtain ⟨r4,al,g⟩:=bd g
 refine aD (lS R (lM (RR kT3 A2 D2 b::_::l) (fun w s=>(s.d 1 R)) ?_))
 refine lC 1 kD R (Zp_ok al) R ?_
 rintro _
 refine lN (_::l) ?_
 refine lO (mf R) (aB (aE ?_))
 rcases bY g with ⟨a2,g⟩|⟨a2,g⟩
 refine bM R a2 (aI (aD (lO (vz (.agg [(.slice none 0 0),(.slice none 0 0),(iv 0),(iv 0)].toArray) (aV eE cF R R)) (aL 0 R R bW R R R R R R (aB (aE (bO (bP ?_))))))))
 obtain rfl:=so g
 exact cX (vs:=[(.agg [(.slice none 0 0),(.slice none 0 0),(iv 0),(iv 0)].toArray)]) (.inl R) ((none,0,0),(none,0,0)) R ⟨⟨0,b3,_,_,R,R,.inl ⟨eY,bW,R⟩⟩,trivial⟩ R (fun w s=>(((s.nilr kT3).nilo kT3 3).e 4 [1,0]))
 refine aX R a2 (bS (aE (aI ?_)))
 obtain ⟨u,am,g⟩:=bd g
 obtain ⟨j,a6,g⟩:=bd g
 refine aD (lS R (lM (RR kT3 A2 D2 b::_::l) (fun w s=>(s.d 1 R)) ?_))
 refine lC 1 jr R (Ze_ok am) R ?_
 rintro ⟨A9,N9,D9⟩
 refine lN (ow kT3 3 (.slice A9 N9 D9) u::_::l) ?_
 refine aM 0 aC ?_
 rintro rfl
 refine lS R (lM (RR kT3 A2 D2 b::_::_::l) (fun w s=>(s.d 2 R)) ?_)
 refine lC 1 oe R (Zu_ok a6) R ?_
 rintro _
 refine lN (_::_::l) ?_
 refine lO (vz (.agg [(sc A9 u D9),(.slice none 0 0),(iv 0),(iv j)].toArray) (aV eE cF R R)) (aY R R cF (fun q=>(aL 0 R R bW R R R R R R (lN (aJ q [(sc A9 u D9),(.slice none 0 0),(iv 0),(iv j)] 111::_::_::l) ?_))))
 refine aB (aE (aI (bD (A:=((List Int))×(HH)) (fun a=>Zv_J1 u j a.1=some r) (fun a=>[(2,(pt b3 0)),(3,(pt q 0))]) (fun a=>aJ b3 [(.slice none 0 0),(.slice none 0 0),(iv 0),(iv 0)] 111::aJ q [(sc A9 u D9),(.slice a.2.1 a.2.2.1 a.2.2.2),(iv 0),(iv j)] 111::OO kT3 3 A9 D9 u::ow kT3 3 (.slice a.2.1 a.2.2.1 a.2.2.2) a.1::l) ?_ ?_)))
 refine aI (aD (lI R (aB (aE (cB ?_)))))
 obtain ⟨e1,ak,aj⟩:=bd g
 refine bE (A:=HH) ak (fun s a=>[(0,(sc A2 b D2)),(2,(pt b3 0)),(3,(pt q 0)),(4,(iv s.2))]) (fun s a=>aJ b3 [(.slice none 0 0),(.slice none 0 0),(iv 0),(iv 0)] 111::aJ q [(sc A9 u D9),(.slice a.1 a.2.1 a.2.2),(iv 0),(iv j)] 111::OO kT3 3 A9 D9 u::ow kT3 3 (.slice a.1 a.2.1 a.2.2) s.1::l) (none,0,0) (aS R) (fun w s=>((s.nilo kT3 3).e 4 [3,1,2,0])) ?_
 rintro ⟨m,O⟩ ⟨T,ac,Z⟩ σ1 a9 g ai
 replace g:Zv_L1 b m O=some a9:=g
 unfold Zv_L1 at g
 refine bJ 3 aC (fun (hn:ac=m.length)=>?_)
 subst hn
 refine aI (aI (aD (lI R (lS R (lO (eT bI R) (lO (jz R R) (aB (aE ?_))))))))
 rcases bY g with ⟨E,g⟩|⟨E,g⟩
 refine bM R E (bS (aE (aI (cB ?_))))
 obtain ⟨F,g⟩:=gd g
 obtain ⟨B,a7,g⟩:=bd g
 obtain ⟨a5,g⟩:=gd g
 refine dE 8 [] bQ (fun ht hn=>(dR 0 R (eC 1 fN R) (dR 1 R (eH 1 bZ R R R) (dR 2 R (vS R) (dR 3 R (vI R) (dR 4 R (jy R R) (d1 5 R (gZ (K:=kT3) (aK (O+(1:Int))) (b.length:Int) 4 R R bI cI R R R R F.1 F.2.1 F.2.2 (fun a3 a4=>(aB (aG (sL [0]) (d1 6 R (lM (RR kT3 a3 a4 (sub b (aK (O+(1:Int))) (b.length:Int))::RR kT3 a3 a4 (sub b (aK (O+(1:Int))) (b.length:Int))::_::aJ q [(sc A9 u D9),(sc T m Z),(iv 0),(iv j)] 111::_::OO kT3 3 T Z m::l) (fun w s=>(s.d 0 R)) ?_)))))))))))))
 refine lC 1 oe R (Zu_ok a7) R ?_
 rintro _
 refine lN (_::_::_::_::_::l) ?_
 refine aB (aG (sL [0]) (d1 7 R (bK (K:=kT3) (xs:=([B]:List Int)) (vs:=[(iv B)]) 0 R R bI cI gB R R R R R R ?_ R (fun aa ab=>?_))))
 exact fun I h s=>(gF).list [((),B)] I h s
 refine lN (OO kT3 3 aa ab ([B]:List Int)::_::_::_::_::_::l) ?_
 refine aB (aG (sL [1,0]) (d1 8 R (lM (ow _ _ _ _::ow _ _ _ _::aO _ _ _::aJ _ _ _::aJ _ _ _::ow _ _ _ _::l) (fun w s=>(s.f 6 [5,1,0,5])) ?_)))
 refine dV (K:=kT3) 17592186044416 R R bI cI jN (Zr.zk zT3 gB) R R R R R R dA a5 (fun U a0=>(lN (OO kT3 3 U a0 (m++([B]:List Int))::_::_::_::_::l) ?_))
 refine aB (qE (d1 9 R (lO (eC 1 fN R) (aB (qE (d1 10 R (cO 3 R R eX R R R R R (lN (_::_::_::aJ q [(sc A9 u D9),(sc U (m++([B]:List Int)) a0),(iv 0),(iv j)] 111::_::l) ?_))))))))
 refine aB (qE (dD (cT (aE (aD (lI R (lO (jy R R) (lI R (aB ?_)))))))))
 obtain rfl:=so g
 exact qA (U,(m++([B]:List Int)).length,a0) (fun w s=>(s.e 5 [2,3,4,0]))
 refine aX R E (eL (cR ?_))
 obtain rfl:=so g
 obtain rfl:=ai _ R
 have g:=aj
 refine cR (dU ?_)
 exact qI (m,(T,m.length,Z)) g (fun w s=>s)
 rintro ⟨D,⟨Y,ae,a1⟩⟩ σ1 g
 replace g:Zv_J1 u j D=some r:=g
 unfold Zv_J1 at g
 refine bJ 3 aC (fun (hn:ae=D.length)=>?_)
 subst hn
 refine aI ?_
 obtain ⟨i,a8,g⟩:=bd g
 refine aD (lO (vz (.agg [(sc A9 u D9),(sc Y D a1),(iv 0),(iv j)].toArray) (bN 1 eY bW R R R R)) (fS (fun w s=>s.shr 2 R) (lM (RR kT3 A9 D9 u::OO kT3 3 Y a1 D::RR kT3 A9 D9 u::aJ _ _ _::aJ q [(sc A9 u D9),(sc Y D a1),(iv 0),(iv j)] 111::l) (fun w s=>((s.d 0 R).e 5 [0,4,1,2,3])) ?_)))
 refine lC 2 zD R (Z0j_ok (v1:=(⟨u,D,(0:Int),j⟩:View)) a8) R ?_
 rintro ⟨⟨G,ag,L⟩,⟨J,ah,M⟩⟩
 refine lN (aO kT3 (.slice G ag L) i.Dims::ow kT3 3 (.slice J ah M) i.Strides::_::_::_::l) ?_
 refine aM 0 aA ?_
 rintro rfl
 refine aM 1 aC ?_
 rintro rfl
 refine aL 3 R R bW R R R R R R (lN (_::_::_::aJ b3 [(sc G i.Dims L),(sc J i.Strides M),(iv i.Offset),(iv i.Base)] 111::_::l) ?_)
 refine aB (aE (bO ?_))
 obtain rfl:=so g
 exact cX (vs:=[(.agg [(sc G i.Dims L),(sc J i.Strides M),(iv i.Offset),(iv i.Base)].toArray)]) (.inl R) ((G,i.Dims.length,L),(J,i.Strides.length,M)) R ⟨⟨3,b3,_,_,R,R,.inl ⟨eY,bW,R⟩⟩,trivial⟩ R (fun w s=>(s.e 6 [0,1]))
theorem Z1b_ok  {v1:View}{b:(List Int)}{r:Int}(e:Z1b v1 b=some r) :
 FnOk Tryz.prog 155 [(.agg [(.slice A2 N2 D2),(.slice A3 N3 D3),(iv v1.Offset),(iv v1.Base)].toArray),(.slice A5 N5 D5)] [aO kT3 (.slice A2 N2 D2) v1.Dims,aO kT3 (.slice A3 N3 D3) v1.Strides,aO kT3 (.slice A5 N5 D5) b] (fun (h:Unit)=>((iv r),[])):=by
 unfold Z1b at e
 refine aR Tryz.func155 R 28 R R fun C V=>?_
 refine cL 0 aA ?_
 rintro rfl
 refine cL 1 aA ?_
 rintro rfl
 refine cL 2 aA ?_
 rintro rfl
 let D:=RR kT3 A2 D2 v1.Dims::RR kT3 A3 D3 v1.Strides::RR kT3 A5 D5 b::V
 refine cN D ?_
 refine bA ?_
 refine eJ R fun E=>?_
 refine bA ?_
 let j:=aJ E [(sc A2 v1.Dims D2),(sc A3 v1.Strides D3),(iv v1.Offset),(iv v1.Base)] 111::D
 refine qN j ?_
 refine dJ ?_
 refine bD (A:=(Int)×(Unit)) (fun a=>Z1b_J1 a.1=some r) (fun a=>[(5,(iv a.1))]) (fun a=>j) ?_ ?_
 refine cH ?_
 obtain ⟨M,u,q⟩:=bd e
 refine bE (A:=Unit) u (fun s a=>[(1,(sc A5 b D5)),(2,(pt E 0)),(5,(iv s.1)),(6,(iv s.2))]) (fun s a=>j) () (aS R) tI ?_
 rintro ⟨B,J⟩ _ σ1 F e m
 dsimp only [Z1b_L1] at e
 refine dJ ?_
 split at e
 refine cU ?_
 obtain ⟨g,e⟩:=gd e
 obtain ⟨i,e⟩:=gd e
 refine bB 3 aA (show 0<b.length by have:=g; omega) (fun G o19 l=>?_)
 subst l
 refine bB 2 aA (show 0<v1.Strides.length by have:=i; omega) (fun I o22 l=>?_)
 subst l
 refine dE 13 [] bQ fun T O=>?_
 refine mY 0 [] ?_
 refine dD ?_
 refine dX ?_
 cases e
 exact qA () tI
 refine aW ?_
 cases e
 obtain rfl:=m _ R
 have e:=q
 refine bA ?_
 exact qI (B,()) e tI
 rintro ⟨L,_⟩ σ1 e
 dsimp only [Z1b_J1] at e
 refine dX ?_
 cases e
 exact qF () (tE 4 [])
theorem Z0e_ok  {v1:View}{r:(List Int)}(b:Z0e v1=some r) :
 FnOk Tryz.prog 134 [(.agg [(.slice A2 N2 D2),(.slice A3 N3 D3),(iv v1.Offset),(iv v1.Base)].toArray)] [aO kT3 (.slice A2 N2 D2) v1.Dims,aO kT3 (.slice A3 N3 D3) v1.Strides] (fun (h:HH)=>((.slice h.1 h.2.1 h.2.2),[ow kT3 3 (.slice h.1 h.2.1 h.2.2) r])):=by
 unfold Z0e at b
 refine aR Tryz.func134 R 25 R R fun C V=>?_
 refine cN (_::_::V) ?_
 refine cL 0 aA ?_
 rintro rfl
 refine cL 1 aA ?_
 rintro rfl
 let W0:List HP:=RR kT3 A2 D2 v1.Dims::RR kT3 A3 D3 v1.Strides::V
 refine cN W0 ?_
 refine aI (aD (eJ R (fun b4=>(lS R (aB ?_)))))
 let i:List HP:=aJ b4 [(sc A2 v1.Dims D2),(sc A3 v1.Strides D3),(iv v1.Offset),(iv v1.Base)] 111::W0
 refine qN i ?_
 refine aE (aI (aD (bK (K:=kT3) (xs:=([]:List Int)) (vs:=[]) 0 R R bI cI gB R R R R R R ?_ R (fun A5 D5=>?_))))
 exact fun I h s=>(gF).list [] I h s
 refine lN (OO kT3 3 A5 D5 ([]:List Int)::i) ?_
 refine lS R (aB (aE (aI ?_)))
 obtain ⟨r6,a8,b⟩:=bd b
 refine aD (lO (eC 0 f' R) (lO (eH 1 bZ R R R) (lM (RR kT3 A2 D2 v1.Dims::_::i) (fun w s=>(s.d 2 R)) ?_)))
 refine lC 1 oe R (Zu_ok a8) R ?_
 rintro _
 refine lN (_::i) ?_
 refine lI R (aB (aE (aI (bD (A:=((List Int))×(HH)) (fun a=>Z0e_J1 a.1=some r) (fun a=>[(3,(.slice a.2.1 a.2.2.1 a.2.2.2))]) (fun a=>ow kT3 3 (.slice a.2.1 a.2.2.1 a.2.2.2) a.1::i) ?_ ?_))))
 refine aI (aD (lI R (aB (aE (cB ?_)))))
 obtain ⟨e1,a7,a6⟩:=bd b
 refine bE (A:=HH) a7 (fun s a=>[(1,(pt b4 0)),(3,(.slice a.1 a.2.1 a.2.2)),(4,(iv r6)),(5,(iv s.2))]) (fun s a=>ow kT3 3 (.slice a.1 a.2.1 a.2.2) s.1::i) (A5,([]:List Int).length,D5) (aS R) (fun w s=>s) ?_
 rintro ⟨g,a9⟩ ⟨E,a2,G⟩ σ1 T b a5
 replace b:Z0e_L1 v1 r6 g a9=some T:=b
 unfold Z0e_L1 at b
 refine bJ 0 aC (fun (U:a2=g.length)=>?_)
 subst U
 refine aI (aI (aD (lI R (lI R (lO (jz R R) (aB (aE ?_)))))))
 rcases bY b with ⟨l,b⟩|⟨l,b⟩
 refine bM R l (bS (aE (aI (cB ?_))))
 obtain ⟨u,M,b⟩:=bd b
 obtain ⟨j,O,b⟩:=bd b
 obtain ⟨L,b⟩:=gd b
 refine dE 10 [0] bQ (fun ht U=>(dR 0 R (vS R) (hS:=(sL [0])) (dR 1 R (vz (.agg [(sc A2 v1.Dims D2),(sc A3 v1.Strides D3),(iv v1.Offset),(iv v1.Base)].toArray) (bN 0 eY bW R R R R)) (hS:=(sL [0])) (dR 2 R (eC 0 f' R) (hS:=(sL [0])) (dR 3 R (eH 0 bZ R R R) (hS:=(sL [0])) (dR 4 R (vI R) (hS:=(sL [0])) (d1 5 R (lM (RR kT3 A2 D2 v1.Dims::OO kT3 3 E G g::i) (fun w s=>(s.d 2 R)) ?_))))))))
 refine lC 1 mh R (Zl_ok M) R ?_
 rintro ⟨m,a3,q⟩
 refine lN (ow kT3 3 (.slice m a3 q) u::_::i) ?_
 refine aM 0 aC ?_
 rintro rfl
 refine aB (aG (sL [1,0]) (d1 6 R (lM (ow _ _ _ _::RR kT3 A2 D2 v1.Dims::RR kT3 A3 D3 v1.Strides::ow _ _ _ _::i) (fun w s=>(((s.d 3 R).d 5 R).e 4 [2,1,0,3])) ?_)))
 refine lC 3 zE R (FnOk.lends (A':=[OO kT3 3 m q u]) (A:=[RR kT3 m q u]) (B:=[RR kT3 A2 D2 v1.Dims,RR kT3 A3 D3 v1.Strides]) (FnOk.perm (Z1b_ok O) (Pre':=[RR kT3 m q u,RR kT3 A2 D2 v1.Dims,RR kT3 A3 D3 v1.Strides]) (fun _ _ _ s=>(s.e 3 [1,2,0]))) ⟨aQ,trivial⟩ (fun _=>trivial)) R ?_
 rintro _
 refine lN (_::_::i) ?_
 refine aB (aG (sL [1,0]) (d1 7 R (bK (K:=kT3) (xs:=([j]:List Int)) (vs:=[(iv j)]) 0 R R bI cI gB R R R R R R ?_ R (fun Y a0=>?_))))
 exact fun I h s=>(gF).list [((),j)] I h s
 refine lN (OO kT3 3 Y a0 ([j]:List Int)::_::_::i) ?_
 refine aB (aG (sL [2,1,0]) (d1 8 R (lM (ow _ _ _ _::ow _ _ _ _::ow _ _ _ _::i) (fun w s=>(s.e 3 [2,0,1])) ?_)))
 refine dV (K:=kT3) 17592186044416 R R bI cI jN (Zr.zk zT3 gB) R R R R R R dA L (fun F J=>(lN (OO kT3 3 F J (g++([j]:List Int))::_::i) ?_))
 refine aB (aG (sL [1,0]) (dR 9 R (vS R) (hS:=(sL [1,0])) (dD (cT (aE (aD (lI R (lO (jy R R) (lI R (aB ?_))))))))))
 obtain rfl:=so b
 exact qA (F,(g++([j]:List Int)).length,J) (fun w s=>(s.e 2 [0]))
 refine aX R l (eL (cR ?_))
 obtain rfl:=so b
 obtain rfl:=a5 _ R
 have b:=a6
 refine cR (dU ?_)
 exact qI (g,(E,g.length,G)) b (fun w s=>s)
 rintro ⟨D,⟨Z,a4,a1⟩⟩ σ1 b
 replace b:Z0e_J1 D=some r:=b
 unfold Z0e_J1 at b
 refine bJ 0 aC (fun (U:a4=D.length)=>?_)
 subst U
 refine aI (aD (lS R (lS R (aB (aE (bO ?_))))))
 obtain rfl:=so b
 exact qF (Z,D.length,a1) (fun w s=>(s.e 4 [0]))
theorem Zb_ok  {v1:View}{r:Bool}(b:Zb v1=some r) :
 FnOk Tryz.prog 133 [(.agg [(.slice A2 N2 D2),(.slice A3 N3 D3),(iv v1.Offset),(iv v1.Base)].toArray)] [aO kT3 (.slice A2 N2 D2) v1.Dims,aO kT3 (.slice A3 N3 D3) v1.Strides] (fun (h:Unit)=>((.bool r),[])):=by
 unfold Zb at b
 refine aR Tryz.func133 R 84 R R fun C V=>?_
 refine cL 0 aA ?_
 rintro rfl
 refine cL 1 aA ?_
 rintro rfl
 let W0:=RR kT3 A2 D2 v1.Dims::RR kT3 A3 D3 v1.Strides::V
 refine cN W0 ?_
 refine bA ?_
 refine eJ R fun B=>?_
 refine bA ?_
 let l:=aJ B [(sc A2 v1.Dims D2),(sc A3 v1.Strides D3),(iv v1.Offset),(iv v1.Base)] 111::W0
 refine qN l ?_
 refine aW ?_
 obtain ⟨D,a5,b⟩:=bd b
 refine cQ [(1,(pt B 0)),(40,(.bool ((((((!D)||((v1.Strides.length:Int) != (v1.Dims.length:Int)))||(decide (v1.Base<1)))||(decide (v1.Base>4096)))||(decide (v1.Offset<0)))||(decide (v1.Offset≥v1.Base)))))] (l) ?_ ?_
 refine aW ?_
 refine lM _ (fun w s=>(s.d 1 R)) ?_
 refine lC 1 kD R (Zp_ok a5) R ?_
 rintro _
 refine lN l ?_
 refine bA ?_
 rcases bo (!D) with a0 | a0
 refine xu ?_
 exact qj tI
 refine dJ ?_
 rcases bo ((!D)||((v1.Strides.length:Int) != (v1.Dims.length:Int))) with a1 | a1
 refine zi ?_
 exact qj tI
 refine cU ?_
 rcases bo (((!D)||((v1.Strides.length:Int) != (v1.Dims.length:Int)))||(decide (v1.Base<1))) with a2 | a2
 refine rL ?_
 exact qj tI
 refine cU ?_
 rcases bo ((((!D)||((v1.Strides.length:Int) != (v1.Dims.length:Int)))||(decide (v1.Base<1)))||(decide (v1.Base>4096))) with F | F
 refine iZ ?_
 exact qj tI
 refine cU ?_
 rcases bo (((((!D)||((v1.Strides.length:Int) != (v1.Dims.length:Int)))||(decide (v1.Base<1)))||(decide (v1.Base>4096)))||(decide (v1.Offset<0))) with G | G
 refine dX ?_
 exact qj tI
 refine dX ?_
 exact qj tI
 rintro σ1
 refine cE ?_
 split at b
 refine dM ?_
 cases b
 exact qF () (tE 3 [])
 refine bL ?_
 refine bD (A:=(Unit)×(Unit)) (fun a=>Zb_J1 v1=some r) (fun a=>[(1,(pt B 0))]) (fun a=>l) ?_ ?_
 refine cH ?_
 obtain ⟨e1,a3,T⟩:=bd b
 refine bE (A:=Unit) a3 (fun s a=>[(1,(pt B 0)),(3,(iv s))]) (fun s a=>l) () (aS R) tI ?_
 rintro m _ σ1 a6 b L
 dsimp only [Zb_L1] at b
 refine dH ?_
 split at b
 refine cH ?_
 obtain ⟨O,b⟩:=gd b
 refine cQ [(1,(pt B 0)),(3,(iv m)),(61,(.bool ((decide ((ix v1.Strides m)<(-4096:Int)))||(decide ((ix v1.Strides m)>4096)))))] (l) ?_ ?_
 refine bL ?_
 refine bC 2 aA (show 0<v1.Strides.length by have:=O; omega) (fun a9 o23 E=>?_)
 subst E
 refine bL ?_
 rcases bo (decide ((ix v1.Strides m)<(-4096:Int))) with I | I
 refine dM ?_
 exact qj tI
 refine dM ?_
 exact qj tI
 rintro σ1
 refine cE ?_
 split at b
 refine dJ ?_
 cases b
 obtain rfl:=L _ R
 have b:=T
 refine aW ?_
 cases b
 exact qF () (tE 3 [])
 refine dJ ?_
 cases b
 exact qA () tI
 refine aW ?_
 cases b
 obtain rfl:=L _ R
 have b:=T
 refine bA ?_
 exact qI ((),()) b tI
 rintro ⟨_,_⟩ σ1 b
 dsimp only [Zb_J1] at b
 refine cE ?_
 obtain ⟨g,Y,b⟩:=bd b
 refine bA ?_
 refine lM _ (fun w s=>(((s.d 1 R).d 3 R).e 2 [1,0])) ?_
 refine lC 2 qU R (Z0e_ok Y) R ?_
 rintro ⟨i,a8,j⟩
 refine aM 0 aC ?_
 rintro rfl
 refine bL ?_
 refine bD (A:=(Unit)×(Unit)) (fun a=>Zb_J2=some r) (fun a=>[]) (fun a=>l) ?_ ?_
 refine cH ?_
 obtain ⟨e2,a4,U⟩:=bd b
 refine bE (A:=Unit) a4 (fun s a=>[(1,(pt B 0)),(4,(sc i g j)),(5,(iv s))]) (fun s a=>OO kT3 3 i j g::l) () (aS R) tI ?_
 rintro q _ σ1 a7 b M
 dsimp only [Zb_L2] at b
 refine dJ ?_
 split at b
 refine cH ?_
 obtain ⟨u,b⟩:=gd b
 refine cQ [(1,(pt B 0)),(4,(sc i g j)),(5,(iv q)),(83,(.bool ((decide ((ix g q)<0))||(decide ((ix g q)≥v1.Base)))))] (OO kT3 3 i j g::l) ?_ ?_
 rcases bo (decide ((ix g q)<0)) with J | J
 refine bB 0 aC (show 0<g.length by have:=u; omega) (fun Z o40 E=>?_)
 subst E
 refine dE 14 [] bQ fun ht hn=>?_
 refine v8 0 [] ?_
 refine dD ?_
 exact qj tI
 refine bB 0 aC (show 0<g.length by have:=u; omega) (fun Z o40 E=>?_)
 subst E
 refine dE 14 [] bQ fun ht hn=>?_
 refine v8 0 [] ?_
 refine dD ?_
 exact qj tI
 rintro σ1
 refine cE ?_
 split at b
 refine dJ ?_
 cases b
 obtain rfl:=M _ R
 have b:=U
 refine aW ?_
 cases b
 exact qF () (tE 4 [])
 refine dJ ?_
 cases b
 exact qA () tI
 refine aW ?_
 cases b
 obtain rfl:=M _ R
 have b:=U
 refine bA ?_
 exact cK ((),()) b trivial (tE 1 [])
 rintro ⟨_,_⟩ σ1 b
 dsimp only [Zb_J2] at b
 refine cH ?_
 cases b
 exact qF () (tE 3 [])
theorem Z05_ok  {v1:View}{b:(List Int)}{r:View}(q:Z05 v1 b=some r) :
 FnOk Tryz.prog 93 [(.agg [(.slice A2 N2 D2),(.slice A3 N3 D3),(iv v1.Offset),(iv v1.Base)].toArray),(.slice A5 N5 D5)] [aO kT3 (.slice A2 N2 D2) v1.Dims,aO kT3 (.slice A3 N3 D3) v1.Strides,aO kT3 (.slice A5 N5 D5) b] (fun (h:HH×HH)=>((.agg [(s3 h.1),(s3 h.2),(iv r.Offset),(iv r.Base)].toArray),[ow kT3 3 (s3 h.1) r.Dims,ow kT3 3 (s3 h.2) r.Strides])):=by
 unfold Z05 at q
 refine aR Tryz.func93 R 77 R R fun C V=>?_
 refine cL 0 aA ?_
 rintro rfl
 refine cL 1 aA ?_
 rintro rfl
 refine cL 2 aA ?_
 rintro rfl
 let W0:=RR kT3 A2 D2 v1.Dims::RR kT3 A3 D3 v1.Strides::RR kT3 A5 D5 b::V
 refine cN W0 ?_
 refine bA ?_
 refine eJ R fun b6=>?_
 refine aY R R cF (fun T=>(aB ?_))
 let L:=aJ b6 [(sc A2 v1.Dims D2),(sc A3 v1.Strides D3),(iv v1.Offset),(iv v1.Base)] 111::W0
 refine pa ?_
 obtain ⟨r8,am,q⟩:=bd q
 obtain ⟨ai,ae,q⟩:=bd q
 refine cQ [(1,(sc A5 b D5)),(2,(pt b6 0)),(4,(pt T 0)),(5,(iv (aK ((b.length:Int) - (v1.Dims.length:Int))))),(25,(.bool (((!r8)||(!ai))||(decide ((aK ((b.length:Int) - (v1.Dims.length:Int)))<0)))))] (aJ T [(.slice none 0 0),(.slice none 0 0),(iv 0),(iv 0)] 111::L) ?_ ?_
 refine bA ?_
 refine lM (RR kT3 A2 D2 v1.Dims::RR kT3 A3 D3 v1.Strides::aJ _ _ _::L) (fun w s=>(((s.d 2 R).d 4 R).e 3 [1,0,2])) ?_
 refine lC 2 mj R (Zb_ok am) R ?_
 rintro _
 refine bA ?_
 rcases bo (!r8) with U | U
 refine dJ ?_
 exact qj tI
 refine cE ?_
 refine lM (RR kT3 A5 D5 b::_::L) (fun w s=>(s.d 4 R)) ?_
 refine cD 1 R (cG U) kD R (Zp_ok (bR ae (cY U))) R ?_
 rintro _
 refine aW ?_
 rcases bo ((!r8)||(!ai)) with a7 | a7
 refine bL ?_
 exact qj tI
 refine bL ?_
 exact qj tI
 rintro σ1
 refine cE ?_
 split at q
 refine aW ?_
 refine lO (vz (.agg [(.slice none 0 0),(.slice none 0 0),(iv 0),(iv 0)].toArray) (aV eE cF R R)) (aL 0 R R bW R R R R R R (aB (aE (bO (bP ?_)))))
 cases q
 exact qS ((none,0,0),(none,0,0)) (fun w s=>(((s.nilo kT3 3).nilo kT3 3).e 7 [1,0]))
 refine bL ?_
 obtain ⟨g,O,q⟩:=bd q
 obtain ⟨l,q⟩:=gd q
 refine hU (A:=(Unit)×(Nat×HH×HH)) (fun _=>True) (fun a=>[(1,(sc A5 b D5)),(2,(pt b6 0)),(4,(pt T 0)),(5,(iv (aK ((b.length:Int) - (v1.Dims.length:Int))))),(6,(pt a.2.1 0))]) (fun a=>aJ T [(.slice none 0 0),(.slice none 0 0),(iv 0),(iv 0)] 111::aJ a.2.1 [(s3 a.2.2.1),(s3 a.2.2.2),(iv v1.Offset),(iv v1.Base)] 111::ow kT3 3 (s3 a.2.2.1) g::ow kT3 3 (s3 a.2.2.2) (List.replicate (b.length:Int).toNat (0:Int))::L) ?_ ?_
 refine dE 12 [] bQ fun ht hn=>?_
 refine dR 0 R (vS R) ?_
 refine iC 2 [] ?_
 refine pd 5 [] ?_
 refine fW [1,4,10] (by kernel_rfl) R ⟨?_,?_,?_,trivial⟩
 refine lM (RR kT3 A5 D5 b::_::L) (fun w s=>(s.d 4 R)) ?_
 refine lC 1 jr R (Ze_ok O) R ?_
 rintro ⟨u,a1,B⟩
 refine aM 0 aC ?_
 rintro rfl
 refine aB (aG (sL [0]) (fW [4,10] (by kernel_rfl) R ⟨?_,?_,trivial⟩))
 refine fH (K:=kT3) (m:=(b.length:Int)) (z:=(0:Int)) R R bI cI jN (Zr.zk zT3 gB) (by decide) R R l.1 l.2.1 l.2.2 (fun i j=>(aB (aG (sL [1,0]) (dR 9 R (vz (.agg [(sc u g B),(sc i (List.replicate (b.length:Int).toNat (0:Int)) j),(iv v1.Offset),(iv v1.Base)].toArray) (aV eE cF R R)) (hS:=(sL [1,0])) (d1 10 R (aY R R cF (fun D=>(aB (aG (sL [2,1,0]) (d1 11 R (aL 0 R R bW R R R R R R (lN (aJ D [(sc u g B),(sc i (List.replicate (b.length:Int).toNat (0:Int)) j),(iv v1.Offset),(iv v1.Base)] 111::OO kT3 3 i j (List.replicate (b.length:Int).toNat (0:Int))::_::_::L) ?_))))))))))))
 refine aB (aG (sL [2,1,0]) (dD ?_))
 exact cK ((),(D,(u,g.length,B),(i,(List.replicate (b.length:Int).toNat (0:Int)).length,j))) trivial (aS R) (tE 4 [3,0,2,1])
 refine aY R R cF (fun D=>(aB (aG (sL [1,0]) (d1 4 R (fH (K:=kT3) (m:=(b.length:Int)) (z:=(0:Int)) R R bI cI jN (Zr.zk zT3 gB) (by decide) R R l.1 l.2.1 l.2.2 (fun i j=>(aB (aG (sL [2,1,0]) (dR 9 R (vz (.agg [(sc u g B),(sc i (List.replicate (b.length:Int).toNat (0:Int)) j),(iv v1.Offset),(iv v1.Base)].toArray) (aV eE cF R R)) (hS:=(sL [2,1,0])) (d1 11 R (aL 1 R R bW R R R R R R (lN (_::_::_::_::L) ?_))))))))))))
 refine aB (aG (sL [2,1,0]) (dD ?_))
 exact cK ((),(D,(u,g.length,B),(i,(List.replicate (b.length:Int).toNat (0:Int)).length,j))) trivial (aS R) (tE 4 [3,1,2,0])
 refine fH (K:=kT3) (m:=(b.length:Int)) (z:=(0:Int)) R R bI cI jN (Zr.zk zT3 gB) (by decide) R R l.1 l.2.1 l.2.2 (fun i j=>(aB (aG (sL [0]) (fW [1,10] (by kernel_rfl) R ⟨?_,?_,trivial⟩))))
 refine lM (RR kT3 A5 D5 b::_::_::L) (fun w s=>(s.d 5 R)) ?_
 refine lC 1 jr R (Ze_ok O) R ?_
 rintro ⟨u,a1,B⟩
 refine aM 0 aC ?_
 rintro rfl
 refine aB (aG (sL [1,0]) (dR 9 R (vz (.agg [(sc u g B),(sc i (List.replicate (b.length:Int).toNat (0:Int)) j),(iv v1.Offset),(iv v1.Base)].toArray) (aV eE cF R R)) (hS:=(sL [1,0])) (d1 10 R (aY R R cF (fun D=>(aB (aG (sL [2,1,0]) (d1 11 R (aL 0 R R bW R R R R R R (lN (aJ D [(sc u g B),(sc i (List.replicate (b.length:Int).toNat (0:Int)) j),(iv v1.Offset),(iv v1.Base)] 111::_::_::_::L) ?_))))))))))
 refine aB (aG (sL [2,1,0]) (dD ?_))
 exact cK ((),(D,(u,g.length,B),(i,(List.replicate (b.length:Int).toNat (0:Int)).length,j))) trivial (aS R) (tE 4 [3,0,1,2])
 refine aY R R cF (fun D=>(aB (aG (sL [1,0]) (d1 1 R (lM (RR kT3 A5 D5 b::_::_::_::L) (fun w s=>(s.d 6 R)) ?_)))))
 refine lC 1 jr R (Ze_ok O) R ?_
 rintro ⟨u,a1,B⟩
 refine aM 0 aC ?_
 rintro rfl
 refine aB (aG (sL [2,1,0]) (dR 9 R (vz (.agg [(sc u g B),(sc i (List.replicate (b.length:Int).toNat (0:Int)) j),(iv v1.Offset),(iv v1.Base)].toArray) (aV eE cF R R)) (hS:=(sL [2,1,0])) (d1 11 R (aL 1 R R bW R R R R R R (lN (_::aJ D [(sc u g B),(sc i (List.replicate (b.length:Int).toNat (0:Int)) j),(iv v1.Offset),(iv v1.Base)] 111::_::_::L) ?_)))))
 refine aB (aG (sL [2,1,0]) (dD ?_))
 exact cK ((),(D,(u,g.length,B),(i,(List.replicate (b.length:Int).toNat (0:Int)).length,j))) trivial (aS R) (tE 4 [3,1,0,2])
 refine aY R R cF (fun D=>(aB (aG (sL [0]) (fW [1,4] (by kernel_rfl) R ⟨?_,?_,trivial⟩))))
 refine lM (RR kT3 A5 D5 b::_::_::L) (fun w s=>(s.d 5 R)) ?_
 refine lC 1 jr R (Ze_ok O) R ?_
 rintro ⟨u,a1,B⟩
 refine aM 0 aC ?_
 rintro rfl
 refine aB (aG (sL [1,0]) (d1 4 R (fH (K:=kT3) (m:=(b.length:Int)) (z:=(0:Int)) R R bI cI jN (Zr.zk zT3 gB) (by decide) R R l.1 l.2.1 l.2.2 (fun i j=>(aB (aG (sL [2,1,0]) (dR 9 R (vz (.agg [(sc u g B),(sc i (List.replicate (b.length:Int).toNat (0:Int)) j),(iv v1.Offset),(iv v1.Base)].toArray) (aV eE cF R R)) (hS:=(sL [2,1,0])) (d1 11 R (aL 2 R R bW R R R R R R (lN (OO kT3 3 i j (List.replicate (b.length:Int).toNat (0:Int))::_::aJ D [(sc u g B),(sc i (List.replicate (b.length:Int).toNat (0:Int)) j),(iv v1.Offset),(iv v1.Base)] 111::_::L) ?_))))))))))
 refine aB (aG (sL [2,1,0]) (dD ?_))
 exact cK ((),(D,(u,g.length,B),(i,(List.replicate (b.length:Int).toNat (0:Int)).length,j))) trivial (aS R) (tE 4 [3,2,1,0])
 refine fH (K:=kT3) (m:=(b.length:Int)) (z:=(0:Int)) R R bI cI jN (Zr.zk zT3 gB) (by decide) R R l.1 l.2.1 l.2.2 (fun i j=>(aB (aG (sL [1,0]) (d1 1 R (lM (RR kT3 A5 D5 b::_::aJ D [(.slice none 0 0),(.slice none 0 0),(iv 0),(iv 0)] 111::_::L) (fun w s=>(s.d 6 R)) ?_)))))
 refine lC 1 jr R (Ze_ok O) R ?_
 rintro ⟨u,a1,B⟩
 refine aM 0 aC ?_
 rintro rfl
 refine aB (aG (sL [2,1,0]) (dR 9 R (vz (.agg [(sc u g B),(sc i (List.replicate (b.length:Int).toNat (0:Int)) j),(iv v1.Offset),(iv v1.Base)].toArray) (aV eE cF R R)) (hS:=(sL [2,1,0])) (d1 11 R (aL 2 R R bW R R R R R R (lN (_::_::aJ D [(sc u g B),(sc i (List.replicate (b.length:Int).toNat (0:Int)) j),(iv v1.Offset),(iv v1.Base)] 111::_::L) ?_)))))
 refine aB (aG (sL [2,1,0]) (dD ?_))
 exact cK ((),(D,(u,g.length,B),(i,(List.replicate (b.length:Int).toNat (0:Int)).length,j))) trivial (aS R) (tE 4 [3,2,0,1])
 rintro ⟨_,⟨M,⟨F,aj,J⟩,⟨G,ak,E⟩⟩⟩ σ1 -
 refine gW 2 aC (fun (hn:aj=g.length)=>?_)
 subst hn
 refine gW 3 aC (fun (hn:ak=(List.replicate (b.length:Int).toNat (0:Int)).length)=>?_)
 subst hn
 refine bA ?_
 refine bD (A:=((List Int))×(Unit)) (fun a=>Z05_J3 v1 g a.1=some r) (fun a=>[(4,(pt T 0)),(6,(pt M 0))]) (fun a=>aJ T [(.slice none 0 0),(.slice none 0 0),(iv 0),(iv 0)] 111::aJ M [(sc F g J),(sc G (List.replicate (b.length:Int).toNat (0:Int)) E),(iv v1.Offset),(iv v1.Base)] 111::OO kT3 3 F J g::ow kT3 3 (.slice G (List.replicate (b.length:Int).toNat (0:Int)).length E) a.1::L) ?_ ?_
 refine cH ?_
 obtain ⟨e1,al,ac⟩:=bd q
 refine bE (A:=Unit) al (fun s a=>[(1,(sc A5 b D5)),(2,(pt b6 0)),(4,(pt T 0)),(5,(iv (aK ((b.length:Int) - (v1.Dims.length:Int))))),(6,(pt M 0)),(7,(iv s.2))]) (fun s a=>aJ T [(.slice none 0 0),(.slice none 0 0),(iv 0),(iv 0)] 111::aJ M [(sc F g J),(sc G (List.replicate (b.length:Int).toNat (0:Int)) E),(iv v1.Offset),(iv v1.Base)] 111::OO kT3 3 F J g::ow kT3 3 (.slice G (List.replicate (b.length:Int).toNat (0:Int)).length E) s.1::L) () (aS R) tI ?_
 rintro ⟨a2,a0⟩ _ σ1 ah q a8
 dsimp only [Z05_L1] at q
 refine dH ?_
 rcases bY q with ⟨a3,q⟩|⟨a3,q⟩
 refine bL ?_
 refine bD (A:=((List Int))×(Unit)) (fun a=>Z05_J2 a0 a.1=some ah) (fun a=>[(1,(sc A5 b D5)),(2,(pt b6 0)),(4,(pt T 0)),(5,(iv (aK ((b.length:Int) - (v1.Dims.length:Int))))),(6,(pt M 0)),(7,(iv a0))]) (fun a=>aJ T [(.slice none 0 0),(.slice none 0 0),(iv 0),(iv 0)] 111::aJ M [(sc F g J),(sc G (List.replicate (b.length:Int).toNat (0:Int)) E),(iv v1.Offset),(iv v1.Base)] 111::OO kT3 3 F J g::ow kT3 3 (.slice G (List.replicate (b.length:Int).toNat (0:Int)).length E) a.1::L) ?_ ?_
 refine aW ?_
 obtain ⟨a9,q⟩:=gd q
 obtain ⟨aa,q⟩:=gd q
 refine bB 5 aA (show 0<v1.Dims.length by have:=a9; omega) (fun ao o47 ha=>?_)
 subst ha
 refine bB 7 aA (show 0<b.length by have:=aa; omega) (fun ap o50 ha=>?_)
 subst ha
 refine dE 13 [] bQ fun ht hn=>?_
 refine mY 0 [] ?_
 refine dD (aE ?_)
 rcases bY q with ⟨a4,q⟩|⟨a4,q⟩
 refine cE ?_
 obtain ⟨ab,q⟩:=gd q
 obtain ⟨Y,q⟩:=gd q
 refine bB 6 aA (show 0<v1.Strides.length by have:=ab; omega) (fun aq o54 ha=>?_)
 subst ha
 refine bB 3 aC (show 0<(List.replicate (b.length:Int).toNat (0:Int)).length by have:=Y; omega) (fun a6 o57 ha=>?_)
 subst ha
 refine dE 12 [3] bQ fun ht hn=>?_
 refine pS 0 [3] ?_
 refine d1 11 R (lM (ow kT3 3 (.slice (ad a6 o57) (List.replicate (b.length:Int).toNat (0:Int)).length E) a2::aJ _ _ _::aJ M [(sc F g J),(sc (ad a6 o57) (List.replicate (b.length:Int).toNat (0:Int)) E),(iv v1.Offset),(iv v1.Base)] 111::OO kT3 3 F J g::L) (tE 4 [3,0,1,2]) ?_)
 refine eB (K:=kT3) (x':=(ix v1.Strides a0)) 0 (aK ((aK ((b.length:Int) - (v1.Dims.length:Int)))+a0)) R R cI R R Y.1 Y.2 ?_ ?_
 exact fun I h s=>(gF).put I h () (ix v1.Strides a0) s
 refine aB (aG (sL [0]) (dD ?_))
 obtain ⟨ag,Z,q⟩:=bd q
 replace Z:=Option.some.inj Z
 refine qM (ow kT3 3 (.slice (ad a6 o57) (List.replicate (b.length:Int).toNat (0:Int)).length E) ag::_::_::_::L) (fun w s=>by rw [← Z]; exact s) ?_
 refine bA ?_
 exact qI (ag,()) q (tE 4 [1,2,3,0])
 refine aX R a4 ?_
 refine j9 ?_
 rcases bY q with ⟨a5,q⟩|⟨a5,q⟩
 refine aW ?_
 refine lO (vz (.agg [(.slice none 0 0),(.slice none 0 0),(iv 0),(iv 0)].toArray) (aV eE cF R R)) (aL 0 R R bW R R R R R R (lN (_::aJ M [(sc F g J),(sc G (List.replicate (b.length:Int).toNat (0:Int)) E),(iv v1.Offset),(iv v1.Base)] 111::_::ow kT3 3 (.slice G (List.replicate (b.length:Int).toNat (0:Int)).length E) a2::L) ?_))
 refine cH ?_
 cases q
 obtain rfl:=a8 _ R
 have q:=ac
 refine aW ?_
 cases q
 exact qS ((none,0,0),(none,0,0)) (fun w s=>(((s.nilo kT3 3).nilo kT3 3).e 10 [1,0]))
 refine aX R a5 ?_
 refine aW ?_
 exact qI (a2,()) q tI
 rintro ⟨ar,_⟩ σ1 q
 dsimp only [Z05_J2] at q
 refine cU ?_
 cases q
 exact qA () tI
 refine aX R a3 ?_
 refine bA ?_
 cases q
 obtain rfl:=a8 _ R
 have q:=ac
 refine bA ?_
 exact qI (a2,()) q tI
 rintro ⟨an,_⟩ σ1 q
 dsimp only [Z05_J3] at q
 refine aW ?_
 refine aL 0 R R bW R R R R R R (lN (aJ T [(sc F g J),(sc G (List.replicate (b.length:Int).toNat (0:Int)) E),(iv v1.Offset),(iv v1.Base)] 111::_::_::ow kT3 3 (.slice G (List.replicate (b.length:Int).toNat (0:Int)).length E) an::L) ?_)
 refine aW ?_
 cases q
 exact qS ((F,g.length,J),(G,(List.replicate (b.length:Int).toNat (0:Int)).length,E)) (tE 8 [2,3])
theorem Z02_ok  {t1:Tensor}{v4:View}{r:Tensor}(i:Z02 t1 v4=some r) :
 FnOk Tryz.prog 92 [(.agg [(.slice A2 N2 D2),(.slice A3 N3 D3)].toArray),(.agg [(.slice A5 N5 D5),(.slice A6 N6 D6),(iv v4.Offset),(iv v4.Base)].toArray)] [aO kT3 (.slice A2 N2 D2) t1.Dims,aO kT3 (.slice A3 N3 D3) t1.Data,aO kT3 (.slice A5 N5 D5) v4.Dims,aO kT3 (.slice A6 N6 D6) v4.Strides] (fun (h:HH×HH)=>((.agg [(s3 h.1),(s3 h.2)].toArray),[ow kT3 3 (s3 h.1) r.Dims,ow kT3 3 (s3 h.2) r.Data])):=by
 unfold Z02 at i
 refine aR Tryz.func92 R 51 R R fun C V=>?_
 refine cL 0 aA ?_
 rintro rfl
 refine cL 1 aA ?_
 rintro rfl
 refine cL 2 aA ?_
 rintro rfl
 refine cL 3 aA ?_
 rintro rfl
 let W0:=RR kT3 A2 D2 t1.Dims::RR kT3 A3 D3 t1.Data::RR kT3 A5 D5 v4.Dims::RR kT3 A6 D6 v4.Strides::V
 refine cN W0 ?_
 refine bA ?_
 refine eJ R fun b7=>?_
 refine eJ R fun b8=>?_
 refine aY R R dZ (fun T=>(aB ?_))
 let G:=aJ b8 [(sc A5 v4.Dims D5),(sc A6 v4.Strides D6),(iv v4.Offset),(iv v4.Base)] 111::aJ b7 [(sc A2 t1.Dims D2),(sc A3 t1.Data D3)] 42::W0
 refine aW ?_
 obtain ⟨Z,a3,i⟩:=bd i
 obtain ⟨a7,a4,i⟩:=bd i
 refine cQ [(2,(pt b7 0)),(3,(pt b8 0)),(4,(pt T 0)),(23,(.bool (((!Z)||(!a7))||(v4.Base != (t1.Data.length:Int)))))] (aJ T [(.slice none 0 0),(.slice none 0 0)] 42::G) ?_ ?_
 refine bA ?_
 refine lM _ (fun w s=>(((s.d 3 R).d 5 R).e 3 [1,0,2])) ?_
 refine lC 2 og R (Zs_ok a3) R ?_
 rintro _
 refine bA ?_
 rcases bo (!Z) with E | E
 refine lL ?_
 exact qj tI
 refine cE ?_
 refine lM _ (fun w s=>(((s.d 5 R).d 7 R).e 3 [1,0,2])) ?_
 refine cD 2 R (cG E) mj R (Zb_ok (bR a4 (cY E))) R ?_
 rintro _
 refine aW ?_
 rcases bo ((!Z)||(!a7)) with a0 | a0
 refine dM ?_
 exact qj tI
 refine dM ?_
 exact qj tI
 rintro σ1
 refine cE ?_
 split at i
 refine aW ?_
 refine lO (vz (.agg [(.slice none 0 0),(.slice none 0 0)].toArray) (aV hM dZ R R)) (aL 0 R R bX R R R R R R (aB (aE (bO (bP ?_)))))
 cases i
 exact qS ((none,0,0),(none,0,0)) (fun w s=>(((s.nilo kT3 3).nilo kT3 3).e 9 [1,0]))
 refine bL ?_
 obtain ⟨j,a5,i⟩:=bd i
 refine aW ?_
 refine lM _ (fun w s=>(s.d 5 R)) ?_
 refine lC 1 jr R (Ze_ok a5) R ?_
 rintro ⟨l,an,m⟩
 refine aM 0 aC ?_
 rintro rfl
 refine lO (vz (.agg [(sc l j m),(.slice none 0 0)].toArray) (aV hM dZ R R)) (aY R R dZ (fun u=>(aL 0 R R bX R R R R R R (lN (aJ u [(sc l j m),(.slice none 0 0)] 42::_::_::G) ?_))))
 refine aW ?_
 obtain ⟨b,a6,i⟩:=bd i
 refine bA ?_
 refine lM _ (fun w s=>(((s.d 7 R).d 9 R).e 5 [1,0,2,3,4])) ?_
 refine lC 2 qU R (Z0e_ok a6) R ?_
 rintro ⟨J,ao,M⟩
 refine aM 0 aC ?_
 rintro rfl
 refine bL ?_
 refine bD (A:=((List Int))×(HH)) (fun a=>Z02_J1 j a.1=some r) (fun a=>[(4,(pt T 0)),(5,(pt u 0))]) (fun a=>aJ T [(.slice none 0 0),(.slice none 0 0)] 42::aJ u [(sc l j m),(s3 a.2)] 42::OO kT3 3 l m j::ow kT3 3 (s3 a.2) a.1::G) ?_ ?_
 refine cH ?_
 obtain ⟨e1,al,ak⟩:=bd i
 refine bE (A:=HH) al (fun s a=>[(2,(pt b7 0)),(4,(pt T 0)),(5,(pt u 0)),(6,(sc J b M)),(7,(iv s.2))]) (fun s a=>aJ T [(.slice none 0 0),(.slice none 0 0)] 42::aJ u [(sc l j m),(s3 a)] 42::OO kT3 3 l m j::ow kT3 3 (s3 a) s.1::OO kT3 3 J M b::G) (none,0,0) (aS R) (fun w s=>((s.nilo kT3 3).e 5 [4,2,3,0,1])) ?_
 rintro ⟨q,g⟩ ⟨a8,ag,ab⟩ σ1 am i aj
 dsimp only [Z02_L1] at i
 refine bJ 3 aC (fun (hn:ag=q.length)=>?_)
 subst hn
 refine dJ ?_
 rcases bY i with ⟨U,i⟩|⟨U,i⟩
 refine cU ?_
 obtain ⟨a1,i⟩:=gd i
 obtain ⟨a2,i⟩:=gd i
 obtain ⟨Y,i⟩:=gd i
 refine hU (A:=(Unit)×(HH)) (fun _=>True) (fun a=>[(2,(pt b7 0)),(4,(pt T 0)),(5,(pt u 0)),(6,(sc J b M)),(7,(iv g))]) (fun a=>aJ T [(.slice none 0 0),(.slice none 0 0)] 42::aJ u [(sc l j m),(s3 a.2)] 42::OO kT3 3 l m j::ow kT3 3 (s3 a.2) (q++([(ix t1.Data (ix b g))]:List Int))::OO kT3 3 J M b::G) ?_ ?_
 refine bB 4 aC (show 0<b.length by have:=a1; omega) (fun ap o41 ha=>?_)
 subst ha
 refine bB 8 aA (show 0<t1.Data.length by have:=a2; omega) (fun aq o44 ha=>?_)
 subst ha
 refine dE 14 [3,1] bQ fun ht hn=>?_
 refine pc 0 [3,1] ?_
 refine v6 2 [3,1] ?_
 refine fW [1,10] (by kernel_rfl) R ⟨?_,?_,trivial⟩
 refine lO (eH 1 bZ R R R) (aB (aG (sL [3,1]) (d1 10 R (bK (K:=kT3) (xs:=([(ix t1.Data (ix b g))]:List Int)) (vs:=[(iv (ix t1.Data (ix b g)))]) 0 R R bI cI gB R R R R R R ?_ R (fun a9 ac=>?_)))))
 exact fun I h s=>(gF).list [((),(ix t1.Data (ix b g)))] I h s
 refine aB (aG (sL [4,2,0]) (d1 11 R (lM _ (tE 6 [4,0,1,2,3,5]) ?_)))
 refine dV (K:=kT3) 17592186044416 R R bI cI jN (Zr.zk zT3 gB) R R R R R R dA Y (fun B D=>(lN (OO kT3 3 B D (q++([(ix t1.Data (ix b g))]:List Int))::_::_::_::_::G) ?_))
 refine aB (aG (sL [2,0]) ?_)
 refine pc 12 [2,0] ?_
 refine d1 13 R (cO 2 R R eX R R R R R (lN (_::_::aJ u [(sc l j m),(sc B (q++([(ix t1.Data (ix b g))]:List Int)) D)] 42::_::_::G) ?_))
 refine aB (aG (sL [2,0]) (dD ?_))
 exact cK ((),(B,(q++([(ix t1.Data (ix b g))]:List Int)).length,D)) trivial (aS R) (tE 5 [1,2,3,0,4])
 refine bK (K:=kT3) (xs:=([(ix t1.Data (ix b g))]:List Int)) (vs:=[(iv (ix t1.Data (ix b g)))]) 0 R R bI cI gB R R R R R R ?_ R (fun a9 ac=>?_)
 exact fun I h s=>(gF).list [((),(ix t1.Data (ix b g)))] I h s
 refine aB (aG (sL [4,2,0]) (d1 1 R (lO (eH 2 bZ R R R) (aB (aG (sL [4,2,0]) (d1 11 R (lM _ (tE 6 [4,0,1,2,3,5]) ?_)))))))
 refine dV (K:=kT3) 17592186044416 R R bI cI jN (Zr.zk zT3 gB) R R R R R R dA Y (fun B D=>(lN (OO kT3 3 B D (q++([(ix t1.Data (ix b g))]:List Int))::_::_::_::_::G) ?_))
 refine aB (aG (sL [2,0]) ?_)
 refine pc 12 [2,0] ?_
 refine d1 13 R (cO 2 R R eX R R R R R (lN (_::_::aJ u [(sc l j m),(sc B (q++([(ix t1.Data (ix b g))]:List Int)) D)] 42::_::_::G) ?_))
 refine aB (aG (sL [2,0]) (dD ?_))
 exact cK ((),(B,(q++([(ix t1.Data (ix b g))]:List Int)).length,D)) trivial (aS R) (tE 5 [1,2,3,0,4])
 rintro ⟨_,⟨aa,ah,ae⟩⟩ σ1 -
 refine gW 3 aC (fun (hn:ah=(q++([(ix t1.Data (ix b g))]:List Int)).length)=>?_)
 subst hn
 refine dX ?_
 cases i
 exact qA (aa,(q++([(ix t1.Data (ix b g))]:List Int)).length,ae) tI
 refine aX R U ?_
 refine bA ?_
 cases i
 obtain rfl:=aj _ R
 have i:=ak
 refine bA ?_
 exact qI (q,(a8,q.length,ab)) i (fun w s=>(s.f 5 [0,4]))
 rintro ⟨F,⟨L,ai,O⟩⟩ σ1 i
 dsimp only [Z02_J1] at i
 refine bJ 3 aC (fun (hn:ai=F.length)=>?_)
 subst hn
 refine aW ?_
 refine aL 0 R R bX R R R R R R (lN (aJ T [(sc l j m),(sc L F O)] 42::aJ u [(sc l j m),(sc L F O)] 42::_::OO kT3 3 L O F::G) ?_)
 refine aW ?_
 cases i
 exact qS ((l,j.length,m),(L,F.length,O)) (tE 10 [2,3])
theorem Z0d_ok  {v1:View}{j:(List Int)}{r:View}(g:Z0d v1 j=some r) :
 FnOk Tryz.prog 95 [(.agg [(.slice A2 N2 D2),(.slice A3 N3 D3),(iv v1.Offset),(iv v1.Base)].toArray),(.slice A5 N5 D5)] [aO kT3 (.slice A2 N2 D2) v1.Dims,aO kT3 (.slice A3 N3 D3) v1.Strides,aO kT3 (.slice A5 N5 D5) j] (fun (h:HH×HH)=>((.agg [(s3 h.1),(s3 h.2),(iv r.Offset),(iv r.Base)].toArray),[ow kT3 3 (s3 h.1) r.Dims,ow kT3 3 (s3 h.2) r.Strides])):=by
 unfold Z0d at g
 refine aR Tryz.func95 R 77 R R fun C V=>?_
 refine cL 0 aA ?_
 rintro rfl
 refine cL 1 aA ?_
 rintro rfl
 refine cL 2 aA ?_
 rintro rfl
 let W0:=RR kT3 A2 D2 v1.Dims::RR kT3 A3 D3 v1.Strides::RR kT3 A5 D5 j::V
 refine cN W0 ?_
 refine bA ?_
 refine eJ R fun b6=>?_
 refine aY R R cF (fun Y=>(aB ?_))
 let W1:=aJ b6 [(sc A2 v1.Dims D2),(sc A3 v1.Strides D3),(iv v1.Offset),(iv v1.Base)] 111::W0
 refine aW ?_
 obtain ⟨r8,ab,g⟩:=bd g
 obtain ⟨av,a5,g⟩:=bd g
 obtain ⟨b5,al,g⟩:=bd g
 obtain ⟨b8,am,g⟩:=bd g
 refine cQ [(1,(sc A5 j D5)),(2,(pt b6 0)),(4,(pt Y 0)),(24,(.bool (((!r8)||(!av))||(b5 != b8))))] (aJ Y [(.slice none 0 0),(.slice none 0 0),(iv 0),(iv 0)] 111::W1) ?_ ?_
 rcases bo (!r8) with M | M
 refine dE 16 [] bQ fun ht hn=>?_
 refine pc 0 [] ?_
 refine d1 1 R (lM _ (fun w s=>(((s.d 2 R).d 4 R).e 3 [1,0,2])) ?_)
 refine lC 2 mj R (Zb_ok ab) R ?_
 rintro _
 refine aB (aG (sL []) ?_)
 refine v8 2 [] ?_
 refine dD ?_
 exact qj tI
 rcases bo ((!r8)||(!av)) with O | O
 refine dE 16 [] bQ fun ht hn=>?_
 refine pc 0 [] ?_
 refine d1 1 R (lM _ (fun w s=>(((s.d 2 R).d 4 R).e 3 [1,0,2])) ?_)
 refine lC 2 mj R (Zb_ok ab) R ?_
 rintro _
 refine aB (aG (sL []) ?_)
 refine iM 2 [] ?_
 refine d1 5 R (lM _ (fun w s=>(s.d 4 R)) ?_)
 refine cD 1 R (cG M) kD R (Zp_ok (bR a5 (cY M))) R ?_
 rintro _
 refine aB (aG (sL []) ?_)
 refine rM 6 [] ?_
 refine dD ?_
 exact qj tI
 refine dE 16 [] bQ fun ht hn=>?_
 refine pc 0 [] ?_
 refine d1 1 R (lM _ (fun w s=>(((s.d 2 R).d 4 R).e 3 [1,0,2])) ?_)
 refine lC 2 mj R (Zb_ok ab) R ?_
 rintro _
 refine aB (aG (sL []) ?_)
 refine iM 2 [] ?_
 refine d1 5 R (lM _ (fun w s=>(s.d 4 R)) ?_)
 refine cD 1 R (cG M) kD R (Zp_ok (bR a5 (cY M))) R ?_
 rintro _
 refine aB (aG (sL []) ?_)
 refine pd 6 [] ?_
 refine iC 11 [] ?_
 refine d1 10 R (lM _ (fun w s=>(s.d 4 R)) ?_)
 refine cD 1 R (cG O) oe R (Zu_ok (bR al (cY O))) R ?_
 rintro _
 refine aB (aG (sL []) (d1 13 R (lM _ (fun w s=>(s.d 2 R)) ?_)))
 refine cD 1 R (cG O) oe R (Zu_ok (bR am (cY O))) R ?_
 rintro _
 refine aB (aG (sL []) ?_)
 refine iC 14 [] ?_
 refine dD ?_
 exact qj tI
 rintro σ1
 refine cE ?_
 split at g
 refine aW ?_
 refine lO (vz (.agg [(.slice none 0 0),(.slice none 0 0),(iv 0),(iv 0)].toArray) (aV eE cF R R)) (aL 0 R R bW R R R R R R (aB (aE (bO (bP ?_)))))
 cases g
 exact qS ((none,0,0),(none,0,0)) (fun w s=>(((s.nilo kT3 3).nilo kT3 3).e 7 [1,0]))
 refine bL ?_
 obtain ⟨b,an,g⟩:=bd g
 refine bA ?_
 refine lM _ (fun w s=>(((s.d 2 R).d 4 R).e 3 [1,0,2])) ?_
 refine lC 2 qU R (Z0e_ok an) R ?_
 rintro ⟨u,bg,D⟩
 refine aM 0 aC ?_
 rintro rfl
 refine bL ?_
 obtain ⟨i,a6,g⟩:=bd g
 obtain ⟨ah,g⟩:=gd g
 refine hU (A:=(Unit)×(Nat×HH)) (fun _=>True) (fun a=>[(1,(sc A5 j D5)),(4,(pt Y 0)),(5,(sc u b D)),(6,(pt a.2.1 0))]) (fun a=>aJ Y [(.slice none 0 0),(.slice none 0 0),(iv 0),(iv 0)] 111::OO kT3 3 u D b::aJ a.2.1 [(s3 a.2.2),(.slice none 0 0),(iv (ix b 0)),(iv v1.Base)] 111::ow kT3 3 (s3 a.2.2) i::W1) ?_ ?_
 refine bB 0 aC (show 0<b.length by have:=ah; omega) (fun bi o27 ha=>?_)
 subst ha
 refine dE 10 [] bQ fun ht hn=>?_
 refine dR 0 R (vS R) ?_
 refine kM 2 [] ?_
 refine fW [1,8] (by kernel_rfl) R ⟨?_,?_,trivial⟩
 refine lM _ (fun w s=>(s.d 5 R)) ?_
 refine lC 1 jr R (Ze_ok a6) R ?_
 rintro ⟨T,ay,U⟩
 refine aM 0 aC ?_
 rintro rfl
 refine aB (aG (sL [0]) (dR 7 R (vz (.agg [(sc T i U),(.slice none 0 0),(iv (ix b 0)),(iv v1.Base)].toArray) (aV eE cF R R)) (hS:=(sL [0])) (d1 8 R (aY R R cF (fun a0=>(aB (aG (sL [1,0]) (d1 9 R (aL 0 R R bW R R R R R R (lN (aJ a0 [(sc T i U),(.slice none 0 0),(iv (ix b 0)),(iv v1.Base)] 111::_::_::_::W1) ?_))))))))))
 refine aB (aG (sL [1,0]) (dD ?_))
 exact cK ((),(a0,(T,i.length,U))) trivial (aS R) (tE 4 [3,2,0,1])
 refine aY R R cF (fun a0=>(aB (aG (sL [0]) (d1 1 R (lM _ (fun w s=>(s.d 6 R)) ?_)))))
 refine lC 1 jr R (Ze_ok a6) R ?_
 rintro ⟨T,ay,U⟩
 refine aM 0 aC ?_
 rintro rfl
 refine aB (aG (sL [1,0]) (dR 7 R (vz (.agg [(sc T i U),(.slice none 0 0),(iv (ix b 0)),(iv v1.Base)].toArray) (aV eE cF R R)) (hS:=(sL [1,0])) (d1 9 R (aL 1 R R bW R R R R R R (lN (_::aJ a0 [(sc T i U),(.slice none 0 0),(iv (ix b 0)),(iv v1.Base)] 111::_::_::W1) ?_)))))
 refine aB (aG (sL [1,0]) (dD ?_))
 exact cK ((),(a0,(T,i.length,U))) trivial (aS R) (tE 4 [3,2,1,0])
 rintro ⟨_,⟨J,⟨l,az,m⟩⟩⟩ σ1 -
 refine gW 3 aC (fun (hn:az=i.length)=>?_)
 subst hn
 refine bA ?_
 refine bD (A:=((List Int))×(HH)) (fun a=>Z0d_J3 v1 b i a.1=some r) (fun a=>[(4,(pt Y 0)),(5,(sc u b D)),(6,(pt J 0))]) (fun a=>aJ Y [(.slice none 0 0),(.slice none 0 0),(iv 0),(iv 0)] 111::OO kT3 3 u D b::aJ J [(sc l i m),(s3 a.2),(iv (ix b 0)),(iv v1.Base)] 111::OO kT3 3 l m i::ow kT3 3 (s3 a.2) a.1::W1) ?_ ?_
 refine cH ?_
 obtain ⟨e1,b4,b3⟩:=bd g
 refine bE (A:=HH) b4 (fun s a=>[(1,(sc A5 j D5)),(4,(pt Y 0)),(5,(sc u b D)),(6,(pt J 0)),(7,(iv s.2))]) (fun s a=>aJ Y [(.slice none 0 0),(.slice none 0 0),(iv 0),(iv 0)] 111::OO kT3 3 u D b::aJ J [(sc l i m),(s3 a),(iv (ix b 0)),(iv v1.Base)] 111::OO kT3 3 l m i::ow kT3 3 (s3 a) s.1::W1) (none,0,0) (aS R) (fun w s=>((s.nilo kT3 3).f 5 [1,4,0,1])) ?_
 rintro ⟨L,ac⟩ ⟨a7,b0,a9⟩ σ1 au g b2
 dsimp only [Z0d_L1] at g
 refine bJ 4 aC (fun (hn:b0=L.length)=>?_)
 subst hn
 refine dJ ?_
 rcases bY g with ⟨a2,g⟩|⟨a2,g⟩
 refine j9 ?_
 refine bD (A:=(Int)×(Unit)) (fun a=>Z0d_J2 L ac a.1=some au) (fun a=>[(1,(sc A5 j D5)),(4,(pt Y 0)),(5,(sc u b D)),(6,(pt J 0)),(7,(iv ac)),(8,(iv a.1))]) (fun a=>aJ Y [(.slice none 0 0),(.slice none 0 0),(iv 0),(iv 0)] 111::OO kT3 3 u D b::aJ J [(sc l i m),(sc a7 L a9),(iv (ix b 0)),(iv v1.Base)] 111::OO kT3 3 l m i::OO kT3 3 a7 a9 L::W1) ?_ ?_
 refine cE ?_
 obtain ⟨ai,g⟩:=gd g
 refine aW ?_
 refine bC 8 aA (show 0<j.length by have:=ai; omega) (fun bj o53 ha=>?_)
 subst ha
 refine cU ?_
 rcases bY g with ⟨a3,g⟩|⟨a3,g⟩
 refine cE ?_
 obtain ⟨a1,g⟩:=gd g
 obtain ⟨b9,ao,g⟩:=bd g
 obtain ⟨aj,g⟩:=gd g
 refine bB 1 aC (show 0<b.length by have:=aj; omega) (fun bk o61 ha=>?_)
 subst ha
 refine dE 13 [] bQ fun ht hn=>?_
 refine pd 0 [] ?_
 refine iM 8 [] ?_
 refine d1 4 R (gZ (K:=kT3) (aK (ac+1)) (j.length:Int) 8 R R bI cI R R R R a1.1 a1.2.1 a1.2.2 (fun bb be=>(aB (aG (sL [0]) (d1 5 R (lM _ (fun w s=>(s.d 0 R)) ?_))))))
 refine lC 1 oe R (Zu_ok ao) R ?_
 rintro _
 refine aB (aG (sL [0]) ?_)
 refine iC 6 [0] ?_
 refine iC 11 [0] ?_
 refine dD ?_
 exact qI ((aK ((ix b b9) - (ix b 0))),()) g (fun w s=>(s.f 6 [1,5]))
 refine aX R a3 (bS ?_)
 exact qI ((0:Int),()) g tI
 rintro ⟨Z,_⟩ σ1 g
 dsimp only [Z0d_J2] at g
 obtain ⟨ak,g⟩:=gd g
 refine bL ?_
 refine bK (K:=kT3) (xs:=([Z]:List Int)) (vs:=[(iv Z)]) 0 R R bI cI gB R R R R R R ?_ R (fun bc bf=>?_)
 exact fun I h s=>(gF).list [((),Z)] I h s
 refine lM _ (fun w s=>(s.f 6 [5,1,0,5])) ?_
 refine dV (K:=kT3) 17592186044416 R R bI cI jN (Zr.zk zT3 gB) R R R R R R dA ak (fun a8 aa=>(lN (OO kT3 3 a8 aa (L++([Z]:List Int))::_::_::_::_::W1) ?_))
 refine cE ?_
 refine cO 3 R R eX R R R R R (lN (_::_::_::aJ J [(sc l i m),(sc a8 (L++([Z]:List Int)) aa),(iv (ix b 0)),(iv v1.Base)] 111::_::W1) ?_)
 refine dM ?_
 cases g
 exact qA (a8,(L++([Z]:List Int)).length,aa) (fun w s=>(s.f 5 [1,4,0,1]))
 refine aX R a2 ?_
 refine bA ?_
 cases g
 obtain rfl:=b2 _ R
 have g:=b3
 refine bA ?_
 exact qI (L,(a7,L.length,a9)) g tI
 rintro ⟨q,⟨F,b1,G⟩⟩ σ1 g
 dsimp only [Z0d_J3] at g
 refine bJ 4 aC (fun (hn:b1=q.length)=>?_)
 subst hn
 refine bA ?_
 obtain ⟨aw,ap,g⟩:=bd g
 obtain ⟨ax,aq,g⟩:=bd g
 obtain ⟨ba,ar,g⟩:=bd g
 refine cQ [(4,(pt Y 0)),(6,(pt J 0)),(74,(.bool ((!aw)||(!ba))))] (aJ Y [(.slice none 0 0),(.slice none 0 0),(iv 0),(iv 0)] 111::aJ J [(sc l i m),(sc F q G),(iv (ix b 0)),(iv v1.Base)] 111::OO kT3 3 l m i::OO kT3 3 F G q::W1) ?_ ?_
 refine bA ?_
 refine lM _ (fun w s=>(s.f 5 [3,2,0,3])) ?_
 refine lC 2 mj R (FnOk.lends (A':=[OO kT3 3 l m i,OO kT3 3 F G q]) (A:=[RR kT3 l m i,RR kT3 F G q]) (B:=[]) (Zb_ok (v1:=(⟨i,q,(ix b 0),v1.Base⟩:View)) ap) ⟨aQ,aQ,trivial⟩ (fun _=>trivial)) R ?_
 rintro _
 refine bA ?_
 rcases bo (!aw) with E | E
 refine dX ?_
 exact qj (tE 5 [2,4,0,1])
 refine lW (cG E) (vz (.agg [(sc l i m),(sc F q G),(iv (ix b 0)),(iv v1.Base)].toArray) (bN 4 eY bW R R R R)) (cD 2 R (cG E) qU R (FnOk.lends (A':=[OO kT3 3 l m i,OO kT3 3 F G q]) (A:=[RR kT3 l m i,RR kT3 F G q]) (B:=[]) (Z0e_ok (v1:=(⟨i,q,(ix b 0),v1.Base⟩:View)) (bR aq (cY E))) ⟨aQ,aQ,trivial⟩ (fun _=>⟨(bH iP),trivial⟩)) R ?_)
 rintro ⟨ae,bh,ag⟩
 refine aM 2 aC ?_
 rintro rfl
 refine cE ?_
 refine lM _ (tE 6 [2,4,0,1,3,5]) ?_
 refine cD 2 R (cG E) vf R (FnOk.lends (A':=[OO kT3 3 ae ag ax,OO kT3 3 u D b]) (A:=[RR kT3 ae ag ax,RR kT3 u D b]) (B:=[]) (Zw_ok (bR ar (cY E))) ⟨aQ,aQ,trivial⟩ (fun _=>trivial)) R ?_
 rintro _
 refine aW ?_
 exact qj (tE 6 [4,5,2,3])
 rintro σ1
 refine cE ?_
 rcases bY g with ⟨a4,g⟩|⟨a4,g⟩
 refine aW ?_
 refine lO (vz (.agg [(.slice none 0 0),(.slice none 0 0),(iv 0),(iv 0)].toArray) (aV eE cF R R)) (aL 0 R R bW R R R R R R (lN (_::_::_::_::W1) ?_))
 refine bL ?_
 cases g
 exact qS ((none,0,0),(none,0,0)) (fun w s=>(((s.nilo kT3 3).nilo kT3 3).e 10 [1,0]))
 refine aX R a4 ?_
 refine cU ?_
 refine aL 0 R R bW R R R R R R (lN (aJ Y [(sc l i m),(sc F q G),(iv (ix b 0)),(iv v1.Base)] 111::_::_::_::W1) ?_)
 refine aW ?_
 cases g
 exact qS ((l,i.length,m),(F,q.length,G)) (tE 8 [2,3])
theorem Z2g_ok  {v1:View}{a:Int}{r:Bool}(b:Z2g v1 a=some r) :
 FnOk Tryz.prog 136 [(.agg [(.slice A2 N2 D2),(.slice A3 N3 D3),(iv v1.Offset),(iv v1.Base)].toArray),(iv a)] [aO kT3 (.slice A2 N2 D2) v1.Dims,aO kT3 (.slice A3 N3 D3) v1.Strides] (fun (h:Unit)=>((.bool r),[])):=by
 unfold Z2g at b
 refine aR Tryz.func136 R 18 R R fun C V=>?_
 refine cL 0 aA ?_
 rintro rfl
 refine cL 1 aA ?_
 rintro rfl
 let q:=RR kT3 A2 D2 v1.Dims::RR kT3 A3 D3 v1.Strides::V
 refine cN q ?_
 refine bA ?_
 refine eJ R fun u=>?_
 refine bA ?_
 let g:=aJ u [(sc A2 v1.Dims D2),(sc A3 v1.Strides D3),(iv v1.Offset),(iv v1.Base)] 111::q
 refine qN g ?_
 refine bA ?_
 obtain ⟨m,l,b⟩:=bd b
 refine cQ [(4,(.bool ((m&&(decide (a≥0)))&&(decide (a<(v1.Dims.length:Int))))))] (g) ?_ ?_
 refine bA ?_
 refine lM _ (fun w s=>(((s.d 1 R).d 3 R).e 2 [1,0])) ?_
 refine lC 2 mj R (Zb_ok l) R ?_
 rintro _
 refine lN g ?_
 refine cE ?_
 rcases bo m with i | i
 refine bL ?_
 rcases bo (m&&(decide (a≥0))) with j | j
 refine dM ?_
 exact qj tI
 refine dM ?_
 exact qj tI
 refine iZ ?_
 exact qj tI
 rintro σ1
 refine bA ?_
 cases b
 exact qF () (tE 3 [])
theorem Z2i_ok  {v1:View}{r:View}(a:Z2i v1=some r) :
 FnOk Tryz.prog 137 [(.agg [(.slice A2 N2 D2),(.slice A3 N3 D3),(iv v1.Offset),(iv v1.Base)].toArray)] [aO kT3 (.slice A2 N2 D2) v1.Dims,aO kT3 (.slice A3 N3 D3) v1.Strides] (fun (h:HH×HH)=>((.agg [(s3 h.1),(s3 h.2),(iv r.Offset),(iv r.Base)].toArray),[ow kT3 3 (s3 h.1) r.Dims,ow kT3 3 (s3 h.2) r.Strides])):=by
 unfold Z2i at a
 refine aR Tryz.func137 R 14 R R fun C V=>?_
 refine cL 0 aA ?_
 rintro rfl
 refine cL 1 aA ?_
 rintro rfl
 let j:=RR kT3 A2 D2 v1.Dims::RR kT3 A3 D3 v1.Strides::V
 refine cN j ?_
 refine bA ?_
 refine eJ R fun m=>?_
 refine aY R R cF (fun q=>(aB ?_))
 let l:=aJ m [(sc A2 v1.Dims D2),(sc A3 v1.Strides D3),(iv v1.Offset),(iv v1.Base)] 111::j
 refine bA ?_
 obtain ⟨g,e,a⟩:=bd a
 obtain ⟨i,b,a⟩:=bd a
 refine dE 12 [0] bQ fun B u=>?_
 refine iC 0 [0] ?_
 refine iC 3 [0] ?_
 refine pd 6 [0] ?_
 refine d1 2 R (lM _ (fun w s=>(s.d 2 R)) ?_)
 refine lC 1 jr R (Ze_ok e) R ?_
 rintro ⟨A8,N8,D8⟩
 refine aM 0 aC ?_
 rintro rfl
 refine aB (aG (sL [1,0]) (d1 5 R (lM _ (fun w s=>(s.d 4 R)) ?_)))
 refine lC 1 jr R (Ze_ok b) R ?_
 rintro ⟨A11,N11,D11⟩
 refine aM 0 aC ?_
 rintro rfl
 refine aB (aG (sL [2,1,0]) (dR 10 R (vz (.agg [(sc A8 g D8),(sc A11 i D11),(iv v1.Offset),(iv v1.Base)].toArray) (aV eE cF R R)) (hS:=(sL [2,1,0])) (d1 11 R (aL 2 R R bW R R R R R R (lN (_::_::aJ q [(sc A8 g D8),(sc A11 i D11),(iv v1.Offset),(iv v1.Base)] 111::l) ?_)))))
 refine aB (aG (sL [2,1,0]) (dD ?_))
 refine bA ?_
 cases a
 exact qS ((A8,g.length,D8),(A11,i.length,D11)) (tE 6 [1,0])
theorem Z2j_ok  {v1:View}{r:View}(a:Z2j v1=some r) :
 FnOk Tryz.prog 138 [(.agg [(.slice A2 N2 D2),(.slice A3 N3 D3),(iv v1.Offset),(iv v1.Base)].toArray)] [aO kT3 (.slice A2 N2 D2) v1.Dims,aO kT3 (.slice A3 N3 D3) v1.Strides] (fun (h:HH×HH)=>((.agg [(s3 h.1),(s3 h.2),(iv r.Offset),(iv r.Base)].toArray),[aO kT3 (s3 h.1) r.Dims,aO kT3 (s3 h.2) r.Strides])):=by
 unfold Z2j at a
 refine aR Tryz.func138 R 8 R R fun C V=>?_
 refine cL 0 aA ?_
 rintro rfl
 refine cL 1 aA ?_
 rintro rfl
 let g:=RR kT3 A2 D2 v1.Dims::RR kT3 A3 D3 v1.Strides::V
 refine cN g ?_
 refine bA ?_
 refine eJ R fun j=>?_
 refine aY R R cF (fun l=>(aB ?_))
 let i:=aJ j [(sc A2 v1.Dims D2),(sc A3 v1.Strides D3),(iv v1.Offset),(iv v1.Base)] 111::g
 refine aW ?_
 obtain ⟨m,b,a⟩:=bd a
 refine bA ?_
 refine lM _ (fun w s=>(((s.d 2 R).d 4 R).e 3 [1,0,2])) ?_
 refine lC 2 mj R (Zb_ok b) R ?_
 rintro _
 refine aW ?_
 split at a
 refine aW ?_
 refine lO (vz (.agg [(.slice none 0 0),(.slice none 0 0),(iv 0),(iv 0)].toArray) (aV eE cF R R)) (aL 0 R R bW R R R R R R (aB (aE (bO (bP ?_)))))
 cases a
 exact qS ((none,0,0),(none,0,0)) (fun w s=>(((s.nilr kT3).nilr kT3).e 6 [1,0]))
 refine cH ?_
 refine aL 0 R R bW R R R R R R (lN (aJ l [(sc A2 v1.Dims D2),(sc A3 v1.Strides D3),(iv v1.Offset),(iv v1.Base)] 111::i) ?_)
 refine aW ?_
 cases a
 exact qS ((A2,v1.Dims.length,D2),(A3,v1.Strides.length,D3)) (tE 4 [2,3])
theorem Z1f_ok  {v1:View}{g:Int}{L:Int}{b:Int}{j:Int}{r:View}(J:Z1f v1 g L b j=some r) :
 FnOk Tryz.prog 96 [(.agg [(.slice A2 N2 D2),(.slice A3 N3 D3),(iv v1.Offset),(iv v1.Base)].toArray),(iv g),(iv L),(iv b),(iv j)] [aO kT3 (.slice A2 N2 D2) v1.Dims,aO kT3 (.slice A3 N3 D3) v1.Strides] (fun (h:HH×HH)=>((.agg [(.slice h.1.1 h.1.2.1 h.1.2.2),(.slice h.2.1 h.2.2.1 h.2.2.2),(iv r.Offset),(iv r.Base)].toArray),[aO kT3 (.slice h.1.1 h.1.2.1 h.1.2.2) r.Dims,aO kT3 (.slice h.2.1 h.2.2.1 h.2.2.2) r.Strides])):=by
 unfold Z1f at J
 refine aR Tryz.func96 R 102 R R fun C V=>?_
 refine cN (_::_::V) ?_
 refine cL 0 aA ?_
 rintro rfl
 refine cL 1 aA ?_
 rintro rfl
 let W0:List HP:=RR kT3 A2 D2 v1.Dims::RR kT3 A3 D3 v1.Strides::V
 refine cN W0 ?_
 refine aI (aD (eJ R (fun b8=>(aY R R cF (fun b9=>(aB ?_))))))
 let U:List HP:=aJ b8 [(sc A2 v1.Dims D2),(sc A3 v1.Strides D3),(iv v1.Offset),(iv v1.Base)] 111::W0
 refine qN (_::U) ?_
 refine aE (aI (aI ?_))
 obtain ⟨a0,aj,J⟩:=bd J
 obtain ⟨a7,J⟩:=gd J
 refine cQ [(1,(iv g)),(2,(iv L)),(3,(iv b)),(4,(iv j)),(5,(pt b8 0)),(10,(pt b9 0)),(45,(.bool (((((((!a0)||(decide (b<(1:Int))))||(decide (b>(4096:Int))))||(decide (j<(-4096:Int))))||(decide (j>(4096:Int))))||(decide (L<(0:Int))))||(decide (L≥(ix v1.Dims g))))))] (aJ b9 [(.slice none 0 0),(.slice none 0 0),(iv 0),(iv 0)] 111::U) ?_ ?_
 refine aD (lO (vz (.agg [(sc A2 v1.Dims D2),(sc A3 v1.Strides D3),(iv v1.Offset),(iv v1.Base)].toArray) (bN 1 eY bW R R R R)) (lI R (lM (RR kT3 A2 D2 v1.Dims::RR kT3 A3 D3 v1.Strides::aJ _ _ _::U) (fun w s=>(((s.d 2 R).d 4 R).e 3 [1,0,2])) ?_)))
 refine lC 2 wC R (Z2g_ok aj) R ?_
 rintro _
 refine lN (_::U) ?_
 refine lO (mf R) (lB R ?_)
 rcases bo (!a0) with l | l
 refine lf (dK l) (lf (dK l) (lO (fE (decide (b<(1:Int))) R l) (lB R (lf (dK (oT l)) (lf (dK (oT l)) (lO (fE (decide (b>(4096:Int))) R (oT l)) (lB R (lf (dK (oT (oT l))) (lf (dK (oT (oT l))) (lO (fE (decide (j<(-4096:Int))) R (oT (oT l))) (lB R (lf (dK (oT (oT (oT l)))) (lf (dK (oT (oT (oT l)))) (lO (fE (decide (j>(4096:Int))) R (oT (oT (oT l)))) (lB R (lf (dK (oT (oT (oT (oT l))))) (lf (dK (oT (oT (oT (oT l))))) (lO (fE (decide (L<(0:Int))) R (oT (oT (oT (oT l))))) (lB R (lf (dK (oT (oT (oT (oT (oT l)))))) (lf (dK (oT (oT (oT (oT (oT l)))))) (lf (dK (oT (oT (oT (oT (oT l)))))) (lf (dK (oT (oT (oT (oT (oT l)))))) (lf (dK (oT (oT (oT (oT (oT l)))))) (lf (dK (oT (oT (oT (oT (oT l)))))) (lf (dK (oT (oT (oT (oT (oT l)))))) (lO (fE (decide (L≥(ix v1.Dims g))) R (oT (oT (oT (oT (oT l)))))) (aB ?_))))))))))))))))))))))))))))
 exact qJ (fun w s=>s)
 refine lW (cG l) (vI R) (lW (cG l) (jz R R) (lO (fZ R l R) (lB R ?_)))
 rcases bo ((!a0)||(decide (b<(1:Int)))) with m | m
 refine lf (dK m) (lf (dK m) (lO (fE (decide (b>(4096:Int))) R m) (lB R (lf (dK (oT m)) (lf (dK (oT m)) (lO (fE (decide (j<(-4096:Int))) R (oT m)) (lB R (lf (dK (oT (oT m))) (lf (dK (oT (oT m))) (lO (fE (decide (j>(4096:Int))) R (oT (oT m))) (lB R (lf (dK (oT (oT (oT m)))) (lf (dK (oT (oT (oT m)))) (lO (fE (decide (L<(0:Int))) R (oT (oT (oT m)))) (lB R (lf (dK (oT (oT (oT (oT m))))) (lf (dK (oT (oT (oT (oT m))))) (lf (dK (oT (oT (oT (oT m))))) (lf (dK (oT (oT (oT (oT m))))) (lf (dK (oT (oT (oT (oT m))))) (lf (dK (oT (oT (oT (oT m))))) (lf (dK (oT (oT (oT (oT m))))) (lO (fE (decide (L≥(ix v1.Dims g))) R (oT (oT (oT (oT m))))) (aB ?_))))))))))))))))))))))))
 exact qJ (fun w s=>s)
 refine lW (cG m) (vI R) (lW (cG m) (z8 R R) (lO (fZ R m R) (lB R ?_)))
 rcases bo (((!a0)||(decide (b<(1:Int))))||(decide (b>(4096:Int)))) with q | q
 refine lf (dK q) (lf (dK q) (lO (fE (decide (j<(-4096:Int))) R q) (lB R (lf (dK (oT q)) (lf (dK (oT q)) (lO (fE (decide (j>(4096:Int))) R (oT q)) (lB R (lf (dK (oT (oT q))) (lf (dK (oT (oT q))) (lO (fE (decide (L<(0:Int))) R (oT (oT q))) (lB R (lf (dK (oT (oT (oT q)))) (lf (dK (oT (oT (oT q)))) (lf (dK (oT (oT (oT q)))) (lf (dK (oT (oT (oT q)))) (lf (dK (oT (oT (oT q)))) (lf (dK (oT (oT (oT q)))) (lf (dK (oT (oT (oT q)))) (lO (fE (decide (L≥(ix v1.Dims g))) R (oT (oT (oT q)))) (aB ?_))))))))))))))))))))
 exact qJ (fun w s=>s)
 refine lW (cG q) (vI R) (lW (cG q) (jz R R) (lO (fZ R q R) (lB R ?_)))
 rcases bo ((((!a0)||(decide (b<(1:Int))))||(decide (b>(4096:Int))))||(decide (j<(-4096:Int)))) with D | D
 refine lf (dK D) (lf (dK D) (lO (fE (decide (j>(4096:Int))) R D) (lB R (lf (dK (oT D)) (lf (dK (oT D)) (lO (fE (decide (L<(0:Int))) R (oT D)) (lB R (lf (dK (oT (oT D))) (lf (dK (oT (oT D))) (lf (dK (oT (oT D))) (lf (dK (oT (oT D))) (lf (dK (oT (oT D))) (lf (dK (oT (oT D))) (lf (dK (oT (oT D))) (lO (fE (decide (L≥(ix v1.Dims g))) R (oT (oT D))) (aB ?_))))))))))))))))
 exact qJ (fun w s=>s)
 refine lW (cG D) (vI R) (lW (cG D) (z8 R R) (lO (fZ R D R) (lB R ?_)))
 rcases bo (((((!a0)||(decide (b<(1:Int))))||(decide (b>(4096:Int))))||(decide (j<(-4096:Int))))||(decide (j>(4096:Int)))) with E | E
 refine lf (dK E) (lf (dK E) (lO (fE (decide (L<(0:Int))) R E) (lB R (lf (dK (oT E)) (lf (dK (oT E)) (lf (dK (oT E)) (lf (dK (oT E)) (lf (dK (oT E)) (lf (dK (oT E)) (lf (dK (oT E)) (lO (fE (decide (L≥(ix v1.Dims g))) R (oT E)) (aB ?_))))))))))))
 exact qJ (fun w s=>s)
 refine lW (cG E) (vI R) (lW (cG E) (jz R R) (lO (fZ R E R) (lB R ?_)))
 rcases bo ((((((!a0)||(decide (b<(1:Int))))||(decide (b>(4096:Int))))||(decide (j<(-4096:Int))))||(decide (j>(4096:Int))))||(decide (L<(0:Int)))) with u | u
 refine lf (dK u) (lf (dK u) (lf (dK u) (lf (dK u) (lf (dK u) (lf (dK u) (lf (dK u) (lO (fE (decide (L≥(ix v1.Dims g))) R u) (aB ?_))))))))
 exact qJ (fun w s=>s)
 refine lW (cG u) (vI R) (lW (cG u) (eC 0 f' R) (lW (cG u) (eH 1 bZ R R R) (lW (cG u) (vI R) (bC 2 aA (show 0<v1.Dims.length by have:=(a7 u); omega) (fun aq o14 ha=>?_)))))
 subst ha
 refine lW (cG u) (eA bI cI R R (a7 u)) (lW (cG u) (gP 2 fC aA R (a7 u)) (lW (cG u) (B5 R R) (lO (fZ R u R) (aB ?_))))
 exact qJ (fun w s=>s)
 rintro σ1
 refine aE ?_
 rcases bY J with ⟨a4,J⟩|⟨a4,J⟩
 refine bM R a4 (aI (aD (lO (vz (.agg [(.slice none 0 0),(.slice none 0 0),(iv 0),(iv 0)].toArray) (aV eE cF R R)) (aL 0 R R bW R R R R R R (aB (aE (bO (bP ?_))))))))
 obtain rfl:=so J
 exact cX (vs:=[(.agg [(.slice none 0 0),(.slice none 0 0),(iv 0),(iv 0)].toArray)]) (.inl R) ((none,0,0),(none,0,0)) R ⟨⟨0,b9,_,_,R,R,.inl ⟨eY,bW,R⟩⟩,trivial⟩ R (fun w s=>(((s.nilr kT3).nilr kT3).e 6 [1,0]))
 refine aX R a4 (bS (aE (aI (aD (lI R (lI R (lO (xl R R) (lI R (lO (sg R R) (lO (jy R R) (lI R (aB (aE (aI (aI ?_)))))))))))))))
 obtain ⟨a8,J⟩:=gd J
 refine cQ [(1,(iv g)),(2,(iv L)),(3,(iv b)),(4,(iv j)),(5,(pt b8 0)),(10,(pt b9 0)),(63,(.bool ((decide ((aK (L+(aK ((aK (b - (1:Int)))*j))))<(0:Int)))||(decide ((aK (L+(aK ((aK (b - (1:Int)))*j))))≥(ix v1.Dims g))))))] (aJ b9 [(.slice none 0 0),(.slice none 0 0),(iv 0),(iv 0)] 111::U) ?_ ?_
 refine aD (lI R (lO (jz R R) (lB R ?_)))
 rcases bo (decide ((aK (L+(aK ((aK (b - (1:Int)))*j))))<(0:Int))) with B | B
 refine lf (dK B) (lf (dK B) (lf (dK B) (lf (dK B) (lf (dK B) (lf (dK B) (lf (dK B) (lO (fE (decide ((aK (L+(aK ((aK (b - (1:Int)))*j))))≥(ix v1.Dims g))) R B) (aB ?_))))))))
 exact qJ (fun w s=>s)
 refine lW (cG B) (vI R) (lW (cG B) (eC 0 f' R) (lW (cG B) (eH 1 bZ R R R) (lW (cG B) (vI R) (bC 2 aA (show 0<v1.Dims.length by have:=(a8 B); omega) (fun ar o24 ha=>?_)))))
 subst ha
 refine lW (cG B) (eA bI cI R R (a8 B)) (lW (cG B) (gP 2 fC aA R (a8 B)) (lW (cG B) (B5 R R) (lO (fZ R B R) (aB ?_))))
 exact qJ (fun w s=>s)
 rintro σ1
 refine aE ?_
 rcases bY J with ⟨a5,J⟩|⟨a5,J⟩
 refine bM R a5 (aI (aD (lO (vz (.agg [(.slice none 0 0),(.slice none 0 0),(iv 0),(iv 0)].toArray) (aV eE cF R R)) (aL 0 R R bW R R R R R R (aB (aE (bO (bP ?_))))))))
 obtain rfl:=so J
 exact cX (vs:=[(.agg [(.slice none 0 0),(.slice none 0 0),(iv 0),(iv 0)].toArray)]) (.inl R) ((none,0,0),(none,0,0)) R ⟨⟨0,b9,_,_,R,R,.inl ⟨eY,bW,R⟩⟩,trivial⟩ R (fun w s=>(((s.nilr kT3).nilr kT3).e 6 [1,0]))
 refine aX R a5 (bS (aE (aI ?_)))
 obtain ⟨i,ak,J⟩:=bd J
 refine aD (lO (vz (.agg [(sc A2 v1.Dims D2),(sc A3 v1.Strides D3),(iv v1.Offset),(iv v1.Base)].toArray) (bN 1 eY bW R R R R)) (lM (RR kT3 A2 D2 v1.Dims::RR kT3 A3 D3 v1.Strides::aJ _ _ _::U) (fun w s=>(((s.d 2 R).d 4 R).e 3 [1,0,2])) ?_))
 refine lC 2 wD R (Z2i_ok ak) R ?_
 rintro ⟨⟨a3,am,M⟩,⟨a2,an,G⟩⟩
 refine lN (ow kT3 3 (.slice a3 am M) i.Dims::ow kT3 3 (.slice a2 an G) i.Strides::_::U) ?_
 refine aM 0 aC ?_
 rintro rfl
 refine aM 1 aC ?_
 rintro rfl
 refine aY R R cF (fun Z=>(aL 0 R R bW R R R R R R (lN (aJ Z [(sc a3 i.Dims M),(sc a2 i.Strides G),(iv i.Offset),(iv i.Base)] 111::_::_::_::U) ?_)))
 refine aB (aE (aI ?_))
 obtain ⟨F,J⟩:=gd J
 refine cQ [(1,(iv g)),(3,(iv b)),(4,(iv j)),(10,(pt b9 0)),(12,(pt Z 0))] (aJ b9 [(.slice none 0 0),(.slice none 0 0),(iv 0),(iv 0)] 111::aJ Z [(sc a3 i.Dims M),(sc a2 i.Strides G),(iv (aK (i.Offset+(aK (L*(ix i.Strides g)))))),(iv i.Base)] 111::OO kT3 3 a3 M i.Dims::OO kT3 3 a2 G i.Strides::U) ?_ ?_
 refine bB 2 aC (show 0<i.Strides.length by have:=F; omega) (fun ai o34 ha=>?_)
 subst ha
 refine dE 12 [0] bQ (fun ht hn=>(dR 0 R (eC 2 mC R) (hS:=(sL [0])) (dR 2 R (vI R) (hS:=(sL [0])) (dR 3 R (eC 1 fN R) (hS:=(sL [0])) (dR 5 R (vI R) (hS:=(sL [0])) (fW [1,4] (by kernel_rfl) R ⟨?_,?_,trivial⟩))))))
 refine lO (eH 0 fC R R R) (aB (aG (sL [0]) (d1 4 R (lO (eH 0 bZ R R R) (aB (aG (sL [0]) (dR 6 R (eA bI cI R R F) (hS:=(sL [0])) (dR 7 R (gP 1 fC aC R F) (hS:=(sL [0])) (dR 8 R (sg R R) (hS:=(sL [0])) (dR 9 R (jy R R) (hS:=(sL [0])) (dR 10 R (eC 2 mC R) (hS:=(sL [0])) (d1 11 R (cO 0 R R cI R R R R R (lN (aJ Z [(sc a3 i.Dims M),(sc (ad ai o34) i.Strides G),(iv (aK (i.Offset+(aK (L*(ix i.Strides g)))))),(iv i.Base)] 111::_::OO kT3 3 (ad ai o34) G i.Strides::_::U) ?_))))))))))))))
 refine aB (aG (sL [0]) (dD ?_))
 exact qJ (fun w s=>(s.e 4 [3,0,1,2]))
 refine lO (eH 0 bZ R R R) (aB (aG (sL [0]) (dR 6 R (eA bI cI R R F) (hS:=(sL [0])) (dR 7 R (gP 1 fC aC R F) (hS:=(sL [0])) (dR 8 R (sg R R) (hS:=(sL [0])) (d1 1 R (lO (eH 0 fC R R R) (aB (aG (sL [0]) (dR 9 R (jy R R) (hS:=(sL [0])) (dR 10 R (eC 2 mC R) (hS:=(sL [0])) (d1 11 R (cO 0 R R cI R R R R R (aB (aG (sL [0]) (dD ?_))))))))))))))))
 exact qJ (fun w s=>(s.e 4 [3,0,1,2]))
 rintro σ1
 refine aE (aI ?_)
 obtain ⟨a1,J⟩:=gd J
 refine aD (lO (eC 0 f' R) (lO (eH 1 bZ R R R) (lI R (lI R (bC 2 aC (show 0<i.Dims.length by have:=a1; omega) (fun Y o37 ha=>?_))))))
 subst ha
 refine lO (eA bI cI R R a1) (lM (OO kT3 3 (ad Y o37) M i.Dims::aJ _ _ _::aJ Z [(sc (ad Y o37) i.Dims M),(sc a2 i.Strides G),(iv (aK (i.Offset+(aK (L*(ix i.Strides g)))))),(iv i.Base)] 111::OO kT3 3 a2 G i.Strides::U) (fun w s=>(s.e 4 [2,0,1,3])) ?_)
 refine eB (K:=kT3) (x':=b) 0 g R R cI R R a1.1 a1.2 ?_ ?_
 exact fun I h s=>(gF).put I h () b s
 refine lN (ow kT3 3 (.slice (ad Y o37) i.Dims.length M) (i.Dims.set g.toNat b)::_::_::_::U) ?_
 refine aB (aE (aI (bB 3 aC (show 0<i.Strides.length by have:=F; omega) (fun T o39 ha=>?_))))
 subst ha
 refine dE 12 [3] bQ (fun ht hn=>(dR 0 R (eC 1 fN R) (hS:=(sL [3])) (dR 1 R (eH 2 bZ R R R) (hS:=(sL [3])) (dR 2 R (vI R) (hS:=(sL [3])) (dR 3 R (eC 1 fN R) (hS:=(sL [3])) (dR 4 R (eH 2 bZ R R R) (hS:=(sL [3])) (dR 5 R (vI R) (hS:=(sL [3])) (dR 6 R (eA bI cI R R F) (hS:=(sL [3])) (dR 8 R (vI R) (hS:=(sL [3])) (d1 7 R (lO (gP 3 fC aC R F) (aB (aG (sL [3]) (dR 9 R (sg R R) (hS:=(sL [3])) (dR 10 R (eA bI cI R R F) (hS:=(sL [3])) (d1 11 R (lM (OO kT3 3 (ad T o39) G i.Strides::ow _ _ _ _::aJ _ _ _::aJ Z [(sc (ad Y o37) i.Dims M),(sc (ad T o39) i.Strides G),(iv (aK (i.Offset+(aK (L*(ix i.Strides g)))))),(iv i.Base)] 111::U) (fun w s=>(s.e 4 [3,0,1,2])) ?_)))))))))))))))))
 refine eB (K:=kT3) (x':=(aK ((ix i.Strides g)*j))) 0 g R R cI R R F.1 F.2 ?_ ?_
 exact fun I h s=>(gF).put I h () (aK ((ix i.Strides g)*j)) s
 refine lN (ow kT3 3 (.slice (ad T o39) i.Strides.length G) (i.Strides.set g.toNat (aK ((ix i.Strides g)*j)))::_::_::_::U) ?_
 refine aB (aG (sL [0]) (dD ?_))
 obtain ⟨ag,a9,J⟩:=bd J
 replace a9:=Option.some.inj a9
 refine qM (ow kT3 3 (.slice (ad T o39) i.Strides.length G) ag::_::_::_::U) (fun w s=>by rw [← a9]; exact s) ?_
 refine aE (aI (bD (A:=((List Int))×(Unit)) (fun a=>Z1f_J1 g L b i a.1=some r) (fun a=>[(10,(pt b9 0)),(12,(pt Z 0))]) (fun a=>aJ b9 [(.slice none 0 0),(.slice none 0 0),(iv 0),(iv 0)] 111::aJ Z [(sc (ad Y o37) i.Dims M),(sc (ad T o39) i.Strides G),(iv (aK (i.Offset+(aK (L*(ix i.Strides g)))))),(iv i.Base)] 111::ow kT3 3 (.slice (ad Y o37) i.Dims.length M) (i.Dims.set g.toNat b)::ow kT3 3 (.slice (ad T o39) i.Strides.length G) a.1::U) ?_ ?_))
 refine aI (aD (lI R (lO (l8 R R) (aB (aE ?_)))))
 rcases bY J with ⟨a6,J⟩|⟨a6,J⟩
 refine bM R a6 (aD (lO (eC 1 fN R) (lO (eH 3 bZ R R R) (lI R (lO (eA bI cI R R F) (eB (K:=kT3) (x':=(0:Int)) 0 g R R cI R R F.1 F.2 ?_ ?_))))))
 exact fun I h s=>(gF).put I h () (0:Int) s
 refine lN (ow kT3 3 (.slice (ad T o39) i.Strides.length G) (ag.set g.toNat (0:Int))::_::_::_::U) ?_
 refine aB ?_
 exact qI ((ag.set g.toNat (0:Int)),()) J (fun w s=>(s.e 4 [2,3,1,0]))
 refine aX R a6 (bS ?_)
 exact qI (ag,()) J (fun w s=>(s.e 4 [2,3,1,0]))
 rintro ⟨ah,_⟩ σ1 J
 replace J:Z1f_J1 g L b i ah=some r:=J
 unfold Z1f_J1 at J
 refine aI ?_
 obtain ⟨O,al,J⟩:=bd J
 refine aD (lO (vz (.agg [(sc (ad Y o37) i.Dims M),(sc (ad T o39) i.Strides G),(iv (aK (i.Offset+(aK (L*(ix i.Strides g)))))),(iv i.Base)].toArray) (bN 1 eY bW R R R R)) (fS (fun w s=>s.shr 2 R) (fS (fun w s=>s.shr 3 R) (lM (aO kT3 (.slice (ad Y o37) i.Dims.length M) (i.Dims.set g.toNat b)::aO kT3 (.slice (ad T o39) i.Strides.length G) ah::aO kT3 (.slice (ad T o39) i.Strides.length G) ah::aO kT3 (.slice (ad Y o37) i.Dims.length M) (i.Dims.set g.toNat b)::aJ _ _ _::aJ _ _ _::U) (fun w s=>(((s.d 1 R).d 1 R).e 6 [1,0,2,3,4,5])) ?_))))
 refine lC 2 wE R (Z2j_ok (v1:=(⟨(i.Dims.set g.toNat b),ah,(aK (i.Offset+(aK (L*(ix i.Strides g))))),i.Base⟩:View)) al) R ?_
 rintro ⟨⟨aa,ao,ac⟩,⟨ab,ap,ae⟩⟩
 refine lN (aO kT3 (.slice aa ao ac) O.Dims::aO kT3 (.slice ab ap ae) O.Strides::_::_::_::_::U) ?_
 refine aM 0 aA ?_
 rintro rfl
 refine aM 1 aA ?_
 rintro rfl
 refine aL 4 R R bW R R R R R R (lN (_::_::_::_::aJ b9 [(sc aa O.Dims ac),(sc ab O.Strides ae),(iv O.Offset),(iv O.Base)] 111::_::U) ?_)
 refine aB (aE (bO ?_))
 obtain rfl:=so J
 exact cX (vs:=[(.agg [(sc aa O.Dims ac),(sc ab O.Strides ae),(iv O.Offset),(iv O.Base)].toArray)]) (.inl R) ((aa,O.Dims.length,ac),(ab,O.Strides.length,ae)) R ⟨⟨4,b9,_,_,R,R,.inl ⟨eY,bW,R⟩⟩,trivial⟩ R (fun w s=>(s.e 9 [0,1]))
theorem Z21_ok  {t1:Tensor}{a:(List Int)}{i:Int}{r:(List Int)}(g:Z21 t1 a i=some r) :
 FnOk Tryz.prog 140 [(.agg [(.slice A2 N2 D2),(.slice A3 N3 D3)].toArray),(.slice A5 N5 D5),(iv i)] [aO kT3 (.slice A2 N2 D2) t1.Dims,ow kT3 3 (.slice A3 N3 D3) t1.Data,aO kT3 (.slice A5 N5 D5) a] (fun (h:Unit)=>((.tuple [].toArray),[ow kT3 3 (.slice A3 N3 D3) r])):=by
 unfold Z21 at g
 refine aR Tryz.func140 R 14 R R fun C V=>?_
 refine cM _ (tE 3 [1,0,2]) ?_
 refine cL 0 aC ?_
 rintro rfl
 refine cL 1 aA ?_
 rintro rfl
 refine cL 2 aA ?_
 rintro rfl
 let l:=RR kT3 A2 D2 t1.Dims::RR kT3 A5 D5 a::V
 refine bA ?_
 refine eJ R fun m=>?_
 refine aB (qM _ (tE 2 [1,0]) ?_)
 let D:=aJ m [(sc A2 t1.Dims D2),(sc A3 t1.Data D3)] 42::l
 refine cE ?_
 obtain ⟨B,j,g⟩:=bd g
 obtain ⟨b,g⟩:=gd g
 refine bB 0 aC (show 0<t1.Data.length by have:=b; omega) (fun q o12 u=>?_)
 subst u
 refine dE 9 [0] bQ fun F E=>?_
 refine kM 0 [0] ?_
 refine pc 6 [0] ?_
 refine d1 5 R (lM _ (fun w s=>(((s.d 2 R).d 4 R).e 3 [1,0,2])) ?_)
 refine lC 2 th R (Z0w_ok j) R ?_
 rintro _
 refine aB (aG (sL [0]) ?_)
 refine pc 7 [0] ?_
 refine d1 8 R (eB (K:=kT3) (x':=i) 0 B R R cI R R b.1 b.2 ?_ ?_)
 exact fun I h s=>(gF).put I h () i s
 refine aB (aG (sL [0]) (dD ?_))
 cases g
 exact B6 () (tE 4 [0])
theorem Z11_ok  {t1:Tensor}{E:Int}{b:Int}{g:Int}{l:Int}{r:Tensor}(j:Z11 t1 E b g l=some r) :
 FnOk Tryz.prog 97 [(.agg [(.slice A2 N2 D2),(.slice A3 N3 D3)].toArray),(iv E),(iv b),(iv g),(iv l)] [aO kT3 (.slice A2 N2 D2) t1.Dims,aO kT3 (.slice A3 N3 D3) t1.Data] (fun (h:HH×HH)=>((.agg [(s3 h.1),(s3 h.2)].toArray),[ow kT3 3 (s3 h.1) r.Dims,ow kT3 3 (s3 h.2) r.Data])):=by
 unfold Z11 at j
 refine aR Tryz.func97 R 101 R R fun C V=>?_
 refine cL 0 aA ?_
 rintro rfl
 refine cL 1 aA ?_
 rintro rfl
 let W0:=RR kT3 A2 D2 t1.Dims::RR kT3 A3 D3 t1.Data::V
 refine cN W0 ?_
 refine bA ?_
 refine eJ R fun b8=>?_
 refine aY R R dZ (fun U=>(aB ?_))
 let W1:=aJ b8 [(sc A2 t1.Dims D2),(sc A3 t1.Data D3)] 42::W0
 refine aW ?_
 obtain ⟨F,ab,j⟩:=bd j
 refine cQ [(1,(iv E)),(2,(iv b)),(3,(iv g)),(4,(iv l)),(5,(pt b8 0)),(10,(pt U 0)),(43,(.bool (((((((!F)||(decide (b<0)))||(decide (b>4096)))||(decide (g<0)))||(decide (g>4096)))||(decide (l<0)))||(decide (l>4096)))))] (aJ U [(.slice none 0 0),(.slice none 0 0)] 42::W1) ?_ ?_
 refine aW ?_
 refine lM _ (fun w s=>(((s.d 2 R).d 4 R).e 3 [1,0,2])) ?_
 refine lC 2 pl R (Z1m_ok ab) R ?_
 rintro _
 refine bA ?_
 rcases bo (!F) with a2 | a2
 refine Bp ?_
 exact qj tI
 refine bL ?_
 rcases bo ((!F)||(decide (b<0))) with a3 | a3
 refine Bo ?_
 exact qj tI
 refine bL ?_
 rcases bo (((!F)||(decide (b<0)))||(decide (b>4096))) with a4 | a4
 refine xt ?_
 exact qj tI
 refine bL ?_
 rcases bo ((((!F)||(decide (b<0)))||(decide (b>4096)))||(decide (g<0))) with a5 | a5
 refine iZ ?_
 exact qj tI
 refine bL ?_
 rcases bo (((((!F)||(decide (b<0)))||(decide (b>4096)))||(decide (g<0)))||(decide (g>4096))) with a6 | a6
 refine dM ?_
 exact qj tI
 refine bL ?_
 rcases bo ((((((!F)||(decide (b<0)))||(decide (b>4096)))||(decide (g<0)))||(decide (g>4096)))||(decide (l<0))) with a7 | a7
 refine bL ?_
 exact qj tI
 refine bL ?_
 exact qj tI
 rintro σ1
 refine cE ?_
 split at j
 refine aW ?_
 refine lO (vz (.agg [(.slice none 0 0),(.slice none 0 0)].toArray) (aV hM dZ R R)) (aL 0 R R bX R R R R R R (aB (aE (bO (bP ?_)))))
 cases j
 exact qS ((none,0,0),(none,0,0)) (fun w s=>(((s.nilo kT3 3).nilo kT3 3).e 6 [1,0]))
 refine bL ?_
 obtain ⟨a8,j⟩:=gd j
 refine bL ?_
 refine bC 2 aA (show 0<t1.Dims.length by have:=a8; omega) (fun ax o21 ha=>?_)
 subst ha
 refine cH ?_
 obtain ⟨L,ac,j⟩:=bd j
 refine pa ?_
 refine lM _ (fun w s=>(s.d 2 R)) ?_
 refine lC 1 lb R (Z0l_ok ac) R ?_
 rintro ⟨I,aq,J⟩
 refine aM 0 aC ?_
 rintro rfl
 refine cU ?_
 obtain ⟨b0,ae,j⟩:=bd j
 refine bA ?_
 refine lC 1 kD R (FnOk.lends (A':=[OO kT3 3 I J L]) (A:=[RR kT3 I J L]) (B:=[]) (Zp_ok ae) ⟨aQ,trivial⟩ (fun _=>trivial)) R ?_
 rintro _
 refine aW ?_
 split at j
 refine aW ?_
 refine lO (vz (.agg [(.slice none 0 0),(.slice none 0 0)].toArray) (aV hM dZ R R)) (aL 1 R R bX R R R R R R (aB (aE (bO (bP ?_)))))
 cases j
 exact qS ((none,0,0),(none,0,0)) (fun w s=>(((s.nilo kT3 3).nilo kT3 3).e 7 [1,0]))
 refine bL ?_
 obtain ⟨i,ag,j⟩:=bd j
 refine bA ?_
 refine lC 1 la R (FnOk.lends (A':=[OO kT3 3 I J L]) (A:=[RR kT3 I J L]) (B:=[]) (Z0k_ok ag) ⟨aQ,trivial⟩ (fun _=>⟨(bH iP),(bH iP),trivial⟩)) R ?_
 rintro ⟨⟨m,ar,u⟩,⟨q,au,D⟩⟩
 refine aM 1 aC ?_
 rintro rfl
 refine aM 2 aC ?_
 rintro rfl
 refine aY R R dZ (fun G=>(aL 0 R R bX R R R R R R (lN (aJ G [(sc m i.Dims u),(sc q i.Data D)] 42::_::_::_::_::W1) ?_)))
 refine aW ?_
 refine bD (A:=((List Int))×(Unit)) (fun a=>Z11_J1 i a.1=some r) (fun a=>[(10,(pt U 0)),(13,(pt G 0))]) (fun a=>aJ U [(.slice none 0 0),(.slice none 0 0)] 42::aJ G [(sc m i.Dims u),(sc q i.Data D)] 42::OO kT3 3 m u i.Dims::ow kT3 3 (.slice q i.Data.length D) a.1::W1) ?_ ?_
 refine cH ?_
 obtain ⟨e1,am,al⟩:=bd j
 refine bE (A:=Unit) am (fun s a=>[(1,(iv E)),(2,(iv b)),(4,(iv l)),(5,(pt b8 0)),(10,(pt U 0)),(13,(pt G 0)),(14,(iv s.2))]) (fun s a=>aJ U [(.slice none 0 0),(.slice none 0 0)] 42::aJ G [(sc m i.Dims u),(sc q i.Data D)] 42::OO kT3 3 m u i.Dims::ow kT3 3 (.slice q i.Data.length D) s.1::W1) () (aS R) (tE 5 [4,0,2,3]) ?_
 rintro ⟨M,az⟩ _ σ1 ao j ak
 dsimp only [Z11_L1] at j
 refine dH ?_
 split at j
 refine cH ?_
 obtain ⟨Y,ah,j⟩:=bd j
 refine bL ?_
 refine lM _ (fun w s=>(s.d 5 R)) ?_
 refine lC 1 mh R (Zl_ok ah) R ?_
 rintro ⟨ap,av,a0⟩
 refine aM 0 aC ?_
 rintro rfl
 refine aW ?_
 obtain ⟨a9,j⟩:=gd j
 obtain ⟨Z,ai,j⟩:=bd j
 obtain ⟨aa,j⟩:=gd j
 obtain ⟨b1,aj,j⟩:=bd j
 refine bB 0 aC (show 0<Y.length by have:=a9; omega) (fun a1 o56 ha=>?_)
 subst ha
 refine bB 7 aA (show 0<t1.Data.length by have:=aa; omega) (fun ay o62 ha=>?_)
 subst ha
 refine dE 19 [4] bQ fun ht hn=>?_
 refine v7 0 [4] ?_
 refine kM 13 [4] ?_
 refine d1 12 R (lC 1 lb R (FnOk.lends (A':=[OO kT3 3 (ad a1 o56) a0 Y]) (A:=[RR kT3 (ad a1 o56) a0 Y]) (B:=[]) (Z0l_ok ai) ⟨aQ,trivial⟩ (fun _=>⟨(bH iP),trivial⟩)) R ?_)
 rintro ⟨O,aw,T⟩
 refine aM 1 aC ?_
 rintro rfl
 refine aB (aG (sL [5,1]) (d1 18 R (lM _ (tE 6 [4,1,5,0,2,3]) ?_)))
 refine lC 3 tl R (FnOk.lends (A':=[OO kT3 3 m u i.Dims,OO kT3 3 O T Z]) (A:=[RR kT3 m u i.Dims,RR kT3 O T Z]) (B:=[ow kT3 3 (.slice q i.Data.length D) M]) (FnOk.perm (Z21_ok (t1:=(⟨i.Dims,M⟩:Tensor)) aj) (Pre':=[RR kT3 m u i.Dims,RR kT3 O T Z,ow kT3 3 (.slice q i.Data.length D) M]) (fun _ _ _ s=>(s.e 3 [0,2,1]))) ⟨aQ,aQ,trivial⟩ (fun _=>⟨(bH iP),trivial⟩)) R ?_
 rintro _
 refine aB (aG (tE 6 [3,4,5,0]) (dD ?_))
 refine dX ?_
 cases j
 exact qA () (tE 6 [4,5,0,2])
 refine aW ?_
 cases j
 obtain rfl:=ak _ R
 have j:=al
 refine bA ?_
 exact qI (M,()) j tI
 rintro ⟨an,_⟩ σ1 j
 dsimp only [Z11_J1] at j
 refine aW ?_
 refine aL 0 R R bX R R R R R R (lN (aJ U [(sc m i.Dims u),(sc q i.Data D)] 42::_::_::ow kT3 3 (.slice q i.Data.length D) an::W1) ?_)
 refine aW ?_
 cases j
 exact qS ((m,i.Dims.length,u),(q,i.Data.length,D)) (tE 7 [2,3])
theorem Z10_ok  {t1:Tensor}{q:Int}{b:(List Int)}{r:Tensor}(g:Z10 t1 q b=some r) :
 FnOk Tryz.prog 98 [(.agg [(.slice A2 N2 D2),(.slice A3 N3 D3)].toArray),(iv q),(.slice A6 N6 D6)] [aO kT3 (.slice A2 N2 D2) t1.Dims,aO kT3 (.slice A3 N3 D3) t1.Data,aO kT3 (.slice A6 N6 D6) b] (fun (h:HH×HH)=>((.agg [(s3 h.1),(s3 h.2)].toArray),[ow kT3 3 (s3 h.1) r.Dims,ow kT3 3 (s3 h.2) r.Data])):=by
 unfold Z10 at g
 refine aR Tryz.func98 R 70 R R fun C V=>?_
 refine cL 0 aA ?_
 rintro rfl
 refine cL 1 aA ?_
 rintro rfl
 refine cL 2 aA ?_
 rintro rfl
 let W0:=RR kT3 A2 D2 t1.Dims::RR kT3 A3 D3 t1.Data::RR kT3 A6 D6 b::V
 refine cN W0 ?_
 refine bA ?_
 refine eJ R fun b7=>?_
 refine aY R R dZ (fun U=>(aB ?_))
 let W1:=aJ b7 [(sc A2 t1.Dims D2),(sc A3 t1.Data D3)] 42::W0
 refine aW ?_
 obtain ⟨r9,a6,g⟩:=bd g
 obtain ⟨M,g⟩:=gd g
 obtain ⟨al,a7,g⟩:=bd g
 refine cQ [(1,(iv q)),(2,(sc A6 b D6)),(3,(pt b7 0)),(6,(pt U 0)),(29,(.bool (((!r9)||((b.length:Int)==0))||(!al))))] (aJ U [(.slice none 0 0),(.slice none 0 0)] 42::W1) ?_ ?_
 refine aW ?_
 refine lM _ (fun w s=>(((s.d 2 R).d 4 R).e 3 [1,0,2])) ?_
 refine lC 2 pl R (Z1m_ok a6) R ?_
 rintro _
 refine bA ?_
 rcases bo (!r9) with a3 | a3
 refine pb ?_
 exact qj tI
 refine cU ?_
 rcases bo ((!r9)||((b.length:Int)==0)) with j | j
 refine dH ?_
 exact qj tI
 refine bL ?_
 refine bC 2 aA (show 0<t1.Dims.length by have:=(M j); omega) (fun ax o13 Y=>?_)
 subst Y
 refine lW (cG j) (eA bI cI R R (M j)) (lW (cG j) (gP 2 fC aA R (M j)) (lM _ (fun w s=>(s.d 4 R)) ?_))
 refine cD 1 R (cG j) ve R (Z0m_ok (bR a7 (cY j))) R ?_
 rintro _
 refine aW ?_
 exact qj tI
 rintro σ1
 refine cE ?_
 split at g
 refine aW ?_
 refine lO (vz (.agg [(.slice none 0 0),(.slice none 0 0)].toArray) (aV hM dZ R R)) (aL 0 R R bX R R R R R R (aB (aE (bO (bP ?_)))))
 cases g
 exact qS ((none,0,0),(none,0,0)) (fun w s=>(((s.nilo kT3 3).nilo kT3 3).e 7 [1,0]))
 refine bL ?_
 obtain ⟨G,a8,g⟩:=bd g
 refine cH ?_
 refine lM _ (fun w s=>(s.d 2 R)) ?_
 refine lC 1 lb R (Z0l_ok a8) R ?_
 rintro ⟨u,aq,E⟩
 refine aM 0 aC ?_
 rintro rfl
 refine cU ?_
 obtain ⟨b0,a9,g⟩:=bd g
 refine bA ?_
 refine lC 1 kD R (FnOk.lends (A':=[OO kT3 3 u E G]) (A:=[RR kT3 u E G]) (B:=[]) (Zp_ok a9) ⟨aQ,trivial⟩ (fun _=>trivial)) R ?_
 rintro _
 refine aW ?_
 split at g
 refine aW ?_
 refine lO (vz (.agg [(.slice none 0 0),(.slice none 0 0)].toArray) (aV hM dZ R R)) (aL 1 R R bX R R R R R R (aB (aE (bO (bP ?_)))))
 cases g
 exact qS ((none,0,0),(none,0,0)) (fun w s=>(((s.nilo kT3 3).nilo kT3 3).e 8 [1,0]))
 refine bL ?_
 obtain ⟨i,aa,g⟩:=bd g
 refine bA ?_
 refine lC 1 la R (FnOk.lends (A':=[OO kT3 3 u E G]) (A:=[RR kT3 u E G]) (B:=[]) (Z0k_ok aa) ⟨aQ,trivial⟩ (fun _=>⟨(bH iP),(bH iP),trivial⟩)) R ?_
 rintro ⟨⟨D,ar,F⟩,⟨l,au,m⟩⟩
 refine aM 1 aC ?_
 rintro rfl
 refine aM 2 aC ?_
 rintro rfl
 refine aY R R dZ (fun L=>(aL 0 R R bX R R R R R R (lN (aJ L [(sc D i.Dims F),(sc l i.Data m)] 42::_::_::_::_::W1) ?_)))
 refine aW ?_
 refine bD (A:=((List Int))×(Unit)) (fun a=>Z10_J1 i a.1=some r) (fun a=>[(6,(pt U 0)),(8,(pt L 0))]) (fun a=>aJ U [(.slice none 0 0),(.slice none 0 0)] 42::aJ L [(sc D i.Dims F),(sc l i.Data m)] 42::OO kT3 3 D F i.Dims::ow kT3 3 (.slice l i.Data.length m) a.1::W1) ?_ ?_
 refine cH ?_
 obtain ⟨e1,aj,ai⟩:=bd g
 refine bE (A:=Unit) aj (fun s a=>[(1,(iv q)),(2,(sc A6 b D6)),(3,(pt b7 0)),(6,(pt U 0)),(7,(sc u G E)),(8,(pt L 0)),(9,(iv s.2))]) (fun s a=>aJ U [(.slice none 0 0),(.slice none 0 0)] 42::OO kT3 3 u E G::aJ L [(sc D i.Dims F),(sc l i.Data m)] 42::OO kT3 3 D F i.Dims::ow kT3 3 (.slice l i.Data.length m) s.1::W1) () (aS R) (tE 5 [4,1,0,2,3]) ?_
 rintro ⟨am,ak⟩ _ σ1 ao g ah
 dsimp only [Z10_L1] at g
 refine dH ?_
 split at g
 refine cH ?_
 obtain ⟨Z,ab,g⟩:=bd g
 refine aW ?_
 refine lM _ (tE 5 [1,0,2,3,4]) ?_
 refine lC 1 mh R (FnOk.lends (A':=[OO kT3 3 u E G]) (A:=[RR kT3 u E G]) (B:=[]) (Zl_ok ab) ⟨aQ,trivial⟩ (fun _=>⟨(bH iP),trivial⟩)) R ?_
 rintro ⟨ap,av,a1⟩
 refine aM 1 aC ?_
 rintro rfl
 refine aW ?_
 obtain ⟨a4,g⟩:=gd g
 obtain ⟨a5,g⟩:=gd g
 obtain ⟨a0,ac,g⟩:=bd g
 obtain ⟨ag,ae,g⟩:=bd g
 obtain ⟨J,g⟩:=gd g
 refine bB 1 aC (show 0<Z.length by have:=a4; omega) (fun a2 o56 Y=>?_)
 subst Y
 refine bB 9 aA (show 0<b.length by have:=a5; omega) (fun ay o59 Y=>?_)
 subst Y
 refine bB 5 aC (show 0<i.Data.length by have:=J; omega) (fun az o67 Y=>?_)
 subst Y
 refine dE 17 [5] bQ fun ht hn=>?_
 refine mY 0 [5] ?_
 refine d1 13 R (lM _ (tE 6 [1,0,2,3,4,5]) ?_)
 refine lC 1 lb R (FnOk.lends (A':=[OO kT3 3 (ad a2 o56) a1 Z]) (A:=[RR kT3 (ad a2 o56) a1 Z]) (B:=[]) (Z0l_ok ac) ⟨aQ,trivial⟩ (fun _=>⟨(bH iP),trivial⟩)) R ?_
 rintro ⟨O,aw,T⟩
 refine aM 1 aC ?_
 rintro rfl
 refine aB (aG (tE 7 [2,0,3,4,5]) (d1 14 R (lM _ (fun w s=>(((s.d 8 R).d 10 R).e 9 [3,1,0,2,4,5,6,7,8])) ?_)))
 refine lC 3 nO R (FnOk.lends (A':=[OO kT3 3 O T a0]) (A:=[RR kT3 O T a0]) (B:=[RR kT3 A2 D2 t1.Dims,RR kT3 A3 D3 t1.Data]) (FnOk.perm (Z1c_ok ae) (Pre':=[RR kT3 O T a0,RR kT3 A2 D2 t1.Dims,RR kT3 A3 D3 t1.Data]) (fun _ _ _ s=>(s.e 3 [1,2,0]))) ⟨aQ,trivial⟩ (fun _=>trivial)) R ?_
 rintro _
 refine aB (aG (tE 7 [2,1,3,4,5]) (dR 15 R (eA bI cI R R J) (hS:=(tE 7 [2,1,3,4,5])) (d1 16 R (lM _ (fun w s=>(s.f 7 [6,1,0,6])) ?_))))
 refine eB (K:=kT3) (x':=ag) 0 ak R R cI R R J.1 J.2 ?_ ?_
 exact fun I h s=>(gF).put I h () ag s
 refine aB (aG (tE 7 [3,2,4,5,6]) (dD ?_))
 refine dX ?_
 cases g
 exact qA () (tE 7 [4,3,5,6,0])
 refine aW ?_
 cases g
 obtain rfl:=ah _ R
 have g:=ai
 refine bA ?_
 exact qI (am,()) g (tE 5 [0,2,3,4])
 rintro ⟨an,_⟩ σ1 g
 dsimp only [Z10_J1] at g
 refine aW ?_
 refine aL 0 R R bX R R R R R R (lN (aJ U [(sc D i.Dims F),(sc l i.Data m)] 42::aJ L [(sc D i.Dims F),(sc l i.Data m)] 42::_::ow kT3 3 (.slice l i.Data.length m) an::W1) ?_)
 refine aW ?_
 cases g
 exact qS ((D,i.Dims.length,F),(l,i.Data.length,m)) (tE 8 [2,3])
theorem Z12_ok  {t1:Tensor}{j:Int}{i:(List Int)}{n7:Int}{r:Tensor}(g:Z12 t1 j i n7=some r) :
 FnOk Tryz.prog 99 [(.agg [(.slice A2 N2 D2),(.slice A3 N3 D3)].toArray),(iv j),(.slice A6 N6 D6),(iv n7)] [aO kT3 (.slice A2 N2 D2) t1.Dims,aO kT3 (.slice A3 N3 D3) t1.Data,aO kT3 (.slice A6 N6 D6) i] (fun (h:HH×HH)=>((.agg [(s3 h.1),(s3 h.2)].toArray),[ow kT3 3 (s3 h.1) r.Dims,ow kT3 3 (s3 h.2) r.Data])):=by
 unfold Z12 at g
 refine aR Tryz.func99 R 80 R R fun C V=>?_
 refine cL 0 aA ?_
 rintro rfl
 refine cL 1 aA ?_
 rintro rfl
 refine cL 2 aA ?_
 rintro rfl
 let W0:=RR kT3 A2 D2 t1.Dims::RR kT3 A3 D3 t1.Data::RR kT3 A6 D6 i::V
 refine cN W0 ?_
 refine bA ?_
 refine eJ R fun b8=>?_
 refine aY R R dZ (fun Y=>(aB ?_))
 let W1:=aJ b8 [(sc A2 t1.Dims D2),(sc A3 t1.Data D3)] 42::W0
 refine aW ?_
 obtain ⟨a0,a7,g⟩:=bd g
 obtain ⟨L,g⟩:=gd g
 obtain ⟨am,a8,g⟩:=bd g
 refine cQ [(1,(iv j)),(2,(sc A6 i D6)),(3,(iv n7)),(4,(pt b8 0)),(8,(pt Y 0)),(33,(.bool (((!a0)||((i.length:Int) != (ix t1.Dims j)))||(!am))))] (aJ Y [(.slice none 0 0),(.slice none 0 0)] 42::W1) ?_ ?_
 refine aW ?_
 refine lM _ (fun w s=>(((s.d 2 R).d 4 R).e 3 [1,0,2])) ?_
 refine lC 2 pl R (Z1m_ok a7) R ?_
 rintro _
 refine bA ?_
 rcases bo (!a0) with D | D
 refine xt ?_
 exact qj tI
 refine cU ?_
 refine bC 2 aA (show 0<t1.Dims.length by have:=(L D); omega) (fun ax o14 Z=>?_)
 subst Z
 refine lW (cG D) (eA bI cI R R (L D)) (lW (cG D) (gP 2 fC aA R (L D)) ?_)
 refine aW ?_
 rcases bo ((!a0)||((i.length:Int) != (ix t1.Dims j))) with J | J
 refine cH ?_
 exact qj tI
 refine bA ?_
 refine lM _ (fun w s=>(s.d 4 R)) ?_
 refine cD 1 R (cG J) ve R (Z0m_ok (bR a8 (cY J))) R ?_
 rintro _
 refine aW ?_
 exact qj tI
 rintro σ1
 refine cE ?_
 split at g
 refine aW ?_
 refine lO (vz (.agg [(.slice none 0 0),(.slice none 0 0)].toArray) (aV hM dZ R R)) (aL 0 R R bX R R R R R R (aB (aE (bO (bP ?_)))))
 cases g
 exact qS ((none,0,0),(none,0,0)) (fun w s=>(((s.nilo kT3 3).nilo kT3 3).e 7 [1,0]))
 refine bL ?_
 obtain ⟨U,a9,g⟩:=bd g
 refine cU ?_
 refine lM _ (fun w s=>(s.d 2 R)) ?_
 refine lC 1 lb R (Z0l_ok a9) R ?_
 rintro ⟨O,aq,T⟩
 refine aM 0 aC ?_
 rintro rfl
 refine cU ?_
 obtain ⟨b1,aa,g⟩:=bd g
 refine bA ?_
 refine lC 1 kD R (FnOk.lends (A':=[OO kT3 3 O T U]) (A:=[RR kT3 O T U]) (B:=[]) (Zp_ok aa) ⟨aQ,trivial⟩ (fun _=>trivial)) R ?_
 rintro _
 refine aW ?_
 split at g
 refine aW ?_
 refine lO (vz (.agg [(.slice none 0 0),(.slice none 0 0)].toArray) (aV hM dZ R R)) (aL 1 R R bX R R R R R R (aB (aE (bO (bP ?_)))))
 cases g
 exact qS ((none,0,0),(none,0,0)) (fun w s=>(((s.nilo kT3 3).nilo kT3 3).e 8 [1,0]))
 refine bL ?_
 obtain ⟨b,ab,g⟩:=bd g
 refine bA ?_
 refine lC 1 la R (FnOk.lends (A':=[OO kT3 3 O T U]) (A:=[RR kT3 O T U]) (B:=[]) (Z0k_ok ab) ⟨aQ,trivial⟩ (fun _=>⟨(bH iP),(bH iP),trivial⟩)) R ?_
 rintro ⟨⟨l,ar,q⟩,⟨m,au,u⟩⟩
 refine aM 1 aC ?_
 rintro rfl
 refine aM 2 aC ?_
 rintro rfl
 refine aY R R dZ (fun I=>(aL 0 R R bX R R R R R R (lN (aJ I [(sc l b.Dims q),(sc m b.Data u)] 42::_::_::_::_::W1) ?_)))
 refine aW ?_
 refine bD (A:=((List Int))×(Unit)) (fun a=>Z12_J1 b a.1=some r) (fun a=>[(8,(pt Y 0)),(10,(pt I 0))]) (fun a=>aJ Y [(.slice none 0 0),(.slice none 0 0)] 42::aJ I [(sc l b.Dims q),(sc m b.Data u)] 42::OO kT3 3 l q b.Dims::ow kT3 3 (.slice m b.Data.length u) a.1::W1) ?_ ?_
 refine cH ?_
 obtain ⟨e1,al,ak⟩:=bd g
 refine bE (A:=Unit) al (fun s a=>[(1,(iv j)),(2,(sc A6 i D6)),(4,(pt b8 0)),(8,(pt Y 0)),(10,(pt I 0)),(11,(iv s.2))]) (fun s a=>aJ Y [(.slice none 0 0),(.slice none 0 0)] 42::aJ I [(sc l b.Dims q),(sc m b.Data u)] 42::OO kT3 3 l q b.Dims::ow kT3 3 (.slice m b.Data.length u) s.1::W1) () (aS R) (tE 5 [4,0,2,3]) ?_
 rintro ⟨E,b0⟩ _ σ1 ao g aj
 dsimp only [Z12_L1] at g
 refine dH ?_
 split at g
 refine cH ?_
 obtain ⟨a1,ac,g⟩:=bd g
 refine bL ?_
 refine lM _ (fun w s=>(s.d 5 R)) ?_
 refine lC 1 mh R (Zl_ok ac) R ?_
 rintro ⟨ap,av,a2⟩
 refine aM 0 aC ?_
 rintro rfl
 refine bL ?_
 obtain ⟨a4,g⟩:=gd g
 obtain ⟨a5,g⟩:=gd g
 obtain ⟨M,ae,g⟩:=bd g
 refine cH ?_
 refine bC 0 aC (show 0<a1.length by have:=a4; omega) (fun a3 o61 Z=>?_)
 subst Z
 refine bA ?_
 refine bC 8 aA (show 0<i.length by have:=a5; omega) (fun ay o64 Z=>?_)
 subst Z
 refine bA ?_
 refine lC 1 lb R (FnOk.lends (A':=[OO kT3 3 (ad a3 o61) a2 a1]) (A:=[RR kT3 (ad a3 o61) a2 a1]) (B:=[]) (Z0l_ok ae) ⟨aQ,trivial⟩ (fun _=>⟨(bH iP),trivial⟩)) R ?_
 rintro ⟨F,aw,G⟩
 refine aM 1 aC ?_
 rintro rfl
 refine aW ?_
 obtain ⟨b2,ag,g⟩:=bd g
 obtain ⟨a6,g⟩:=gd g
 obtain ⟨b3,ah,g⟩:=bd g
 obtain ⟨b4,ai,g⟩:=bd g
 refine bB 8 aA (show 0<t1.Data.length by have:=a6; omega) (fun az o72 Z=>?_)
 subst Z
 refine dE 12 [5] bQ fun ht hn=>?_
 refine pd 0 [5] ?_
 refine kM 5 [5] ?_
 refine d1 4 R (lM _ (tE 6 [4,5,1,0,2,3]) ?_)
 refine lC 3 nO R (FnOk.lends (A':=[OO kT3 3 l q b.Dims,ow kT3 3 (.slice m b.Data.length u) E,OO kT3 3 F G M]) (A:=[RR kT3 l q b.Dims,aO kT3 (.slice m b.Data.length u) E,RR kT3 F G M]) (B:=[]) (Z1c_ok (t1:=(⟨b.Dims,E⟩:Tensor)) ag) ⟨aQ,aQ,aQ,trivial⟩ (fun _=>trivial)) R ?_
 rintro _
 refine aB (aG (tE 6 [3,2,4,5,0]) (d1 10 R (lC 0 qT R (Z1s_ok ah) R ?_)))
 rintro _
 refine aB (aG (tE 6 [3,2,4,5,0]) (d1 11 R (lM _ (tE 6 [0,2,1,3,4,5]) ?_)))
 refine lC 3 tl R (FnOk.lends (A':=[OO kT3 3 l q b.Dims,OO kT3 3 F G M]) (A:=[RR kT3 l q b.Dims,RR kT3 F G M]) (B:=[ow kT3 3 (.slice m b.Data.length u) E]) (FnOk.perm (Z21_ok (t1:=(⟨b.Dims,E⟩:Tensor)) ai) (Pre':=[RR kT3 l q b.Dims,RR kT3 F G M,ow kT3 3 (.slice m b.Data.length u) E]) (fun _ _ _ s=>(s.e 3 [0,2,1]))) ⟨aQ,aQ,trivial⟩ (fun _=>⟨(bH iP),trivial⟩)) R ?_
 rintro _
 refine aB (aG (tE 6 [3,1,4,5,0]) (dD ?_))
 refine dX ?_
 cases g
 exact qA () (tE 6 [4,5,0,2])
 refine aW ?_
 cases g
 obtain rfl:=aj _ R
 have g:=ak
 refine bA ?_
 exact qI (E,()) g tI
 rintro ⟨an,_⟩ σ1 g
 dsimp only [Z12_J1] at g
 refine aW ?_
 refine aL 0 R R bX R R R R R R (lN (aJ Y [(sc l b.Dims q),(sc m b.Data u)] 42::_::_::ow kT3 3 (.slice m b.Data.length u) an::W1) ?_)
 refine aW ?_
 cases g
 exact qS ((l,b.Dims.length,q),(m,b.Data.length,u)) (tE 8 [2,3])
end Go.Proofs.YthelanpdjajnbaaGreat
