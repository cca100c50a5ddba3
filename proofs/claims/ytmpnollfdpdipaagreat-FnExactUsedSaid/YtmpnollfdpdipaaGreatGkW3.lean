import Derived.Test.YtmpnollfdpdipaaGreatGkF
import Derived.Test.YtmpnollfdpdipaaGreatGkW2
set_option linter.unusedVariables false
set_option maxRecDepth 20000
namespace Go.Proofs.YtmpnollfdpdipaaGreat
open Go Go.Pg
variable {A2 A3 A5 A6:Option Addr}{D2 D3 D5 D6 N2 N3 N5 N6:Nat}
theorem Z5_ok  {a7:aN}{i:(List Tensor)}{r:Tensor}(b:Z5 a7 i=some r) :
 FnOk Tryz.prog 81 [(aD a7),(.slice A3 N3 D3)] [aO dX (.slice A3 N3 D3) i] (fun (h:HH×HH)=>((.agg [(s3 h.1),(s3 h.2)].toArray),[ow kT3 3 (s3 h.1) r.Dims,ow kT3 3 (s3 h.2) r.Data])):=by
 unfold Z5 at b
 refine aQ Tryz.func81 R 142 R R fun C V=>?_
 refine cL 0 aA ?_
 rintro rfl
 let W0:=RR dX A3 D3 i::V
 refine cN W0 ?_
 refine aV ?_
 refine bF R R dT (fun Y=>(aC (aI (aM ?_))))
 obtain ⟨l,bq,b⟩:=bd b
 refine aE (lO (vp (aD a7) R) (lC 0 yM R (Z0_ok bq) R ?_))
 rintro ⟨A7,N7,D7⟩
 refine aL 0 aB ?_
 rintro rfl
 refine lO (vT R) (lS R (lO (vp (aD l.2.1) R) (lB R (lS R (lO (vp (aD l.2.1) R) ?_)))))
 refine cA ?_
 refine cQ [(1,(sc A3 i D3)),(4,(pt Y 0)),(5,(sc A7 l.1 D7)),(6,(aD l.2.1)),(35,(.bool ((!l.2.2)||((l.1.length:Int) != (i.length:Int)))))] (aJ Y [(.slice none 0 0),(.slice none 0 0)] 58::OO dQ 9 A7 D7 l.1::W0) ?_ ?_
 refine bG ?_
 rcases bo (!l.2.2) with bz | bz
 refine dN ?_
 exact qj (tE 2 [1,0])
 refine dN ?_
 exact qj (tE 2 [1,0])
 rintro σ1
 refine bT ?_
 split at b
 refine aP ?_
 refine lO (vz (.agg [(.slice none 0 0),(.slice none 0 0)].toArray) (aW gO dT R R)) (aK 0 R R bS R R R R R R (aC (aI (bW (cE ?_)))))
 cases b
 exact qS ((none,0,0),(none,0,0)) (fun w s=>(((s.nilo kT3 3).nilo kT3 3).e 5 [1,0]))
 refine cA ?_
 refine bM (K:=bL) (xs:=([]:List (List Int))) (vs:=[]) 0 R R kt fU mx R R R R R R ?_ R (fun A10 D10=>?_)
 exact fun I h s=>(mZ).list [] I h s
 refine bG ?_
 refine bB (A:=((List (List Int)))×(HH)) (fun a=>Z5_J1 i l a.1=some r) (fun a=>[(1,(sc A3 i D3)),(4,(pt Y 0)),(5,(sc A7 l.1 D7)),(6,(aD l.2.1)),(8,(s3 a.2))]) (fun a=>aJ Y [(.slice none 0 0),(.slice none 0 0)] 58::OO dQ 9 A7 D7 l.1::ow (bL).share 23 (s3 a.2) a.1::W0) ?_ ?_
 refine bV ?_
 obtain ⟨e1,bi,b2⟩:=bd b
 refine bD (A:=HH) bi (fun s a=>[(1,(sc A3 i D3)),(4,(pt Y 0)),(5,(sc A7 l.1 D7)),(6,(aD l.2.1)),(8,(s3 a)),(9,(iv s.2))]) (fun s a=>aJ Y [(.slice none 0 0),(.slice none 0 0)] 58::OO dQ 9 A7 D7 l.1::ow (bL).share 23 (s3 a) s.1::W0) (A10,([]:List (List Int)).length,D10) (aS R) (fun w s=>((s.wk 0 R).e 3 [1,2,0])) ?_
 rintro ⟨J,U⟩ ⟨bh,c4,c3⟩ σ1 cc b ba
 dsimp only [Z5_L1] at b
 refine bH 2 eW (fun (hn:c4=J.length)=>?_)
 subst hn
 refine cX ?_
 split at b
 refine dN ?_
 obtain ⟨ab,b⟩:=gd b
 obtain ⟨cu,bc,b⟩:=bd b
 refine aP ?_
 refine bC 3 aA (show 0<i.length by have:=ab; omega) (fun bu o29 ha=>?_)
 subst ha
 refine bT ?_
 refine gS (K:=dX) 3 U dT58.dec R ab.1 ab.2 ?_
 rintro ⟨⟨ar,au⟩,⟨bl,bk⟩⟩
 refine lO (vz (.agg [(sc ar ((ix i U).Dims) au),(sc bl ((ix i U).Data) bk)].toArray) (eK (fo:=0) 0 fG bS R R R R)) (lM _ (fun w s=>(((s.d 1 R).d 3 R).f 8 [1,1,0,1,2,6])) ?_)
 refine lC 2 nG R (Zp_ok bc) R ?_
 rintro _
 refine aP ?_
 split at b
 refine aP ?_
 refine lO (vz (.agg [(.slice none 0 0),(.slice none 0 0)].toArray) (aW gO dT R R)) (aK 3 R R bS R R R R R R (aC (aI (bW (cE (dF (cE ?_)))))))
 cases b
 obtain rfl:=ba _ R
 have b:=b2
 refine aP ?_
 cases b
 exact qS ((none,0,0),(none,0,0)) (fun w s=>(((s.nilo kT3 3).nilo kT3 3).e 9 [1,0]))
 refine aP ?_
 obtain ⟨bb,b⟩:=gd b
 refine cA ?_
 refine lO (vz (.pointer (some ⟨bu,o29+U.toNat*2,none⟩)) (j4 iX R R)) (lO (eH (fo:=0) 0 cO R R R) (lM _ (fun w s=>(s.d 1 R)) ?_))
 refine bM (K:=(bL).share) (xs:=([(ix i U).Dims]:List (List Int))) (vs:=[(sc ar ((ix i U).Dims) au)]) 1 R R kt fU mx R R R R R R ?_ R (fun co cr=>?_)
 exact fun I h s=>(sw).list [((sc ar ((ix i U).Dims) au),(ix i U).Dims)] I h s
 refine lM _ (fun w s=>(s.f 7 [6,1,0,6])) ?_
 refine eD (K:=(bL).share) 5864062014805 R R kt fU uz (Zr.zk (Zr.share zT23) mx) R R R R R R dP bb (fun b8 b6=>(lN (OO (bL).share 23 b8 b6 (J++([(ix i U).Dims]:List (List Int)))::_::_::_::_::_::W0) ?_))
 refine cX ?_
 cases b
 exact qA (b8,(J++([(ix i U).Dims]:List (List Int))).length,b6) (tE 6 [4,5,0])
 refine aP ?_
 cases b
 obtain rfl:=ba _ R
 have b:=b2
 refine aV ?_
 exact qI (J,(bh,J.length,c3)) b tI
 rintro ⟨a2,⟨ay,bs,b1⟩⟩ σ1 b
 dsimp only [Z5_J1] at b
 refine bH 2 eW (fun (hn:bs=a2.length)=>?_)
 subst hn
 refine bT ?_
 obtain ⟨j,bf,b⟩:=bd b
 refine aV ?_
 refine lO (vp (aD l.2.1) R) (lS R (lM _ (tE 3 [1,2,0]) ?_))
 refine lC 2 yN R (FnOk.lends (A':=[OO dQ 9 A7 D7 l.1,OO (bL).share 23 ay b1 a2]) (A:=[RR dQ A7 D7 l.1,RR bL ay b1 a2]) (B:=[]) (Z2_ok bf) ⟨aU,qg,trivial⟩ (fun _=>⟨(bI iW),trivial⟩)) R ?_
 rintro ⟨M,ci,O⟩
 refine aL 2 aB ?_
 rintro rfl
 refine lO (vT R) (lO (vp (aD j.1) R) (lS R (lB R (lO (vp (aD j.1) R) ?_))))
 refine bV ?_
 obtain ⟨a8,b⟩:=gd b
 obtain ⟨c2,b5,b⟩:=bd b
 refine cQ [(1,(sc A3 i D3)),(4,(pt Y 0)),(5,(sc A7 l.1 D7)),(6,(aD l.2.1)),(10,(aD j.1)),(11,(sc M j.2.1 O)),(76,(.bool ((!j.2.2)||(!c2))))] (aJ Y [(.slice none 0 0),(.slice none 0 0)] 58::OO dQ 9 A7 D7 l.1::RR kT3 M O j.2.1::W0) ?_ ?_
 refine bG ?_
 rcases bo (!j.2.2) with G | G
 refine cZ ?_
 exact qj (fun w s=>((s.shr 2 R).e 4 [3,1,0]))
 refine bT ?_
 refine lW (b' G) (vp (aD l.2.1) R) (lW (b' G) (vz (il l.2.1) (dM fJ R)) (iT (fun w s=>s.shr 2 R) (gA (K:=kT3) (0:Int) (l.2.1.length:Int) 0 R (b' G) bK cC R R R R (a8 G).1 (a8 G).2.1 (a8 G).2.2 (fun cj cp=>(lM _ (fun w s=>(s.d 0 R)) ?_)))))
 refine bY 1 R (b' G) kj R (Zm_ok (bN b5 (cS G))) R ?_
 rintro _
 refine aP ?_
 exact qj (tE 5 [4,2,1])
 rintro σ1
 refine bT ?_
 split at b
 refine aP ?_
 refine lO (vz (.agg [(.slice none 0 0),(.slice none 0 0)].toArray) (aW gO dT R R)) (aK 0 R R bS R R R R R R (lN (_::_::_::W0) ?_))
 refine bG ?_
 cases b
 exact qS ((none,0,0),(none,0,0)) (fun w s=>(((s.nilo kT3 3).nilo kT3 3).e 6 [1,0]))
 refine bG ?_
 obtain ⟨ak,b⟩:=gd b
 obtain ⟨g,be,b⟩:=bd b
 refine aV ?_
 refine lO (vp (aD l.2.1) R) (lO (vz (il l.2.1) (dM fJ R)) (gA (K:=kT3) (0:Int) (l.2.1.length:Int) 2 R R bK cC R R R R ak.1 ak.2.1 ak.2.2 (fun cs ct=>(lM _ (fun w s=>(s.d 0 R)) ?_))))
 refine lC 1 nH R (Z0i_ok be) R ?_
 rintro ⟨⟨m,ck,q⟩,⟨u,cn,D⟩⟩
 refine aL 0 aB ?_
 rintro rfl
 refine aL 1 aB ?_
 rintro rfl
 refine bF R R dT (fun F=>(aK 0 R R bS R R R R R R (lN (aJ F [(sc m g.Dims q),(sc u g.Data D)] 58::_::_::_::_::_::_::W0) ?_)))
 refine cZ ?_
 refine bB (A:=(Int)×(Unit)) (fun a=>Z5_J2 i l j g a.1=some r) (fun a=>[(1,(sc A3 i D3)),(4,(pt Y 0)),(5,(sc A7 l.1 D7)),(6,(aD l.2.1)),(10,(aD j.1)),(11,(sc M j.2.1 O)),(13,(pt F 0)),(14,(iv a.1))]) (fun a=>aJ Y [(.slice none 0 0),(.slice none 0 0)] 58::OO dQ 9 A7 D7 l.1::RR kT3 M O j.2.1::aJ F [(sc m g.Dims q),(sc u g.Data D)] 58::OO kT3 3 m q g.Dims::OO kT3 3 u D g.Data::W0) ?_ ?_
 refine bV ?_
 obtain ⟨e2,bw,c1⟩:=bd b
 refine bD (A:=Unit) bw (fun s a=>[(1,(sc A3 i D3)),(4,(pt Y 0)),(5,(sc A7 l.1 D7)),(6,(aD l.2.1)),(10,(aD j.1)),(11,(sc M j.2.1 O)),(13,(pt F 0)),(14,(iv s.1)),(15,(iv s.2))]) (fun s a=>aJ Y [(.slice none 0 0),(.slice none 0 0)] 58::OO dQ 9 A7 D7 l.1::RR kT3 M O j.2.1::aJ F [(sc m g.Dims q),(sc u g.Data D)] 58::OO kT3 3 m q g.Dims::OO kT3 3 u D g.Data::W0) () (aS R) (fun w s=>(s.f 7 [4,3,0,3])) ?_
 rintro ⟨al,cq⟩ _ σ1 c8 b bn
 dsimp only [Z5_L2] at b
 refine cX ?_
 split at b
 refine cA ?_
 obtain ⟨bg,b⟩:=gd b
 refine bG ?_
 refine bC 2 aA (show 0<j.2.1.length by have:=bg; omega) (fun cm o68 ha=>?_)
 subst ha
 refine iK ?_
 cases b
 exact qA () tI
 refine aP ?_
 cases b
 obtain rfl:=bn _ R
 have b:=c1
 refine aV ?_
 exact qI (al,()) b tI
 rintro ⟨a1,_⟩ σ1 b
 dsimp only [Z5_J2] at b
 refine aM (bB (A:=((List Int))×(Unit)) (fun a=>Z5_J5 g a.1=some r) (fun a=>[(4,(pt Y 0)),(13,(pt F 0))]) (fun a=>aJ Y [(.slice none 0 0),(.slice none 0 0)] 58::aJ F [(sc m g.Dims q),(sc u g.Data D)] 58::OO kT3 3 m q g.Dims::ow kT3 3 (.slice u g.Data.length D) a.1::W0) ?_ ?_)
 refine bV ?_
 obtain ⟨e3,bj,c0⟩:=bd b
 refine bD (A:=Unit) bj (fun s a=>[(1,(sc A3 i D3)),(4,(pt Y 0)),(5,(sc A7 l.1 D7)),(6,(aD l.2.1)),(10,(aD j.1)),(11,(sc M j.2.1 O)),(13,(pt F 0)),(14,(iv a1)),(16,(iv s.2))]) (fun s a=>aJ Y [(.slice none 0 0),(.slice none 0 0)] 58::OO dQ 9 A7 D7 l.1::RR kT3 M O j.2.1::aJ F [(sc m g.Dims q),(sc u g.Data D)] 58::OO kT3 3 m q g.Dims::ow kT3 3 (.slice u g.Data.length D) s.1::W0) () (aS R) tI ?_
 rintro ⟨T,ae⟩ _ σ1 b7 b br
 dsimp only [Z5_L3] at b
 refine cZ ?_
 split at b
 refine bV ?_
 obtain ⟨L,aq,b⟩:=bd b
 refine aP ?_
 refine lM _ (fun w s=>(s.d 2 R)) ?_
 refine lC 1 lA R (Zh_ok aq) R ?_
 rintro ⟨a0,c9,Z⟩
 refine aL 0 aB ?_
 rintro rfl
 refine cX ?_
 refine bB (A:=(Int)×(Unit)) (fun a=>Z5_J4 l g T ae L a.1=some b7) (fun a=>[(1,(sc A3 i D3)),(4,(pt Y 0)),(5,(sc A7 l.1 D7)),(6,(aD l.2.1)),(10,(aD j.1)),(11,(sc M j.2.1 O)),(13,(pt F 0)),(14,(iv a1)),(16,(iv ae)),(17,(sc a0 L Z)),(18,(iv a.1))]) (fun a=>aJ Y [(.slice none 0 0),(.slice none 0 0)] 58::OO dQ 9 A7 D7 l.1::RR kT3 M O j.2.1::aJ F [(sc m g.Dims q),(sc u g.Data D)] 58::OO kT3 3 m q g.Dims::ow kT3 3 (.slice u g.Data.length D) T::OO kT3 3 a0 Z L::W0) ?_ ?_
 refine bV ?_
 obtain ⟨e4,bp,bv⟩:=bd b
 refine bD (A:=Unit) bp (fun s a=>[(1,(sc A3 i D3)),(4,(pt Y 0)),(5,(sc A7 l.1 D7)),(6,(aD l.2.1)),(10,(aD j.1)),(11,(sc M j.2.1 O)),(13,(pt F 0)),(14,(iv a1)),(16,(iv ae)),(17,(sc a0 L Z)),(18,(iv s.1)),(19,(iv s.2))]) (fun s a=>aJ Y [(.slice none 0 0),(.slice none 0 0)] 58::OO dQ 9 A7 D7 l.1::RR kT3 M O j.2.1::aJ F [(sc m g.Dims q),(sc u g.Data D)] 58::OO kT3 3 m q g.Dims::ow kT3 3 (.slice u g.Data.length D) T::OO kT3 3 a0 Z L::W0) () (aS R) (fun w s=>(s.f 7 [1,6,0,1])) ?_
 rintro ⟨b3,E⟩ _ σ1 ca b bm
 dsimp only [Z5_L4] at b
 refine cX ?_
 split at b
 refine cA ?_
 obtain ⟨a4,b⟩:=gd b
 obtain ⟨a5,b⟩:=gd b
 obtain ⟨ai,aw,b⟩:=bd b
 obtain ⟨c7,ax,b⟩:=bd b
 obtain ⟨ch,ao,b⟩:=bd b
 refine aZ 7 aA (show 0<i.length by have:=a4; omega) (fun cg o149 ha=>?_)
 subst ha
 refine dL (K:=dX) 7 E dT58.dec R a4.1 a4.2 ?_
 rintro ⟨⟨a9,aj⟩,⟨ag,ac⟩⟩
 refine aZ 4 aB (show 0<l.1.length by have:=a5; omega) (fun c6 o154 ha=>?_)
 subst ha
 refine dG 15 [] bP fun ht hn=>?_
 refine oA 0 [] ?_
 refine dR 4 R (vz (.agg [(sc a9 ((ix i E).Dims) aj),(sc ag ((ix i E).Data) ac)].toArray) (eK (fo:=0) 0 fG bS R R R R)) ?_
 refine iw 5 [] ?_
 refine dR 8 R (vz (aD (ix l.1 E)) (hW (K:=dQ) (fo:=0) (pr:=fun x=>(aD x)) 4 E re (dT9.leaf fun _ _=>R) aB R a5.1 a5.2)) (dR 9 R (vp (aD j.1) R) (dR 10 R (vS R) (d1 11 R (lM _ (fun w s=>(s.f 10 [9,1,0,9])) ?_))))
 refine lC 1 yO R (FnOk.lends (A':=[OO kT3 3 a0 Z L]) (A:=[RR kT3 a0 Z L]) (B:=[]) (Zf_ok aw) ⟨aU,trivial⟩ (fun _=>⟨(bI iW),trivial⟩)) R ?_
 rintro ⟨aa,c5,ah⟩
 refine aL 1 aB ?_
 rintro rfl
 refine aC (aG (fun w s=>(s.f 11 [2,9,0,1])) (d1 12 R (lM _ (fun w s=>(((s.d 3 R).d 5 R).f 13 [3,1,1,1,0,1,2,1,4,9])) ?_)))
 refine lC 3 nb R (FnOk.lends (A':=[OO kT3 3 aa ah ai]) (A:=[RR kT3 aa ah ai]) (B:=[RR kT3 a9 aj ((ix i E).Dims),RR kT3 ag ac ((ix i E).Data)]) (FnOk.perm (Z16_ok ax) (Pre':=[RR kT3 aa ah ai,RR kT3 a9 aj ((ix i E).Dims),RR kT3 ag ac ((ix i E).Data)]) (fun _ _ _ s=>(s.e 3 [1,2,0]))) ⟨aU,trivial⟩ (fun _=>trivial)) R ?_
 rintro _
 refine aC (aG (fun w s=>(s.f 11 [2,9,1,1])) (d1 13 R (lC 0 oE R (Z1f_ok ao) R ?_)))
 rintro _
 refine aC (aG (fun w s=>(s.f 11 [2,9,1,1])) (dR 14 R (vI R) (hS:=(fun w s=>(s.f 11 [2,9,1,1]))) (dD ?_)))
 refine dN ?_
 cases b
 exact qA () (fun w s=>(s.f 11 [5,6,1,1]))
 refine aP ?_
 cases b
 obtain rfl:=bm _ R
 have b:=bv
 refine aV ?_
 exact qI (b3,()) b tI
 rintro ⟨cf,_⟩ σ1 b
 dsimp only [Z5_J4] at b
 refine bT ?_
 obtain ⟨a6,b⟩:=gd b
 obtain ⟨b0,ap,b⟩:=bd b
 refine dG 8 [6] bP fun ht hn=>?_
 refine iw 0 [6] ?_
 refine dR 3 R (vp (aD l.2.1) R) (hS:=(sL [6])) (dR 4 R (vz (il l.2.1) (dM fJ R)) (hS:=(sL [6])) (d1 5 R (iT (fun w s=>s.shr 6 R) (gA (K:=kT3) (0:Int) (l.2.1.length:Int) 0 R R bK cC R R R R a6.1 a6.2.1 a6.2.2 (fun az b9=>(aC (aG (sL [1,0]) (d1 6 R (lM _ (fun w s=>((s.d 0 R).f 9 [7,1,0,7,8,1])) ?_)))))))))
 refine lC 2 sG R (FnOk.lends (A':=[OO kT3 3 m q g.Dims]) (A:=[RR kT3 m q g.Dims]) (B:=[RR kT3 az b9 (sub L (0:Int) (l.2.1.length:Int))]) (Z0n_ok ap) ⟨aU,trivial⟩ (fun _=>trivial)) R ?_
 rintro _
 refine aC (aG (tE 8 [3,4,5,6,0,7]) (dR 7 R (vI R) (hS:=(tE 8 [3,4,5,6,0,7])) (dD (aI ?_))))
 obtain ⟨a3,b⟩:=gd b
 obtain ⟨an,av,b⟩:=bd b
 refine aZ 7 aB (show 0<g.Data.length by have:=a3; omega) (fun cb o171 ha=>?_)
 subst ha
 refine dG 12 [7] bP fun ht hn=>?_
 refine su 0 [7] ?_
 refine oz 8 [7] ?_
 refine d1 7 R (lO (gP 7 fP aB R a3) (aC (aG (sL [7]) (d1 9 R (lC 0 qk R (Z1m_ok av) R ?_)))))
 rintro _
 refine aC (aG (sL [7]) ?_)
 refine oz 10 [7] ?_
 refine d1 11 R (lM _ (fun w s=>(s.f 8 [7,1,0,7])) ?_)
 refine dV (K:=kT3) (x':=an) 0 b0 R R cC R R a3.1 a3.2 ?_ ?_
 exact fun I h s=>(gD).put I h () an s
 refine aC (aG (sL [0]) (dD ?_))
 refine dN ?_
 cases b
 exact qA () (tE 8 [4,5,6,7,1,0])
 refine aP ?_
 cases b
 obtain rfl:=br _ R
 have b:=c0
 refine aV ?_
 exact qI (T,()) b (tE 6 [0,3,4,5])
 rintro ⟨am,_⟩ σ1 b
 dsimp only [Z5_J5] at b
 refine aP ?_
 refine aK 0 R R bS R R R R R R (lN (aJ Y [(sc m g.Dims q),(sc u g.Data D)] 58::aJ F [(sc m g.Dims q),(sc u g.Data D)] 58::_::ow kT3 3 (.slice u g.Data.length D) am::W0) ?_)
 refine aP ?_
 cases b
 exact qS ((m,g.Dims.length,q),(u,g.Data.length,D)) (tE 5 [2,3])
theorem Z0h_ok  {v1:View}{r:View}(b:Z0h v1=some r) :
 FnOk Tryz.prog 118 [(.agg [(.slice A2 N2 D2),(.slice A3 N3 D3),(iv v1.Offset),(iv v1.Base)].toArray)] [aO kT3 (.slice A2 N2 D2) v1.Dims,ow kT3 3 (.slice A3 N3 D3) v1.Strides] (fun (h:HH×HH)=>((.agg [(s3 h.1),(s3 h.2),(iv r.Offset),(iv r.Base)].toArray),[aO kT3 (s3 h.1) r.Dims,ow kT3 3 (s3 h.2) r.Strides])):=by
 unfold Z0h at b
 refine aQ Tryz.func118 R 22 R R fun C V=>?_
 refine cM _ (tE 2 [1,0]) ?_
 refine cL 0 aB ?_
 rintro rfl
 refine cL 1 aA ?_
 rintro rfl
 let L:=RR kT3 A2 D2 v1.Dims::V
 refine aV ?_
 refine eB R fun q=>?_
 refine bF R R cY (fun j=>(aC (qM _ (tE 3 [0,2,1]) ?_)))
 let u:=aJ q [(sc A2 v1.Dims D2),(sc A3 v1.Strides D3),(iv v1.Offset),(iv v1.Base)] 96::L
 refine aV ?_
 refine bB (A:=((List Int))×(Unit)) (fun a=>Z0h_J3 v1 a.1=some r) (fun a=>[(1,(pt q 0)),(2,(pt j 0))]) (fun a=>aJ j [(.slice none 0 0),(.slice none 0 0),(iv 0),(iv 0)] 96::ow kT3 3 (.slice A3 v1.Strides.length D3) a.1::u) ?_ ?_
 refine bV ?_
 obtain ⟨T,E,F⟩:=bd b
 refine bD (A:=Unit) E (fun s a=>[(1,(pt q 0)),(2,(pt j 0)),(3,(iv s.1))]) (fun s a=>aJ j [(.slice none 0 0),(.slice none 0 0),(iv 0),(iv 0)] 96::ow kT3 3 (.slice A3 v1.Strides.length D3) s.2::u) () (aS R) tI ?_
 rintro ⟨g,i⟩ _ σ1 m b G
 dsimp only [Z0h_L1] at b
 refine cU ?_
 split at b
 refine bG ?_
 refine bB (A:=((List Int))×(Unit)) (fun a=>Z0h_J2 g a.1=some m) (fun a=>[(1,(pt q 0)),(2,(pt j 0)),(3,(iv g))]) (fun a=>aJ j [(.slice none 0 0),(.slice none 0 0),(iv 0),(iv 0)] 96::ow kT3 3 (.slice A3 v1.Strides.length D3) a.1::u) ?_ ?_
 refine aV ?_
 obtain ⟨l,b⟩:=gd b
 refine bG ?_
 refine bC 3 aA (show 0<v1.Dims.length by have:=l; omega) (fun M o20 B=>?_)
 subst B
 refine cA ?_
 split at b
 refine bT ?_
 obtain ⟨e,b⟩:=gd b
 refine bG ?_
 refine bC 1 aB (show 0<v1.Strides.length by have:=e; omega) (fun O o24 B=>?_)
 subst B
 refine bT ?_
 refine lM _ (tE 2 [1,0]) ?_
 refine dV (K:=kT3) (x':=(0:Int)) 0 g R R cC R R e.1 e.2 ?_ ?_
 exact fun I h s=>(gD).put I h () (0:Int) s
 refine aV ?_
 exact qI ((i.set g.toNat (0:Int)),()) b (tE 2 [1,0])
 refine aP ?_
 exact qI (i,()) b tI
 rintro ⟨J,_⟩ σ1 b
 dsimp only [Z0h_J2] at b
 refine cA ?_
 cases b
 exact qA () tI
 refine aP ?_
 cases b
 obtain rfl:=G _ R
 have b:=F
 refine aV ?_
 exact qI (i,()) b tI
 rintro ⟨D,_⟩ σ1 b
 dsimp only [Z0h_J3] at b
 refine aP ?_
 refine aK 0 R R cH R R R R R R (lN (aJ j [(sc A2 v1.Dims D2),(sc A3 v1.Strides D3),(iv v1.Offset),(iv v1.Base)] 96::ow kT3 3 (.slice A3 v1.Strides.length D3) D::u) ?_)
 refine aP ?_
 cases b
 exact qS ((A2,v1.Dims.length,D2),(A3,v1.Strides.length,D3)) (tE 4 [3,1])
theorem Zx_ok  {b:(List Int)}{r:View}(g:Zx b=some r) :
 FnOk Tryz.prog 84 [(.slice A2 N2 D2)] [aO kT3 (.slice A2 N2 D2) b] (fun (h:HH×HH)=>((.agg [(.slice h.1.1 h.1.2.1 h.1.2.2),(.slice h.2.1 h.2.2.1 h.2.2.2),(iv r.Offset),(iv r.Base)].toArray),[aO kT3 (.slice h.1.1 h.1.2.1 h.1.2.2) r.Dims,ow kT3 3 (.slice h.2.1 h.2.2.1 h.2.2.2) r.Strides])):=by
 unfold Zx at g
 refine aQ Tryz.func84 R 32 R R fun C V=>?_
 refine cN (_::V) ?_
 refine cL 0 aA ?_
 rintro rfl
 let m:List HP:=RR kT3 A2 D2 b::V
 refine cN m ?_
 refine aM (aE (bF R R cY (fun Y=>(aC (aI (aM (aM ?_)))))))
 obtain ⟨r4,ab,g⟩:=bd g
 refine aE (lS R (lM (RR kT3 A2 D2 b::_::m) (fun w s=>(s.d 1 R)) ?_))
 refine lC 1 kj R (Zm_ok ab) R ?_
 rintro _
 refine lN (_::m) ?_
 refine lO (rJ R) (aC (aI ?_))
 rcases cG g with ⟨a2,g⟩|⟨a2,g⟩
 refine bZ R a2 (aM (aE (lO (vz (.agg [(.slice none 0 0),(.slice none 0 0),(iv 0),(iv 0)].toArray) (aW fE cY R R)) (aK 0 R R cH R R R R R R (aC (aI (bW (cE ?_))))))))
 obtain rfl:=so g
 exact dI (vs:=[(.agg [(.slice none 0 0),(.slice none 0 0),(iv 0),(iv 0)].toArray)]) (.inl R) ((none,0,0),(none,0,0)) R ⟨⟨0,Y,_,_,R,R,.inl ⟨gJ,cH,R⟩⟩,trivial⟩ R (fun w s=>(((s.nilr kT3).nilo kT3 3).e 4 [1,0]))
 refine bJ R a2 (cP (aI (aM ?_)))
 obtain ⟨u,ah,g⟩:=bd g
 obtain ⟨j,a9,g⟩:=bd g
 refine aE (lS R (lM (RR kT3 A2 D2 b::_::m) (fun w s=>(s.d 1 R)) ?_))
 refine lC 1 jW R (Zs_ok ah) R ?_
 rintro ⟨A9,N9,D9⟩
 refine lN (ow kT3 3 (.slice A9 N9 D9) u::_::m) ?_
 refine aL 0 aB ?_
 rintro rfl
 refine lS R (lM (RR kT3 A2 D2 b::_::_::m) (fun w s=>(s.d 2 R)) ?_)
 refine lC 1 nE R (Zv_ok a9) R ?_
 rintro _
 refine lN (_::_::m) ?_
 refine lO (vz (.agg [(sc A9 u D9),(.slice none 0 0),(iv 0),(iv j)].toArray) (aW fE cY R R)) (bF R R cY (fun q=>(aK 0 R R cH R R R R R R (lN (aJ q [(sc A9 u D9),(.slice none 0 0),(iv 0),(iv j)] 96::_::_::m) ?_))))
 refine aC (aI (aM (bB (A:=((List Int))×(HH)) (fun a=>Zx_J1 u j a.1=some r) (fun a=>[(2,(pt Y 0)),(3,(pt q 0))]) (fun a=>aJ Y [(.slice none 0 0),(.slice none 0 0),(iv 0),(iv 0)] 96::aJ q [(sc A9 u D9),(.slice a.2.1 a.2.2.1 a.2.2.2),(iv 0),(iv j)] 96::OO kT3 3 A9 D9 u::ow kT3 3 (.slice a.2.1 a.2.2.1 a.2.2.2) a.1::m) ?_ ?_)))
 refine aM (aE (lI R (aC (aI (dC ?_)))))
 obtain ⟨e1,ac,ag⟩:=bd g
 refine bD (A:=HH) ac (fun s a=>[(0,(sc A2 b D2)),(2,(pt Y 0)),(3,(pt q 0)),(4,(iv s.2))]) (fun s a=>aJ Y [(.slice none 0 0),(.slice none 0 0),(iv 0),(iv 0)] 96::aJ q [(sc A9 u D9),(.slice a.1 a.2.1 a.2.2),(iv 0),(iv j)] 96::OO kT3 3 A9 D9 u::ow kT3 3 (.slice a.1 a.2.1 a.2.2) s.1::m) (none,0,0) (aS R) (fun w s=>((s.nilo kT3 3).e 4 [3,1,2,0])) ?_
 rintro ⟨l,G⟩ ⟨a3,ak,T⟩ σ1 a7 g ai
 replace g:Zx_L1 b l G=some a7:=g
 unfold Zx_L1 at g
 refine bH 3 aB (fun (hn:ak=l.length)=>?_)
 subst hn
 refine aM (aM (aE (lI R (lS R (lO (jG bK R) (lO (mW R R) (aC (aI ?_))))))))
 rcases cG g with ⟨E,g⟩|⟨E,g⟩
 refine bZ R E (cP (aI (aM (dC ?_))))
 obtain ⟨F,g⟩:=gd g
 obtain ⟨B,a8,g⟩:=bd g
 obtain ⟨a4,g⟩:=gd g
 refine dG 8 [] bP (fun ht hn=>(dR 0 R (fS 1 fZ R) (dR 1 R (gB 1 cO R R R) (dR 2 R (vS R) (dR 3 R (vI R) (dR 4 R (kK R R) (d1 5 R (gA (K:=kT3) (aH (G+(1:Int))) (b.length:Int) 4 R R bK cC R R R R F.1 F.2.1 F.2.2 (fun a5 a6=>(aC (aG (sL [0]) (d1 6 R (lM (RR kT3 a5 a6 (sub b (aH (G+(1:Int))) (b.length:Int))::RR kT3 a5 a6 (sub b (aH (G+(1:Int))) (b.length:Int))::_::aJ q [(sc A9 u D9),(sc a3 l T),(iv 0),(iv j)] 96::_::OO kT3 3 a3 T l::m) (fun w s=>(s.d 0 R)) ?_)))))))))))))
 refine lC 1 nE R (Zv_ok a8) R ?_
 rintro _
 refine lN (_::_::_::_::_::m) ?_
 refine aC (aG (sL [0]) (d1 7 R (bM (K:=kT3) (xs:=([B]:List Int)) (vs:=[(iv B)]) 0 R R bK cC gF R R R R R R ?_ R (fun ae aj=>?_))))
 exact fun I h s=>(gD).list [((),B)] I h s
 refine lN (OO kT3 3 ae aj ([B]:List Int)::_::_::_::_::_::m) ?_
 refine aC (aG (sL [1,0]) (d1 8 R (lM (ow _ _ _ _::ow _ _ _ _::aO _ _ _::aJ _ _ _::aJ _ _ _::ow _ _ _ _::m) (fun w s=>(s.f 6 [5,1,0,5])) ?_)))
 refine eD (K:=kT3) 17592186044416 R R bK cC kl (Zr.zk zT3 gF) R R R R R R dP a4 (fun a1 a0=>(lN (OO kT3 3 a1 a0 (l++([B]:List Int))::_::_::_::_::m) ?_))
 refine aC (qE (d1 9 R (lO (fS 1 fZ R) (aC (qE (d1 10 R (cT 3 R R fU R R R R R (lN (_::_::_::aJ q [(sc A9 u D9),(sc a1 (l++([B]:List Int)) a0),(iv 0),(iv j)] 96::_::m) ?_))))))))
 refine aC (qE (dD (dO (aI (aE (lI R (lO (kK R R) (lI R (aC ?_)))))))))
 obtain rfl:=so g
 exact qA (a1,(l++([B]:List Int)).length,a0) (fun w s=>(s.e 5 [2,3,4,0]))
 refine bJ R E (gR (dZ ?_))
 obtain rfl:=so g
 obtain rfl:=ai _ R
 have g:=ag
 refine dZ (fM ?_)
 exact qI (l,(a3,l.length,T)) g (fun w s=>s)
 rintro ⟨D,⟨Z,an,U⟩⟩ σ1 g
 replace g:Zx_J1 u j D=some r:=g
 unfold Zx_J1 at g
 refine bH 3 aB (fun (hn:an=D.length)=>?_)
 subst hn
 refine aM ?_
 obtain ⟨i,aa,g⟩:=bd g
 refine aE (lO (vz (.agg [(sc A9 u D9),(sc Z D U),(iv 0),(iv j)].toArray) (dJ 1 gJ cH R R R R)) (iT (fun w s=>s.shr 2 R) (lM (RR kT3 A9 D9 u::OO kT3 3 Z U D::RR kT3 A9 D9 u::aJ _ _ _::aJ q [(sc A9 u D9),(sc Z D U),(iv 0),(iv j)] 96::m) (fun w s=>((s.d 0 R).e 5 [0,4,1,2,3])) ?_)))
 refine lC 2 yP R (Z0h_ok (v1:=(⟨u,D,(0:Int),j⟩:View)) aa) R ?_
 rintro ⟨⟨J,al,O⟩,⟨L,am,M⟩⟩
 refine lN (aO kT3 (.slice J al O) i.Dims::ow kT3 3 (.slice L am M) i.Strides::_::_::_::m) ?_
 refine aL 0 aA ?_
 rintro rfl
 refine aL 1 aB ?_
 rintro rfl
 refine aK 3 R R cH R R R R R R (lN (_::_::_::aJ Y [(sc J i.Dims O),(sc L i.Strides M),(iv i.Offset),(iv i.Base)] 96::_::m) ?_)
 refine aC (aI (bW ?_))
 obtain rfl:=so g
 exact dI (vs:=[(.agg [(sc J i.Dims O),(sc L i.Strides M),(iv i.Offset),(iv i.Base)].toArray)]) (.inl R) ((J,i.Dims.length,O),(L,i.Strides.length,M)) R ⟨⟨3,Y,_,_,R,R,.inl ⟨gJ,cH,R⟩⟩,trivial⟩ R (fun w s=>(s.e 6 [0,1]))
theorem Z15_ok  {v1:View}{b:(List Int)}{r:Int}(e:Z15 v1 b=some r) :
 FnOk Tryz.prog 144 [(.agg [(.slice A2 N2 D2),(.slice A3 N3 D3),(iv v1.Offset),(iv v1.Base)].toArray),(.slice A5 N5 D5)] [aO kT3 (.slice A2 N2 D2) v1.Dims,aO kT3 (.slice A3 N3 D3) v1.Strides,aO kT3 (.slice A5 N5 D5) b] (fun (h:Unit)=>((iv r),[])):=by
 unfold Z15 at e
 refine aQ Tryz.func144 R 28 R R fun C V=>?_
 refine cL 0 aA ?_
 rintro rfl
 refine cL 1 aA ?_
 rintro rfl
 refine cL 2 aA ?_
 rintro rfl
 let D:=RR kT3 A2 D2 v1.Dims::RR kT3 A3 D3 v1.Strides::RR kT3 A5 D5 b::V
 refine cN D ?_
 refine aV ?_
 refine eB R fun F=>?_
 refine aV ?_
 let u:=aJ F [(sc A2 v1.Dims D2),(sc A3 v1.Strides D3),(iv v1.Offset),(iv v1.Base)] 96::D
 refine qN u ?_
 refine cX ?_
 refine bB (A:=(Int)×(Unit)) (fun a=>Z15_J1 a.1=some r) (fun a=>[(5,(iv a.1))]) (fun a=>u) ?_ ?_
 refine bV ?_
 obtain ⟨T,m,q⟩:=bd e
 refine bD (A:=Unit) m (fun s a=>[(1,(sc A5 b D5)),(2,(pt F 0)),(5,(iv s.1)),(6,(iv s.2))]) (fun s a=>u) () (aS R) tI ?_
 rintro ⟨l,J⟩ _ σ1 E e B
 dsimp only [Z15_L1] at e
 refine cX ?_
 split at e
 refine cA ?_
 obtain ⟨g,e⟩:=gd e
 obtain ⟨i,e⟩:=gd e
 refine aZ 3 aA (show 0<b.length by have:=g; omega) (fun L o19 j=>?_)
 subst j
 refine aZ 2 aA (show 0<v1.Strides.length by have:=i; omega) (fun G o22 j=>?_)
 subst j
 refine dG 13 [] bP fun M O=>?_
 refine mu 0 [] ?_
 refine dD ?_
 refine dN ?_
 cases e
 exact qA () tI
 refine aP ?_
 cases e
 obtain rfl:=B _ R
 have e:=q
 refine aV ?_
 exact qI (l,()) e tI
 rintro ⟨I,_⟩ σ1 e
 dsimp only [Z15_J1] at e
 refine dN ?_
 cases e
 exact qF () (tE 4 [])
theorem Z0c_ok  {v1:View}{r:(List Int)}(b:Z0c v1=some r) :
 FnOk Tryz.prog 117 [(.agg [(.slice A2 N2 D2),(.slice A3 N3 D3),(iv v1.Offset),(iv v1.Base)].toArray)] [aO kT3 (.slice A2 N2 D2) v1.Dims,aO kT3 (.slice A3 N3 D3) v1.Strides] (fun (h:HH)=>((.slice h.1 h.2.1 h.2.2),[ow kT3 3 (.slice h.1 h.2.1 h.2.2) r])):=by
 unfold Z0c at b
 refine aQ Tryz.func117 R 25 R R fun C V=>?_
 refine cN (_::_::V) ?_
 refine cL 0 aA ?_
 rintro rfl
 refine cL 1 aA ?_
 rintro rfl
 let W0:List HP:=RR kT3 A2 D2 v1.Dims::RR kT3 A3 D3 v1.Strides::V
 refine cN W0 ?_
 refine aM (aE (eB R (fun b4=>(lS R (aC ?_)))))
 let i:List HP:=aJ b4 [(sc A2 v1.Dims D2),(sc A3 v1.Strides D3),(iv v1.Offset),(iv v1.Base)] 96::W0
 refine qN i ?_
 refine aI (aM (aE (bM (K:=kT3) (xs:=([]:List Int)) (vs:=[]) 0 R R bK cC gF R R R R R R ?_ R (fun A5 D5=>?_))))
 exact fun I h s=>(gD).list [] I h s
 refine lN (OO kT3 3 A5 D5 ([]:List Int)::i) ?_
 refine lS R (aC (aI (aM ?_)))
 obtain ⟨r6,a6,b⟩:=bd b
 refine aE (lO (fS 0 gK R) (lO (gB 1 cO R R R) (lM (RR kT3 A2 D2 v1.Dims::_::i) (fun w s=>(s.d 2 R)) ?_)))
 refine lC 1 nE R (Zv_ok a6) R ?_
 rintro _
 refine lN (_::i) ?_
 refine lI R (aC (aI (aM (bB (A:=((List Int))×(HH)) (fun a=>Z0c_J1 a.1=some r) (fun a=>[(3,(.slice a.2.1 a.2.2.1 a.2.2.2))]) (fun a=>ow kT3 3 (.slice a.2.1 a.2.2.1 a.2.2.2) a.1::i) ?_ ?_))))
 refine aM (aE (lI R (aC (aI (dC ?_)))))
 obtain ⟨e1,a1,a3⟩:=bd b
 refine bD (A:=HH) a1 (fun s a=>[(1,(pt b4 0)),(3,(.slice a.1 a.2.1 a.2.2)),(4,(iv r6)),(5,(iv s.2))]) (fun s a=>ow kT3 3 (.slice a.1 a.2.1 a.2.2) s.1::i) (A5,([]:List Int).length,D5) (aS R) (fun w s=>s) ?_
 rintro ⟨g,a8⟩ ⟨J,Y,F⟩ σ1 L b a9
 replace b:Z0c_L1 v1 r6 g a8=some L:=b
 unfold Z0c_L1 at b
 refine bH 0 aB (fun (U:Y=g.length)=>?_)
 subst U
 refine aM (aM (aE (lI R (lI R (lO (mW R R) (aC (aI ?_)))))))
 rcases cG b with ⟨l,b⟩|⟨l,b⟩
 refine bZ R l (cP (aI (aM (dC ?_))))
 obtain ⟨q,G,b⟩:=bd b
 obtain ⟨j,E,b⟩:=bd b
 obtain ⟨M,b⟩:=gd b
 refine dG 10 [0] bP (fun ht U=>(dR 0 R (vS R) (hS:=(sL [0])) (dR 1 R (vz (.agg [(sc A2 v1.Dims D2),(sc A3 v1.Strides D3),(iv v1.Offset),(iv v1.Base)].toArray) (dJ 0 gJ cH R R R R)) (hS:=(sL [0])) (dR 2 R (fS 0 gK R) (hS:=(sL [0])) (dR 3 R (gB 0 cO R R R) (hS:=(sL [0])) (dR 4 R (vI R) (hS:=(sL [0])) (d1 5 R (lM (RR kT3 A2 D2 v1.Dims::OO kT3 3 J F g::i) (fun w s=>(s.d 2 R)) ?_))))))))
 refine lC 1 lA R (Zh_ok G) R ?_
 rintro ⟨m,Z,u⟩
 refine lN (ow kT3 3 (.slice m Z u) q::_::i) ?_
 refine aL 0 aB ?_
 rintro rfl
 refine aC (aG (sL [1,0]) (d1 6 R (lM (ow _ _ _ _::RR kT3 A2 D2 v1.Dims::RR kT3 A3 D3 v1.Strides::ow _ _ _ _::i) (fun w s=>(((s.d 3 R).d 5 R).e 4 [2,1,0,3])) ?_)))
 refine lC 3 yQ R (FnOk.lends (A':=[OO kT3 3 m u q]) (A:=[RR kT3 m u q]) (B:=[RR kT3 A2 D2 v1.Dims,RR kT3 A3 D3 v1.Strides]) (FnOk.perm (Z15_ok E) (Pre':=[RR kT3 m u q,RR kT3 A2 D2 v1.Dims,RR kT3 A3 D3 v1.Strides]) (fun _ _ _ s=>(s.e 3 [1,2,0]))) ⟨aU,trivial⟩ (fun _=>trivial)) R ?_
 rintro _
 refine lN (_::_::i) ?_
 refine aC (aG (sL [1,0]) (d1 7 R (bM (K:=kT3) (xs:=([j]:List Int)) (vs:=[(iv j)]) 0 R R bK cC gF R R R R R R ?_ R (fun a0 a2=>?_))))
 exact fun I h s=>(gD).list [((),j)] I h s
 refine lN (OO kT3 3 a0 a2 ([j]:List Int)::_::_::i) ?_
 refine aC (aG (sL [2,1,0]) (d1 8 R (lM (ow _ _ _ _::ow _ _ _ _::ow _ _ _ _::i) (fun w s=>(s.e 3 [2,0,1])) ?_)))
 refine eD (K:=kT3) 17592186044416 R R bK cC kl (Zr.zk zT3 gF) R R R R R R dP M (fun T O=>(lN (OO kT3 3 T O (g++([j]:List Int))::_::i) ?_))
 refine aC (aG (sL [1,0]) (dR 9 R (vS R) (hS:=(sL [1,0])) (dD (dO (aI (aE (lI R (lO (kK R R) (lI R (aC ?_))))))))))
 obtain rfl:=so b
 exact qA (T,(g++([j]:List Int)).length,O) (fun w s=>(s.e 2 [0]))
 refine bJ R l (gR (dZ ?_))
 obtain rfl:=so b
 obtain rfl:=a9 _ R
 have b:=a3
 refine dZ (fM ?_)
 exact qI (g,(J,g.length,F)) b (fun w s=>s)
 rintro ⟨D,⟨a4,a5,a7⟩⟩ σ1 b
 replace b:Z0c_J1 D=some r:=b
 unfold Z0c_J1 at b
 refine bH 0 aB (fun (U:a5=D.length)=>?_)
 subst U
 refine aM (aE (lS R (lS R (aC (aI (bW ?_))))))
 obtain rfl:=so b
 exact qF (a4,D.length,a7) (fun w s=>(s.e 4 [0]))
theorem Z8_ok  {v1:View}{r:Bool}(b:Z8 v1=some r) :
 FnOk Tryz.prog 116 [(.agg [(.slice A2 N2 D2),(.slice A3 N3 D3),(iv v1.Offset),(iv v1.Base)].toArray)] [aO kT3 (.slice A2 N2 D2) v1.Dims,aO kT3 (.slice A3 N3 D3) v1.Strides] (fun (h:Unit)=>((.bool r),[])):=by
 unfold Z8 at b
 refine aQ Tryz.func116 R 84 R R fun C V=>?_
 refine cL 0 aA ?_
 rintro rfl
 refine cL 1 aA ?_
 rintro rfl
 let W0:=RR kT3 A2 D2 v1.Dims::RR kT3 A3 D3 v1.Strides::V
 refine cN W0 ?_
 refine aV ?_
 refine eB R fun B=>?_
 refine aV ?_
 let j:=aJ B [(sc A2 v1.Dims D2),(sc A3 v1.Strides D3),(iv v1.Offset),(iv v1.Base)] 96::W0
 refine qN j ?_
 refine aP ?_
 obtain ⟨D,a1,b⟩:=bd b
 refine cQ [(1,(pt B 0)),(40,(.bool ((((((!D)||((v1.Strides.length:Int) != (v1.Dims.length:Int)))||(decide (v1.Base<1)))||(decide (v1.Base>4096)))||(decide (v1.Offset<0)))||(decide (v1.Offset≥v1.Base)))))] (j) ?_ ?_
 refine aP ?_
 refine lM _ (fun w s=>(s.d 1 R)) ?_
 refine lC 1 kj R (Zm_ok a1) R ?_
 rintro _
 refine lN j ?_
 refine aV ?_
 rcases bo (!D) with Z | Z
 refine wI ?_
 exact qj tI
 refine cX ?_
 rcases bo ((!D)||((v1.Strides.length:Int) != (v1.Dims.length:Int))) with a4 | a4
 refine yx ?_
 exact qj tI
 refine cA ?_
 rcases bo (((!D)||((v1.Strides.length:Int) != (v1.Dims.length:Int)))||(decide (v1.Base<1))) with a5 | a5
 refine r1 ?_
 exact qj tI
 refine cA ?_
 rcases bo ((((!D)||((v1.Strides.length:Int) != (v1.Dims.length:Int)))||(decide (v1.Base<1)))||(decide (v1.Base>4096))) with T | T
 refine iK ?_
 exact qj tI
 refine cA ?_
 rcases bo (((((!D)||((v1.Strides.length:Int) != (v1.Dims.length:Int)))||(decide (v1.Base<1)))||(decide (v1.Base>4096)))||(decide (v1.Offset<0))) with I | I
 refine dN ?_
 exact qj tI
 refine dN ?_
 exact qj tI
 rintro σ1
 refine bT ?_
 split at b
 refine cZ ?_
 cases b
 exact qF () (tE 3 [])
 refine bG ?_
 refine bB (A:=(Unit)×(Unit)) (fun a=>Z8_J1 v1=some r) (fun a=>[(1,(pt B 0))]) (fun a=>j) ?_ ?_
 refine bV ?_
 obtain ⟨e1,a0,F⟩:=bd b
 refine bD (A:=Unit) a0 (fun s a=>[(1,(pt B 0)),(3,(iv s))]) (fun s a=>j) () (aS R) tI ?_
 rintro m _ σ1 a6 b U
 dsimp only [Z8_L1] at b
 refine cU ?_
 split at b
 refine bV ?_
 obtain ⟨O,b⟩:=gd b
 refine cQ [(1,(pt B 0)),(3,(iv m)),(61,(.bool ((decide ((ix v1.Strides m)<(-4096:Int)))||(decide ((ix v1.Strides m)>4096)))))] (j) ?_ ?_
 refine bG ?_
 refine bC 2 aA (show 0<v1.Strides.length by have:=O; omega) (fun a8 o23 E=>?_)
 subst E
 refine bG ?_
 rcases bo (decide ((ix v1.Strides m)<(-4096:Int))) with Y | Y
 refine cZ ?_
 exact qj tI
 refine cZ ?_
 exact qj tI
 rintro σ1
 refine bT ?_
 split at b
 refine cX ?_
 cases b
 obtain rfl:=U _ R
 have b:=F
 refine aP ?_
 cases b
 exact qF () (tE 3 [])
 refine cX ?_
 cases b
 exact qA () tI
 refine aP ?_
 cases b
 obtain rfl:=U _ R
 have b:=F
 refine aV ?_
 exact qI ((),()) b tI
 rintro ⟨_,_⟩ σ1 b
 dsimp only [Z8_J1] at b
 refine bT ?_
 obtain ⟨g,G,b⟩:=bd b
 refine aV ?_
 refine lM _ (fun w s=>(((s.d 1 R).d 3 R).e 2 [1,0])) ?_
 refine lC 2 ql R (Z0c_ok G) R ?_
 rintro ⟨i,a9,q⟩
 refine aL 0 aB ?_
 rintro rfl
 refine bG ?_
 refine bB (A:=(Unit)×(Unit)) (fun a=>Z8_J2=some r) (fun a=>[]) (fun a=>j) ?_ ?_
 refine bV ?_
 obtain ⟨e2,a2,L⟩:=bd b
 refine bD (A:=Unit) a2 (fun s a=>[(1,(pt B 0)),(4,(sc i g q)),(5,(iv s))]) (fun s a=>OO kT3 3 i q g::j) () (aS R) tI ?_
 rintro l _ σ1 a7 b M
 dsimp only [Z8_L2] at b
 refine cX ?_
 split at b
 refine bV ?_
 obtain ⟨u,b⟩:=gd b
 refine cQ [(1,(pt B 0)),(4,(sc i g q)),(5,(iv l)),(83,(.bool ((decide ((ix g l)<0))||(decide ((ix g l)≥v1.Base)))))] (OO kT3 3 i q g::j) ?_ ?_
 rcases bo (decide ((ix g l)<0)) with J | J
 refine aZ 0 aB (show 0<g.length by have:=u; omega) (fun a3 o40 E=>?_)
 subst E
 refine dG 14 [] bP fun ht hn=>?_
 refine uv 0 [] ?_
 refine dD ?_
 exact qj tI
 refine aZ 0 aB (show 0<g.length by have:=u; omega) (fun a3 o40 E=>?_)
 subst E
 refine dG 14 [] bP fun ht hn=>?_
 refine uv 0 [] ?_
 refine dD ?_
 exact qj tI
 rintro σ1
 refine bT ?_
 split at b
 refine cX ?_
 cases b
 obtain rfl:=M _ R
 have b:=L
 refine aP ?_
 cases b
 exact qF () (tE 4 [])
 refine cX ?_
 cases b
 exact qA () tI
 refine aP ?_
 cases b
 obtain rfl:=M _ R
 have b:=L
 refine aV ?_
 exact cR ((),()) b trivial (tE 1 [])
 rintro ⟨_,_⟩ σ1 b
 dsimp only [Z8_J2] at b
 refine bV ?_
 cases b
 exact qF () (tE 3 [])
theorem Z03_ok  {v1:View}{b:(List Int)}{r:View}(j:Z03 v1 b=some r) :
 FnOk Tryz.prog 83 [(.agg [(.slice A2 N2 D2),(.slice A3 N3 D3),(iv v1.Offset),(iv v1.Base)].toArray),(.slice A5 N5 D5)] [aO kT3 (.slice A2 N2 D2) v1.Dims,aO kT3 (.slice A3 N3 D3) v1.Strides,aO kT3 (.slice A5 N5 D5) b] (fun (h:HH×HH)=>((.agg [(s3 h.1),(s3 h.2),(iv r.Offset),(iv r.Base)].toArray),[ow kT3 3 (s3 h.1) r.Dims,ow kT3 3 (s3 h.2) r.Strides])):=by
 unfold Z03 at j
 refine aQ Tryz.func83 R 77 R R fun C V=>?_
 refine cL 0 aA ?_
 rintro rfl
 refine cL 1 aA ?_
 rintro rfl
 refine cL 2 aA ?_
 rintro rfl
 let W0:=RR kT3 A2 D2 v1.Dims::RR kT3 A3 D3 v1.Strides::RR kT3 A5 D5 b::V
 refine cN W0 ?_
 refine aV ?_
 refine eB R fun b6=>?_
 refine bF R R cY (fun Y=>(aC ?_))
 let L:=aJ b6 [(sc A2 v1.Dims D2),(sc A3 v1.Strides D3),(iv v1.Offset),(iv v1.Base)] 96::W0
 refine ov ?_
 obtain ⟨r8,ak,j⟩:=bd j
 obtain ⟨ac,aa,j⟩:=bd j
 refine cQ [(1,(sc A5 b D5)),(2,(pt b6 0)),(4,(pt Y 0)),(5,(iv (aH ((b.length:Int) - (v1.Dims.length:Int))))),(25,(.bool (((!r8)||(!ac))||(decide ((aH ((b.length:Int) - (v1.Dims.length:Int)))<0)))))] (aJ Y [(.slice none 0 0),(.slice none 0 0),(iv 0),(iv 0)] 96::L) ?_ ?_
 refine aV ?_
 refine lM (RR kT3 A2 D2 v1.Dims::RR kT3 A3 D3 v1.Strides::aJ _ _ _::L) (fun w s=>(((s.d 2 R).d 4 R).e 3 [1,0,2])) ?_
 refine lC 2 lE R (Z8_ok ak) R ?_
 rintro _
 refine aV ?_
 rcases bo (!r8) with Z | Z
 refine cX ?_
 exact qj tI
 refine bT ?_
 refine lM (RR kT3 A5 D5 b::_::L) (fun w s=>(s.d 4 R)) ?_
 refine bY 1 R (b' Z) kj R (Zm_ok (bN aa (cS Z))) R ?_
 rintro _
 refine aP ?_
 rcases bo ((!r8)||(!ac)) with ag | ag
 refine bG ?_
 exact qj tI
 refine bG ?_
 exact qj tI
 rintro σ1
 refine bT ?_
 split at j
 refine aP ?_
 refine lO (vz (.agg [(.slice none 0 0),(.slice none 0 0),(iv 0),(iv 0)].toArray) (aW fE cY R R)) (aK 0 R R cH R R R R R R (aC (aI (bW (cE ?_)))))
 cases j
 exact qS ((none,0,0),(none,0,0)) (fun w s=>(((s.nilo kT3 3).nilo kT3 3).e 7 [1,0]))
 refine bG ?_
 obtain ⟨g,O,j⟩:=bd j
 obtain ⟨l,j⟩:=gd j
 refine iU (A:=(Unit)×(Nat×HH×HH)) (fun _=>True) (fun a=>[(1,(sc A5 b D5)),(2,(pt b6 0)),(4,(pt Y 0)),(5,(iv (aH ((b.length:Int) - (v1.Dims.length:Int))))),(6,(pt a.2.1 0))]) (fun a=>aJ Y [(.slice none 0 0),(.slice none 0 0),(iv 0),(iv 0)] 96::aJ a.2.1 [(s3 a.2.2.1),(s3 a.2.2.2),(iv v1.Offset),(iv v1.Base)] 96::ow kT3 3 (s3 a.2.2.1) g::ow kT3 3 (s3 a.2.2.2) (List.replicate (b.length:Int).toNat (0:Int))::L) ?_ ?_
 refine dG 12 [] bP fun ht hn=>?_
 refine dR 0 R (vS R) ?_
 refine gT 2 [] ?_
 refine oA 5 [] ?_
 refine hX [1,4,10] (by kernel_rfl) R ⟨?_,?_,?_,trivial⟩
 refine lM (RR kT3 A5 D5 b::_::L) (fun w s=>(s.d 4 R)) ?_
 refine lC 1 jW R (Zs_ok O) R ?_
 rintro ⟨u,a1,B⟩
 refine aL 0 aB ?_
 rintro rfl
 refine aC (aG (sL [0]) (hX [4,10] (by kernel_rfl) R ⟨?_,?_,trivial⟩))
 refine fD (K:=kT3) (m:=(b.length:Int)) (z:=(0:Int)) R R bK cC kl (Zr.zk zT3 gF) (by decide) R R l.1 l.2.1 l.2.2 (fun q i=>(aC (aG (sL [1,0]) (dR 9 R (vz (.agg [(sc u g B),(sc q (List.replicate (b.length:Int).toNat (0:Int)) i),(iv v1.Offset),(iv v1.Base)].toArray) (aW fE cY R R)) (hS:=(sL [1,0])) (d1 10 R (bF R R cY (fun D=>(aC (aG (sL [2,1,0]) (d1 11 R (aK 0 R R cH R R R R R R (lN (aJ D [(sc u g B),(sc q (List.replicate (b.length:Int).toNat (0:Int)) i),(iv v1.Offset),(iv v1.Base)] 96::OO kT3 3 q i (List.replicate (b.length:Int).toNat (0:Int))::_::_::L) ?_))))))))))))
 refine aC (aG (sL [2,1,0]) (dD ?_))
 exact cR ((),(D,(u,g.length,B),(q,(List.replicate (b.length:Int).toNat (0:Int)).length,i))) trivial (aS R) (tE 4 [3,0,2,1])
 refine bF R R cY (fun D=>(aC (aG (sL [1,0]) (d1 4 R (fD (K:=kT3) (m:=(b.length:Int)) (z:=(0:Int)) R R bK cC kl (Zr.zk zT3 gF) (by decide) R R l.1 l.2.1 l.2.2 (fun q i=>(aC (aG (sL [2,1,0]) (dR 9 R (vz (.agg [(sc u g B),(sc q (List.replicate (b.length:Int).toNat (0:Int)) i),(iv v1.Offset),(iv v1.Base)].toArray) (aW fE cY R R)) (hS:=(sL [2,1,0])) (d1 11 R (aK 1 R R cH R R R R R R (lN (_::_::_::_::L) ?_))))))))))))
 refine aC (aG (sL [2,1,0]) (dD ?_))
 exact cR ((),(D,(u,g.length,B),(q,(List.replicate (b.length:Int).toNat (0:Int)).length,i))) trivial (aS R) (tE 4 [3,1,2,0])
 refine fD (K:=kT3) (m:=(b.length:Int)) (z:=(0:Int)) R R bK cC kl (Zr.zk zT3 gF) (by decide) R R l.1 l.2.1 l.2.2 (fun q i=>(aC (aG (sL [0]) (hX [1,10] (by kernel_rfl) R ⟨?_,?_,trivial⟩))))
 refine lM (RR kT3 A5 D5 b::_::_::L) (fun w s=>(s.d 5 R)) ?_
 refine lC 1 jW R (Zs_ok O) R ?_
 rintro ⟨u,a1,B⟩
 refine aL 0 aB ?_
 rintro rfl
 refine aC (aG (sL [1,0]) (dR 9 R (vz (.agg [(sc u g B),(sc q (List.replicate (b.length:Int).toNat (0:Int)) i),(iv v1.Offset),(iv v1.Base)].toArray) (aW fE cY R R)) (hS:=(sL [1,0])) (d1 10 R (bF R R cY (fun D=>(aC (aG (sL [2,1,0]) (d1 11 R (aK 0 R R cH R R R R R R (lN (aJ D [(sc u g B),(sc q (List.replicate (b.length:Int).toNat (0:Int)) i),(iv v1.Offset),(iv v1.Base)] 96::_::_::_::L) ?_))))))))))
 refine aC (aG (sL [2,1,0]) (dD ?_))
 exact cR ((),(D,(u,g.length,B),(q,(List.replicate (b.length:Int).toNat (0:Int)).length,i))) trivial (aS R) (tE 4 [3,0,1,2])
 refine bF R R cY (fun D=>(aC (aG (sL [1,0]) (d1 1 R (lM (RR kT3 A5 D5 b::_::_::_::L) (fun w s=>(s.d 6 R)) ?_)))))
 refine lC 1 jW R (Zs_ok O) R ?_
 rintro ⟨u,a1,B⟩
 refine aL 0 aB ?_
 rintro rfl
 refine aC (aG (sL [2,1,0]) (dR 9 R (vz (.agg [(sc u g B),(sc q (List.replicate (b.length:Int).toNat (0:Int)) i),(iv v1.Offset),(iv v1.Base)].toArray) (aW fE cY R R)) (hS:=(sL [2,1,0])) (d1 11 R (aK 1 R R cH R R R R R R (lN (_::aJ D [(sc u g B),(sc q (List.replicate (b.length:Int).toNat (0:Int)) i),(iv v1.Offset),(iv v1.Base)] 96::_::_::L) ?_)))))
 refine aC (aG (sL [2,1,0]) (dD ?_))
 exact cR ((),(D,(u,g.length,B),(q,(List.replicate (b.length:Int).toNat (0:Int)).length,i))) trivial (aS R) (tE 4 [3,1,0,2])
 refine bF R R cY (fun D=>(aC (aG (sL [0]) (hX [1,4] (by kernel_rfl) R ⟨?_,?_,trivial⟩))))
 refine lM (RR kT3 A5 D5 b::_::_::L) (fun w s=>(s.d 5 R)) ?_
 refine lC 1 jW R (Zs_ok O) R ?_
 rintro ⟨u,a1,B⟩
 refine aL 0 aB ?_
 rintro rfl
 refine aC (aG (sL [1,0]) (d1 4 R (fD (K:=kT3) (m:=(b.length:Int)) (z:=(0:Int)) R R bK cC kl (Zr.zk zT3 gF) (by decide) R R l.1 l.2.1 l.2.2 (fun q i=>(aC (aG (sL [2,1,0]) (dR 9 R (vz (.agg [(sc u g B),(sc q (List.replicate (b.length:Int).toNat (0:Int)) i),(iv v1.Offset),(iv v1.Base)].toArray) (aW fE cY R R)) (hS:=(sL [2,1,0])) (d1 11 R (aK 2 R R cH R R R R R R (lN (OO kT3 3 q i (List.replicate (b.length:Int).toNat (0:Int))::_::aJ D [(sc u g B),(sc q (List.replicate (b.length:Int).toNat (0:Int)) i),(iv v1.Offset),(iv v1.Base)] 96::_::L) ?_))))))))))
 refine aC (aG (sL [2,1,0]) (dD ?_))
 exact cR ((),(D,(u,g.length,B),(q,(List.replicate (b.length:Int).toNat (0:Int)).length,i))) trivial (aS R) (tE 4 [3,2,1,0])
 refine fD (K:=kT3) (m:=(b.length:Int)) (z:=(0:Int)) R R bK cC kl (Zr.zk zT3 gF) (by decide) R R l.1 l.2.1 l.2.2 (fun q i=>(aC (aG (sL [1,0]) (d1 1 R (lM (RR kT3 A5 D5 b::_::aJ D [(.slice none 0 0),(.slice none 0 0),(iv 0),(iv 0)] 96::_::L) (fun w s=>(s.d 6 R)) ?_)))))
 refine lC 1 jW R (Zs_ok O) R ?_
 rintro ⟨u,a1,B⟩
 refine aL 0 aB ?_
 rintro rfl
 refine aC (aG (sL [2,1,0]) (dR 9 R (vz (.agg [(sc u g B),(sc q (List.replicate (b.length:Int).toNat (0:Int)) i),(iv v1.Offset),(iv v1.Base)].toArray) (aW fE cY R R)) (hS:=(sL [2,1,0])) (d1 11 R (aK 2 R R cH R R R R R R (lN (_::_::aJ D [(sc u g B),(sc q (List.replicate (b.length:Int).toNat (0:Int)) i),(iv v1.Offset),(iv v1.Base)] 96::_::L) ?_)))))
 refine aC (aG (sL [2,1,0]) (dD ?_))
 exact cR ((),(D,(u,g.length,B),(q,(List.replicate (b.length:Int).toNat (0:Int)).length,i))) trivial (aS R) (tE 4 [3,2,0,1])
 rintro ⟨_,⟨M,⟨J,an,F⟩,⟨G,aj,E⟩⟩⟩ σ1 -
 refine hY 2 aB (fun (hn:an=g.length)=>?_)
 subst hn
 refine hY 3 aB (fun (hn:aj=(List.replicate (b.length:Int).toNat (0:Int)).length)=>?_)
 subst hn
 refine aV ?_
 refine bB (A:=((List Int))×(Unit)) (fun a=>Z03_J3 v1 g a.1=some r) (fun a=>[(4,(pt Y 0)),(6,(pt M 0))]) (fun a=>aJ Y [(.slice none 0 0),(.slice none 0 0),(iv 0),(iv 0)] 96::aJ M [(sc J g F),(sc G (List.replicate (b.length:Int).toNat (0:Int)) E),(iv v1.Offset),(iv v1.Base)] 96::OO kT3 3 J F g::ow kT3 3 (.slice G (List.replicate (b.length:Int).toNat (0:Int)).length E) a.1::L) ?_ ?_
 refine bV ?_
 obtain ⟨e1,am,a9⟩:=bd j
 refine bD (A:=Unit) am (fun s a=>[(1,(sc A5 b D5)),(2,(pt b6 0)),(4,(pt Y 0)),(5,(iv (aH ((b.length:Int) - (v1.Dims.length:Int))))),(6,(pt M 0)),(7,(iv s.2))]) (fun s a=>aJ Y [(.slice none 0 0),(.slice none 0 0),(iv 0),(iv 0)] 96::aJ M [(sc J g F),(sc G (List.replicate (b.length:Int).toNat (0:Int)) E),(iv v1.Offset),(iv v1.Base)] 96::OO kT3 3 J F g::ow kT3 3 (.slice G (List.replicate (b.length:Int).toNat (0:Int)).length E) s.1::L) () (aS R) tI ?_
 rintro ⟨a2,T⟩ _ σ1 a8 j ai
 dsimp only [Z03_L1] at j
 refine cU ?_
 rcases cG j with ⟨a5,j⟩|⟨a5,j⟩
 refine bG ?_
 refine bB (A:=((List Int))×(Unit)) (fun a=>Z03_J2 T a.1=some a8) (fun a=>[(1,(sc A5 b D5)),(2,(pt b6 0)),(4,(pt Y 0)),(5,(iv (aH ((b.length:Int) - (v1.Dims.length:Int))))),(6,(pt M 0)),(7,(iv T))]) (fun a=>aJ Y [(.slice none 0 0),(.slice none 0 0),(iv 0),(iv 0)] 96::aJ M [(sc J g F),(sc G (List.replicate (b.length:Int).toNat (0:Int)) E),(iv v1.Offset),(iv v1.Base)] 96::OO kT3 3 J F g::ow kT3 3 (.slice G (List.replicate (b.length:Int).toNat (0:Int)).length E) a.1::L) ?_ ?_
 refine aP ?_
 obtain ⟨ab,j⟩:=gd j
 obtain ⟨ae,j⟩:=gd j
 refine aZ 5 aA (show 0<v1.Dims.length by have:=ab; omega) (fun aq o47 ha=>?_)
 subst ha
 refine aZ 7 aA (show 0<b.length by have:=ae; omega) (fun ar o50 ha=>?_)
 subst ha
 refine dG 13 [] bP fun ht hn=>?_
 refine mu 0 [] ?_
 refine dD (aI ?_)
 rcases cG j with ⟨a3,j⟩|⟨a3,j⟩
 refine bT ?_
 obtain ⟨ah,j⟩:=gd j
 obtain ⟨U,j⟩:=gd j
 refine aZ 6 aA (show 0<v1.Strides.length by have:=ah; omega) (fun ao o54 ha=>?_)
 subst ha
 refine aZ 3 aB (show 0<(List.replicate (b.length:Int).toNat (0:Int)).length by have:=U; omega) (fun a6 o57 ha=>?_)
 subst ha
 refine dG 12 [3] bP fun ht hn=>?_
 refine pj 0 [3] ?_
 refine d1 11 R (lM (ow kT3 3 (.slice (ad a6 o57) (List.replicate (b.length:Int).toNat (0:Int)).length E) a2::aJ _ _ _::aJ M [(sc J g F),(sc (ad a6 o57) (List.replicate (b.length:Int).toNat (0:Int)) E),(iv v1.Offset),(iv v1.Base)] 96::OO kT3 3 J F g::L) (tE 4 [3,0,1,2]) ?_)
 refine dV (K:=kT3) (x':=(ix v1.Strides T)) 0 (aH ((aH ((b.length:Int) - (v1.Dims.length:Int)))+T)) R R cC R R U.1 U.2 ?_ ?_
 exact fun I h s=>(gD).put I h () (ix v1.Strides T) s
 refine aC (aG (sL [0]) (dD ?_))
 obtain ⟨a7,a0,j⟩:=bd j
 replace a0:=Option.some.inj a0
 refine qM (ow kT3 3 (.slice (ad a6 o57) (List.replicate (b.length:Int).toNat (0:Int)).length E) a7::_::_::_::L) (fun w s=>by rw [← a0]; exact s) ?_
 refine aV ?_
 exact qI (a7,()) j (tE 4 [1,2,3,0])
 refine bJ R a3 ?_
 refine iB ?_
 rcases cG j with ⟨a4,j⟩|⟨a4,j⟩
 refine aP ?_
 refine lO (vz (.agg [(.slice none 0 0),(.slice none 0 0),(iv 0),(iv 0)].toArray) (aW fE cY R R)) (aK 0 R R cH R R R R R R (lN (_::aJ M [(sc J g F),(sc G (List.replicate (b.length:Int).toNat (0:Int)) E),(iv v1.Offset),(iv v1.Base)] 96::_::ow kT3 3 (.slice G (List.replicate (b.length:Int).toNat (0:Int)).length E) a2::L) ?_))
 refine bV ?_
 cases j
 obtain rfl:=ai _ R
 have j:=a9
 refine aP ?_
 cases j
 exact qS ((none,0,0),(none,0,0)) (fun w s=>(((s.nilo kT3 3).nilo kT3 3).e 10 [1,0]))
 refine bJ R a4 ?_
 refine aP ?_
 exact qI (a2,()) j tI
 rintro ⟨ap,_⟩ σ1 j
 dsimp only [Z03_J2] at j
 refine cA ?_
 cases j
 exact qA () tI
 refine bJ R a5 ?_
 refine aV ?_
 cases j
 obtain rfl:=ai _ R
 have j:=a9
 refine aV ?_
 exact qI (a2,()) j tI
 rintro ⟨al,_⟩ σ1 j
 dsimp only [Z03_J3] at j
 refine aP ?_
 refine aK 0 R R cH R R R R R R (lN (aJ Y [(sc J g F),(sc G (List.replicate (b.length:Int).toNat (0:Int)) E),(iv v1.Offset),(iv v1.Base)] 96::_::_::ow kT3 3 (.slice G (List.replicate (b.length:Int).toNat (0:Int)).length E) al::L) ?_)
 refine aP ?_
 cases j
 exact qS ((J,g.length,F),(G,(List.replicate (b.length:Int).toNat (0:Int)).length,E)) (tE 8 [2,3])
theorem Z02_ok  {t1:Tensor}{v4:View}{r:Tensor}(i:Z02 t1 v4=some r) :
 FnOk Tryz.prog 82 [(.agg [(.slice A2 N2 D2),(.slice A3 N3 D3)].toArray),(.agg [(.slice A5 N5 D5),(.slice A6 N6 D6),(iv v4.Offset),(iv v4.Base)].toArray)] [aO kT3 (.slice A2 N2 D2) t1.Dims,aO kT3 (.slice A3 N3 D3) t1.Data,aO kT3 (.slice A5 N5 D5) v4.Dims,aO kT3 (.slice A6 N6 D6) v4.Strides] (fun (h:HH×HH)=>((.agg [(s3 h.1),(s3 h.2)].toArray),[ow kT3 3 (s3 h.1) r.Dims,ow kT3 3 (s3 h.2) r.Data])):=by
 unfold Z02 at i
 refine aQ Tryz.func82 R 51 R R fun C V=>?_
 refine cL 0 aA ?_
 rintro rfl
 refine cL 1 aA ?_
 rintro rfl
 refine cL 2 aA ?_
 rintro rfl
 refine cL 3 aA ?_
 rintro rfl
 let W0:=RR kT3 A2 D2 t1.Dims::RR kT3 A3 D3 t1.Data::RR kT3 A5 D5 v4.Dims::RR kT3 A6 D6 v4.Strides::V
 refine cN W0 ?_
 refine aV ?_
 refine eB R fun b7=>?_
 refine eB R fun b8=>?_
 refine bF R R dT (fun L=>(aC ?_))
 let G:=aJ b8 [(sc A5 v4.Dims D5),(sc A6 v4.Strides D6),(iv v4.Offset),(iv v4.Base)] 96::aJ b7 [(sc A2 t1.Dims D2),(sc A3 t1.Data D3)] 58::W0
 refine aP ?_
 obtain ⟨Z,a5,i⟩:=bd i
 obtain ⟨a2,a7,i⟩:=bd i
 refine cQ [(2,(pt b7 0)),(3,(pt b8 0)),(4,(pt L 0)),(23,(.bool (((!Z)||(!a2))||(v4.Base != (t1.Data.length:Int)))))] (aJ L [(.slice none 0 0),(.slice none 0 0)] 58::G) ?_ ?_
 refine aV ?_
 refine lM _ (fun w s=>(((s.d 3 R).d 5 R).e 3 [1,0,2])) ?_
 refine lC 2 nG R (Zp_ok a5) R ?_
 rintro _
 refine aV ?_
 rcases bo (!Z) with E | E
 refine lb ?_
 exact qj tI
 refine bT ?_
 refine lM _ (fun w s=>(((s.d 5 R).d 7 R).e 3 [1,0,2])) ?_
 refine bY 2 R (b' E) lE R (Z8_ok (bN a7 (cS E))) R ?_
 rintro _
 refine aP ?_
 rcases bo ((!Z)||(!a2)) with a3 | a3
 refine cZ ?_
 exact qj tI
 refine cZ ?_
 exact qj tI
 rintro σ1
 refine bT ?_
 split at i
 refine aP ?_
 refine lO (vz (.agg [(.slice none 0 0),(.slice none 0 0)].toArray) (aW gO dT R R)) (aK 0 R R bS R R R R R R (aC (aI (bW (cE ?_)))))
 cases i
 exact qS ((none,0,0),(none,0,0)) (fun w s=>(((s.nilo kT3 3).nilo kT3 3).e 9 [1,0]))
 refine bG ?_
 obtain ⟨j,a4,i⟩:=bd i
 refine aP ?_
 refine lM _ (fun w s=>(s.d 5 R)) ?_
 refine lC 1 jW R (Zs_ok a4) R ?_
 rintro ⟨m,an,l⟩
 refine aL 0 aB ?_
 rintro rfl
 refine lO (vz (.agg [(sc m j l),(.slice none 0 0)].toArray) (aW gO dT R R)) (bF R R dT (fun u=>(aK 0 R R bS R R R R R R (lN (aJ u [(sc m j l),(.slice none 0 0)] 58::_::_::G) ?_))))
 refine aP ?_
 obtain ⟨b,a1,i⟩:=bd i
 refine aV ?_
 refine lM _ (fun w s=>(((s.d 7 R).d 9 R).e 5 [1,0,2,3,4])) ?_
 refine lC 2 ql R (Z0c_ok a1) R ?_
 rintro ⟨J,ao,M⟩
 refine aL 0 aB ?_
 rintro rfl
 refine bG ?_
 refine bB (A:=((List Int))×(HH)) (fun a=>Z02_J1 j a.1=some r) (fun a=>[(4,(pt L 0)),(5,(pt u 0))]) (fun a=>aJ L [(.slice none 0 0),(.slice none 0 0)] 58::aJ u [(sc m j l),(s3 a.2)] 58::OO kT3 3 m l j::ow kT3 3 (s3 a.2) a.1::G) ?_ ?_
 refine bV ?_
 obtain ⟨e1,aa,ab⟩:=bd i
 refine bD (A:=HH) aa (fun s a=>[(2,(pt b7 0)),(4,(pt L 0)),(5,(pt u 0)),(6,(sc J b M)),(7,(iv s.2))]) (fun s a=>aJ L [(.slice none 0 0),(.slice none 0 0)] 58::aJ u [(sc m j l),(s3 a)] 58::OO kT3 3 m l j::ow kT3 3 (s3 a) s.1::OO kT3 3 J M b::G) (none,0,0) (aS R) (fun w s=>((s.nilo kT3 3).e 5 [4,2,3,0,1])) ?_
 rintro ⟨q,g⟩ ⟨ac,al,a9⟩ σ1 am i aj
 dsimp only [Z02_L1] at i
 refine bH 3 aB (fun (hn:al=q.length)=>?_)
 subst hn
 refine cX ?_
 rcases cG i with ⟨Y,i⟩|⟨Y,i⟩
 refine cA ?_
 obtain ⟨a0,i⟩:=gd i
 obtain ⟨a6,i⟩:=gd i
 obtain ⟨U,i⟩:=gd i
 refine iU (A:=(Unit)×(HH)) (fun _=>True) (fun a=>[(2,(pt b7 0)),(4,(pt L 0)),(5,(pt u 0)),(6,(sc J b M)),(7,(iv g))]) (fun a=>aJ L [(.slice none 0 0),(.slice none 0 0)] 58::aJ u [(sc m j l),(s3 a.2)] 58::OO kT3 3 m l j::ow kT3 3 (s3 a.2) (q++([(ix t1.Data (ix b g))]:List Int))::OO kT3 3 J M b::G) ?_ ?_
 refine aZ 4 aB (show 0<b.length by have:=a0; omega) (fun aq o41 ha=>?_)
 subst ha
 refine aZ 8 aA (show 0<t1.Data.length by have:=a6; omega) (fun ap o44 ha=>?_)
 subst ha
 refine dG 14 [3,1] bP fun ht hn=>?_
 refine oz 0 [3,1] ?_
 refine ut 2 [3,1] ?_
 refine hX [1,10] (by kernel_rfl) R ⟨?_,?_,trivial⟩
 refine lO (gB 1 cO R R R) (aC (aG (sL [3,1]) (d1 10 R (bM (K:=kT3) (xs:=([(ix t1.Data (ix b g))]:List Int)) (vs:=[(iv (ix t1.Data (ix b g)))]) 0 R R bK cC gF R R R R R R ?_ R (fun ak ah=>?_)))))
 exact fun I h s=>(gD).list [((),(ix t1.Data (ix b g)))] I h s
 refine aC (aG (sL [4,2,0]) (d1 11 R (lM _ (tE 6 [4,0,1,2,3,5]) ?_)))
 refine eD (K:=kT3) 17592186044416 R R bK cC kl (Zr.zk zT3 gF) R R R R R R dP U (fun B D=>(lN (OO kT3 3 B D (q++([(ix t1.Data (ix b g))]:List Int))::_::_::_::_::G) ?_))
 refine aC (aG (sL [2,0]) ?_)
 refine oz 12 [2,0] ?_
 refine d1 13 R (cT 2 R R fU R R R R R (lN (_::_::aJ u [(sc m j l),(sc B (q++([(ix t1.Data (ix b g))]:List Int)) D)] 58::_::_::G) ?_))
 refine aC (aG (sL [2,0]) (dD ?_))
 exact cR ((),(B,(q++([(ix t1.Data (ix b g))]:List Int)).length,D)) trivial (aS R) (tE 5 [1,2,3,0,4])
 refine bM (K:=kT3) (xs:=([(ix t1.Data (ix b g))]:List Int)) (vs:=[(iv (ix t1.Data (ix b g)))]) 0 R R bK cC gF R R R R R R ?_ R (fun ak ah=>?_)
 exact fun I h s=>(gD).list [((),(ix t1.Data (ix b g)))] I h s
 refine aC (aG (sL [4,2,0]) (d1 1 R (lO (gB 2 cO R R R) (aC (aG (sL [4,2,0]) (d1 11 R (lM _ (tE 6 [4,0,1,2,3,5]) ?_)))))))
 refine eD (K:=kT3) 17592186044416 R R bK cC kl (Zr.zk zT3 gF) R R R R R R dP U (fun B D=>(lN (OO kT3 3 B D (q++([(ix t1.Data (ix b g))]:List Int))::_::_::_::_::G) ?_))
 refine aC (aG (sL [2,0]) ?_)
 refine oz 12 [2,0] ?_
 refine d1 13 R (cT 2 R R fU R R R R R (lN (_::_::aJ u [(sc m j l),(sc B (q++([(ix t1.Data (ix b g))]:List Int)) D)] 58::_::_::G) ?_))
 refine aC (aG (sL [2,0]) (dD ?_))
 exact cR ((),(B,(q++([(ix t1.Data (ix b g))]:List Int)).length,D)) trivial (aS R) (tE 5 [1,2,3,0,4])
 rintro ⟨_,⟨ai,ae,a8⟩⟩ σ1 -
 refine hY 3 aB (fun (hn:ae=(q++([(ix t1.Data (ix b g))]:List Int)).length)=>?_)
 subst hn
 refine dN ?_
 cases i
 exact qA (ai,(q++([(ix t1.Data (ix b g))]:List Int)).length,a8) tI
 refine bJ R Y ?_
 refine aV ?_
 cases i
 obtain rfl:=aj _ R
 have i:=ab
 refine aV ?_
 exact qI (q,(ac,q.length,a9)) i (fun w s=>(s.f 5 [0,4]))
 rintro ⟨F,⟨O,ag,T⟩⟩ σ1 i
 dsimp only [Z02_J1] at i
 refine bH 3 aB (fun (hn:ag=F.length)=>?_)
 subst hn
 refine aP ?_
 refine aK 0 R R bS R R R R R R (lN (aJ L [(sc m j l),(sc O F T)] 58::aJ u [(sc m j l),(sc O F T)] 58::_::OO kT3 3 O T F::G) ?_)
 refine aP ?_
 cases i
 exact qS ((m,j.length,l),(O,F.length,T)) (tE 10 [2,3])
theorem Z0b_ok  {v1:View}{j:(List Int)}{r:View}(g:Z0b v1 j=some r) :
 FnOk Tryz.prog 85 [(.agg [(.slice A2 N2 D2),(.slice A3 N3 D3),(iv v1.Offset),(iv v1.Base)].toArray),(.slice A5 N5 D5)] [aO kT3 (.slice A2 N2 D2) v1.Dims,aO kT3 (.slice A3 N3 D3) v1.Strides,aO kT3 (.slice A5 N5 D5) j] (fun (h:HH×HH)=>((.agg [(s3 h.1),(s3 h.2),(iv r.Offset),(iv r.Base)].toArray),[ow kT3 3 (s3 h.1) r.Dims,ow kT3 3 (s3 h.2) r.Strides])):=by
 unfold Z0b at g
 refine aQ Tryz.func85 R 77 R R fun C V=>?_
 refine cL 0 aA ?_
 rintro rfl
 refine cL 1 aA ?_
 rintro rfl
 refine cL 2 aA ?_
 rintro rfl
 let W0:=RR kT3 A2 D2 v1.Dims::RR kT3 A3 D3 v1.Strides::RR kT3 A5 D5 j::V
 refine cN W0 ?_
 refine aV ?_
 refine eB R fun b6=>?_
 refine bF R R cY (fun Z=>(aC ?_))
 let W1:=aJ b6 [(sc A2 v1.Dims D2),(sc A3 v1.Strides D3),(iv v1.Offset),(iv v1.Base)] 96::W0
 refine aP ?_
 obtain ⟨r8,a8,g⟩:=bd g
 obtain ⟨aj,a2,g⟩:=bd g
 obtain ⟨b4,aw,g⟩:=bd g
 obtain ⟨ba,ar,g⟩:=bd g
 refine cQ [(1,(sc A5 j D5)),(2,(pt b6 0)),(4,(pt Z 0)),(24,(.bool (((!r8)||(!aj))||(b4 != ba))))] (aJ Z [(.slice none 0 0),(.slice none 0 0),(iv 0),(iv 0)] 96::W1) ?_ ?_
 rcases bo (!r8) with M | M
 refine dG 16 [] bP fun ht hn=>?_
 refine oz 0 [] ?_
 refine d1 1 R (lM _ (fun w s=>(((s.d 2 R).d 4 R).e 3 [1,0,2])) ?_)
 refine lC 2 lE R (Z8_ok a8) R ?_
 rintro _
 refine aC (aG (sL []) ?_)
 refine uv 2 [] ?_
 refine dD ?_
 exact qj tI
 rcases bo ((!r8)||(!aj)) with O | O
 refine dG 16 [] bP fun ht hn=>?_
 refine oz 0 [] ?_
 refine d1 1 R (lM _ (fun w s=>(((s.d 2 R).d 4 R).e 3 [1,0,2])) ?_)
 refine lC 2 lE R (Z8_ok a8) R ?_
 rintro _
 refine aC (aG (sL []) ?_)
 refine iw 2 [] ?_
 refine d1 5 R (lM _ (fun w s=>(s.d 4 R)) ?_)
 refine bY 1 R (b' M) kj R (Zm_ok (bN a2 (cS M))) R ?_
 rintro _
 refine aC (aG (sL []) ?_)
 refine ra 6 [] ?_
 refine dD ?_
 exact qj tI
 refine dG 16 [] bP fun ht hn=>?_
 refine oz 0 [] ?_
 refine d1 1 R (lM _ (fun w s=>(((s.d 2 R).d 4 R).e 3 [1,0,2])) ?_)
 refine lC 2 lE R (Z8_ok a8) R ?_
 rintro _
 refine aC (aG (sL []) ?_)
 refine iw 2 [] ?_
 refine d1 5 R (lM _ (fun w s=>(s.d 4 R)) ?_)
 refine bY 1 R (b' M) kj R (Zm_ok (bN a2 (cS M))) R ?_
 rintro _
 refine aC (aG (sL []) ?_)
 refine oA 6 [] ?_
 refine gT 11 [] ?_
 refine d1 10 R (lM _ (fun w s=>(s.d 4 R)) ?_)
 refine bY 1 R (b' O) nE R (Zv_ok (bN aw (cS O))) R ?_
 rintro _
 refine aC (aG (sL []) (d1 13 R (lM _ (fun w s=>(s.d 2 R)) ?_)))
 refine bY 1 R (b' O) nE R (Zv_ok (bN ar (cS O))) R ?_
 rintro _
 refine aC (aG (sL []) ?_)
 refine gT 14 [] ?_
 refine dD ?_
 exact qj tI
 rintro σ1
 refine bT ?_
 split at g
 refine aP ?_
 refine lO (vz (.agg [(.slice none 0 0),(.slice none 0 0),(iv 0),(iv 0)].toArray) (aW fE cY R R)) (aK 0 R R cH R R R R R R (aC (aI (bW (cE ?_)))))
 cases g
 exact qS ((none,0,0),(none,0,0)) (fun w s=>(((s.nilo kT3 3).nilo kT3 3).e 7 [1,0]))
 refine bG ?_
 obtain ⟨b,am,g⟩:=bd g
 refine aV ?_
 refine lM _ (fun w s=>(((s.d 2 R).d 4 R).e 3 [1,0,2])) ?_
 refine lC 2 ql R (Z0c_ok am) R ?_
 rintro ⟨D,bg,u⟩
 refine aL 0 aB ?_
 rintro rfl
 refine bG ?_
 obtain ⟨i,a4,g⟩:=bd g
 obtain ⟨an,g⟩:=gd g
 refine iU (A:=(Unit)×(Nat×HH)) (fun _=>True) (fun a=>[(1,(sc A5 j D5)),(4,(pt Z 0)),(5,(sc D b u)),(6,(pt a.2.1 0))]) (fun a=>aJ Z [(.slice none 0 0),(.slice none 0 0),(iv 0),(iv 0)] 96::OO kT3 3 D u b::aJ a.2.1 [(s3 a.2.2),(.slice none 0 0),(iv (ix b 0)),(iv v1.Base)] 96::ow kT3 3 (s3 a.2.2) i::W1) ?_ ?_
 refine aZ 0 aB (show 0<b.length by have:=an; omega) (fun bb o27 ha=>?_)
 subst ha
 refine dG 10 [] bP fun ht hn=>?_
 refine dR 0 R (vS R) ?_
 refine kr 2 [] ?_
 refine hX [1,8] (by kernel_rfl) R ⟨?_,?_,trivial⟩
 refine lM _ (fun w s=>(s.d 5 R)) ?_
 refine lC 1 jW R (Zs_ok a4) R ?_
 rintro ⟨T,b9,U⟩
 refine aL 0 aB ?_
 rintro rfl
 refine aC (aG (sL [0]) (dR 7 R (vz (.agg [(sc T i U),(.slice none 0 0),(iv (ix b 0)),(iv v1.Base)].toArray) (aW fE cY R R)) (hS:=(sL [0])) (d1 8 R (bF R R cY (fun a0=>(aC (aG (sL [1,0]) (d1 9 R (aK 0 R R cH R R R R R R (lN (aJ a0 [(sc T i U),(.slice none 0 0),(iv (ix b 0)),(iv v1.Base)] 96::_::_::_::W1) ?_))))))))))
 refine aC (aG (sL [1,0]) (dD ?_))
 exact cR ((),(a0,(T,i.length,U))) trivial (aS R) (tE 4 [3,2,0,1])
 refine bF R R cY (fun a0=>(aC (aG (sL [0]) (d1 1 R (lM _ (fun w s=>(s.d 6 R)) ?_)))))
 refine lC 1 jW R (Zs_ok a4) R ?_
 rintro ⟨T,b9,U⟩
 refine aL 0 aB ?_
 rintro rfl
 refine aC (aG (sL [1,0]) (dR 7 R (vz (.agg [(sc T i U),(.slice none 0 0),(iv (ix b 0)),(iv v1.Base)].toArray) (aW fE cY R R)) (hS:=(sL [1,0])) (d1 9 R (aK 1 R R cH R R R R R R (lN (_::aJ a0 [(sc T i U),(.slice none 0 0),(iv (ix b 0)),(iv v1.Base)] 96::_::_::W1) ?_)))))
 refine aC (aG (sL [1,0]) (dD ?_))
 exact cR ((),(a0,(T,i.length,U))) trivial (aS R) (tE 4 [3,2,1,0])
 rintro ⟨_,⟨J,⟨l,b8,m⟩⟩⟩ σ1 -
 refine hY 3 aB (fun (hn:b8=i.length)=>?_)
 subst hn
 refine aV ?_
 refine bB (A:=((List Int))×(HH)) (fun a=>Z0b_J3 v1 b i a.1=some r) (fun a=>[(4,(pt Z 0)),(5,(sc D b u)),(6,(pt J 0))]) (fun a=>aJ Z [(.slice none 0 0),(.slice none 0 0),(iv 0),(iv 0)] 96::OO kT3 3 D u b::aJ J [(sc l i m),(s3 a.2),(iv (ix b 0)),(iv v1.Base)] 96::OO kT3 3 l m i::ow kT3 3 (s3 a.2) a.1::W1) ?_ ?_
 refine bV ?_
 obtain ⟨e1,ay,az⟩:=bd g
 refine bD (A:=HH) ay (fun s a=>[(1,(sc A5 j D5)),(4,(pt Z 0)),(5,(sc D b u)),(6,(pt J 0)),(7,(iv s.2))]) (fun s a=>aJ Z [(.slice none 0 0),(.slice none 0 0),(iv 0),(iv 0)] 96::OO kT3 3 D u b::aJ J [(sc l i m),(s3 a),(iv (ix b 0)),(iv v1.Base)] 96::OO kT3 3 l m i::ow kT3 3 (s3 a) s.1::W1) (none,0,0) (aS R) (fun w s=>((s.nilo kT3 3).f 5 [1,4,0,1])) ?_
 rintro ⟨F,ac⟩ ⟨aa,b0,a7⟩ σ1 au g b3
 dsimp only [Z0b_L1] at g
 refine bH 4 aB (fun (hn:b0=F.length)=>?_)
 subst hn
 refine cX ?_
 rcases cG g with ⟨a6,g⟩|⟨a6,g⟩
 refine iB ?_
 refine bB (A:=(Int)×(Unit)) (fun a=>Z0b_J2 F ac a.1=some au) (fun a=>[(1,(sc A5 j D5)),(4,(pt Z 0)),(5,(sc D b u)),(6,(pt J 0)),(7,(iv ac)),(8,(iv a.1))]) (fun a=>aJ Z [(.slice none 0 0),(.slice none 0 0),(iv 0),(iv 0)] 96::OO kT3 3 D u b::aJ J [(sc l i m),(sc aa F a7),(iv (ix b 0)),(iv v1.Base)] 96::OO kT3 3 l m i::OO kT3 3 aa a7 F::W1) ?_ ?_
 refine bT ?_
 obtain ⟨av,g⟩:=gd g
 refine aP ?_
 refine bC 8 aA (show 0<j.length by have:=av; omega) (fun be o53 ha=>?_)
 subst ha
 refine cA ?_
 rcases cG g with ⟨a3,g⟩|⟨a3,g⟩
 refine bT ?_
 obtain ⟨a1,g⟩:=gd g
 obtain ⟨b5,ao,g⟩:=bd g
 obtain ⟨aq,g⟩:=gd g
 refine aZ 1 aB (show 0<b.length by have:=aq; omega) (fun bi o61 ha=>?_)
 subst ha
 refine dG 13 [] bP fun ht hn=>?_
 refine oA 0 [] ?_
 refine iw 8 [] ?_
 refine d1 4 R (gA (K:=kT3) (aH (ac+1)) (j.length:Int) 8 R R bK cC R R R R a1.1 a1.2.1 a1.2.2 (fun bc bk=>(aC (aG (sL [0]) (d1 5 R (lM _ (fun w s=>(s.d 0 R)) ?_))))))
 refine lC 1 nE R (Zv_ok ao) R ?_
 rintro _
 refine aC (aG (sL [0]) ?_)
 refine gT 6 [0] ?_
 refine gT 11 [0] ?_
 refine dD ?_
 exact qI ((aH ((ix b b5) - (ix b 0))),()) g (fun w s=>(s.f 6 [1,5]))
 refine bJ R a3 (cP ?_)
 exact qI ((0:Int),()) g tI
 rintro ⟨Y,_⟩ σ1 g
 dsimp only [Z0b_J2] at g
 obtain ⟨ak,g⟩:=gd g
 refine bG ?_
 refine bM (K:=kT3) (xs:=([Y]:List Int)) (vs:=[(iv Y)]) 0 R R bK cC gF R R R R R R ?_ R (fun bh bf=>?_)
 exact fun I h s=>(gD).list [((),Y)] I h s
 refine lM _ (fun w s=>(s.f 6 [5,1,0,5])) ?_
 refine eD (K:=kT3) 17592186044416 R R bK cC kl (Zr.zk zT3 gF) R R R R R R dP ak (fun ab a9=>(lN (OO kT3 3 ab a9 (F++([Y]:List Int))::_::_::_::_::W1) ?_))
 refine bT ?_
 refine cT 3 R R fU R R R R R (lN (_::_::_::aJ J [(sc l i m),(sc ab (F++([Y]:List Int)) a9),(iv (ix b 0)),(iv v1.Base)] 96::_::W1) ?_)
 refine cZ ?_
 cases g
 exact qA (ab,(F++([Y]:List Int)).length,a9) (fun w s=>(s.f 5 [1,4,0,1]))
 refine bJ R a6 ?_
 refine aV ?_
 cases g
 obtain rfl:=b3 _ R
 have g:=az
 refine aV ?_
 exact qI (F,(aa,F.length,a7)) g tI
 rintro ⟨q,⟨G,b2,L⟩⟩ σ1 g
 dsimp only [Z0b_J3] at g
 refine bH 4 aB (fun (hn:b2=q.length)=>?_)
 subst hn
 refine aV ?_
 obtain ⟨al,ag,g⟩:=bd g
 obtain ⟨ah,ap,g⟩:=bd g
 obtain ⟨b1,ax,g⟩:=bd g
 refine cQ [(4,(pt Z 0)),(6,(pt J 0)),(74,(.bool ((!al)||(!b1))))] (aJ Z [(.slice none 0 0),(.slice none 0 0),(iv 0),(iv 0)] 96::aJ J [(sc l i m),(sc G q L),(iv (ix b 0)),(iv v1.Base)] 96::OO kT3 3 l m i::OO kT3 3 G L q::W1) ?_ ?_
 refine aV ?_
 refine lM _ (fun w s=>(s.f 5 [3,2,0,3])) ?_
 refine lC 2 lE R (FnOk.lends (A':=[OO kT3 3 l m i,OO kT3 3 G L q]) (A:=[RR kT3 l m i,RR kT3 G L q]) (B:=[]) (Z8_ok (v1:=(⟨i,q,(ix b 0),v1.Base⟩:View)) ag) ⟨aU,aU,trivial⟩ (fun _=>trivial)) R ?_
 rintro _
 refine aV ?_
 rcases bo (!al) with E | E
 refine dN ?_
 exact qj (tE 5 [2,4,0,1])
 refine lW (b' E) (vz (.agg [(sc l i m),(sc G q L),(iv (ix b 0)),(iv v1.Base)].toArray) (dJ 4 gJ cH R R R R)) (bY 2 R (b' E) ql R (FnOk.lends (A':=[OO kT3 3 l m i,OO kT3 3 G L q]) (A:=[RR kT3 l m i,RR kT3 G L q]) (B:=[]) (Z0c_ok (v1:=(⟨i,q,(ix b 0),v1.Base⟩:View)) (bN ap (cS E))) ⟨aU,aU,trivial⟩ (fun _=>⟨(bI iW),trivial⟩)) R ?_)
 rintro ⟨ai,bj,ae⟩
 refine aL 2 aB ?_
 rintro rfl
 refine bT ?_
 refine lM _ (tE 6 [2,4,0,1,3,5]) ?_
 refine bY 2 R (b' E) wV R (FnOk.lends (A':=[OO kT3 3 ai ae ah,OO kT3 3 D u b]) (A:=[RR kT3 ai ae ah,RR kT3 D u b]) (B:=[]) (Z01_ok (bN ax (cS E))) ⟨aU,aU,trivial⟩ (fun _=>trivial)) R ?_
 rintro _
 refine aP ?_
 exact qj (tE 6 [4,5,2,3])
 rintro σ1
 refine bT ?_
 rcases cG g with ⟨a5,g⟩|⟨a5,g⟩
 refine aP ?_
 refine lO (vz (.agg [(.slice none 0 0),(.slice none 0 0),(iv 0),(iv 0)].toArray) (aW fE cY R R)) (aK 0 R R cH R R R R R R (lN (_::_::_::_::W1) ?_))
 refine bG ?_
 cases g
 exact qS ((none,0,0),(none,0,0)) (fun w s=>(((s.nilo kT3 3).nilo kT3 3).e 10 [1,0]))
 refine bJ R a5 ?_
 refine cA ?_
 refine aK 0 R R cH R R R R R R (lN (aJ Z [(sc l i m),(sc G q L),(iv (ix b 0)),(iv v1.Base)] 96::_::_::_::W1) ?_)
 refine aP ?_
 cases g
 exact qS ((l,i.length,m),(G,q.length,L)) (tE 8 [2,3])
theorem Z27_ok  {v1:View}{a:Int}{r:Bool}(b:Z27 v1 a=some r) :
 FnOk Tryz.prog 119 [(.agg [(.slice A2 N2 D2),(.slice A3 N3 D3),(iv v1.Offset),(iv v1.Base)].toArray),(iv a)] [aO kT3 (.slice A2 N2 D2) v1.Dims,aO kT3 (.slice A3 N3 D3) v1.Strides] (fun (h:Unit)=>((.bool r),[])):=by
 unfold Z27 at b
 refine aQ Tryz.func119 R 18 R R fun C V=>?_
 refine cL 0 aA ?_
 rintro rfl
 refine cL 1 aA ?_
 rintro rfl
 let q:=RR kT3 A2 D2 v1.Dims::RR kT3 A3 D3 v1.Strides::V
 refine cN q ?_
 refine aV ?_
 refine eB R fun u=>?_
 refine aV ?_
 let l:=aJ u [(sc A2 v1.Dims D2),(sc A3 v1.Strides D3),(iv v1.Offset),(iv v1.Base)] 96::q
 refine qN l ?_
 refine aV ?_
 obtain ⟨m,j,b⟩:=bd b
 refine cQ [(4,(.bool ((m&&(decide (a≥0)))&&(decide (a<(v1.Dims.length:Int))))))] (l) ?_ ?_
 refine aV ?_
 refine lM _ (fun w s=>(((s.d 1 R).d 3 R).e 2 [1,0])) ?_
 refine lC 2 lE R (Z8_ok j) R ?_
 rintro _
 refine lN l ?_
 refine bT ?_
 rcases bo m with g | g
 refine bG ?_
 rcases bo (m&&(decide (a≥0))) with i | i
 refine cZ ?_
 exact qj tI
 refine cZ ?_
 exact qj tI
 refine iK ?_
 exact qj tI
 rintro σ1
 refine aV ?_
 cases b
 exact qF () (tE 3 [])
theorem Z29_ok  {v1:View}{r:View}(a:Z29 v1=some r) :
 FnOk Tryz.prog 120 [(.agg [(.slice A2 N2 D2),(.slice A3 N3 D3),(iv v1.Offset),(iv v1.Base)].toArray)] [aO kT3 (.slice A2 N2 D2) v1.Dims,aO kT3 (.slice A3 N3 D3) v1.Strides] (fun (h:HH×HH)=>((.agg [(s3 h.1),(s3 h.2),(iv r.Offset),(iv r.Base)].toArray),[ow kT3 3 (s3 h.1) r.Dims,ow kT3 3 (s3 h.2) r.Strides])):=by
 unfold Z29 at a
 refine aQ Tryz.func120 R 14 R R fun C V=>?_
 refine cL 0 aA ?_
 rintro rfl
 refine cL 1 aA ?_
 rintro rfl
 let j:=RR kT3 A2 D2 v1.Dims::RR kT3 A3 D3 v1.Strides::V
 refine cN j ?_
 refine aV ?_
 refine eB R fun l=>?_
 refine bF R R cY (fun q=>(aC ?_))
 let m:=aJ l [(sc A2 v1.Dims D2),(sc A3 v1.Strides D3),(iv v1.Offset),(iv v1.Base)] 96::j
 refine aV ?_
 obtain ⟨i,g,a⟩:=bd a
 obtain ⟨e,b,a⟩:=bd a
 refine dG 12 [0] bP fun u B=>?_
 refine gT 0 [0] ?_
 refine gT 3 [0] ?_
 refine oA 6 [0] ?_
 refine d1 2 R (lM _ (fun w s=>(s.d 2 R)) ?_)
 refine lC 1 jW R (Zs_ok g) R ?_
 rintro ⟨A8,N8,D8⟩
 refine aL 0 aB ?_
 rintro rfl
 refine aC (aG (sL [1,0]) (d1 5 R (lM _ (fun w s=>(s.d 4 R)) ?_)))
 refine lC 1 jW R (Zs_ok b) R ?_
 rintro ⟨A11,N11,D11⟩
 refine aL 0 aB ?_
 rintro rfl
 refine aC (aG (sL [2,1,0]) (dR 10 R (vz (.agg [(sc A8 i D8),(sc A11 e D11),(iv v1.Offset),(iv v1.Base)].toArray) (aW fE cY R R)) (hS:=(sL [2,1,0])) (d1 11 R (aK 2 R R cH R R R R R R (lN (_::_::aJ q [(sc A8 i D8),(sc A11 e D11),(iv v1.Offset),(iv v1.Base)] 96::m) ?_)))))
 refine aC (aG (sL [2,1,0]) (dD ?_))
 refine aV ?_
 cases a
 exact qS ((A8,i.length,D8),(A11,e.length,D11)) (tE 6 [1,0])
theorem Z2a_ok  {v1:View}{r:View}(a:Z2a v1=some r) :
 FnOk Tryz.prog 121 [(.agg [(.slice A2 N2 D2),(.slice A3 N3 D3),(iv v1.Offset),(iv v1.Base)].toArray)] [aO kT3 (.slice A2 N2 D2) v1.Dims,aO kT3 (.slice A3 N3 D3) v1.Strides] (fun (h:HH×HH)=>((.agg [(s3 h.1),(s3 h.2),(iv r.Offset),(iv r.Base)].toArray),[aO kT3 (s3 h.1) r.Dims,aO kT3 (s3 h.2) r.Strides])):=by
 unfold Z2a at a
 refine aQ Tryz.func121 R 8 R R fun C V=>?_
 refine cL 0 aA ?_
 rintro rfl
 refine cL 1 aA ?_
 rintro rfl
 let g:=RR kT3 A2 D2 v1.Dims::RR kT3 A3 D3 v1.Strides::V
 refine cN g ?_
 refine aV ?_
 refine eB R fun j=>?_
 refine bF R R cY (fun l=>(aC ?_))
 let i:=aJ j [(sc A2 v1.Dims D2),(sc A3 v1.Strides D3),(iv v1.Offset),(iv v1.Base)] 96::g
 refine aP ?_
 obtain ⟨m,b,a⟩:=bd a
 refine aV ?_
 refine lM _ (fun w s=>(((s.d 2 R).d 4 R).e 3 [1,0,2])) ?_
 refine lC 2 lE R (Z8_ok b) R ?_
 rintro _
 refine aP ?_
 split at a
 refine aP ?_
 refine lO (vz (.agg [(.slice none 0 0),(.slice none 0 0),(iv 0),(iv 0)].toArray) (aW fE cY R R)) (aK 0 R R cH R R R R R R (aC (aI (bW (cE ?_)))))
 cases a
 exact qS ((none,0,0),(none,0,0)) (fun w s=>(((s.nilr kT3).nilr kT3).e 6 [1,0]))
 refine bV ?_
 refine aK 0 R R cH R R R R R R (lN (aJ l [(sc A2 v1.Dims D2),(sc A3 v1.Strides D3),(iv v1.Offset),(iv v1.Base)] 96::i) ?_)
 refine aP ?_
 cases a
 exact qS ((A2,v1.Dims.length,D2),(A3,v1.Strides.length,D3)) (tE 4 [2,3])
theorem Z1a_ok  {v1:View}{g:Int}{L:Int}{b:Int}{j:Int}{r:View}(J:Z1a v1 g L b j=some r) :
 FnOk Tryz.prog 86 [(.agg [(.slice A2 N2 D2),(.slice A3 N3 D3),(iv v1.Offset),(iv v1.Base)].toArray),(iv g),(iv L),(iv b),(iv j)] [aO kT3 (.slice A2 N2 D2) v1.Dims,aO kT3 (.slice A3 N3 D3) v1.Strides] (fun (h:HH×HH)=>((.agg [(.slice h.1.1 h.1.2.1 h.1.2.2),(.slice h.2.1 h.2.2.1 h.2.2.2),(iv r.Offset),(iv r.Base)].toArray),[aO kT3 (.slice h.1.1 h.1.2.1 h.1.2.2) r.Dims,aO kT3 (.slice h.2.1 h.2.2.1 h.2.2.2) r.Strides])):=by
 unfold Z1a at J
 refine aQ Tryz.func86 R 102 R R fun C V=>?_
 refine cN (_::_::V) ?_
 refine cL 0 aA ?_
 rintro rfl
 refine cL 1 aA ?_
 rintro rfl
 let W0:List HP:=RR kT3 A2 D2 v1.Dims::RR kT3 A3 D3 v1.Strides::V
 refine cN W0 ?_
 refine aM (aE (eB R (fun b8=>(bF R R cY (fun b9=>(aC ?_))))))
 let U:List HP:=aJ b8 [(sc A2 v1.Dims D2),(sc A3 v1.Strides D3),(iv v1.Offset),(iv v1.Base)] 96::W0
 refine qN (_::U) ?_
 refine aI (aM (aM ?_))
 obtain ⟨a0,ak,J⟩:=bd J
 obtain ⟨a8,J⟩:=gd J
 refine cQ [(1,(iv g)),(2,(iv L)),(3,(iv b)),(4,(iv j)),(5,(pt b8 0)),(10,(pt b9 0)),(45,(.bool (((((((!a0)||(decide (b<(1:Int))))||(decide (b>(4096:Int))))||(decide (j<(-4096:Int))))||(decide (j>(4096:Int))))||(decide (L<(0:Int))))||(decide (L≥(ix v1.Dims g))))))] (aJ b9 [(.slice none 0 0),(.slice none 0 0),(iv 0),(iv 0)] 96::U) ?_ ?_
 refine aE (lO (vz (.agg [(sc A2 v1.Dims D2),(sc A3 v1.Strides D3),(iv v1.Offset),(iv v1.Base)].toArray) (dJ 1 gJ cH R R R R)) (lI R (lM (RR kT3 A2 D2 v1.Dims::RR kT3 A3 D3 v1.Strides::aJ _ _ _::U) (fun w s=>(((s.d 2 R).d 4 R).e 3 [1,0,2])) ?_)))
 refine lC 2 vM R (Z27_ok ak) R ?_
 rintro _
 refine lN (_::U) ?_
 refine lO (rJ R) (lB R ?_)
 rcases bo (!a0) with l | l
 refine lf (eA l) (lf (eA l) (lO (fA (decide (b<(1:Int))) R l) (lB R (lf (eA (oT l)) (lf (eA (oT l)) (lO (fA (decide (b>(4096:Int))) R (oT l)) (lB R (lf (eA (oT (oT l))) (lf (eA (oT (oT l))) (lO (fA (decide (j<(-4096:Int))) R (oT (oT l))) (lB R (lf (eA (oT (oT (oT l)))) (lf (eA (oT (oT (oT l)))) (lO (fA (decide (j>(4096:Int))) R (oT (oT (oT l)))) (lB R (lf (eA (oT (oT (oT (oT l))))) (lf (eA (oT (oT (oT (oT l))))) (lO (fA (decide (L<(0:Int))) R (oT (oT (oT (oT l))))) (lB R (lf (eA (oT (oT (oT (oT (oT l)))))) (lf (eA (oT (oT (oT (oT (oT l)))))) (lf (eA (oT (oT (oT (oT (oT l)))))) (lf (eA (oT (oT (oT (oT (oT l)))))) (lf (eA (oT (oT (oT (oT (oT l)))))) (lf (eA (oT (oT (oT (oT (oT l)))))) (lf (eA (oT (oT (oT (oT (oT l)))))) (lO (fA (decide (L≥(ix v1.Dims g))) R (oT (oT (oT (oT (oT l)))))) (aC ?_))))))))))))))))))))))))))))
 exact qJ (fun w s=>s)
 refine lW (b' l) (vI R) (lW (b' l) (mW R R) (lO (fT R l R) (lB R ?_)))
 rcases bo ((!a0)||(decide (b<(1:Int)))) with m | m
 refine lf (eA m) (lf (eA m) (lO (fA (decide (b>(4096:Int))) R m) (lB R (lf (eA (oT m)) (lf (eA (oT m)) (lO (fA (decide (j<(-4096:Int))) R (oT m)) (lB R (lf (eA (oT (oT m))) (lf (eA (oT (oT m))) (lO (fA (decide (j>(4096:Int))) R (oT (oT m))) (lB R (lf (eA (oT (oT (oT m)))) (lf (eA (oT (oT (oT m)))) (lO (fA (decide (L<(0:Int))) R (oT (oT (oT m)))) (lB R (lf (eA (oT (oT (oT (oT m))))) (lf (eA (oT (oT (oT (oT m))))) (lf (eA (oT (oT (oT (oT m))))) (lf (eA (oT (oT (oT (oT m))))) (lf (eA (oT (oT (oT (oT m))))) (lf (eA (oT (oT (oT (oT m))))) (lf (eA (oT (oT (oT (oT m))))) (lO (fA (decide (L≥(ix v1.Dims g))) R (oT (oT (oT (oT m))))) (aC ?_))))))))))))))))))))))))
 exact qJ (fun w s=>s)
 refine lW (b' m) (vI R) (lW (b' m) (yo R R) (lO (fT R m R) (lB R ?_)))
 rcases bo (((!a0)||(decide (b<(1:Int))))||(decide (b>(4096:Int)))) with q | q
 refine lf (eA q) (lf (eA q) (lO (fA (decide (j<(-4096:Int))) R q) (lB R (lf (eA (oT q)) (lf (eA (oT q)) (lO (fA (decide (j>(4096:Int))) R (oT q)) (lB R (lf (eA (oT (oT q))) (lf (eA (oT (oT q))) (lO (fA (decide (L<(0:Int))) R (oT (oT q))) (lB R (lf (eA (oT (oT (oT q)))) (lf (eA (oT (oT (oT q)))) (lf (eA (oT (oT (oT q)))) (lf (eA (oT (oT (oT q)))) (lf (eA (oT (oT (oT q)))) (lf (eA (oT (oT (oT q)))) (lf (eA (oT (oT (oT q)))) (lO (fA (decide (L≥(ix v1.Dims g))) R (oT (oT (oT q)))) (aC ?_))))))))))))))))))))
 exact qJ (fun w s=>s)
 refine lW (b' q) (vI R) (lW (b' q) (mW R R) (lO (fT R q R) (lB R ?_)))
 rcases bo ((((!a0)||(decide (b<(1:Int))))||(decide (b>(4096:Int))))||(decide (j<(-4096:Int)))) with D | D
 refine lf (eA D) (lf (eA D) (lO (fA (decide (j>(4096:Int))) R D) (lB R (lf (eA (oT D)) (lf (eA (oT D)) (lO (fA (decide (L<(0:Int))) R (oT D)) (lB R (lf (eA (oT (oT D))) (lf (eA (oT (oT D))) (lf (eA (oT (oT D))) (lf (eA (oT (oT D))) (lf (eA (oT (oT D))) (lf (eA (oT (oT D))) (lf (eA (oT (oT D))) (lO (fA (decide (L≥(ix v1.Dims g))) R (oT (oT D))) (aC ?_))))))))))))))))
 exact qJ (fun w s=>s)
 refine lW (b' D) (vI R) (lW (b' D) (yo R R) (lO (fT R D R) (lB R ?_)))
 rcases bo (((((!a0)||(decide (b<(1:Int))))||(decide (b>(4096:Int))))||(decide (j<(-4096:Int))))||(decide (j>(4096:Int)))) with E | E
 refine lf (eA E) (lf (eA E) (lO (fA (decide (L<(0:Int))) R E) (lB R (lf (eA (oT E)) (lf (eA (oT E)) (lf (eA (oT E)) (lf (eA (oT E)) (lf (eA (oT E)) (lf (eA (oT E)) (lf (eA (oT E)) (lO (fA (decide (L≥(ix v1.Dims g))) R (oT E)) (aC ?_))))))))))))
 exact qJ (fun w s=>s)
 refine lW (b' E) (vI R) (lW (b' E) (mW R R) (lO (fT R E R) (lB R ?_)))
 rcases bo ((((((!a0)||(decide (b<(1:Int))))||(decide (b>(4096:Int))))||(decide (j<(-4096:Int))))||(decide (j>(4096:Int))))||(decide (L<(0:Int)))) with B | B
 refine lf (eA B) (lf (eA B) (lf (eA B) (lf (eA B) (lf (eA B) (lf (eA B) (lf (eA B) (lO (fA (decide (L≥(ix v1.Dims g))) R B) (aC ?_))))))))
 exact qJ (fun w s=>s)
 refine lW (b' B) (vI R) (lW (b' B) (fS 0 gK R) (lW (b' B) (gB 1 cO R R R) (lW (b' B) (vI R) (bC 2 aA (show 0<v1.Dims.length by have:=(a8 B); omega) (fun aq o14 ha=>?_)))))
 subst ha
 refine lW (b' B) (eI bK cC R R (a8 B)) (lW (b' B) (gP 2 fP aA R (a8 B)) (lW (b' B) (Ao R R) (lO (fT R B R) (aC ?_))))
 exact qJ (fun w s=>s)
 rintro σ1
 refine aI ?_
 rcases cG J with ⟨a7,J⟩|⟨a7,J⟩
 refine bZ R a7 (aM (aE (lO (vz (.agg [(.slice none 0 0),(.slice none 0 0),(iv 0),(iv 0)].toArray) (aW fE cY R R)) (aK 0 R R cH R R R R R R (aC (aI (bW (cE ?_))))))))
 obtain rfl:=so J
 exact dI (vs:=[(.agg [(.slice none 0 0),(.slice none 0 0),(iv 0),(iv 0)].toArray)]) (.inl R) ((none,0,0),(none,0,0)) R ⟨⟨0,b9,_,_,R,R,.inl ⟨gJ,cH,R⟩⟩,trivial⟩ R (fun w s=>(((s.nilr kT3).nilr kT3).e 6 [1,0]))
 refine bJ R a7 (cP (aI (aM (aE (lI R (lI R (lO (wB R R) (lI R (lO (rI R R) (lO (kK R R) (lI R (aC (aI (aM (aM ?_)))))))))))))))
 obtain ⟨a5,J⟩:=gd J
 refine cQ [(1,(iv g)),(2,(iv L)),(3,(iv b)),(4,(iv j)),(5,(pt b8 0)),(10,(pt b9 0)),(63,(.bool ((decide ((aH (L+(aH ((aH (b - (1:Int)))*j))))<(0:Int)))||(decide ((aH (L+(aH ((aH (b - (1:Int)))*j))))≥(ix v1.Dims g))))))] (aJ b9 [(.slice none 0 0),(.slice none 0 0),(iv 0),(iv 0)] 96::U) ?_ ?_
 refine aE (lI R (lO (mW R R) (lB R ?_)))
 rcases bo (decide ((aH (L+(aH ((aH (b - (1:Int)))*j))))<(0:Int))) with u | u
 refine lf (eA u) (lf (eA u) (lf (eA u) (lf (eA u) (lf (eA u) (lf (eA u) (lf (eA u) (lO (fA (decide ((aH (L+(aH ((aH (b - (1:Int)))*j))))≥(ix v1.Dims g))) R u) (aC ?_))))))))
 exact qJ (fun w s=>s)
 refine lW (b' u) (vI R) (lW (b' u) (fS 0 gK R) (lW (b' u) (gB 1 cO R R R) (lW (b' u) (vI R) (bC 2 aA (show 0<v1.Dims.length by have:=(a5 u); omega) (fun ar o24 ha=>?_)))))
 subst ha
 refine lW (b' u) (eI bK cC R R (a5 u)) (lW (b' u) (gP 2 fP aA R (a5 u)) (lW (b' u) (Ao R R) (lO (fT R u R) (aC ?_))))
 exact qJ (fun w s=>s)
 rintro σ1
 refine aI ?_
 rcases cG J with ⟨a9,J⟩|⟨a9,J⟩
 refine bZ R a9 (aM (aE (lO (vz (.agg [(.slice none 0 0),(.slice none 0 0),(iv 0),(iv 0)].toArray) (aW fE cY R R)) (aK 0 R R cH R R R R R R (aC (aI (bW (cE ?_))))))))
 obtain rfl:=so J
 exact dI (vs:=[(.agg [(.slice none 0 0),(.slice none 0 0),(iv 0),(iv 0)].toArray)]) (.inl R) ((none,0,0),(none,0,0)) R ⟨⟨0,b9,_,_,R,R,.inl ⟨gJ,cH,R⟩⟩,trivial⟩ R (fun w s=>(((s.nilr kT3).nilr kT3).e 6 [1,0]))
 refine bJ R a9 (cP (aI (aM ?_)))
 obtain ⟨i,ai,J⟩:=bd J
 refine aE (lO (vz (.agg [(sc A2 v1.Dims D2),(sc A3 v1.Strides D3),(iv v1.Offset),(iv v1.Base)].toArray) (dJ 1 gJ cH R R R R)) (lM (RR kT3 A2 D2 v1.Dims::RR kT3 A3 D3 v1.Strides::aJ _ _ _::U) (fun w s=>(((s.d 2 R).d 4 R).e 3 [1,0,2])) ?_))
 refine lC 2 vN R (Z29_ok ai) R ?_
 rintro ⟨⟨a6,ap,M⟩,⟨a2,ao,G⟩⟩
 refine lN (ow kT3 3 (.slice a6 ap M) i.Dims::ow kT3 3 (.slice a2 ao G) i.Strides::_::U) ?_
 refine aL 0 aB ?_
 rintro rfl
 refine aL 1 aB ?_
 rintro rfl
 refine bF R R cY (fun Z=>(aK 0 R R cH R R R R R R (lN (aJ Z [(sc a6 i.Dims M),(sc a2 i.Strides G),(iv i.Offset),(iv i.Base)] 96::_::_::_::U) ?_)))
 refine aC (aI (aM ?_))
 obtain ⟨F,J⟩:=gd J
 refine cQ [(1,(iv g)),(3,(iv b)),(4,(iv j)),(10,(pt b9 0)),(12,(pt Z 0))] (aJ b9 [(.slice none 0 0),(.slice none 0 0),(iv 0),(iv 0)] 96::aJ Z [(sc a6 i.Dims M),(sc a2 i.Strides G),(iv (aH (i.Offset+(aH (L*(ix i.Strides g)))))),(iv i.Base)] 96::OO kT3 3 a6 M i.Dims::OO kT3 3 a2 G i.Strides::U) ?_ ?_
 refine aZ 2 aB (show 0<i.Strides.length by have:=F; omega) (fun al o34 ha=>?_)
 subst ha
 refine dG 12 [0] bP (fun ht hn=>(dR 0 R (fS 2 nI R) (hS:=(sL [0])) (dR 2 R (vI R) (hS:=(sL [0])) (dR 3 R (fS 1 fZ R) (hS:=(sL [0])) (dR 5 R (vI R) (hS:=(sL [0])) (hX [1,4] (by kernel_rfl) R ⟨?_,?_,trivial⟩))))))
 refine lO (gB 0 fP R R R) (aC (aG (sL [0]) (d1 4 R (lO (gB 0 cO R R R) (aC (aG (sL [0]) (dR 6 R (eI bK cC R R F) (hS:=(sL [0])) (dR 7 R (gP 1 fP aB R F) (hS:=(sL [0])) (dR 8 R (rI R R) (hS:=(sL [0])) (dR 9 R (kK R R) (hS:=(sL [0])) (dR 10 R (fS 2 nI R) (hS:=(sL [0])) (d1 11 R (cT 0 R R cC R R R R R (lN (aJ Z [(sc a6 i.Dims M),(sc (ad al o34) i.Strides G),(iv (aH (i.Offset+(aH (L*(ix i.Strides g)))))),(iv i.Base)] 96::_::OO kT3 3 (ad al o34) G i.Strides::_::U) ?_))))))))))))))
 refine aC (aG (sL [0]) (dD ?_))
 exact qJ (fun w s=>(s.e 4 [3,0,1,2]))
 refine lO (gB 0 cO R R R) (aC (aG (sL [0]) (dR 6 R (eI bK cC R R F) (hS:=(sL [0])) (dR 7 R (gP 1 fP aB R F) (hS:=(sL [0])) (dR 8 R (rI R R) (hS:=(sL [0])) (d1 1 R (lO (gB 0 fP R R R) (aC (aG (sL [0]) (dR 9 R (kK R R) (hS:=(sL [0])) (dR 10 R (fS 2 nI R) (hS:=(sL [0])) (d1 11 R (cT 0 R R cC R R R R R (aC (aG (sL [0]) (dD ?_))))))))))))))))
 exact qJ (fun w s=>(s.e 4 [3,0,1,2]))
 rintro σ1
 refine aI (aM ?_)
 obtain ⟨a1,J⟩:=gd J
 refine aE (lO (fS 0 gK R) (lO (gB 1 cO R R R) (lI R (lI R (bC 2 aB (show 0<i.Dims.length by have:=a1; omega) (fun Y o37 ha=>?_))))))
 subst ha
 refine lO (eI bK cC R R a1) (lM (OO kT3 3 (ad Y o37) M i.Dims::aJ _ _ _::aJ Z [(sc (ad Y o37) i.Dims M),(sc a2 i.Strides G),(iv (aH (i.Offset+(aH (L*(ix i.Strides g)))))),(iv i.Base)] 96::OO kT3 3 a2 G i.Strides::U) (fun w s=>(s.e 4 [2,0,1,3])) ?_)
 refine dV (K:=kT3) (x':=b) 0 g R R cC R R a1.1 a1.2 ?_ ?_
 exact fun I h s=>(gD).put I h () b s
 refine lN (ow kT3 3 (.slice (ad Y o37) i.Dims.length M) (i.Dims.set g.toNat b)::_::_::_::U) ?_
 refine aC (aI (aM (aZ 3 aB (show 0<i.Strides.length by have:=F; omega) (fun T o39 ha=>?_))))
 subst ha
 refine dG 12 [3] bP (fun ht hn=>(dR 0 R (fS 1 fZ R) (hS:=(sL [3])) (dR 1 R (gB 2 cO R R R) (hS:=(sL [3])) (dR 2 R (vI R) (hS:=(sL [3])) (dR 3 R (fS 1 fZ R) (hS:=(sL [3])) (dR 4 R (gB 2 cO R R R) (hS:=(sL [3])) (dR 5 R (vI R) (hS:=(sL [3])) (dR 6 R (eI bK cC R R F) (hS:=(sL [3])) (dR 8 R (vI R) (hS:=(sL [3])) (d1 7 R (lO (gP 3 fP aB R F) (aC (aG (sL [3]) (dR 9 R (rI R R) (hS:=(sL [3])) (dR 10 R (eI bK cC R R F) (hS:=(sL [3])) (d1 11 R (lM (OO kT3 3 (ad T o39) G i.Strides::ow _ _ _ _::aJ _ _ _::aJ Z [(sc (ad Y o37) i.Dims M),(sc (ad T o39) i.Strides G),(iv (aH (i.Offset+(aH (L*(ix i.Strides g)))))),(iv i.Base)] 96::U) (fun w s=>(s.e 4 [3,0,1,2])) ?_)))))))))))))))))
 refine dV (K:=kT3) (x':=(aH ((ix i.Strides g)*j))) 0 g R R cC R R F.1 F.2 ?_ ?_
 exact fun I h s=>(gD).put I h () (aH ((ix i.Strides g)*j)) s
 refine lN (ow kT3 3 (.slice (ad T o39) i.Strides.length G) (i.Strides.set g.toNat (aH ((ix i.Strides g)*j)))::_::_::_::U) ?_
 refine aC (aG (sL [0]) (dD ?_))
 obtain ⟨ah,a4,J⟩:=bd J
 replace a4:=Option.some.inj a4
 refine qM (ow kT3 3 (.slice (ad T o39) i.Strides.length G) ah::_::_::_::U) (fun w s=>by rw [← a4]; exact s) ?_
 refine aI (aM (bB (A:=((List Int))×(Unit)) (fun a=>Z1a_J1 g L b i a.1=some r) (fun a=>[(10,(pt b9 0)),(12,(pt Z 0))]) (fun a=>aJ b9 [(.slice none 0 0),(.slice none 0 0),(iv 0),(iv 0)] 96::aJ Z [(sc (ad Y o37) i.Dims M),(sc (ad T o39) i.Strides G),(iv (aH (i.Offset+(aH (L*(ix i.Strides g)))))),(iv i.Base)] 96::ow kT3 3 (.slice (ad Y o37) i.Dims.length M) (i.Dims.set g.toNat b)::ow kT3 3 (.slice (ad T o39) i.Strides.length G) a.1::U) ?_ ?_))
 refine aM (aE (lI R (lO (lK R R) (aC (aI ?_)))))
 rcases cG J with ⟨a3,J⟩|⟨a3,J⟩
 refine bZ R a3 (aE (lO (fS 1 fZ R) (lO (gB 3 cO R R R) (lI R (lO (eI bK cC R R F) (dV (K:=kT3) (x':=(0:Int)) 0 g R R cC R R F.1 F.2 ?_ ?_))))))
 exact fun I h s=>(gD).put I h () (0:Int) s
 refine lN (ow kT3 3 (.slice (ad T o39) i.Strides.length G) (ah.set g.toNat (0:Int))::_::_::_::U) ?_
 refine aC ?_
 exact qI ((ah.set g.toNat (0:Int)),()) J (fun w s=>(s.e 4 [2,3,1,0]))
 refine bJ R a3 (cP ?_)
 exact qI (ah,()) J (fun w s=>(s.e 4 [2,3,1,0]))
 rintro ⟨ae,_⟩ σ1 J
 replace J:Z1a_J1 g L b i ae=some r:=J
 unfold Z1a_J1 at J
 refine aM ?_
 obtain ⟨O,aj,J⟩:=bd J
 refine aE (lO (vz (.agg [(sc (ad Y o37) i.Dims M),(sc (ad T o39) i.Strides G),(iv (aH (i.Offset+(aH (L*(ix i.Strides g)))))),(iv i.Base)].toArray) (dJ 1 gJ cH R R R R)) (iT (fun w s=>s.shr 2 R) (iT (fun w s=>s.shr 3 R) (lM (aO kT3 (.slice (ad Y o37) i.Dims.length M) (i.Dims.set g.toNat b)::aO kT3 (.slice (ad T o39) i.Strides.length G) ae::aO kT3 (.slice (ad T o39) i.Strides.length G) ae::aO kT3 (.slice (ad Y o37) i.Dims.length M) (i.Dims.set g.toNat b)::aJ _ _ _::aJ _ _ _::U) (fun w s=>(((s.d 1 R).d 1 R).e 6 [1,0,2,3,4,5])) ?_))))
 refine lC 2 vO R (Z2a_ok (v1:=(⟨(i.Dims.set g.toNat b),ae,(aH (i.Offset+(aH (L*(ix i.Strides g))))),i.Base⟩:View)) aj) R ?_
 rintro ⟨⟨aa,am,ag⟩,⟨ab,an,ac⟩⟩
 refine lN (aO kT3 (.slice aa am ag) O.Dims::aO kT3 (.slice ab an ac) O.Strides::_::_::_::_::U) ?_
 refine aL 0 aA ?_
 rintro rfl
 refine aL 1 aA ?_
 rintro rfl
 refine aK 4 R R cH R R R R R R (lN (_::_::_::_::aJ b9 [(sc aa O.Dims ag),(sc ab O.Strides ac),(iv O.Offset),(iv O.Base)] 96::_::U) ?_)
 refine aC (aI (bW ?_))
 obtain rfl:=so J
 exact dI (vs:=[(.agg [(sc aa O.Dims ag),(sc ab O.Strides ac),(iv O.Offset),(iv O.Base)].toArray)]) (.inl R) ((aa,O.Dims.length,ag),(ab,O.Strides.length,ac)) R ⟨⟨4,b9,_,_,R,R,.inl ⟨gJ,cH,R⟩⟩,trivial⟩ R (fun w s=>(s.e 9 [0,1]))
theorem Z1u_ok  {t1:Tensor}{a:(List Int)}{i:Int}{r:(List Int)}(g:Z1u t1 a i=some r) :
 FnOk Tryz.prog 123 [(.agg [(.slice A2 N2 D2),(.slice A3 N3 D3)].toArray),(.slice A5 N5 D5),(iv i)] [aO kT3 (.slice A2 N2 D2) t1.Dims,ow kT3 3 (.slice A3 N3 D3) t1.Data,aO kT3 (.slice A5 N5 D5) a] (fun (h:Unit)=>((.tuple [].toArray),[ow kT3 3 (.slice A3 N3 D3) r])):=by
 unfold Z1u at g
 refine aQ Tryz.func123 R 14 R R fun C V=>?_
 refine cM _ (tE 3 [1,0,2]) ?_
 refine cL 0 aB ?_
 rintro rfl
 refine cL 1 aA ?_
 rintro rfl
 refine cL 2 aA ?_
 rintro rfl
 let q:=RR kT3 A2 D2 t1.Dims::RR kT3 A5 D5 a::V
 refine aV ?_
 refine eB R fun l=>?_
 refine aC (qM _ (tE 2 [1,0]) ?_)
 let E:=aJ l [(sc A2 t1.Dims D2),(sc A3 t1.Data D3)] 58::q
 refine bT ?_
 obtain ⟨u,j,g⟩:=bd g
 obtain ⟨b,g⟩:=gd g
 refine aZ 0 aB (show 0<t1.Data.length by have:=b; omega) (fun B o12 m=>?_)
 subst m
 refine dG 9 [0] bP fun D F=>?_
 refine kr 0 [0] ?_
 refine oz 6 [0] ?_
 refine d1 5 R (lM _ (fun w s=>(((s.d 2 R).d 4 R).e 3 [1,0,2])) ?_)
 refine lC 2 sG R (Z0n_ok j) R ?_
 rintro _
 refine aC (aG (sL [0]) ?_)
 refine oz 7 [0] ?_
 refine d1 8 R (dV (K:=kT3) (x':=i) 0 u R R cC R R b.1 b.2 ?_ ?_)
 exact fun I h s=>(gD).put I h () i s
 refine aC (aG (sL [0]) (dD ?_))
 cases g
 exact Ap () (tE 4 [0])
theorem Z0t_ok  {t1:Tensor}{E:Int}{b:Int}{g:Int}{l:Int}{r:Tensor}(j:Z0t t1 E b g l=some r) :
 FnOk Tryz.prog 87 [(.agg [(.slice A2 N2 D2),(.slice A3 N3 D3)].toArray),(iv E),(iv b),(iv g),(iv l)] [aO kT3 (.slice A2 N2 D2) t1.Dims,aO kT3 (.slice A3 N3 D3) t1.Data] (fun (h:HH×HH)=>((.agg [(s3 h.1),(s3 h.2)].toArray),[ow kT3 3 (s3 h.1) r.Dims,ow kT3 3 (s3 h.2) r.Data])):=by
 unfold Z0t at j
 refine aQ Tryz.func87 R 101 R R fun C V=>?_
 refine cL 0 aA ?_
 rintro rfl
 refine cL 1 aA ?_
 rintro rfl
 let W0:=RR kT3 A2 D2 t1.Dims::RR kT3 A3 D3 t1.Data::V
 refine cN W0 ?_
 refine aV ?_
 refine eB R fun b8=>?_
 refine bF R R dT (fun T=>(aC ?_))
 let W1:=aJ b8 [(sc A2 t1.Dims D2),(sc A3 t1.Data D3)] 58::W0
 refine aP ?_
 obtain ⟨F,aa,j⟩:=bd j
 refine cQ [(1,(iv E)),(2,(iv b)),(3,(iv g)),(4,(iv l)),(5,(pt b8 0)),(10,(pt T 0)),(43,(.bool (((((((!F)||(decide (b<0)))||(decide (b>4096)))||(decide (g<0)))||(decide (g>4096)))||(decide (l<0)))||(decide (l>4096)))))] (aJ T [(.slice none 0 0),(.slice none 0 0)] 58::W1) ?_ ?_
 refine aP ?_
 refine lM _ (fun w s=>(((s.d 2 R).d 4 R).e 3 [1,0,2])) ?_
 refine lC 2 oG R (Z1g_ok aa) R ?_
 rintro _
 refine aV ?_
 rcases bo (!F) with ab | ab
 refine AJ ?_
 exact qj tI
 refine bG ?_
 rcases bo ((!F)||(decide (b<0))) with ac | ac
 refine AI ?_
 exact qj tI
 refine bG ?_
 rcases bo (((!F)||(decide (b<0)))||(decide (b>4096))) with a9 | a9
 refine wH ?_
 exact qj tI
 refine bG ?_
 rcases bo ((((!F)||(decide (b<0)))||(decide (b>4096)))||(decide (g<0))) with a8 | a8
 refine iK ?_
 exact qj tI
 refine bG ?_
 rcases bo (((((!F)||(decide (b<0)))||(decide (b>4096)))||(decide (g<0)))||(decide (g>4096))) with ae | ae
 refine cZ ?_
 exact qj tI
 refine bG ?_
 rcases bo ((((((!F)||(decide (b<0)))||(decide (b>4096)))||(decide (g<0)))||(decide (g>4096)))||(decide (l<0))) with ag | ag
 refine bG ?_
 exact qj tI
 refine bG ?_
 exact qj tI
 rintro σ1
 refine bT ?_
 split at j
 refine aP ?_
 refine lO (vz (.agg [(.slice none 0 0),(.slice none 0 0)].toArray) (aW gO dT R R)) (aK 0 R R bS R R R R R R (aC (aI (bW (cE ?_)))))
 cases j
 exact qS ((none,0,0),(none,0,0)) (fun w s=>(((s.nilo kT3 3).nilo kT3 3).e 6 [1,0]))
 refine bG ?_
 obtain ⟨a7,j⟩:=gd j
 refine bG ?_
 refine bC 2 aA (show 0<t1.Dims.length by have:=a7; omega) (fun ap o21 ha=>?_)
 subst ha
 refine bV ?_
 obtain ⟨I,a1,j⟩:=bd j
 refine ov ?_
 refine lM _ (fun w s=>(s.d 2 R)) ?_
 refine lC 1 kM R (Z0j_ok a1) R ?_
 rintro ⟨J,b1,L⟩
 refine aL 0 aB ?_
 rintro rfl
 refine cA ?_
 obtain ⟨aw,a4,j⟩:=bd j
 refine aV ?_
 refine lC 1 kj R (FnOk.lends (A':=[OO kT3 3 J L I]) (A:=[RR kT3 J L I]) (B:=[]) (Zm_ok a4) ⟨aU,trivial⟩ (fun _=>trivial)) R ?_
 rintro _
 refine aP ?_
 split at j
 refine aP ?_
 refine lO (vz (.agg [(.slice none 0 0),(.slice none 0 0)].toArray) (aW gO dT R R)) (aK 1 R R bS R R R R R R (aC (aI (bW (cE ?_)))))
 cases j
 exact qS ((none,0,0),(none,0,0)) (fun w s=>(((s.nilo kT3 3).nilo kT3 3).e 7 [1,0]))
 refine bG ?_
 obtain ⟨i,a3,j⟩:=bd j
 refine aV ?_
 refine lC 1 nH R (FnOk.lends (A':=[OO kT3 3 J L I]) (A:=[RR kT3 J L I]) (B:=[]) (Z0i_ok a3) ⟨aU,trivial⟩ (fun _=>⟨(bI iW),(bI iW),trivial⟩)) R ?_
 rintro ⟨⟨m,az,q⟩,⟨D,au,u⟩⟩
 refine aL 1 aB ?_
 rintro rfl
 refine aL 2 aB ?_
 rintro rfl
 refine bF R R dT (fun G=>(aK 0 R R bS R R R R R R (lN (aJ G [(sc m i.Dims q),(sc D i.Data u)] 58::_::_::_::_::W1) ?_)))
 refine aP ?_
 refine bB (A:=((List Int))×(Unit)) (fun a=>Z0t_J1 i a.1=some r) (fun a=>[(10,(pt T 0)),(13,(pt G 0))]) (fun a=>aJ T [(.slice none 0 0),(.slice none 0 0)] 58::aJ G [(sc m i.Dims q),(sc D i.Data u)] 58::OO kT3 3 m q i.Dims::ow kT3 3 (.slice D i.Data.length u) a.1::W1) ?_ ?_
 refine bV ?_
 obtain ⟨e1,al,am⟩:=bd j
 refine bD (A:=Unit) al (fun s a=>[(1,(iv E)),(2,(iv b)),(4,(iv l)),(5,(pt b8 0)),(10,(pt T 0)),(13,(pt G 0)),(14,(iv s.2))]) (fun s a=>aJ T [(.slice none 0 0),(.slice none 0 0)] 58::aJ G [(sc m i.Dims q),(sc D i.Data u)] 58::OO kT3 3 m q i.Dims::ow kT3 3 (.slice D i.Data.length u) s.1::W1) () (aS R) (tE 5 [4,0,2,3]) ?_
 rintro ⟨M,ay⟩ _ σ1 ao j an
 dsimp only [Z0t_L1] at j
 refine cU ?_
 split at j
 refine bV ?_
 obtain ⟨U,a0,j⟩:=bd j
 refine bG ?_
 refine lM _ (fun w s=>(s.d 5 R)) ?_
 refine lC 1 lA R (Zh_ok a0) R ?_
 rintro ⟨ax,ar,ah⟩
 refine aL 0 aB ?_
 rintro rfl
 refine aP ?_
 obtain ⟨aj,j⟩:=gd j
 obtain ⟨O,ai,j⟩:=bd j
 obtain ⟨a5,j⟩:=gd j
 obtain ⟨b0,a6,j⟩:=bd j
 refine aZ 0 aB (show 0<U.length by have:=aj; omega) (fun a2 o56 ha=>?_)
 subst ha
 refine aZ 7 aA (show 0<t1.Data.length by have:=a5; omega) (fun av o62 ha=>?_)
 subst ha
 refine dG 19 [4] bP fun ht hn=>?_
 refine uu 0 [4] ?_
 refine kr 13 [4] ?_
 refine d1 12 R (lC 1 kM R (FnOk.lends (A':=[OO kT3 3 (ad a2 o56) ah U]) (A:=[RR kT3 (ad a2 o56) ah U]) (B:=[]) (Z0j_ok ai) ⟨aU,trivial⟩ (fun _=>⟨(bI iW),trivial⟩)) R ?_)
 rintro ⟨Z,aq,Y⟩
 refine aL 1 aB ?_
 rintro rfl
 refine aC (aG (sL [5,1]) (d1 18 R (lM _ (tE 6 [4,1,5,0,2,3]) ?_)))
 refine lC 3 sH R (FnOk.lends (A':=[OO kT3 3 m q i.Dims,OO kT3 3 Z Y O]) (A:=[RR kT3 m q i.Dims,RR kT3 Z Y O]) (B:=[ow kT3 3 (.slice D i.Data.length u) M]) (FnOk.perm (Z1u_ok (t1:=(⟨i.Dims,M⟩:Tensor)) a6) (Pre':=[RR kT3 m q i.Dims,RR kT3 Z Y O,ow kT3 3 (.slice D i.Data.length u) M]) (fun _ _ _ s=>(s.e 3 [0,2,1]))) ⟨aU,aU,trivial⟩ (fun _=>⟨(bI iW),trivial⟩)) R ?_
 rintro _
 refine aC (aG (tE 6 [3,4,5,0]) (dD ?_))
 refine dN ?_
 cases j
 exact qA () (tE 6 [4,5,0,2])
 refine aP ?_
 cases j
 obtain rfl:=an _ R
 have j:=am
 refine aV ?_
 exact qI (M,()) j tI
 rintro ⟨ak,_⟩ σ1 j
 dsimp only [Z0t_J1] at j
 refine aP ?_
 refine aK 0 R R bS R R R R R R (lN (aJ T [(sc m i.Dims q),(sc D i.Data u)] 58::_::_::ow kT3 3 (.slice D i.Data.length u) ak::W1) ?_)
 refine aP ?_
 cases j
 exact qS ((m,i.Dims.length,q),(D,i.Data.length,u)) (tE 7 [2,3])
theorem Z0s_ok  {t1:Tensor}{m:Int}{b:(List Int)}{r:Tensor}(g:Z0s t1 m b=some r) :
 FnOk Tryz.prog 88 [(.agg [(.slice A2 N2 D2),(.slice A3 N3 D3)].toArray),(iv m),(.slice A6 N6 D6)] [aO kT3 (.slice A2 N2 D2) t1.Dims,aO kT3 (.slice A3 N3 D3) t1.Data,aO kT3 (.slice A6 N6 D6) b] (fun (h:HH×HH)=>((.agg [(s3 h.1),(s3 h.2)].toArray),[ow kT3 3 (s3 h.1) r.Dims,ow kT3 3 (s3 h.2) r.Data])):=by
 unfold Z0s at g
 refine aQ Tryz.func88 R 70 R R fun C V=>?_
 refine cL 0 aA ?_
 rintro rfl
 refine cL 1 aA ?_
 rintro rfl
 refine cL 2 aA ?_
 rintro rfl
 let W0:=RR kT3 A2 D2 t1.Dims::RR kT3 A3 D3 t1.Data::RR kT3 A6 D6 b::V
 refine cN W0 ?_
 refine aV ?_
 refine eB R fun b7=>?_
 refine bF R R dT (fun b8=>(aC ?_))
 let W1:=aJ b7 [(sc A2 t1.Dims D2),(sc A3 t1.Data D3)] 58::W0
 refine aP ?_
 obtain ⟨r9,a8,g⟩:=bd g
 obtain ⟨M,g⟩:=gd g
 obtain ⟨al,a5,g⟩:=bd g
 refine cQ [(1,(iv m)),(2,(sc A6 b D6)),(3,(pt b7 0)),(6,(pt b8 0)),(29,(.bool (((!r9)||((b.length:Int)==0))||(!al))))] (aJ b8 [(.slice none 0 0),(.slice none 0 0)] 58::W1) ?_ ?_
 refine aP ?_
 refine lM _ (fun w s=>(((s.d 2 R).d 4 R).e 3 [1,0,2])) ?_
 refine lC 2 oG R (Z1g_ok a8) R ?_
 rintro _
 refine aV ?_
 rcases bo (!r9) with a9 | a9
 refine oy ?_
 exact qj tI
 refine cA ?_
 rcases bo ((!r9)||((b.length:Int)==0)) with j | j
 refine cU ?_
 exact qj tI
 refine bG ?_
 refine bC 2 aA (show 0<t1.Dims.length by have:=(M j); omega) (fun av o13 T=>?_)
 subst T
 refine lW (b' j) (eI bK cC R R (M j)) (lW (b' j) (gP 2 fP aA R (M j)) (lM _ (fun w s=>(s.d 4 R)) ?_))
 refine bY 1 R (b' j) uy R (Z0k_ok (bN a5 (cS j))) R ?_
 rintro _
 refine aP ?_
 exact qj tI
 rintro σ1
 refine bT ?_
 split at g
 refine aP ?_
 refine lO (vz (.agg [(.slice none 0 0),(.slice none 0 0)].toArray) (aW gO dT R R)) (aK 0 R R bS R R R R R R (aC (aI (bW (cE ?_)))))
 cases g
 exact qS ((none,0,0),(none,0,0)) (fun w s=>(((s.nilo kT3 3).nilo kT3 3).e 7 [1,0]))
 refine bG ?_
 obtain ⟨G,a7,g⟩:=bd g
 refine bV ?_
 refine lM _ (fun w s=>(s.d 2 R)) ?_
 refine lC 1 kM R (Z0j_ok a7) R ?_
 rintro ⟨F,az,u⟩
 refine aL 0 aB ?_
 rintro rfl
 refine cA ?_
 obtain ⟨aq,a1,g⟩:=bd g
 refine aV ?_
 refine lC 1 kj R (FnOk.lends (A':=[OO kT3 3 F u G]) (A:=[RR kT3 F u G]) (B:=[]) (Zm_ok a1) ⟨aU,trivial⟩ (fun _=>trivial)) R ?_
 rintro _
 refine aP ?_
 split at g
 refine aP ?_
 refine lO (vz (.agg [(.slice none 0 0),(.slice none 0 0)].toArray) (aW gO dT R R)) (aK 1 R R bS R R R R R R (aC (aI (bW (cE ?_)))))
 cases g
 exact qS ((none,0,0),(none,0,0)) (fun w s=>(((s.nilo kT3 3).nilo kT3 3).e 8 [1,0]))
 refine bG ?_
 obtain ⟨i,a3,g⟩:=bd g
 refine aV ?_
 refine lC 1 nH R (FnOk.lends (A':=[OO kT3 3 F u G]) (A:=[RR kT3 F u G]) (B:=[]) (Z0i_ok a3) ⟨aU,trivial⟩ (fun _=>⟨(bI iW),(bI iW),trivial⟩)) R ?_
 rintro ⟨⟨E,au,D⟩,⟨q,ar,l⟩⟩
 refine aL 1 aB ?_
 rintro rfl
 refine aL 2 aB ?_
 rintro rfl
 refine bF R R dT (fun L=>(aK 0 R R bS R R R R R R (lN (aJ L [(sc E i.Dims D),(sc q i.Data l)] 58::_::_::_::_::W1) ?_)))
 refine aP ?_
 refine bB (A:=((List Int))×(Unit)) (fun a=>Z0s_J1 i a.1=some r) (fun a=>[(6,(pt b8 0)),(8,(pt L 0))]) (fun a=>aJ b8 [(.slice none 0 0),(.slice none 0 0)] 58::aJ L [(sc E i.Dims D),(sc q i.Data l)] 58::OO kT3 3 E D i.Dims::ow kT3 3 (.slice q i.Data.length l) a.1::W1) ?_ ?_
 refine bV ?_
 obtain ⟨e1,ag,ah⟩:=bd g
 refine bD (A:=Unit) ag (fun s a=>[(1,(iv m)),(2,(sc A6 b D6)),(3,(pt b7 0)),(6,(pt b8 0)),(7,(sc F G u)),(8,(pt L 0)),(9,(iv s.2))]) (fun s a=>aJ b8 [(.slice none 0 0),(.slice none 0 0)] 58::OO kT3 3 F u G::aJ L [(sc E i.Dims D),(sc q i.Data l)] 58::OO kT3 3 E D i.Dims::ow kT3 3 (.slice q i.Data.length l) s.1::W1) () (aS R) (tE 5 [4,1,0,2,3]) ?_
 rintro ⟨am,aj⟩ _ σ1 an g ak
 dsimp only [Z0s_L1] at g
 refine cU ?_
 split at g
 refine bV ?_
 obtain ⟨Z,a0,g⟩:=bd g
 refine aP ?_
 refine lM _ (tE 5 [1,0,2,3,4]) ?_
 refine lC 1 lA R (FnOk.lends (A':=[OO kT3 3 F u G]) (A:=[RR kT3 F u G]) (B:=[]) (Zh_ok a0) ⟨aU,trivial⟩ (fun _=>⟨(bI iW),trivial⟩)) R ?_
 rintro ⟨ay,aw,aa⟩
 refine aL 1 aB ?_
 rintro rfl
 refine aP ?_
 obtain ⟨ab,g⟩:=gd g
 obtain ⟨a4,g⟩:=gd g
 obtain ⟨Y,ae,g⟩:=bd g
 obtain ⟨ac,a6,g⟩:=bd g
 obtain ⟨J,g⟩:=gd g
 refine aZ 1 aB (show 0<Z.length by have:=ab; omega) (fun a2 o56 T=>?_)
 subst T
 refine aZ 9 aA (show 0<b.length by have:=a4; omega) (fun ap o59 T=>?_)
 subst T
 refine aZ 5 aB (show 0<i.Data.length by have:=J; omega) (fun ax o67 T=>?_)
 subst T
 refine dG 17 [5] bP fun ht hn=>?_
 refine mu 0 [5] ?_
 refine d1 13 R (lM _ (tE 6 [1,0,2,3,4,5]) ?_)
 refine lC 1 kM R (FnOk.lends (A':=[OO kT3 3 (ad a2 o56) aa Z]) (A:=[RR kT3 (ad a2 o56) aa Z]) (B:=[]) (Z0j_ok ae) ⟨aU,trivial⟩ (fun _=>⟨(bI iW),trivial⟩)) R ?_
 rintro ⟨O,ao,U⟩
 refine aL 1 aB ?_
 rintro rfl
 refine aC (aG (tE 7 [2,0,3,4,5]) (d1 14 R (lM _ (fun w s=>(((s.d 8 R).d 10 R).e 9 [3,1,0,2,4,5,6,7,8])) ?_)))
 refine lC 3 nb R (FnOk.lends (A':=[OO kT3 3 O U Y]) (A:=[RR kT3 O U Y]) (B:=[RR kT3 A2 D2 t1.Dims,RR kT3 A3 D3 t1.Data]) (FnOk.perm (Z16_ok a6) (Pre':=[RR kT3 O U Y,RR kT3 A2 D2 t1.Dims,RR kT3 A3 D3 t1.Data]) (fun _ _ _ s=>(s.e 3 [1,2,0]))) ⟨aU,trivial⟩ (fun _=>trivial)) R ?_
 rintro _
 refine aC (aG (tE 7 [2,1,3,4,5]) (dR 15 R (eI bK cC R R J) (hS:=(tE 7 [2,1,3,4,5])) (d1 16 R (lM _ (fun w s=>(s.f 7 [6,1,0,6])) ?_))))
 refine dV (K:=kT3) (x':=ac) 0 aj R R cC R R J.1 J.2 ?_ ?_
 exact fun I h s=>(gD).put I h () ac s
 refine aC (aG (tE 7 [3,2,4,5,6]) (dD ?_))
 refine dN ?_
 cases g
 exact qA () (tE 7 [4,3,5,6,0])
 refine aP ?_
 cases g
 obtain rfl:=ak _ R
 have g:=ah
 refine aV ?_
 exact qI (am,()) g (tE 5 [0,2,3,4])
 rintro ⟨ai,_⟩ σ1 g
 dsimp only [Z0s_J1] at g
 refine aP ?_
 refine aK 0 R R bS R R R R R R (lN (aJ b8 [(sc E i.Dims D),(sc q i.Data l)] 58::aJ L [(sc E i.Dims D),(sc q i.Data l)] 58::_::ow kT3 3 (.slice q i.Data.length l) ai::W1) ?_)
 refine aP ?_
 cases g
 exact qS ((E,i.Dims.length,D),(q,i.Data.length,l)) (tE 8 [2,3])
theorem Z0u_ok  {t1:Tensor}{j:Int}{g:(List Int)}{n7:Int}{r:Tensor}(i:Z0u t1 j g n7=some r) :
 FnOk Tryz.prog 89 [(.agg [(.slice A2 N2 D2),(.slice A3 N3 D3)].toArray),(iv j),(.slice A6 N6 D6),(iv n7)] [aO kT3 (.slice A2 N2 D2) t1.Dims,aO kT3 (.slice A3 N3 D3) t1.Data,aO kT3 (.slice A6 N6 D6) g] (fun (h:HH×HH)=>((.agg [(s3 h.1),(s3 h.2)].toArray),[ow kT3 3 (s3 h.1) r.Dims,ow kT3 3 (s3 h.2) r.Data])):=by
 unfold Z0u at i
 refine aQ Tryz.func89 R 80 R R fun C V=>?_
 refine cL 0 aA ?_
 rintro rfl
 refine cL 1 aA ?_
 rintro rfl
 refine cL 2 aA ?_
 rintro rfl
 let W0:=RR kT3 A2 D2 t1.Dims::RR kT3 A3 D3 t1.Data::RR kT3 A6 D6 g::V
 refine cN W0 ?_
 refine aV ?_
 refine eB R fun b8=>?_
 refine bF R R dT (fun b9=>(aC ?_))
 let W1:=aJ b8 [(sc A2 t1.Dims D2),(sc A3 t1.Data D3)] 58::W0
 refine aP ?_
 obtain ⟨a0,a2,i⟩:=bd i
 obtain ⟨I,i⟩:=gd i
 obtain ⟨ai,a4,i⟩:=bd i
 refine cQ [(1,(iv j)),(2,(sc A6 g D6)),(3,(iv n7)),(4,(pt b8 0)),(8,(pt b9 0)),(33,(.bool (((!a0)||((g.length:Int) != (ix t1.Dims j)))||(!ai))))] (aJ b9 [(.slice none 0 0),(.slice none 0 0)] 58::W1) ?_ ?_
 refine aP ?_
 refine lM _ (fun w s=>(((s.d 2 R).d 4 R).e 3 [1,0,2])) ?_
 refine lC 2 oG R (Z1g_ok a2) R ?_
 rintro _
 refine aV ?_
 rcases bo (!a0) with D | D
 refine wH ?_
 exact qj tI
 refine cA ?_
 refine bC 2 aA (show 0<t1.Dims.length by have:=(I D); omega) (fun b1 o14 Y=>?_)
 subst Y
 refine lW (b' D) (eI bK cC R R (I D)) (lW (b' D) (gP 2 fP aA R (I D)) ?_)
 refine aP ?_
 rcases bo ((!a0)||((g.length:Int) != (ix t1.Dims j))) with M | M
 refine bV ?_
 exact qj tI
 refine aV ?_
 refine lM _ (fun w s=>(s.d 4 R)) ?_
 refine bY 1 R (b' M) uy R (Z0k_ok (bN a4 (cS M))) R ?_
 rintro _
 refine aP ?_
 exact qj tI
 rintro σ1
 refine bT ?_
 split at i
 refine aP ?_
 refine lO (vz (.agg [(.slice none 0 0),(.slice none 0 0)].toArray) (aW gO dT R R)) (aK 0 R R bS R R R R R R (aC (aI (bW (cE ?_)))))
 cases i
 exact qS ((none,0,0),(none,0,0)) (fun w s=>(((s.nilo kT3 3).nilo kT3 3).e 7 [1,0]))
 refine bG ?_
 obtain ⟨U,ah,i⟩:=bd i
 refine cA ?_
 refine lM _ (fun w s=>(s.d 2 R)) ?_
 refine lC 1 kM R (Z0j_ok ah) R ?_
 rintro ⟨O,b2,T⟩
 refine aL 0 aB ?_
 rintro rfl
 refine cA ?_
 obtain ⟨au,ae,i⟩:=bd i
 refine aV ?_
 refine lC 1 kj R (FnOk.lends (A':=[OO kT3 3 O T U]) (A:=[RR kT3 O T U]) (B:=[]) (Zm_ok ae) ⟨aU,trivial⟩ (fun _=>trivial)) R ?_
 rintro _
 refine aP ?_
 split at i
 refine aP ?_
 refine lO (vz (.agg [(.slice none 0 0),(.slice none 0 0)].toArray) (aW gO dT R R)) (aK 1 R R bS R R R R R R (aC (aI (bW (cE ?_)))))
 cases i
 exact qS ((none,0,0),(none,0,0)) (fun w s=>(((s.nilo kT3 3).nilo kT3 3).e 8 [1,0]))
 refine bG ?_
 obtain ⟨b,a7,i⟩:=bd i
 refine aV ?_
 refine lC 1 nH R (FnOk.lends (A':=[OO kT3 3 O T U]) (A:=[RR kT3 O T U]) (B:=[]) (Z0i_ok a7) ⟨aU,trivial⟩ (fun _=>⟨(bI iW),(bI iW),trivial⟩)) R ?_
 rintro ⟨⟨u,ax,q⟩,⟨l,av,m⟩⟩
 refine aL 1 aB ?_
 rintro rfl
 refine aL 2 aB ?_
 rintro rfl
 refine bF R R dT (fun F=>(aK 0 R R bS R R R R R R (lN (aJ F [(sc u b.Dims q),(sc l b.Data m)] 58::_::_::_::_::W1) ?_)))
 refine aP ?_
 refine bB (A:=((List Int))×(Unit)) (fun a=>Z0u_J1 b a.1=some r) (fun a=>[(8,(pt b9 0)),(10,(pt F 0))]) (fun a=>aJ b9 [(.slice none 0 0),(.slice none 0 0)] 58::aJ F [(sc u b.Dims q),(sc l b.Data m)] 58::OO kT3 3 u q b.Dims::ow kT3 3 (.slice l b.Data.length m) a.1::W1) ?_ ?_
 refine bV ?_
 obtain ⟨e1,aj,ak⟩:=bd i
 refine bD (A:=Unit) aj (fun s a=>[(1,(iv j)),(2,(sc A6 g D6)),(4,(pt b8 0)),(8,(pt b9 0)),(10,(pt F 0)),(11,(iv s.2))]) (fun s a=>aJ b9 [(.slice none 0 0),(.slice none 0 0)] 58::aJ F [(sc u b.Dims q),(sc l b.Data m)] 58::OO kT3 3 u q b.Dims::ow kT3 3 (.slice l b.Data.length m) s.1::W1) () (aS R) (tE 5 [4,0,2,3]) ?_
 rintro ⟨E,b0⟩ _ σ1 an i al
 dsimp only [Z0u_L1] at i
 refine cU ?_
 split at i
 refine bV ?_
 obtain ⟨Z,a9,i⟩:=bd i
 refine bG ?_
 refine lM _ (fun w s=>(s.d 5 R)) ?_
 refine lC 1 lA R (Zh_ok a9) R ?_
 rintro ⟨aw,ay,a1⟩
 refine aL 0 aB ?_
 rintro rfl
 refine bG ?_
 obtain ⟨ab,i⟩:=gd i
 obtain ⟨a3,i⟩:=gd i
 obtain ⟨L,a8,i⟩:=bd i
 refine bV ?_
 refine bC 0 aB (show 0<Z.length by have:=ab; omega) (fun ac o61 Y=>?_)
 subst Y
 refine aV ?_
 refine bC 8 aA (show 0<g.length by have:=a3; omega) (fun ap o64 Y=>?_)
 subst Y
 refine aV ?_
 refine lC 1 kM R (FnOk.lends (A':=[OO kT3 3 (ad ac o61) a1 Z]) (A:=[RR kT3 (ad ac o61) a1 Z]) (B:=[]) (Z0j_ok a8) ⟨aU,trivial⟩ (fun _=>⟨(bI iW),trivial⟩)) R ?_
 rintro ⟨J,aq,G⟩
 refine aL 1 aB ?_
 rintro rfl
 refine aP ?_
 obtain ⟨ao,a5,i⟩:=bd i
 obtain ⟨ag,i⟩:=gd i
 obtain ⟨ar,aa,i⟩:=bd i
 obtain ⟨b3,a6,i⟩:=bd i
 refine aZ 8 aA (show 0<t1.Data.length by have:=ag; omega) (fun az o72 Y=>?_)
 subst Y
 refine dG 12 [5] bP fun ht hn=>?_
 refine oA 0 [5] ?_
 refine kr 5 [5] ?_
 refine d1 4 R (lM _ (tE 6 [4,5,1,0,2,3]) ?_)
 refine lC 3 nb R (FnOk.lends (A':=[OO kT3 3 u q b.Dims,ow kT3 3 (.slice l b.Data.length m) E,OO kT3 3 J G L]) (A:=[RR kT3 u q b.Dims,aO kT3 (.slice l b.Data.length m) E,RR kT3 J G L]) (B:=[]) (Z16_ok (t1:=(⟨b.Dims,E⟩:Tensor)) a5) ⟨aU,aU,aU,trivial⟩ (fun _=>trivial)) R ?_
 rintro _
 refine aC (aG (tE 6 [3,2,4,5,0]) (d1 10 R (lC 0 qk R (Z1m_ok aa) R ?_)))
 rintro _
 refine aC (aG (tE 6 [3,2,4,5,0]) (d1 11 R (lM _ (tE 6 [0,2,1,3,4,5]) ?_)))
 refine lC 3 sH R (FnOk.lends (A':=[OO kT3 3 u q b.Dims,OO kT3 3 J G L]) (A:=[RR kT3 u q b.Dims,RR kT3 J G L]) (B:=[ow kT3 3 (.slice l b.Data.length m) E]) (FnOk.perm (Z1u_ok (t1:=(⟨b.Dims,E⟩:Tensor)) a6) (Pre':=[RR kT3 u q b.Dims,RR kT3 J G L,ow kT3 3 (.slice l b.Data.length m) E]) (fun _ _ _ s=>(s.e 3 [0,2,1]))) ⟨aU,aU,trivial⟩ (fun _=>⟨(bI iW),trivial⟩)) R ?_
 rintro _
 refine aC (aG (tE 6 [3,1,4,5,0]) (dD ?_))
 refine dN ?_
 cases i
 exact qA () (tE 6 [4,5,0,2])
 refine aP ?_
 cases i
 obtain rfl:=al _ R
 have i:=ak
 refine aV ?_
 exact qI (E,()) i tI
 rintro ⟨am,_⟩ σ1 i
 dsimp only [Z0u_J1] at i
 refine aP ?_
 refine aK 0 R R bS R R R R R R (lN (aJ b9 [(sc u b.Dims q),(sc l b.Data m)] 58::_::_::ow kT3 3 (.slice l b.Data.length m) am::W1) ?_)
 refine aP ?_
 cases i
 exact qS ((u,b.Dims.length,q),(l,b.Data.length,m)) (tE 8 [2,3])
end Go.Proofs.YtmpnollfdpdipaaGreat
