import Derived.Test.YtmpnollfdpdipaaGreatGkF
import Derived.Test.YtmpnollfdpdipaaGreatGkW2
set_option linter.unusedVariables false
set_option maxRecDepth 20000
namespace Go.Proofs.YtmpnollfdpdipaaGreat
open Go Go.Pg
variable {A2 A3 A5 A6:Option Addr}{D2 D3 D5 D6 N2 N3 N5 N6:Nat}
theorem Z5_ok  {a4:aM}{i:(List Tensor)}{r:Tensor}(b:Z5 a4 i=some r) :
 FnOk Tryz.prog 81 [(aD a4),(.slice A3 N3 D3)] [aO dK (.slice A3 N3 D3) i] (fun (h:HH×HH)=>((.agg [(s3 h.1),(s3 h.2)].toArray),[ow kT3 3 (s3 h.1) r.Dims,ow kT3 3 (s3 h.2) r.Data])):=by
 unfold Z5 at b
 refine aQ Tryz.func81 R 142 R R fun C V=>?_
 refine cL 0 aA ?_
 rintro rfl
 let W0:=RR dK A3 D3 i::V
 refine cN W0 ?_
 refine aU ?_
 refine bE R R dP (fun Y=>(aC (aI (aN ?_))))
 obtain ⟨l,bl,b⟩:=bd b
 refine aE (lO (vp (aD a4) R) (lC 0 yw R (Z0_ok bl) R ?_))
 rintro ⟨A7,N7,D7⟩
 refine aL 0 aB ?_
 rintro rfl
 refine lO (vT R) (lS R (lO (vp (aD l.2.1) R) (lB R (lS R (lO (vp (aD l.2.1) R) ?_)))))
 refine b' ?_
 refine cQ [(1,(sc A3 i D3)),(4,(pt Y 0)),(5,(sc A7 l.1 D7)),(6,(aD l.2.1)),(35,(.bool ((!l.2.2)||((l.1.length:Int) != (i.length:Int)))))] (aJ Y [(.slice none 0 0),(.slice none 0 0)] 58::OO dM 9 A7 D7 l.1::W0) ?_ ?_
 refine bG ?_
 rcases bo (!l.2.2) with bk | bk
 refine dH ?_
 exact qj (tE 2 [1,0])
 refine dH ?_
 exact qj (tE 2 [1,0])
 rintro σ1
 refine bR ?_
 split at b
 refine aP ?_
 refine lO (vz (.agg [(.slice none 0 0),(.slice none 0 0)].toArray) (aV gK dP R R)) (aK 0 R R bQ R R R R R R (aC (aI (bV (cD ?_)))))
 cases b
 exact qS ((none,0,0),(none,0,0)) (fun w s=>(((s.nilo kT3 3).nilo kT3 3).e 5 [1,0]))
 refine b' ?_
 refine bK (K:=kT23) (xs:=([]:List (List Int))) (vs:=[]) 0 R R ji eZ kj R R R R R R ?_ R (fun A10 D10=>?_)
 exact fun I h s=>(l3).list [] I h s
 refine bG ?_
 refine bB (A:=((List (List Int)))×(HH)) (fun a=>Z5_J1 i l a.1=some r) (fun a=>[(1,(sc A3 i D3)),(4,(pt Y 0)),(5,(sc A7 l.1 D7)),(6,(aD l.2.1)),(8,(s3 a.2))]) (fun a=>aJ Y [(.slice none 0 0),(.slice none 0 0)] 58::OO dM 9 A7 D7 l.1::ow (kT23).share 23 (s3 a.2) a.1::W0) ?_ ?_
 refine bS ?_
 obtain ⟨e1,bj,b2⟩:=bd b
 refine bC (A:=HH) bj (fun s a=>[(1,(sc A3 i D3)),(4,(pt Y 0)),(5,(sc A7 l.1 D7)),(6,(aD l.2.1)),(8,(s3 a)),(9,(iv s.2))]) (fun s a=>aJ Y [(.slice none 0 0),(.slice none 0 0)] 58::OO dM 9 A7 D7 l.1::ow (kT23).share 23 (s3 a) s.1::W0) (A10,([]:List (List Int)).length,D10) (aS R) (fun w s=>((s.wk 0 R).e 3 [1,2,0])) ?_
 rintro ⟨F,U⟩ ⟨c2,c3,bu⟩ σ1 c6 b b6
 dsimp only [Z5_L1] at b
 refine bI 2 dY (fun (hn:c3=F.length)=>?_)
 subst hn
 refine cP ?_
 split at b
 refine dH ?_
 obtain ⟨aa,b⟩:=gd b
 obtain ⟨cq,bb,b⟩:=bd b
 refine aP ?_
 refine bD 3 aA (show 0<i.length by have:=aa; omega) (fun c4 o29 ha=>?_)
 subst ha
 refine bR ?_
 refine gN (K:=dK) 3 U dT58.dec R aa.1 aa.2 ?_
 rintro ⟨⟨ap,ar⟩,⟨bh,bv⟩⟩
 refine lO (vz (.agg [(sc ap ((ix i U).Dims) ar),(sc bh ((ix i U).Data) bv)].toArray) (eI (fo:=0) 0 fF bQ R R R R)) (lM _ (fun w s=>(((s.d 1 R).d 3 R).f 8 [1,1,0,1,2,6])) ?_)
 refine lC 2 ny R (Zo_ok bb) R ?_
 rintro _
 refine aP ?_
 split at b
 refine aP ?_
 refine lO (vz (.agg [(.slice none 0 0),(.slice none 0 0)].toArray) (aV gK dP R R)) (aK 3 R R bQ R R R R R R (aC (aI (bV (cD (dA (cD ?_)))))))
 cases b
 obtain rfl:=b6 _ R
 have b:=b2
 refine aP ?_
 cases b
 exact qS ((none,0,0),(none,0,0)) (fun w s=>(((s.nilo kT3 3).nilo kT3 3).e 9 [1,0]))
 refine aP ?_
 obtain ⟨b9,b⟩:=gd b
 refine b' ?_
 refine lO (vz (.pointer (some ⟨c4,o29+U.toNat*2,none⟩)) (jB iH R R)) (lO (eA (fo:=0) 0 cH R R R) (lM _ (fun w s=>(s.d 1 R)) ?_))
 refine bK (K:=(kT23).share) (xs:=([(ix i U).Dims]:List (List Int))) (vs:=[(sc ap ((ix i U).Dims) ar)]) 1 R R ji eZ kj R R R R R R ?_ R (fun cj cr=>?_)
 exact fun I h s=>(qK).list [((sc ap ((ix i U).Dims) ar),(ix i U).Dims)] I h s
 refine lM _ (fun w s=>(s.f 7 [6,1,0,6])) ?_
 refine eF (K:=(kT23).share) 5864062014805 R R ji eZ qQ (Zr.zk (Zr.share zT23) kj) R R R R R R dO b9 (fun bg b7=>(lN (OO (kT23).share 23 bg b7 (F++([(ix i U).Dims]:List (List Int)))::_::_::_::_::_::W0) ?_))
 refine cP ?_
 cases b
 exact qA (bg,(F++([(ix i U).Dims]:List (List Int))).length,b7) (tE 6 [4,5,0])
 refine aP ?_
 cases b
 obtain rfl:=b6 _ R
 have b:=b2
 refine aU ?_
 exact qI (F,(c2,F.length,bu)) b tI
 rintro ⟨a3,⟨az,br,b1⟩⟩ σ1 b
 dsimp only [Z5_J1] at b
 refine bI 2 dY (fun (hn:br=a3.length)=>?_)
 subst hn
 refine bR ?_
 obtain ⟨j,bc,b⟩:=bd b
 refine aU ?_
 refine lO (vp (aD l.2.1) R) (lS R (lM _ (tE 3 [1,2,0]) ?_))
 refine lC 2 yx R (FnOk.lends (A':=[OO dM 9 A7 D7 l.1,OO (kT23).share 23 az b1 a3]) (A:=[RR dM A7 D7 l.1,RR kT23 az b1 a3]) (B:=[]) (Z2_ok bc) ⟨aY,jU,trivial⟩ (fun _=>⟨(bH j0),trivial⟩)) R ?_
 rintro ⟨O,cs,M⟩
 refine aL 2 aB ?_
 rintro rfl
 refine lO (vT R) (lO (vp (aD j.1) R) (lS R (lB R (lO (vp (aD j.1) R) ?_))))
 refine bS ?_
 obtain ⟨ak,b⟩:=gd b
 obtain ⟨bn,b8,b⟩:=bd b
 refine cQ [(1,(sc A3 i D3)),(4,(pt Y 0)),(5,(sc A7 l.1 D7)),(6,(aD l.2.1)),(10,(aD j.1)),(11,(sc O j.2.1 M)),(76,(.bool ((!j.2.2)||(!bn))))] (aJ Y [(.slice none 0 0),(.slice none 0 0)] 58::OO dM 9 A7 D7 l.1::RR kT3 O M j.2.1::W0) ?_ ?_
 refine bG ?_
 rcases bo (!j.2.2) with J | J
 refine cV ?_
 exact qj (fun w s=>((s.shr 2 R).e 4 [3,1,0]))
 refine bR ?_
 refine lW (bY J) (vp (aD l.2.1) R) (lW (bY J) (vz (il l.2.1) (dJ fJ R)) (iE (fun w s=>s.shr 2 R) (fY (K:=kT3) (0:Int) (l.2.1.length:Int) 0 R (bY J) bL cE R R R R (ak J).1 (ak J).2.1 (ak J).2.2 (fun ci cp=>(lM _ (fun w s=>(s.d 0 R)) ?_)))))
 refine bW 1 R (bY J) k9 R (Zm_ok (bJ b8 (cO J))) R ?_
 rintro _
 refine aP ?_
 exact qj (tE 5 [4,2,1])
 rintro σ1
 refine bR ?_
 split at b
 refine aP ?_
 refine lO (vz (.agg [(.slice none 0 0),(.slice none 0 0)].toArray) (aV gK dP R R)) (aK 0 R R bQ R R R R R R (lN (_::_::_::W0) ?_))
 refine bG ?_
 cases b
 exact qS ((none,0,0),(none,0,0)) (fun w s=>(((s.nilo kT3 3).nilo kT3 3).e 6 [1,0]))
 refine bG ?_
 obtain ⟨a8,b⟩:=gd b
 obtain ⟨g,be,b⟩:=bd b
 refine aU ?_
 refine lO (vp (aD l.2.1) R) (lO (vz (il l.2.1) (dJ fJ R)) (fY (K:=kT3) (0:Int) (l.2.1.length:Int) 2 R R bL cE R R R R a8.1 a8.2.1 a8.2.2 (fun cm cn=>(lM _ (fun w s=>(s.d 0 R)) ?_))))
 refine lC 1 nz R (Z0e_ok be) R ?_
 rintro ⟨⟨q,cu,m⟩,⟨u,ck,D⟩⟩
 refine aL 0 aB ?_
 rintro rfl
 refine aL 1 aB ?_
 rintro rfl
 refine bE R R dP (fun E=>(aK 0 R R bQ R R R R R R (lN (aJ E [(sc q g.Dims m),(sc u g.Data D)] 58::_::_::_::_::_::_::W0) ?_)))
 refine cV ?_
 refine bB (A:=(Int)×(Unit)) (fun a=>Z5_J2 i l j g a.1=some r) (fun a=>[(1,(sc A3 i D3)),(4,(pt Y 0)),(5,(sc A7 l.1 D7)),(6,(aD l.2.1)),(10,(aD j.1)),(11,(sc O j.2.1 M)),(13,(pt E 0)),(14,(iv a.1))]) (fun a=>aJ Y [(.slice none 0 0),(.slice none 0 0)] 58::OO dM 9 A7 D7 l.1::RR kT3 O M j.2.1::aJ E [(sc q g.Dims m),(sc u g.Data D)] 58::OO kT3 3 q m g.Dims::OO kT3 3 u D g.Data::W0) ?_ ?_
 refine bS ?_
 obtain ⟨e2,c1,bz⟩:=bd b
 refine bC (A:=Unit) c1 (fun s a=>[(1,(sc A3 i D3)),(4,(pt Y 0)),(5,(sc A7 l.1 D7)),(6,(aD l.2.1)),(10,(aD j.1)),(11,(sc O j.2.1 M)),(13,(pt E 0)),(14,(iv s.1)),(15,(iv s.2))]) (fun s a=>aJ Y [(.slice none 0 0),(.slice none 0 0)] 58::OO dM 9 A7 D7 l.1::RR kT3 O M j.2.1::aJ E [(sc q g.Dims m),(sc u g.Data D)] 58::OO kT3 3 q m g.Dims::OO kT3 3 u D g.Data::W0) () (aS R) (fun w s=>(s.f 7 [4,3,0,3])) ?_
 rintro ⟨am,ct⟩ _ σ1 cc b bw
 dsimp only [Z5_L2] at b
 refine cP ?_
 split at b
 refine b' ?_
 obtain ⟨b0,b⟩:=gd b
 refine bG ?_
 refine bD 2 aA (show 0<j.2.1.length by have:=b0; omega) (fun co o68 ha=>?_)
 subst ha
 refine iG ?_
 cases b
 exact qA () tI
 refine aP ?_
 cases b
 obtain rfl:=bw _ R
 have b:=bz
 refine aU ?_
 exact qI (am,()) b tI
 rintro ⟨a1,_⟩ σ1 b
 dsimp only [Z5_J2] at b
 refine aN (bB (A:=((List Int))×(Unit)) (fun a=>Z5_J5 g a.1=some r) (fun a=>[(4,(pt Y 0)),(13,(pt E 0))]) (fun a=>aJ Y [(.slice none 0 0),(.slice none 0 0)] 58::aJ E [(sc q g.Dims m),(sc u g.Data D)] 58::OO kT3 3 q m g.Dims::ow kT3 3 (.slice u g.Data.length D) a.1::W0) ?_ ?_)
 refine bS ?_
 obtain ⟨e3,bq,bp⟩:=bd b
 refine bC (A:=Unit) bq (fun s a=>[(1,(sc A3 i D3)),(4,(pt Y 0)),(5,(sc A7 l.1 D7)),(6,(aD l.2.1)),(10,(aD j.1)),(11,(sc O j.2.1 M)),(13,(pt E 0)),(14,(iv a1)),(16,(iv s.2))]) (fun s a=>aJ Y [(.slice none 0 0),(.slice none 0 0)] 58::OO dM 9 A7 D7 l.1::RR kT3 O M j.2.1::aJ E [(sc q g.Dims m),(sc u g.Data D)] 58::OO kT3 3 q m g.Dims::ow kT3 3 (.slice u g.Data.length D) s.1::W0) () (aS R) tI ?_
 rintro ⟨T,ah⟩ _ σ1 ay b c0
 dsimp only [Z5_L3] at b
 refine cV ?_
 split at b
 refine bS ?_
 obtain ⟨L,au,b⟩:=bd b
 refine aP ?_
 refine lM _ (fun w s=>(s.d 2 R)) ?_
 refine lC 1 lr R (Zh_ok au) R ?_
 rintro ⟨a0,cf,Z⟩
 refine aL 0 aB ?_
 rintro rfl
 refine cP ?_
 refine bB (A:=(Int)×(Unit)) (fun a=>Z5_J4 l g T ah L a.1=some ay) (fun a=>[(1,(sc A3 i D3)),(4,(pt Y 0)),(5,(sc A7 l.1 D7)),(6,(aD l.2.1)),(10,(aD j.1)),(11,(sc O j.2.1 M)),(13,(pt E 0)),(14,(iv a1)),(16,(iv ah)),(17,(sc a0 L Z)),(18,(iv a.1))]) (fun a=>aJ Y [(.slice none 0 0),(.slice none 0 0)] 58::OO dM 9 A7 D7 l.1::RR kT3 O M j.2.1::aJ E [(sc q g.Dims m),(sc u g.Data D)] 58::OO kT3 3 q m g.Dims::ow kT3 3 (.slice u g.Data.length D) T::OO kT3 3 a0 Z L::W0) ?_ ?_
 refine bS ?_
 obtain ⟨e4,bm,bi⟩:=bd b
 refine bC (A:=Unit) bm (fun s a=>[(1,(sc A3 i D3)),(4,(pt Y 0)),(5,(sc A7 l.1 D7)),(6,(aD l.2.1)),(10,(aD j.1)),(11,(sc O j.2.1 M)),(13,(pt E 0)),(14,(iv a1)),(16,(iv ah)),(17,(sc a0 L Z)),(18,(iv s.1)),(19,(iv s.2))]) (fun s a=>aJ Y [(.slice none 0 0),(.slice none 0 0)] 58::OO dM 9 A7 D7 l.1::RR kT3 O M j.2.1::aJ E [(sc q g.Dims m),(sc u g.Data D)] 58::OO kT3 3 q m g.Dims::ow kT3 3 (.slice u g.Data.length D) T::OO kT3 3 a0 Z L::W0) () (aS R) (fun w s=>(s.f 7 [1,6,0,1])) ?_
 rintro ⟨b5,G⟩ _ σ1 c8 b bs
 dsimp only [Z5_L4] at b
 refine cP ?_
 split at b
 refine b' ?_
 obtain ⟨a5,b⟩:=gd b
 obtain ⟨a6,b⟩:=gd b
 obtain ⟨a9,aw,b⟩:=bd b
 obtain ⟨ch,aq,b⟩:=bd b
 obtain ⟨ca,av,b⟩:=bd b
 refine aZ 7 aA (show 0<i.length by have:=a5; omega) (fun c9 o149 ha=>?_)
 subst ha
 refine dB (K:=dK) 7 G dT58.dec R a5.1 a5.2 ?_
 rintro ⟨⟨ac,ai⟩,⟨ag,aj⟩⟩
 refine aZ 4 aB (show 0<l.1.length by have:=a6; omega) (fun cb o154 ha=>?_)
 subst ha
 refine dC 15 [] bO fun ht hn=>?_
 refine og 0 [] ?_
 refine dR 4 R (vz (.agg [(sc ac ((ix i G).Dims) ai),(sc ag ((ix i G).Data) aj)].toArray) (eI (fo:=0) 0 fF bQ R R R R)) ?_
 refine hJ 5 [] ?_
 refine dR 8 R (vz (aD (ix l.1 G)) (jG (K:=dM) (fo:=0) (pr:=fun x=>(aD x)) 4 G qO (dT9.leaf fun _ _=>R) aB R a6.1 a6.2)) (dR 9 R (vp (aD j.1) R) (dR 10 R (vS R) (d1 11 R (lM _ (fun w s=>(s.f 10 [9,1,0,9])) ?_))))
 refine lC 1 yy R (FnOk.lends (A':=[OO kT3 3 a0 Z L]) (A:=[RR kT3 a0 Z L]) (B:=[]) (Ze_ok aw) ⟨aY,trivial⟩ (fun _=>⟨(bH j0),trivial⟩)) R ?_
 rintro ⟨ae,cg,ab⟩
 refine aL 1 aB ?_
 rintro rfl
 refine aC (aG (fun w s=>(s.f 11 [2,9,0,1])) (d1 12 R (lM _ (fun w s=>(((s.d 3 R).d 5 R).f 13 [3,1,1,1,0,1,2,1,4,9])) ?_)))
 refine lC 3 n0 R (FnOk.lends (A':=[OO kT3 3 ae ab a9]) (A:=[RR kT3 ae ab a9]) (B:=[RR kT3 ac ai ((ix i G).Dims),RR kT3 ag aj ((ix i G).Data)]) (FnOk.perm (Z16_ok aq) (Pre':=[RR kT3 ae ab a9,RR kT3 ac ai ((ix i G).Dims),RR kT3 ag aj ((ix i G).Data)]) (fun _ _ _ s=>(s.e 3 [1,2,0]))) ⟨aY,trivial⟩ (fun _=>trivial)) R ?_
 rintro _
 refine aC (aG (fun w s=>(s.f 11 [2,9,1,1])) (d1 13 R (lC 0 om R (Z1f_ok av) R ?_)))
 rintro _
 refine aC (aG (fun w s=>(s.f 11 [2,9,1,1])) (dR 14 R (vI R) (hS:=(fun w s=>(s.f 11 [2,9,1,1]))) (dD ?_)))
 refine dH ?_
 cases b
 exact qA () (fun w s=>(s.f 11 [5,6,1,1]))
 refine aP ?_
 cases b
 obtain rfl:=bs _ R
 have b:=bi
 refine aU ?_
 exact qI (b5,()) b tI
 rintro ⟨c5,_⟩ σ1 b
 dsimp only [Z5_J4] at b
 refine bR ?_
 obtain ⟨a7,b⟩:=gd b
 obtain ⟨ba,ax,b⟩:=bd b
 refine dC 8 [6] bO fun ht hn=>?_
 refine hJ 0 [6] ?_
 refine dR 3 R (vp (aD l.2.1) R) (hS:=(sL [6])) (dR 4 R (vz (il l.2.1) (dJ fJ R)) (hS:=(sL [6])) (d1 5 R (iE (fun w s=>s.shr 6 R) (fY (K:=kT3) (0:Int) (l.2.1.length:Int) 0 R R bL cE R R R R a7.1 a7.2.1 a7.2.2 (fun bf b3=>(aC (aG (sL [1,0]) (d1 6 R (lM _ (fun w s=>((s.d 0 R).f 9 [7,1,0,7,8,1])) ?_)))))))))
 refine lC 2 sn R (FnOk.lends (A':=[OO kT3 3 q m g.Dims]) (A:=[RR kT3 q m g.Dims]) (B:=[RR kT3 bf b3 (sub L (0:Int) (l.2.1.length:Int))]) (Z0m_ok ax) ⟨aY,trivial⟩ (fun _=>trivial)) R ?_
 rintro _
 refine aC (aG (tE 8 [3,4,5,6,0,7]) (dR 7 R (vI R) (hS:=(tE 8 [3,4,5,6,0,7])) (dD (aI ?_))))
 obtain ⟨a2,b⟩:=gd b
 obtain ⟨an,ao,b⟩:=bd b
 refine aZ 7 aB (show 0<g.Data.length by have:=a2; omega) (fun c7 o171 ha=>?_)
 subst ha
 refine dC 12 [7] bO fun ht hn=>?_
 refine s6 0 [7] ?_
 refine oe 8 [7] ?_
 refine d1 7 R (lO (gY 7 fS aB R a2) (aC (aG (sL [7]) (d1 9 R (lC 0 pU R (Z1m_ok ao) R ?_)))))
 rintro _
 refine aC (aG (sL [7]) ?_)
 refine oe 10 [7] ?_
 refine d1 11 R (lM _ (fun w s=>(s.f 8 [7,1,0,7])) ?_)
 refine dX (K:=kT3) (x':=an) 0 ba R R cE R R a2.1 a2.2 ?_ ?_
 exact fun I h s=>(gJ).put I h () an s
 refine aC (aG (sL [0]) (dD ?_))
 refine dH ?_
 cases b
 exact qA () (tE 8 [4,5,6,7,1,0])
 refine aP ?_
 cases b
 obtain rfl:=c0 _ R
 have b:=bp
 refine aU ?_
 exact qI (T,()) b (tE 6 [0,3,4,5])
 rintro ⟨al,_⟩ σ1 b
 dsimp only [Z5_J5] at b
 refine aP ?_
 refine aK 0 R R bQ R R R R R R (lN (aJ Y [(sc q g.Dims m),(sc u g.Data D)] 58::aJ E [(sc q g.Dims m),(sc u g.Data D)] 58::_::ow kT3 3 (.slice u g.Data.length D) al::W0) ?_)
 refine aP ?_
 cases b
 exact qS ((q,g.Dims.length,m),(u,g.Data.length,D)) (tE 5 [2,3])
theorem Z0d_ok  {v1:View}{r:View}(b:Z0d v1=some r) :
 FnOk Tryz.prog 118 [(.agg [(.slice A2 N2 D2),(.slice A3 N3 D3),(iv v1.Offset),(iv v1.Base)].toArray)] [aO kT3 (.slice A2 N2 D2) v1.Dims,ow kT3 3 (.slice A3 N3 D3) v1.Strides] (fun (h:HH×HH)=>((.agg [(s3 h.1),(s3 h.2),(iv r.Offset),(iv r.Base)].toArray),[aO kT3 (s3 h.1) r.Dims,ow kT3 3 (s3 h.2) r.Strides])):=by
 unfold Z0d at b
 refine aQ Tryz.func118 R 22 R R fun C V=>?_
 refine cM _ (tE 2 [1,0]) ?_
 refine cL 0 aB ?_
 rintro rfl
 refine cL 1 aA ?_
 rintro rfl
 let J:=RR kT3 A2 D2 v1.Dims::V
 refine aU ?_
 refine eG R fun u=>?_
 refine bE R R cW (fun j=>(aC (qM _ (tE 3 [0,2,1]) ?_)))
 let q:=aJ u [(sc A2 v1.Dims D2),(sc A3 v1.Strides D3),(iv v1.Offset),(iv v1.Base)] 96::J
 refine aU ?_
 refine bB (A:=((List Int))×(Unit)) (fun a=>Z0d_J3 v1 a.1=some r) (fun a=>[(1,(pt u 0)),(2,(pt j 0))]) (fun a=>aJ j [(.slice none 0 0),(.slice none 0 0),(iv 0),(iv 0)] 96::ow kT3 3 (.slice A3 v1.Strides.length D3) a.1::q) ?_ ?_
 refine bS ?_
 obtain ⟨T,G,F⟩:=bd b
 refine bC (A:=Unit) G (fun s a=>[(1,(pt u 0)),(2,(pt j 0)),(3,(iv s.1))]) (fun s a=>aJ j [(.slice none 0 0),(.slice none 0 0),(iv 0),(iv 0)] 96::ow kT3 3 (.slice A3 v1.Strides.length D3) s.2::q) () (aS R) tI ?_
 rintro ⟨g,i⟩ _ σ1 m b E
 dsimp only [Z0d_L1] at b
 refine cT ?_
 split at b
 refine bG ?_
 refine bB (A:=((List Int))×(Unit)) (fun a=>Z0d_J2 g a.1=some m) (fun a=>[(1,(pt u 0)),(2,(pt j 0)),(3,(iv g))]) (fun a=>aJ j [(.slice none 0 0),(.slice none 0 0),(iv 0),(iv 0)] 96::ow kT3 3 (.slice A3 v1.Strides.length D3) a.1::q) ?_ ?_
 refine aU ?_
 obtain ⟨l,b⟩:=gd b
 refine bG ?_
 refine bD 3 aA (show 0<v1.Dims.length by have:=l; omega) (fun O o20 D=>?_)
 subst D
 refine b' ?_
 split at b
 refine bR ?_
 obtain ⟨e,b⟩:=gd b
 refine bG ?_
 refine bD 1 aB (show 0<v1.Strides.length by have:=e; omega) (fun M o24 D=>?_)
 subst D
 refine bR ?_
 refine lM _ (tE 2 [1,0]) ?_
 refine dX (K:=kT3) (x':=(0:Int)) 0 g R R cE R R e.1 e.2 ?_ ?_
 exact fun I h s=>(gJ).put I h () (0:Int) s
 refine aU ?_
 exact qI ((i.set g.toNat (0:Int)),()) b (tE 2 [1,0])
 refine aP ?_
 exact qI (i,()) b tI
 rintro ⟨L,_⟩ σ1 b
 dsimp only [Z0d_J2] at b
 refine b' ?_
 cases b
 exact qA () tI
 refine aP ?_
 cases b
 obtain rfl:=E _ R
 have b:=F
 refine aU ?_
 exact qI (i,()) b tI
 rintro ⟨B,_⟩ σ1 b
 dsimp only [Z0d_J3] at b
 refine aP ?_
 refine aK 0 R R cF R R R R R R (lN (aJ j [(sc A2 v1.Dims D2),(sc A3 v1.Strides D3),(iv v1.Offset),(iv v1.Base)] 96::ow kT3 3 (.slice A3 v1.Strides.length D3) B::q) ?_)
 refine aP ?_
 cases b
 exact qS ((A2,v1.Dims.length,D2),(A3,v1.Strides.length,D3)) (tE 4 [3,1])
theorem Zu_ok  {b:(List Int)}{r:View}(g:Zu b=some r) :
 FnOk Tryz.prog 84 [(.slice A2 N2 D2)] [aO kT3 (.slice A2 N2 D2) b] (fun (h:HH×HH)=>((.agg [(.slice h.1.1 h.1.2.1 h.1.2.2),(.slice h.2.1 h.2.2.1 h.2.2.2),(iv r.Offset),(iv r.Base)].toArray),[aO kT3 (.slice h.1.1 h.1.2.1 h.1.2.2) r.Dims,ow kT3 3 (.slice h.2.1 h.2.2.1 h.2.2.2) r.Strides])):=by
 unfold Zu at g
 refine aQ Tryz.func84 R 32 R R fun C V=>?_
 refine cN (_::V) ?_
 refine cL 0 aA ?_
 rintro rfl
 let m:List HP:=RR kT3 A2 D2 b::V
 refine cN m ?_
 refine aN (aE (bE R R cW (fun U=>(aC (aI (aN (aN ?_)))))))
 obtain ⟨r4,aj,g⟩:=bd g
 refine aE (lS R (lM (RR kT3 A2 D2 b::_::m) (fun w s=>(s.d 1 R)) ?_))
 refine lC 1 k9 R (Zm_ok aj) R ?_
 rintro _
 refine lN (_::m) ?_
 refine lO (rt R) (aC (aI ?_))
 rcases cK g with ⟨Z,g⟩|⟨Z,g⟩
 refine cC R Z (aN (aE (lO (vz (.agg [(.slice none 0 0),(.slice none 0 0),(iv 0),(iv 0)].toArray) (aV fD cW R R)) (aK 0 R R cF R R R R R R (aC (aI (bV (cD ?_))))))))
 obtain rfl:=so g
 exact dF (vs:=[(.agg [(.slice none 0 0),(.slice none 0 0),(iv 0),(iv 0)].toArray)]) (.inl R) ((none,0,0),(none,0,0)) R ⟨⟨0,U,_,_,R,R,.inl ⟨gC,cF,R⟩⟩,trivial⟩ R (fun w s=>(((s.nilr kT3).nilo kT3 3).e 4 [1,0]))
 refine bM R Z (dI (aI (aN ?_)))
 obtain ⟨u,am,g⟩:=bd g
 obtain ⟨j,a5,g⟩:=bd g
 refine aE (lS R (lM (RR kT3 A2 D2 b::_::m) (fun w s=>(s.d 1 R)) ?_))
 refine lC 1 jM R (Zq_ok am) R ?_
 rintro ⟨A9,N9,D9⟩
 refine lN (ow kT3 3 (.slice A9 N9 D9) u::_::m) ?_
 refine aL 0 aB ?_
 rintro rfl
 refine lS R (lM (RR kT3 A2 D2 b::_::_::m) (fun w s=>(s.d 2 R)) ?_)
 refine lC 1 nx R (Zs_ok a5) R ?_
 rintro _
 refine lN (_::_::m) ?_
 refine lO (vz (.agg [(sc A9 u D9),(.slice none 0 0),(iv 0),(iv j)].toArray) (aV fD cW R R)) (bE R R cW (fun q=>(aK 0 R R cF R R R R R R (lN (aJ q [(sc A9 u D9),(.slice none 0 0),(iv 0),(iv j)] 96::_::_::m) ?_))))
 refine aC (aI (aN (bB (A:=((List Int))×(HH)) (fun a=>Zu_J1 u j a.1=some r) (fun a=>[(2,(pt U 0)),(3,(pt q 0))]) (fun a=>aJ U [(.slice none 0 0),(.slice none 0 0),(iv 0),(iv 0)] 96::aJ q [(sc A9 u D9),(.slice a.2.1 a.2.2.1 a.2.2.2),(iv 0),(iv j)] 96::OO kT3 3 A9 D9 u::ow kT3 3 (.slice a.2.1 a.2.2.1 a.2.2.2) a.1::m) ?_ ?_)))
 refine aN (aE (lI R (aC (aI (dS ?_)))))
 obtain ⟨e1,ah,ag⟩:=bd g
 refine bC (A:=HH) ah (fun s a=>[(0,(sc A2 b D2)),(2,(pt U 0)),(3,(pt q 0)),(4,(iv s.2))]) (fun s a=>aJ U [(.slice none 0 0),(.slice none 0 0),(iv 0),(iv 0)] 96::aJ q [(sc A9 u D9),(.slice a.1 a.2.1 a.2.2),(iv 0),(iv j)] 96::OO kT3 3 A9 D9 u::ow kT3 3 (.slice a.1 a.2.1 a.2.2) s.1::m) (none,0,0) (aS R) (fun w s=>((s.nilo kT3 3).e 4 [3,1,2,0])) ?_
 rintro ⟨l,G⟩ ⟨Y,ae,a1⟩ σ1 a6 g al
 replace g:Zu_L1 b l G=some a6:=g
 unfold Zu_L1 at g
 refine bI 3 aB (fun (hn:ae=l.length)=>?_)
 subst hn
 refine aN (aN (aE (lI R (lS R (lO (lj bL R) (lO (nS R R) (aC (aI ?_))))))))
 rcases cK g with ⟨F,g⟩|⟨F,g⟩
 refine cC R F (dI (aI (aN (dS ?_))))
 obtain ⟨E,g⟩:=gd g
 obtain ⟨B,a8,g⟩:=bd g
 obtain ⟨aa,g⟩:=gd g
 refine dC 8 [] bO (fun ht hn=>(dR 0 R (fZ 1 fW R) (dR 1 R (gI 1 cH R R R) (dR 2 R (vS R) (dR 3 R (vI R) (dR 4 R (lq R R) (d1 5 R (fY (K:=kT3) (aH (G+(1:Int))) (b.length:Int) 4 R R bL cE R R R R E.1 E.2.1 E.2.2 (fun a4 a9=>(aC (aG (sL [0]) (d1 6 R (lM (RR kT3 a4 a9 (sub b (aH (G+(1:Int))) (b.length:Int))::RR kT3 a4 a9 (sub b (aH (G+(1:Int))) (b.length:Int))::_::aJ q [(sc A9 u D9),(sc Y l a1),(iv 0),(iv j)] 96::_::OO kT3 3 Y a1 l::m) (fun w s=>(s.d 0 R)) ?_)))))))))))))
 refine lC 1 nx R (Zs_ok a8) R ?_
 rintro _
 refine lN (_::_::_::_::_::m) ?_
 refine aC (aG (sL [0]) (d1 7 R (bK (K:=kT3) (xs:=([B]:List Int)) (vs:=[(iv B)]) 0 R R bL cE gZ R R R R R R ?_ R (fun ak an=>?_))))
 exact fun I h s=>(gJ).list [((),B)] I h s
 refine lN (OO kT3 3 ak an ([B]:List Int)::_::_::_::_::_::m) ?_
 refine aC (aG (sL [1,0]) (d1 8 R (lM (ow _ _ _ _::ow _ _ _ _::aO _ _ _::aJ _ _ _::aJ _ _ _::ow _ _ _ _::m) (fun w s=>(s.f 6 [5,1,0,5])) ?_)))
 refine eF (K:=kT3) 17592186044416 R R bL cE kv (Zr.zk zT3 gZ) R R R R R R dO aa (fun T a0=>(lN (OO kT3 3 T a0 (l++([B]:List Int))::_::_::_::_::m) ?_))
 refine aC (qE (d1 9 R (lO (fZ 1 fW R) (aC (qE (d1 10 R (cR 3 R R eZ R R R R R (lN (_::_::_::aJ q [(sc A9 u D9),(sc T (l++([B]:List Int)) a0),(iv 0),(iv j)] 96::_::m) ?_))))))))
 refine aC (qE (dD (eD (aI (aE (lI R (lO (lq R R) (lI R (aC ?_)))))))))
 obtain rfl:=so g
 exact qA (T,(l++([B]:List Int)).length,a0) (fun w s=>(s.e 5 [2,3,4,0]))
 refine bM R F (iQ (eR ?_))
 obtain rfl:=so g
 obtain rfl:=al _ R
 have g:=ag
 refine eR (gW ?_)
 exact qI (l,(Y,l.length,a1)) g (fun w s=>s)
 rintro ⟨D,⟨a2,ai,a3⟩⟩ σ1 g
 replace g:Zu_J1 u j D=some r:=g
 unfold Zu_J1 at g
 refine bI 3 aB (fun (hn:ai=D.length)=>?_)
 subst hn
 refine aN ?_
 obtain ⟨i,a7,g⟩:=bd g
 refine aE (lO (vz (.agg [(sc A9 u D9),(sc a2 D a3),(iv 0),(iv j)].toArray) (dT 1 gC cF R R R R)) (iE (fun w s=>s.shr 2 R) (lM (RR kT3 A9 D9 u::OO kT3 3 a2 a3 D::RR kT3 A9 D9 u::aJ _ _ _::aJ q [(sc A9 u D9),(sc a2 D a3),(iv 0),(iv j)] 96::m) (fun w s=>((s.d 0 R).e 5 [0,4,1,2,3])) ?_)))
 refine lC 2 yz R (Z0d_ok (v1:=(⟨u,D,(0:Int),j⟩:View)) a7) R ?_
 rintro ⟨⟨O,ab,L⟩,⟨M,ac,J⟩⟩
 refine lN (aO kT3 (.slice O ab L) i.Dims::ow kT3 3 (.slice M ac J) i.Strides::_::_::_::m) ?_
 refine aL 0 aA ?_
 rintro rfl
 refine aL 1 aB ?_
 rintro rfl
 refine aK 3 R R cF R R R R R R (lN (_::_::_::aJ U [(sc O i.Dims L),(sc M i.Strides J),(iv i.Offset),(iv i.Base)] 96::_::m) ?_)
 refine aC (aI (bV ?_))
 obtain rfl:=so g
 exact dF (vs:=[(.agg [(sc O i.Dims L),(sc M i.Strides J),(iv i.Offset),(iv i.Base)].toArray)]) (.inl R) ((O,i.Dims.length,L),(M,i.Strides.length,J)) R ⟨⟨3,U,_,_,R,R,.inl ⟨gC,cF,R⟩⟩,trivial⟩ R (fun w s=>(s.e 6 [0,1]))
theorem Z15_ok  {v1:View}{b:(List Int)}{r:Int}(e:Z15 v1 b=some r) :
 FnOk Tryz.prog 144 [(.agg [(.slice A2 N2 D2),(.slice A3 N3 D3),(iv v1.Offset),(iv v1.Base)].toArray),(.slice A5 N5 D5)] [aO kT3 (.slice A2 N2 D2) v1.Dims,aO kT3 (.slice A3 N3 D3) v1.Strides,aO kT3 (.slice A5 N5 D5) b] (fun (h:Unit)=>((iv r),[])):=by
 unfold Z15 at e
 refine aQ Tryz.func144 R 28 R R fun C V=>?_
 refine cL 0 aA ?_
 rintro rfl
 refine cL 1 aA ?_
 rintro rfl
 refine cL 2 aA ?_
 rintro rfl
 let E:=RR kT3 A2 D2 v1.Dims::RR kT3 A3 D3 v1.Strides::RR kT3 A5 D5 b::V
 refine cN E ?_
 refine aU ?_
 refine eG R fun D=>?_
 refine aU ?_
 let u:=aJ D [(sc A2 v1.Dims D2),(sc A3 v1.Strides D3),(iv v1.Offset),(iv v1.Base)] 96::E
 refine qN u ?_
 refine cP ?_
 refine bB (A:=(Int)×(Unit)) (fun a=>Z15_J1 a.1=some r) (fun a=>[(5,(iv a.1))]) (fun a=>u) ?_ ?_
 refine bS ?_
 obtain ⟨T,B,q⟩:=bd e
 refine bC (A:=Unit) B (fun s a=>[(1,(sc A5 b D5)),(2,(pt D 0)),(5,(iv s.1)),(6,(iv s.2))]) (fun s a=>u) () (aS R) tI ?_
 rintro ⟨j,L⟩ _ σ1 F e m
 dsimp only [Z15_L1] at e
 refine cP ?_
 split at e
 refine b' ?_
 obtain ⟨g,e⟩:=gd e
 obtain ⟨i,e⟩:=gd e
 refine aZ 3 aA (show 0<b.length by have:=g; omega) (fun J o19 l=>?_)
 subst l
 refine aZ 2 aA (show 0<v1.Strides.length by have:=i; omega) (fun I o22 l=>?_)
 subst l
 refine dC 13 [] bO fun O M=>?_
 refine mr 0 [] ?_
 refine dD ?_
 refine dH ?_
 cases e
 exact qA () tI
 refine aP ?_
 cases e
 obtain rfl:=m _ R
 have e:=q
 refine aU ?_
 exact qI (j,()) e tI
 rintro ⟨G,_⟩ σ1 e
 dsimp only [Z15_J1] at e
 refine dH ?_
 cases e
 exact qF () (tE 4 [])
theorem Z08_ok  {v1:View}{r:(List Int)}(b:Z08 v1=some r) :
 FnOk Tryz.prog 117 [(.agg [(.slice A2 N2 D2),(.slice A3 N3 D3),(iv v1.Offset),(iv v1.Base)].toArray)] [aO kT3 (.slice A2 N2 D2) v1.Dims,aO kT3 (.slice A3 N3 D3) v1.Strides] (fun (h:HH)=>((.slice h.1 h.2.1 h.2.2),[ow kT3 3 (.slice h.1 h.2.1 h.2.2) r])):=by
 unfold Z08 at b
 refine aQ Tryz.func117 R 25 R R fun C V=>?_
 refine cN (_::_::V) ?_
 refine cL 0 aA ?_
 rintro rfl
 refine cL 1 aA ?_
 rintro rfl
 let W0:List HP:=RR kT3 A2 D2 v1.Dims::RR kT3 A3 D3 v1.Strides::V
 refine cN W0 ?_
 refine aN (aE (eG R (fun b4=>(lS R (aC ?_)))))
 let j:List HP:=aJ b4 [(sc A2 v1.Dims D2),(sc A3 v1.Strides D3),(iv v1.Offset),(iv v1.Base)] 96::W0
 refine qN j ?_
 refine aI (aN (aE (bK (K:=kT3) (xs:=([]:List Int)) (vs:=[]) 0 R R bL cE gZ R R R R R R ?_ R (fun A5 D5=>?_))))
 exact fun I h s=>(gJ).list [] I h s
 refine lN (OO kT3 3 A5 D5 ([]:List Int)::j) ?_
 refine lS R (aC (aI (aN ?_)))
 obtain ⟨r6,a0,b⟩:=bd b
 refine aE (lO (fZ 0 gD R) (lO (gI 1 cH R R R) (lM (RR kT3 A2 D2 v1.Dims::_::j) (fun w s=>(s.d 2 R)) ?_)))
 refine lC 1 nx R (Zs_ok a0) R ?_
 rintro _
 refine lN (_::j) ?_
 refine lI R (aC (aI (aN (bB (A:=((List Int))×(HH)) (fun a=>Z08_J1 a.1=some r) (fun a=>[(3,(.slice a.2.1 a.2.2.1 a.2.2.2))]) (fun a=>ow kT3 3 (.slice a.2.1 a.2.2.1 a.2.2.2) a.1::j) ?_ ?_))))
 refine aN (aE (lI R (aC (aI (dS ?_)))))
 obtain ⟨e1,a3,a1⟩:=bd b
 refine bC (A:=HH) a3 (fun s a=>[(1,(pt b4 0)),(3,(.slice a.1 a.2.1 a.2.2)),(4,(iv r6)),(5,(iv s.2))]) (fun s a=>ow kT3 3 (.slice a.1 a.2.1 a.2.2) s.1::j) (A5,([]:List Int).length,D5) (aS R) (fun w s=>s) ?_
 rintro ⟨g,a7⟩ ⟨O,Y,G⟩ σ1 L b a6
 replace b:Z08_L1 v1 r6 g a7=some L:=b
 unfold Z08_L1 at b
 refine bI 0 aB (fun (U:Y=g.length)=>?_)
 subst U
 refine aN (aN (aE (lI R (lI R (lO (nS R R) (aC (aI ?_)))))))
 rcases cK b with ⟨l,b⟩|⟨l,b⟩
 refine cC R l (dI (aI (aN (dS ?_))))
 obtain ⟨u,M,b⟩:=bd b
 obtain ⟨i,T,b⟩:=bd b
 obtain ⟨F,b⟩:=gd b
 refine dC 10 [0] bO (fun ht U=>(dR 0 R (vS R) (hS:=(sL [0])) (dR 1 R (vz (.agg [(sc A2 v1.Dims D2),(sc A3 v1.Strides D3),(iv v1.Offset),(iv v1.Base)].toArray) (dT 0 gC cF R R R R)) (hS:=(sL [0])) (dR 2 R (fZ 0 gD R) (hS:=(sL [0])) (dR 3 R (gI 0 cH R R R) (hS:=(sL [0])) (dR 4 R (vI R) (hS:=(sL [0])) (d1 5 R (lM (RR kT3 A2 D2 v1.Dims::OO kT3 3 O G g::j) (fun w s=>(s.d 2 R)) ?_))))))))
 refine lC 1 lr R (Zh_ok M) R ?_
 rintro ⟨m,a2,q⟩
 refine lN (ow kT3 3 (.slice m a2 q) u::_::j) ?_
 refine aL 0 aB ?_
 rintro rfl
 refine aC (aG (sL [1,0]) (d1 6 R (lM (ow _ _ _ _::RR kT3 A2 D2 v1.Dims::RR kT3 A3 D3 v1.Strides::ow _ _ _ _::j) (fun w s=>(((s.d 3 R).d 5 R).e 4 [2,1,0,3])) ?_)))
 refine lC 3 yA R (FnOk.lends (A':=[OO kT3 3 m q u]) (A:=[RR kT3 m q u]) (B:=[RR kT3 A2 D2 v1.Dims,RR kT3 A3 D3 v1.Strides]) (FnOk.perm (Z15_ok T) (Pre':=[RR kT3 m q u,RR kT3 A2 D2 v1.Dims,RR kT3 A3 D3 v1.Strides]) (fun _ _ _ s=>(s.e 3 [1,2,0]))) ⟨aY,trivial⟩ (fun _=>trivial)) R ?_
 rintro _
 refine lN (_::_::j) ?_
 refine aC (aG (sL [1,0]) (d1 7 R (bK (K:=kT3) (xs:=([i]:List Int)) (vs:=[(iv i)]) 0 R R bL cE gZ R R R R R R ?_ R (fun Z a5=>?_))))
 exact fun I h s=>(gJ).list [((),i)] I h s
 refine lN (OO kT3 3 Z a5 ([i]:List Int)::_::_::j) ?_
 refine aC (aG (sL [2,1,0]) (d1 8 R (lM (ow _ _ _ _::ow _ _ _ _::ow _ _ _ _::j) (fun w s=>(s.e 3 [2,0,1])) ?_)))
 refine eF (K:=kT3) 17592186044416 R R bL cE kv (Zr.zk zT3 gZ) R R R R R R dO F (fun J E=>(lN (OO kT3 3 J E (g++([i]:List Int))::_::j) ?_))
 refine aC (aG (sL [1,0]) (dR 9 R (vS R) (hS:=(sL [1,0])) (dD (eD (aI (aE (lI R (lO (lq R R) (lI R (aC ?_))))))))))
 obtain rfl:=so b
 exact qA (J,(g++([i]:List Int)).length,E) (fun w s=>(s.e 2 [0]))
 refine bM R l (iQ (eR ?_))
 obtain rfl:=so b
 obtain rfl:=a6 _ R
 have b:=a1
 refine eR (gW ?_)
 exact qI (g,(O,g.length,G)) b (fun w s=>s)
 rintro ⟨D,⟨a4,a9,a8⟩⟩ σ1 b
 replace b:Z08_J1 D=some r:=b
 unfold Z08_J1 at b
 refine bI 0 aB (fun (U:a9=D.length)=>?_)
 subst U
 refine aN (aE (lS R (lS R (aC (aI (bV ?_))))))
 obtain rfl:=so b
 exact qF (a4,D.length,a8) (fun w s=>(s.e 4 [0]))
theorem Z8_ok  {v1:View}{r:Bool}(b:Z8 v1=some r) :
 FnOk Tryz.prog 116 [(.agg [(.slice A2 N2 D2),(.slice A3 N3 D3),(iv v1.Offset),(iv v1.Base)].toArray)] [aO kT3 (.slice A2 N2 D2) v1.Dims,aO kT3 (.slice A3 N3 D3) v1.Strides] (fun (h:Unit)=>((.bool r),[])):=by
 unfold Z8 at b
 refine aQ Tryz.func116 R 84 R R fun C V=>?_
 refine cL 0 aA ?_
 rintro rfl
 refine cL 1 aA ?_
 rintro rfl
 let W0:=RR kT3 A2 D2 v1.Dims::RR kT3 A3 D3 v1.Strides::V
 refine cN W0 ?_
 refine aU ?_
 refine eG R fun B=>?_
 refine aU ?_
 let l:=aJ B [(sc A2 v1.Dims D2),(sc A3 v1.Strides D3),(iv v1.Offset),(iv v1.Base)] 96::W0
 refine qN l ?_
 refine aP ?_
 obtain ⟨D,a3,b⟩:=bd b
 refine cQ [(1,(pt B 0)),(40,(.bool ((((((!D)||((v1.Strides.length:Int) != (v1.Dims.length:Int)))||(decide (v1.Base<1)))||(decide (v1.Base>4096)))||(decide (v1.Offset<0)))||(decide (v1.Offset≥v1.Base)))))] (l) ?_ ?_
 refine aP ?_
 refine lM _ (fun w s=>(s.d 1 R)) ?_
 refine lC 1 k9 R (Zm_ok a3) R ?_
 rintro _
 refine lN l ?_
 refine aU ?_
 rcases bo (!D) with a0 | a0
 refine wr ?_
 exact qj tI
 refine cP ?_
 rcases bo ((!D)||((v1.Strides.length:Int) != (v1.Dims.length:Int))) with a2 | a2
 refine ye ?_
 exact qj tI
 refine b' ?_
 rcases bo (((!D)||((v1.Strides.length:Int) != (v1.Dims.length:Int)))||(decide (v1.Base<1))) with a5 | a5
 refine qG ?_
 exact qj tI
 refine b' ?_
 rcases bo ((((!D)||((v1.Strides.length:Int) != (v1.Dims.length:Int)))||(decide (v1.Base<1)))||(decide (v1.Base>4096))) with M | M
 refine iG ?_
 exact qj tI
 refine b' ?_
 rcases bo (((((!D)||((v1.Strides.length:Int) != (v1.Dims.length:Int)))||(decide (v1.Base<1)))||(decide (v1.Base>4096)))||(decide (v1.Offset<0))) with G | G
 refine dH ?_
 exact qj tI
 refine dH ?_
 exact qj tI
 rintro σ1
 refine bR ?_
 split at b
 refine cV ?_
 cases b
 exact qF () (tE 3 [])
 refine bG ?_
 refine bB (A:=(Unit)×(Unit)) (fun a=>Z8_J1 v1=some r) (fun a=>[(1,(pt B 0))]) (fun a=>l) ?_ ?_
 refine bS ?_
 obtain ⟨e1,a1,E⟩:=bd b
 refine bC (A:=Unit) a1 (fun s a=>[(1,(pt B 0)),(3,(iv s))]) (fun s a=>l) () (aS R) tI ?_
 rintro i _ σ1 a6 b O
 dsimp only [Z8_L1] at b
 refine cT ?_
 split at b
 refine bS ?_
 obtain ⟨Y,b⟩:=gd b
 refine cQ [(1,(pt B 0)),(3,(iv i)),(61,(.bool ((decide ((ix v1.Strides i)<(-4096:Int)))||(decide ((ix v1.Strides i)>4096)))))] (l) ?_ ?_
 refine bG ?_
 refine bD 2 aA (show 0<v1.Strides.length by have:=Y; omega) (fun a8 o23 L=>?_)
 subst L
 refine bG ?_
 rcases bo (decide ((ix v1.Strides i)<(-4096:Int))) with U | U
 refine cV ?_
 exact qj tI
 refine cV ?_
 exact qj tI
 rintro σ1
 refine bR ?_
 split at b
 refine cP ?_
 cases b
 obtain rfl:=O _ R
 have b:=E
 refine aP ?_
 cases b
 exact qF () (tE 3 [])
 refine cP ?_
 cases b
 exact qA () tI
 refine aP ?_
 cases b
 obtain rfl:=O _ R
 have b:=E
 refine aU ?_
 exact qI ((),()) b tI
 rintro ⟨_,_⟩ σ1 b
 dsimp only [Z8_J1] at b
 refine bR ?_
 obtain ⟨g,J,b⟩:=bd b
 refine aU ?_
 refine lM _ (fun w s=>(((s.d 1 R).d 3 R).e 2 [1,0])) ?_
 refine lC 2 pV R (Z08_ok J) R ?_
 rintro ⟨j,a9,m⟩
 refine aL 0 aB ?_
 rintro rfl
 refine bG ?_
 refine bB (A:=(Unit)×(Unit)) (fun a=>Z8_J2=some r) (fun a=>[]) (fun a=>l) ?_ ?_
 refine bS ?_
 obtain ⟨e2,a4,I⟩:=bd b
 refine bC (A:=Unit) a4 (fun s a=>[(1,(pt B 0)),(4,(sc j g m)),(5,(iv s))]) (fun s a=>OO kT3 3 j m g::l) () (aS R) tI ?_
 rintro q _ σ1 a7 b F
 dsimp only [Z8_L2] at b
 refine cP ?_
 split at b
 refine bS ?_
 obtain ⟨u,b⟩:=gd b
 refine cQ [(1,(pt B 0)),(4,(sc j g m)),(5,(iv q)),(83,(.bool ((decide ((ix g q)<0))||(decide ((ix g q)≥v1.Base)))))] (OO kT3 3 j m g::l) ?_ ?_
 rcases bo (decide ((ix g q)<0)) with T | T
 refine aZ 0 aB (show 0<g.length by have:=u; omega) (fun Z o40 L=>?_)
 subst L
 refine dC 14 [] bO fun ht hn=>?_
 refine uc 0 [] ?_
 refine dD ?_
 exact qj tI
 refine aZ 0 aB (show 0<g.length by have:=u; omega) (fun Z o40 L=>?_)
 subst L
 refine dC 14 [] bO fun ht hn=>?_
 refine uc 0 [] ?_
 refine dD ?_
 exact qj tI
 rintro σ1
 refine bR ?_
 split at b
 refine cP ?_
 cases b
 obtain rfl:=F _ R
 have b:=I
 refine aP ?_
 cases b
 exact qF () (tE 4 [])
 refine cP ?_
 cases b
 exact qA () tI
 refine aP ?_
 cases b
 obtain rfl:=F _ R
 have b:=I
 refine aU ?_
 exact cJ ((),()) b trivial (tE 1 [])
 rintro ⟨_,_⟩ σ1 b
 dsimp only [Z8_J2] at b
 refine bS ?_
 cases b
 exact qF () (tE 3 [])
theorem Z00_ok  {v1:View}{b:(List Int)}{r:View}(j:Z00 v1 b=some r) :
 FnOk Tryz.prog 83 [(.agg [(.slice A2 N2 D2),(.slice A3 N3 D3),(iv v1.Offset),(iv v1.Base)].toArray),(.slice A5 N5 D5)] [aO kT3 (.slice A2 N2 D2) v1.Dims,aO kT3 (.slice A3 N3 D3) v1.Strides,aO kT3 (.slice A5 N5 D5) b] (fun (h:HH×HH)=>((.agg [(s3 h.1),(s3 h.2),(iv r.Offset),(iv r.Base)].toArray),[ow kT3 3 (s3 h.1) r.Dims,ow kT3 3 (s3 h.2) r.Strides])):=by
 unfold Z00 at j
 refine aQ Tryz.func83 R 77 R R fun C V=>?_
 refine cL 0 aA ?_
 rintro rfl
 refine cL 1 aA ?_
 rintro rfl
 refine cL 2 aA ?_
 rintro rfl
 let W0:=RR kT3 A2 D2 v1.Dims::RR kT3 A3 D3 v1.Strides::RR kT3 A5 D5 b::V
 refine cN W0 ?_
 refine aU ?_
 refine eG R fun b6=>?_
 refine bE R R cW (fun Z=>(aC ?_))
 let L:=aJ b6 [(sc A2 v1.Dims D2),(sc A3 v1.Strides D3),(iv v1.Offset),(iv v1.Base)] 96::W0
 refine od ?_
 obtain ⟨r8,an,j⟩:=bd j
 obtain ⟨ai,a9,j⟩:=bd j
 refine cQ [(1,(sc A5 b D5)),(2,(pt b6 0)),(4,(pt Z 0)),(5,(iv (aH ((b.length:Int) - (v1.Dims.length:Int))))),(25,(.bool (((!r8)||(!ai))||(decide ((aH ((b.length:Int) - (v1.Dims.length:Int)))<0)))))] (aJ Z [(.slice none 0 0),(.slice none 0 0),(iv 0),(iv 0)] 96::L) ?_ ?_
 refine aU ?_
 refine lM (RR kT3 A2 D2 v1.Dims::RR kT3 A3 D3 v1.Strides::aJ _ _ _::L) (fun w s=>(((s.d 2 R).d 4 R).e 3 [1,0,2])) ?_
 refine lC 2 lv R (Z8_ok an) R ?_
 rintro _
 refine aU ?_
 rcases bo (!r8) with a0 | a0
 refine cP ?_
 exact qj tI
 refine bR ?_
 refine lM (RR kT3 A5 D5 b::_::L) (fun w s=>(s.d 4 R)) ?_
 refine bW 1 R (bY a0) k9 R (Zm_ok (bJ a9 (cO a0))) R ?_
 rintro _
 refine aP ?_
 rcases bo ((!r8)||(!ai)) with ag | ag
 refine bG ?_
 exact qj tI
 refine bG ?_
 exact qj tI
 rintro σ1
 refine bR ?_
 split at j
 refine aP ?_
 refine lO (vz (.agg [(.slice none 0 0),(.slice none 0 0),(iv 0),(iv 0)].toArray) (aV fD cW R R)) (aK 0 R R cF R R R R R R (aC (aI (bV (cD ?_)))))
 cases j
 exact qS ((none,0,0),(none,0,0)) (fun w s=>(((s.nilo kT3 3).nilo kT3 3).e 7 [1,0]))
 refine bG ?_
 obtain ⟨g,M,j⟩:=bd j
 obtain ⟨i,j⟩:=gd j
 refine iS (A:=(Unit)×(Nat×HH×HH)) (fun _=>True) (fun a=>[(1,(sc A5 b D5)),(2,(pt b6 0)),(4,(pt Z 0)),(5,(iv (aH ((b.length:Int) - (v1.Dims.length:Int))))),(6,(pt a.2.1 0))]) (fun a=>aJ Z [(.slice none 0 0),(.slice none 0 0),(iv 0),(iv 0)] 96::aJ a.2.1 [(s3 a.2.2.1),(s3 a.2.2.2),(iv v1.Offset),(iv v1.Base)] 96::ow kT3 3 (s3 a.2.2.1) g::ow kT3 3 (s3 a.2.2.2) (List.replicate (b.length:Int).toNat (0:Int))::L) ?_ ?_
 refine dC 12 [] bO fun ht hn=>?_
 refine dR 0 R (vS R) ?_
 refine gO 2 [] ?_
 refine og 5 [] ?_
 refine hR [1,4,10] (by kernel_rfl) R ⟨?_,?_,?_,trivial⟩
 refine lM (RR kT3 A5 D5 b::_::L) (fun w s=>(s.d 4 R)) ?_
 refine lC 1 jM R (Zq_ok M) R ?_
 rintro ⟨u,a1,B⟩
 refine aL 0 aB ?_
 rintro rfl
 refine aC (aG (sL [0]) (hR [4,10] (by kernel_rfl) R ⟨?_,?_,trivial⟩))
 refine fI (K:=kT3) (m:=(b.length:Int)) (z:=(0:Int)) R R bL cE kv (Zr.zk zT3 gZ) (by decide) R R i.1 i.2.1 i.2.2 (fun l q=>(aC (aG (sL [1,0]) (dR 9 R (vz (.agg [(sc u g B),(sc l (List.replicate (b.length:Int).toNat (0:Int)) q),(iv v1.Offset),(iv v1.Base)].toArray) (aV fD cW R R)) (hS:=(sL [1,0])) (d1 10 R (bE R R cW (fun D=>(aC (aG (sL [2,1,0]) (d1 11 R (aK 0 R R cF R R R R R R (lN (aJ D [(sc u g B),(sc l (List.replicate (b.length:Int).toNat (0:Int)) q),(iv v1.Offset),(iv v1.Base)] 96::OO kT3 3 l q (List.replicate (b.length:Int).toNat (0:Int))::_::_::L) ?_))))))))))))
 refine aC (aG (sL [2,1,0]) (dD ?_))
 exact cJ ((),(D,(u,g.length,B),(l,(List.replicate (b.length:Int).toNat (0:Int)).length,q))) trivial (aS R) (tE 4 [3,0,2,1])
 refine bE R R cW (fun D=>(aC (aG (sL [1,0]) (d1 4 R (fI (K:=kT3) (m:=(b.length:Int)) (z:=(0:Int)) R R bL cE kv (Zr.zk zT3 gZ) (by decide) R R i.1 i.2.1 i.2.2 (fun l q=>(aC (aG (sL [2,1,0]) (dR 9 R (vz (.agg [(sc u g B),(sc l (List.replicate (b.length:Int).toNat (0:Int)) q),(iv v1.Offset),(iv v1.Base)].toArray) (aV fD cW R R)) (hS:=(sL [2,1,0])) (d1 11 R (aK 1 R R cF R R R R R R (lN (_::_::_::_::L) ?_))))))))))))
 refine aC (aG (sL [2,1,0]) (dD ?_))
 exact cJ ((),(D,(u,g.length,B),(l,(List.replicate (b.length:Int).toNat (0:Int)).length,q))) trivial (aS R) (tE 4 [3,1,2,0])
 refine fI (K:=kT3) (m:=(b.length:Int)) (z:=(0:Int)) R R bL cE kv (Zr.zk zT3 gZ) (by decide) R R i.1 i.2.1 i.2.2 (fun l q=>(aC (aG (sL [0]) (hR [1,10] (by kernel_rfl) R ⟨?_,?_,trivial⟩))))
 refine lM (RR kT3 A5 D5 b::_::_::L) (fun w s=>(s.d 5 R)) ?_
 refine lC 1 jM R (Zq_ok M) R ?_
 rintro ⟨u,a1,B⟩
 refine aL 0 aB ?_
 rintro rfl
 refine aC (aG (sL [1,0]) (dR 9 R (vz (.agg [(sc u g B),(sc l (List.replicate (b.length:Int).toNat (0:Int)) q),(iv v1.Offset),(iv v1.Base)].toArray) (aV fD cW R R)) (hS:=(sL [1,0])) (d1 10 R (bE R R cW (fun D=>(aC (aG (sL [2,1,0]) (d1 11 R (aK 0 R R cF R R R R R R (lN (aJ D [(sc u g B),(sc l (List.replicate (b.length:Int).toNat (0:Int)) q),(iv v1.Offset),(iv v1.Base)] 96::_::_::_::L) ?_))))))))))
 refine aC (aG (sL [2,1,0]) (dD ?_))
 exact cJ ((),(D,(u,g.length,B),(l,(List.replicate (b.length:Int).toNat (0:Int)).length,q))) trivial (aS R) (tE 4 [3,0,1,2])
 refine bE R R cW (fun D=>(aC (aG (sL [1,0]) (d1 1 R (lM (RR kT3 A5 D5 b::_::_::_::L) (fun w s=>(s.d 6 R)) ?_)))))
 refine lC 1 jM R (Zq_ok M) R ?_
 rintro ⟨u,a1,B⟩
 refine aL 0 aB ?_
 rintro rfl
 refine aC (aG (sL [2,1,0]) (dR 9 R (vz (.agg [(sc u g B),(sc l (List.replicate (b.length:Int).toNat (0:Int)) q),(iv v1.Offset),(iv v1.Base)].toArray) (aV fD cW R R)) (hS:=(sL [2,1,0])) (d1 11 R (aK 1 R R cF R R R R R R (lN (_::aJ D [(sc u g B),(sc l (List.replicate (b.length:Int).toNat (0:Int)) q),(iv v1.Offset),(iv v1.Base)] 96::_::_::L) ?_)))))
 refine aC (aG (sL [2,1,0]) (dD ?_))
 exact cJ ((),(D,(u,g.length,B),(l,(List.replicate (b.length:Int).toNat (0:Int)).length,q))) trivial (aS R) (tE 4 [3,1,0,2])
 refine bE R R cW (fun D=>(aC (aG (sL [0]) (hR [1,4] (by kernel_rfl) R ⟨?_,?_,trivial⟩))))
 refine lM (RR kT3 A5 D5 b::_::_::L) (fun w s=>(s.d 5 R)) ?_
 refine lC 1 jM R (Zq_ok M) R ?_
 rintro ⟨u,a1,B⟩
 refine aL 0 aB ?_
 rintro rfl
 refine aC (aG (sL [1,0]) (d1 4 R (fI (K:=kT3) (m:=(b.length:Int)) (z:=(0:Int)) R R bL cE kv (Zr.zk zT3 gZ) (by decide) R R i.1 i.2.1 i.2.2 (fun l q=>(aC (aG (sL [2,1,0]) (dR 9 R (vz (.agg [(sc u g B),(sc l (List.replicate (b.length:Int).toNat (0:Int)) q),(iv v1.Offset),(iv v1.Base)].toArray) (aV fD cW R R)) (hS:=(sL [2,1,0])) (d1 11 R (aK 2 R R cF R R R R R R (lN (OO kT3 3 l q (List.replicate (b.length:Int).toNat (0:Int))::_::aJ D [(sc u g B),(sc l (List.replicate (b.length:Int).toNat (0:Int)) q),(iv v1.Offset),(iv v1.Base)] 96::_::L) ?_))))))))))
 refine aC (aG (sL [2,1,0]) (dD ?_))
 exact cJ ((),(D,(u,g.length,B),(l,(List.replicate (b.length:Int).toNat (0:Int)).length,q))) trivial (aS R) (tE 4 [3,2,1,0])
 refine fI (K:=kT3) (m:=(b.length:Int)) (z:=(0:Int)) R R bL cE kv (Zr.zk zT3 gZ) (by decide) R R i.1 i.2.1 i.2.2 (fun l q=>(aC (aG (sL [1,0]) (d1 1 R (lM (RR kT3 A5 D5 b::_::aJ D [(.slice none 0 0),(.slice none 0 0),(iv 0),(iv 0)] 96::_::L) (fun w s=>(s.d 6 R)) ?_)))))
 refine lC 1 jM R (Zq_ok M) R ?_
 rintro ⟨u,a1,B⟩
 refine aL 0 aB ?_
 rintro rfl
 refine aC (aG (sL [2,1,0]) (dR 9 R (vz (.agg [(sc u g B),(sc l (List.replicate (b.length:Int).toNat (0:Int)) q),(iv v1.Offset),(iv v1.Base)].toArray) (aV fD cW R R)) (hS:=(sL [2,1,0])) (d1 11 R (aK 2 R R cF R R R R R R (lN (_::_::aJ D [(sc u g B),(sc l (List.replicate (b.length:Int).toNat (0:Int)) q),(iv v1.Offset),(iv v1.Base)] 96::_::L) ?_)))))
 refine aC (aG (sL [2,1,0]) (dD ?_))
 exact cJ ((),(D,(u,g.length,B),(l,(List.replicate (b.length:Int).toNat (0:Int)).length,q))) trivial (aS R) (tE 4 [3,2,0,1])
 rintro ⟨_,⟨O,⟨F,aj,G⟩,⟨J,ak,E⟩⟩⟩ σ1 -
 refine hT 2 aB (fun (hn:aj=g.length)=>?_)
 subst hn
 refine hT 3 aB (fun (hn:ak=(List.replicate (b.length:Int).toNat (0:Int)).length)=>?_)
 subst hn
 refine aU ?_
 refine bB (A:=((List Int))×(Unit)) (fun a=>Z00_J3 v1 g a.1=some r) (fun a=>[(4,(pt Z 0)),(6,(pt O 0))]) (fun a=>aJ Z [(.slice none 0 0),(.slice none 0 0),(iv 0),(iv 0)] 96::aJ O [(sc F g G),(sc J (List.replicate (b.length:Int).toNat (0:Int)) E),(iv v1.Offset),(iv v1.Base)] 96::OO kT3 3 F G g::ow kT3 3 (.slice J (List.replicate (b.length:Int).toNat (0:Int)).length E) a.1::L) ?_ ?_
 refine bS ?_
 obtain ⟨e1,al,aa⟩:=bd j
 refine bC (A:=Unit) al (fun s a=>[(1,(sc A5 b D5)),(2,(pt b6 0)),(4,(pt Z 0)),(5,(iv (aH ((b.length:Int) - (v1.Dims.length:Int))))),(6,(pt O 0)),(7,(iv s.2))]) (fun s a=>aJ Z [(.slice none 0 0),(.slice none 0 0),(iv 0),(iv 0)] 96::aJ O [(sc F g G),(sc J (List.replicate (b.length:Int).toNat (0:Int)) E),(iv v1.Offset),(iv v1.Base)] 96::OO kT3 3 F G g::ow kT3 3 (.slice J (List.replicate (b.length:Int).toNat (0:Int)).length E) s.1::L) () (aS R) tI ?_
 rintro ⟨a2,U⟩ _ σ1 ab j ae
 dsimp only [Z00_L1] at j
 refine cT ?_
 rcases cK j with ⟨a5,j⟩|⟨a5,j⟩
 refine bG ?_
 refine bB (A:=((List Int))×(Unit)) (fun a=>Z00_J2 U a.1=some ab) (fun a=>[(1,(sc A5 b D5)),(2,(pt b6 0)),(4,(pt Z 0)),(5,(iv (aH ((b.length:Int) - (v1.Dims.length:Int))))),(6,(pt O 0)),(7,(iv U))]) (fun a=>aJ Z [(.slice none 0 0),(.slice none 0 0),(iv 0),(iv 0)] 96::aJ O [(sc F g G),(sc J (List.replicate (b.length:Int).toNat (0:Int)) E),(iv v1.Offset),(iv v1.Base)] 96::OO kT3 3 F G g::ow kT3 3 (.slice J (List.replicate (b.length:Int).toNat (0:Int)).length E) a.1::L) ?_ ?_
 refine aP ?_
 obtain ⟨a7,j⟩:=gd j
 obtain ⟨ac,j⟩:=gd j
 refine aZ 5 aA (show 0<v1.Dims.length by have:=a7; omega) (fun ar o47 ha=>?_)
 subst ha
 refine aZ 7 aA (show 0<b.length by have:=ac; omega) (fun ao o50 ha=>?_)
 subst ha
 refine dC 13 [] bO fun ht hn=>?_
 refine mr 0 [] ?_
 refine dD (aI ?_)
 rcases cK j with ⟨a3,j⟩|⟨a3,j⟩
 refine bR ?_
 obtain ⟨a8,j⟩:=gd j
 obtain ⟨Y,j⟩:=gd j
 refine aZ 6 aA (show 0<v1.Strides.length by have:=a8; omega) (fun ap o54 ha=>?_)
 subst ha
 refine aZ 3 aB (show 0<(List.replicate (b.length:Int).toNat (0:Int)).length by have:=Y; omega) (fun a6 o57 ha=>?_)
 subst ha
 refine dC 12 [3] bO fun ht hn=>?_
 refine oX 0 [3] ?_
 refine d1 11 R (lM (ow kT3 3 (.slice (ad a6 o57) (List.replicate (b.length:Int).toNat (0:Int)).length E) a2::aJ _ _ _::aJ O [(sc F g G),(sc (ad a6 o57) (List.replicate (b.length:Int).toNat (0:Int)) E),(iv v1.Offset),(iv v1.Base)] 96::OO kT3 3 F G g::L) (tE 4 [3,0,1,2]) ?_)
 refine dX (K:=kT3) (x':=(ix v1.Strides U)) 0 (aH ((aH ((b.length:Int) - (v1.Dims.length:Int)))+U)) R R cE R R Y.1 Y.2 ?_ ?_
 exact fun I h s=>(gJ).put I h () (ix v1.Strides U) s
 refine aC (aG (sL [0]) (dD ?_))
 obtain ⟨ah,T,j⟩:=bd j
 replace T:=Option.some.inj T
 refine qM (ow kT3 3 (.slice (ad a6 o57) (List.replicate (b.length:Int).toNat (0:Int)).length E) ah::_::_::_::L) (fun w s=>by rw [← T]; exact s) ?_
 refine aU ?_
 exact qI (ah,()) j (tE 4 [1,2,3,0])
 refine bM R a3 ?_
 refine iu ?_
 rcases cK j with ⟨a4,j⟩|⟨a4,j⟩
 refine aP ?_
 refine lO (vz (.agg [(.slice none 0 0),(.slice none 0 0),(iv 0),(iv 0)].toArray) (aV fD cW R R)) (aK 0 R R cF R R R R R R (lN (_::aJ O [(sc F g G),(sc J (List.replicate (b.length:Int).toNat (0:Int)) E),(iv v1.Offset),(iv v1.Base)] 96::_::ow kT3 3 (.slice J (List.replicate (b.length:Int).toNat (0:Int)).length E) a2::L) ?_))
 refine bS ?_
 cases j
 obtain rfl:=ae _ R
 have j:=aa
 refine aP ?_
 cases j
 exact qS ((none,0,0),(none,0,0)) (fun w s=>(((s.nilo kT3 3).nilo kT3 3).e 10 [1,0]))
 refine bM R a4 ?_
 refine aP ?_
 exact qI (a2,()) j tI
 rintro ⟨aq,_⟩ σ1 j
 dsimp only [Z00_J2] at j
 refine b' ?_
 cases j
 exact qA () tI
 refine bM R a5 ?_
 refine aU ?_
 cases j
 obtain rfl:=ae _ R
 have j:=aa
 refine aU ?_
 exact qI (a2,()) j tI
 rintro ⟨am,_⟩ σ1 j
 dsimp only [Z00_J3] at j
 refine aP ?_
 refine aK 0 R R cF R R R R R R (lN (aJ Z [(sc F g G),(sc J (List.replicate (b.length:Int).toNat (0:Int)) E),(iv v1.Offset),(iv v1.Base)] 96::_::_::ow kT3 3 (.slice J (List.replicate (b.length:Int).toNat (0:Int)).length E) am::L) ?_)
 refine aP ?_
 cases j
 exact qS ((F,g.length,G),(J,(List.replicate (b.length:Int).toNat (0:Int)).length,E)) (tE 8 [2,3])
theorem Zz_ok  {t1:Tensor}{v4:View}{r:Tensor}(i:Zz t1 v4=some r) :
 FnOk Tryz.prog 82 [(.agg [(.slice A2 N2 D2),(.slice A3 N3 D3)].toArray),(.agg [(.slice A5 N5 D5),(.slice A6 N6 D6),(iv v4.Offset),(iv v4.Base)].toArray)] [aO kT3 (.slice A2 N2 D2) t1.Dims,aO kT3 (.slice A3 N3 D3) t1.Data,aO kT3 (.slice A5 N5 D5) v4.Dims,aO kT3 (.slice A6 N6 D6) v4.Strides] (fun (h:HH×HH)=>((.agg [(s3 h.1),(s3 h.2)].toArray),[ow kT3 3 (s3 h.1) r.Dims,ow kT3 3 (s3 h.2) r.Data])):=by
 unfold Zz at i
 refine aQ Tryz.func82 R 51 R R fun C V=>?_
 refine cL 0 aA ?_
 rintro rfl
 refine cL 1 aA ?_
 rintro rfl
 refine cL 2 aA ?_
 rintro rfl
 refine cL 3 aA ?_
 rintro rfl
 let W0:=RR kT3 A2 D2 t1.Dims::RR kT3 A3 D3 t1.Data::RR kT3 A5 D5 v4.Dims::RR kT3 A6 D6 v4.Strides::V
 refine cN W0 ?_
 refine aU ?_
 refine eG R fun b7=>?_
 refine eG R fun b8=>?_
 refine bE R R dP (fun J=>(aC ?_))
 let G:=aJ b8 [(sc A5 v4.Dims D5),(sc A6 v4.Strides D6),(iv v4.Offset),(iv v4.Base)] 96::aJ b7 [(sc A2 t1.Dims D2),(sc A3 t1.Data D3)] 58::W0
 refine aP ?_
 obtain ⟨Z,a0,i⟩:=bd i
 obtain ⟨a3,a6,i⟩:=bd i
 refine cQ [(2,(pt b7 0)),(3,(pt b8 0)),(4,(pt J 0)),(23,(.bool (((!Z)||(!a3))||(v4.Base != (t1.Data.length:Int)))))] (aJ J [(.slice none 0 0),(.slice none 0 0)] 58::G) ?_ ?_
 refine aU ?_
 refine lM _ (fun w s=>(((s.d 3 R).d 5 R).e 3 [1,0,2])) ?_
 refine lC 2 ny R (Zo_ok a0) R ?_
 rintro _
 refine aU ?_
 rcases bo (!Z) with F | F
 refine mq ?_
 exact qj tI
 refine bR ?_
 refine lM _ (fun w s=>(((s.d 5 R).d 7 R).e 3 [1,0,2])) ?_
 refine bW 2 R (bY F) lv R (Z8_ok (bJ a6 (cO F))) R ?_
 rintro _
 refine aP ?_
 rcases bo ((!Z)||(!a3)) with a5 | a5
 refine cV ?_
 exact qj tI
 refine cV ?_
 exact qj tI
 rintro σ1
 refine bR ?_
 split at i
 refine aP ?_
 refine lO (vz (.agg [(.slice none 0 0),(.slice none 0 0)].toArray) (aV gK dP R R)) (aK 0 R R bQ R R R R R R (aC (aI (bV (cD ?_)))))
 cases i
 exact qS ((none,0,0),(none,0,0)) (fun w s=>(((s.nilo kT3 3).nilo kT3 3).e 9 [1,0]))
 refine bG ?_
 obtain ⟨j,a1,i⟩:=bd i
 refine aP ?_
 refine lM _ (fun w s=>(s.d 5 R)) ?_
 refine lC 1 jM R (Zq_ok a1) R ?_
 rintro ⟨l,ao,m⟩
 refine aL 0 aB ?_
 rintro rfl
 refine lO (vz (.agg [(sc l j m),(.slice none 0 0)].toArray) (aV gK dP R R)) (bE R R dP (fun u=>(aK 0 R R bQ R R R R R R (lN (aJ u [(sc l j m),(.slice none 0 0)] 58::_::_::G) ?_))))
 refine aP ?_
 obtain ⟨b,a4,i⟩:=bd i
 refine aU ?_
 refine lM _ (fun w s=>(((s.d 7 R).d 9 R).e 5 [1,0,2,3,4])) ?_
 refine lC 2 pV R (Z08_ok a4) R ?_
 rintro ⟨O,an,T⟩
 refine aL 0 aB ?_
 rintro rfl
 refine bG ?_
 refine bB (A:=((List Int))×(HH)) (fun a=>Zz_J1 j a.1=some r) (fun a=>[(4,(pt J 0)),(5,(pt u 0))]) (fun a=>aJ J [(.slice none 0 0),(.slice none 0 0)] 58::aJ u [(sc l j m),(s3 a.2)] 58::OO kT3 3 l m j::ow kT3 3 (s3 a.2) a.1::G) ?_ ?_
 refine bS ?_
 obtain ⟨e1,ag,ae⟩:=bd i
 refine bC (A:=HH) ag (fun s a=>[(2,(pt b7 0)),(4,(pt J 0)),(5,(pt u 0)),(6,(sc O b T)),(7,(iv s.2))]) (fun s a=>aJ J [(.slice none 0 0),(.slice none 0 0)] 58::aJ u [(sc l j m),(s3 a)] 58::OO kT3 3 l m j::ow kT3 3 (s3 a) s.1::OO kT3 3 O T b::G) (none,0,0) (aS R) (fun w s=>((s.nilo kT3 3).e 5 [4,2,3,0,1])) ?_
 rintro ⟨q,g⟩ ⟨aj,ah,a9⟩ σ1 am i ai
 dsimp only [Zz_L1] at i
 refine bI 3 aB (fun (hn:ah=q.length)=>?_)
 subst hn
 refine cP ?_
 rcases cK i with ⟨U,i⟩|⟨U,i⟩
 refine b' ?_
 obtain ⟨a7,i⟩:=gd i
 obtain ⟨a2,i⟩:=gd i
 obtain ⟨Y,i⟩:=gd i
 refine iS (A:=(Unit)×(HH)) (fun _=>True) (fun a=>[(2,(pt b7 0)),(4,(pt J 0)),(5,(pt u 0)),(6,(sc O b T)),(7,(iv g))]) (fun a=>aJ J [(.slice none 0 0),(.slice none 0 0)] 58::aJ u [(sc l j m),(s3 a.2)] 58::OO kT3 3 l m j::ow kT3 3 (s3 a.2) (q++([(ix t1.Data (ix b g))]:List Int))::OO kT3 3 O T b::G) ?_ ?_
 refine aZ 4 aB (show 0<b.length by have:=a7; omega) (fun aq o41 ha=>?_)
 subst ha
 refine aZ 8 aA (show 0<t1.Data.length by have:=a2; omega) (fun ap o44 ha=>?_)
 subst ha
 refine dC 14 [3,1] bO fun ht hn=>?_
 refine oe 0 [3,1] ?_
 refine ua 2 [3,1] ?_
 refine hR [1,10] (by kernel_rfl) R ⟨?_,?_,trivial⟩
 refine lO (gI 1 cH R R R) (aC (aG (sL [3,1]) (d1 10 R (bK (K:=kT3) (xs:=([(ix t1.Data (ix b g))]:List Int)) (vs:=[(iv (ix t1.Data (ix b g)))]) 0 R R bL cE gZ R R R R R R ?_ R (fun al aa=>?_)))))
 exact fun I h s=>(gJ).list [((),(ix t1.Data (ix b g)))] I h s
 refine aC (aG (sL [4,2,0]) (d1 11 R (lM _ (tE 6 [4,0,1,2,3,5]) ?_)))
 refine eF (K:=kT3) 17592186044416 R R bL cE kv (Zr.zk zT3 gZ) R R R R R R dO Y (fun B D=>(lN (OO kT3 3 B D (q++([(ix t1.Data (ix b g))]:List Int))::_::_::_::_::G) ?_))
 refine aC (aG (sL [2,0]) ?_)
 refine oe 12 [2,0] ?_
 refine d1 13 R (cR 2 R R eZ R R R R R (lN (_::_::aJ u [(sc l j m),(sc B (q++([(ix t1.Data (ix b g))]:List Int)) D)] 58::_::_::G) ?_))
 refine aC (aG (sL [2,0]) (dD ?_))
 exact cJ ((),(B,(q++([(ix t1.Data (ix b g))]:List Int)).length,D)) trivial (aS R) (tE 5 [1,2,3,0,4])
 refine bK (K:=kT3) (xs:=([(ix t1.Data (ix b g))]:List Int)) (vs:=[(iv (ix t1.Data (ix b g)))]) 0 R R bL cE gZ R R R R R R ?_ R (fun al aa=>?_)
 exact fun I h s=>(gJ).list [((),(ix t1.Data (ix b g)))] I h s
 refine aC (aG (sL [4,2,0]) (d1 1 R (lO (gI 2 cH R R R) (aC (aG (sL [4,2,0]) (d1 11 R (lM _ (tE 6 [4,0,1,2,3,5]) ?_)))))))
 refine eF (K:=kT3) 17592186044416 R R bL cE kv (Zr.zk zT3 gZ) R R R R R R dO Y (fun B D=>(lN (OO kT3 3 B D (q++([(ix t1.Data (ix b g))]:List Int))::_::_::_::_::G) ?_))
 refine aC (aG (sL [2,0]) ?_)
 refine oe 12 [2,0] ?_
 refine d1 13 R (cR 2 R R eZ R R R R R (lN (_::_::aJ u [(sc l j m),(sc B (q++([(ix t1.Data (ix b g))]:List Int)) D)] 58::_::_::G) ?_))
 refine aC (aG (sL [2,0]) (dD ?_))
 exact cJ ((),(B,(q++([(ix t1.Data (ix b g))]:List Int)).length,D)) trivial (aS R) (tE 5 [1,2,3,0,4])
 rintro ⟨_,⟨ab,ak,a8⟩⟩ σ1 -
 refine hT 3 aB (fun (hn:ak=(q++([(ix t1.Data (ix b g))]:List Int)).length)=>?_)
 subst hn
 refine dH ?_
 cases i
 exact qA (ab,(q++([(ix t1.Data (ix b g))]:List Int)).length,a8) tI
 refine bM R U ?_
 refine aU ?_
 cases i
 obtain rfl:=ai _ R
 have i:=ae
 refine aU ?_
 exact qI (q,(aj,q.length,a9)) i (fun w s=>(s.f 5 [0,4]))
 rintro ⟨E,⟨L,ac,M⟩⟩ σ1 i
 dsimp only [Zz_J1] at i
 refine bI 3 aB (fun (hn:ac=E.length)=>?_)
 subst hn
 refine aP ?_
 refine aK 0 R R bQ R R R R R R (lN (aJ J [(sc l j m),(sc L E M)] 58::aJ u [(sc l j m),(sc L E M)] 58::_::OO kT3 3 L M E::G) ?_)
 refine aP ?_
 cases i
 exact qS ((l,j.length,m),(L,E.length,M)) (tE 10 [2,3])
theorem Z07_ok  {v1:View}{j:(List Int)}{r:View}(g:Z07 v1 j=some r) :
 FnOk Tryz.prog 85 [(.agg [(.slice A2 N2 D2),(.slice A3 N3 D3),(iv v1.Offset),(iv v1.Base)].toArray),(.slice A5 N5 D5)] [aO kT3 (.slice A2 N2 D2) v1.Dims,aO kT3 (.slice A3 N3 D3) v1.Strides,aO kT3 (.slice A5 N5 D5) j] (fun (h:HH×HH)=>((.agg [(s3 h.1),(s3 h.2),(iv r.Offset),(iv r.Base)].toArray),[ow kT3 3 (s3 h.1) r.Dims,ow kT3 3 (s3 h.2) r.Strides])):=by
 unfold Z07 at g
 refine aQ Tryz.func85 R 77 R R fun C V=>?_
 refine cL 0 aA ?_
 rintro rfl
 refine cL 1 aA ?_
 rintro rfl
 refine cL 2 aA ?_
 rintro rfl
 let W0:=RR kT3 A2 D2 v1.Dims::RR kT3 A3 D3 v1.Strides::RR kT3 A5 D5 j::V
 refine cN W0 ?_
 refine aU ?_
 refine eG R fun b6=>?_
 refine bE R R cW (fun Z=>(aC ?_))
 let W1:=aJ b6 [(sc A2 v1.Dims D2),(sc A3 v1.Strides D3),(iv v1.Offset),(iv v1.Base)] 96::W0
 refine aP ?_
 obtain ⟨r8,a8,g⟩:=bd g
 obtain ⟨an,a4,g⟩:=bd g
 obtain ⟨b0,ax,g⟩:=bd g
 obtain ⟨b5,ap,g⟩:=bd g
 refine cQ [(1,(sc A5 j D5)),(2,(pt b6 0)),(4,(pt Z 0)),(24,(.bool (((!r8)||(!an))||(b0 != b5))))] (aJ Z [(.slice none 0 0),(.slice none 0 0),(iv 0),(iv 0)] 96::W1) ?_ ?_
 rcases bo (!r8) with O | O
 refine dC 16 [] bO fun ht hn=>?_
 refine oe 0 [] ?_
 refine d1 1 R (lM _ (fun w s=>(((s.d 2 R).d 4 R).e 3 [1,0,2])) ?_)
 refine lC 2 lv R (Z8_ok a8) R ?_
 rintro _
 refine aC (aG (sL []) ?_)
 refine uc 2 [] ?_
 refine dD ?_
 exact qj tI
 rcases bo ((!r8)||(!an)) with M | M
 refine dC 16 [] bO fun ht hn=>?_
 refine oe 0 [] ?_
 refine d1 1 R (lM _ (fun w s=>(((s.d 2 R).d 4 R).e 3 [1,0,2])) ?_)
 refine lC 2 lv R (Z8_ok a8) R ?_
 rintro _
 refine aC (aG (sL []) ?_)
 refine hJ 2 [] ?_
 refine d1 5 R (lM _ (fun w s=>(s.d 4 R)) ?_)
 refine bW 1 R (bY O) k9 R (Zm_ok (bJ a4 (cO O))) R ?_
 rintro _
 refine aC (aG (sL []) ?_)
 refine qH 6 [] ?_
 refine dD ?_
 exact qj tI
 refine dC 16 [] bO fun ht hn=>?_
 refine oe 0 [] ?_
 refine d1 1 R (lM _ (fun w s=>(((s.d 2 R).d 4 R).e 3 [1,0,2])) ?_)
 refine lC 2 lv R (Z8_ok a8) R ?_
 rintro _
 refine aC (aG (sL []) ?_)
 refine hJ 2 [] ?_
 refine d1 5 R (lM _ (fun w s=>(s.d 4 R)) ?_)
 refine bW 1 R (bY O) k9 R (Zm_ok (bJ a4 (cO O))) R ?_
 rintro _
 refine aC (aG (sL []) ?_)
 refine og 6 [] ?_
 refine gO 11 [] ?_
 refine d1 10 R (lM _ (fun w s=>(s.d 4 R)) ?_)
 refine bW 1 R (bY M) nx R (Zs_ok (bJ ax (cO M))) R ?_
 rintro _
 refine aC (aG (sL []) (d1 13 R (lM _ (fun w s=>(s.d 2 R)) ?_)))
 refine bW 1 R (bY M) nx R (Zs_ok (bJ ap (cO M))) R ?_
 rintro _
 refine aC (aG (sL []) ?_)
 refine gO 14 [] ?_
 refine dD ?_
 exact qj tI
 rintro σ1
 refine bR ?_
 split at g
 refine aP ?_
 refine lO (vz (.agg [(.slice none 0 0),(.slice none 0 0),(iv 0),(iv 0)].toArray) (aV fD cW R R)) (aK 0 R R cF R R R R R R (aC (aI (bV (cD ?_)))))
 cases g
 exact qS ((none,0,0),(none,0,0)) (fun w s=>(((s.nilo kT3 3).nilo kT3 3).e 7 [1,0]))
 refine bG ?_
 obtain ⟨b,am,g⟩:=bd g
 refine aU ?_
 refine lM _ (fun w s=>(((s.d 2 R).d 4 R).e 3 [1,0,2])) ?_
 refine lC 2 pV R (Z08_ok am) R ?_
 rintro ⟨u,bk,D⟩
 refine aL 0 aB ?_
 rintro rfl
 refine bG ?_
 obtain ⟨i,a3,g⟩:=bd g
 obtain ⟨av,g⟩:=gd g
 refine iS (A:=(Unit)×(Nat×HH)) (fun _=>True) (fun a=>[(1,(sc A5 j D5)),(4,(pt Z 0)),(5,(sc u b D)),(6,(pt a.2.1 0))]) (fun a=>aJ Z [(.slice none 0 0),(.slice none 0 0),(iv 0),(iv 0)] 96::OO kT3 3 u D b::aJ a.2.1 [(s3 a.2.2),(.slice none 0 0),(iv (ix b 0)),(iv v1.Base)] 96::ow kT3 3 (s3 a.2.2) i::W1) ?_ ?_
 refine aZ 0 aB (show 0<b.length by have:=av; omega) (fun bi o27 ha=>?_)
 subst ha
 refine dC 10 [] bO fun ht hn=>?_
 refine dR 0 R (vS R) ?_
 refine kh 2 [] ?_
 refine hR [1,8] (by kernel_rfl) R ⟨?_,?_,trivial⟩
 refine lM _ (fun w s=>(s.d 5 R)) ?_
 refine lC 1 jM R (Zq_ok a3) R ?_
 rintro ⟨U,b9,T⟩
 refine aL 0 aB ?_
 rintro rfl
 refine aC (aG (sL [0]) (dR 7 R (vz (.agg [(sc U i T),(.slice none 0 0),(iv (ix b 0)),(iv v1.Base)].toArray) (aV fD cW R R)) (hS:=(sL [0])) (d1 8 R (bE R R cW (fun a1=>(aC (aG (sL [1,0]) (d1 9 R (aK 0 R R cF R R R R R R (lN (aJ a1 [(sc U i T),(.slice none 0 0),(iv (ix b 0)),(iv v1.Base)] 96::_::_::_::W1) ?_))))))))))
 refine aC (aG (sL [1,0]) (dD ?_))
 exact cJ ((),(a1,(U,i.length,T))) trivial (aS R) (tE 4 [3,2,0,1])
 refine bE R R cW (fun a1=>(aC (aG (sL [0]) (d1 1 R (lM _ (fun w s=>(s.d 6 R)) ?_)))))
 refine lC 1 jM R (Zq_ok a3) R ?_
 rintro ⟨U,b9,T⟩
 refine aL 0 aB ?_
 rintro rfl
 refine aC (aG (sL [1,0]) (dR 7 R (vz (.agg [(sc U i T),(.slice none 0 0),(iv (ix b 0)),(iv v1.Base)].toArray) (aV fD cW R R)) (hS:=(sL [1,0])) (d1 9 R (aK 1 R R cF R R R R R R (lN (_::aJ a1 [(sc U i T),(.slice none 0 0),(iv (ix b 0)),(iv v1.Base)] 96::_::_::W1) ?_)))))
 refine aC (aG (sL [1,0]) (dD ?_))
 exact cJ ((),(a1,(U,i.length,T))) trivial (aS R) (tE 4 [3,2,1,0])
 rintro ⟨_,⟨J,⟨l,b8,m⟩⟩⟩ σ1 -
 refine hT 3 aB (fun (hn:b8=i.length)=>?_)
 subst hn
 refine aU ?_
 refine bB (A:=((List Int))×(HH)) (fun a=>Z07_J3 v1 b i a.1=some r) (fun a=>[(4,(pt Z 0)),(5,(sc u b D)),(6,(pt J 0))]) (fun a=>aJ Z [(.slice none 0 0),(.slice none 0 0),(iv 0),(iv 0)] 96::OO kT3 3 u D b::aJ J [(sc l i m),(s3 a.2),(iv (ix b 0)),(iv v1.Base)] 96::OO kT3 3 l m i::ow kT3 3 (s3 a.2) a.1::W1) ?_ ?_
 refine bS ?_
 obtain ⟨e1,az,ay⟩:=bd g
 refine bC (A:=HH) az (fun s a=>[(1,(sc A5 j D5)),(4,(pt Z 0)),(5,(sc u b D)),(6,(pt J 0)),(7,(iv s.2))]) (fun s a=>aJ Z [(.slice none 0 0),(.slice none 0 0),(iv 0),(iv 0)] 96::OO kT3 3 u D b::aJ J [(sc l i m),(s3 a),(iv (ix b 0)),(iv v1.Base)] 96::OO kT3 3 l m i::ow kT3 3 (s3 a) s.1::W1) (none,0,0) (aS R) (fun w s=>((s.nilo kT3 3).f 5 [1,4,0,1])) ?_
 rintro ⟨G,ac⟩ ⟨a7,ba,aa⟩ σ1 aj g b1
 dsimp only [Z07_L1] at g
 refine bI 4 aB (fun (hn:ba=G.length)=>?_)
 subst hn
 refine cP ?_
 rcases cK g with ⟨a2,g⟩|⟨a2,g⟩
 refine iu ?_
 refine bB (A:=(Int)×(Unit)) (fun a=>Z07_J2 G ac a.1=some aj) (fun a=>[(1,(sc A5 j D5)),(4,(pt Z 0)),(5,(sc u b D)),(6,(pt J 0)),(7,(iv ac)),(8,(iv a.1))]) (fun a=>aJ Z [(.slice none 0 0),(.slice none 0 0),(iv 0),(iv 0)] 96::OO kT3 3 u D b::aJ J [(sc l i m),(sc a7 G aa),(iv (ix b 0)),(iv v1.Base)] 96::OO kT3 3 l m i::OO kT3 3 a7 aa G::W1) ?_ ?_
 refine bR ?_
 obtain ⟨ao,g⟩:=gd g
 refine aP ?_
 refine bD 8 aA (show 0<j.length by have:=ao; omega) (fun bf o53 ha=>?_)
 subst ha
 refine b' ?_
 rcases cK g with ⟨a6,g⟩|⟨a6,g⟩
 refine bR ?_
 obtain ⟨a0,g⟩:=gd g
 obtain ⟨b4,au,g⟩:=bd g
 obtain ⟨aq,g⟩:=gd g
 refine aZ 1 aB (show 0<b.length by have:=aq; omega) (fun be o61 ha=>?_)
 subst ha
 refine dC 13 [] bO fun ht hn=>?_
 refine og 0 [] ?_
 refine hJ 8 [] ?_
 refine d1 4 R (fY (K:=kT3) (aH (ac+1)) (j.length:Int) 8 R R bL cE R R R R a0.1 a0.2.1 a0.2.2 (fun bj bc=>(aC (aG (sL [0]) (d1 5 R (lM _ (fun w s=>(s.d 0 R)) ?_))))))
 refine lC 1 nx R (Zs_ok au) R ?_
 rintro _
 refine aC (aG (sL [0]) ?_)
 refine gO 6 [0] ?_
 refine gO 11 [0] ?_
 refine dD ?_
 exact qI ((aH ((ix b b4) - (ix b 0))),()) g (fun w s=>(s.f 6 [1,5]))
 refine bM R a6 (dI ?_)
 exact qI ((0:Int),()) g tI
 rintro ⟨Y,_⟩ σ1 g
 dsimp only [Z07_J2] at g
 obtain ⟨al,g⟩:=gd g
 refine bG ?_
 refine bK (K:=kT3) (xs:=([Y]:List Int)) (vs:=[(iv Y)]) 0 R R bL cE gZ R R R R R R ?_ R (fun bb bh=>?_)
 exact fun I h s=>(gJ).list [((),Y)] I h s
 refine lM _ (fun w s=>(s.f 6 [5,1,0,5])) ?_
 refine eF (K:=kT3) 17592186044416 R R bL cE kv (Zr.zk zT3 gZ) R R R R R R dO al (fun ab a9=>(lN (OO kT3 3 ab a9 (G++([Y]:List Int))::_::_::_::_::W1) ?_))
 refine bR ?_
 refine cR 3 R R eZ R R R R R (lN (_::_::_::aJ J [(sc l i m),(sc ab (G++([Y]:List Int)) a9),(iv (ix b 0)),(iv v1.Base)] 96::_::W1) ?_)
 refine cV ?_
 cases g
 exact qA (ab,(G++([Y]:List Int)).length,a9) (fun w s=>(s.f 5 [1,4,0,1]))
 refine bM R a2 ?_
 refine aU ?_
 cases g
 obtain rfl:=b1 _ R
 have g:=ay
 refine aU ?_
 exact qI (G,(a7,G.length,aa)) g tI
 rintro ⟨q,⟨F,b2,L⟩⟩ σ1 g
 dsimp only [Z07_J3] at g
 refine bI 4 aB (fun (hn:b2=q.length)=>?_)
 subst hn
 refine aU ?_
 obtain ⟨ar,aw,g⟩:=bd g
 obtain ⟨ah,ai,g⟩:=bd g
 obtain ⟨b3,ak,g⟩:=bd g
 refine cQ [(4,(pt Z 0)),(6,(pt J 0)),(74,(.bool ((!ar)||(!b3))))] (aJ Z [(.slice none 0 0),(.slice none 0 0),(iv 0),(iv 0)] 96::aJ J [(sc l i m),(sc F q L),(iv (ix b 0)),(iv v1.Base)] 96::OO kT3 3 l m i::OO kT3 3 F L q::W1) ?_ ?_
 refine aU ?_
 refine lM _ (fun w s=>(s.f 5 [3,2,0,3])) ?_
 refine lC 2 lv R (FnOk.lends (A':=[OO kT3 3 l m i,OO kT3 3 F L q]) (A:=[RR kT3 l m i,RR kT3 F L q]) (B:=[]) (Z8_ok (v1:=(⟨i,q,(ix b 0),v1.Base⟩:View)) aw) ⟨aY,aY,trivial⟩ (fun _=>trivial)) R ?_
 rintro _
 refine aU ?_
 rcases bo (!ar) with E | E
 refine dH ?_
 exact qj (tE 5 [2,4,0,1])
 refine lW (bY E) (vz (.agg [(sc l i m),(sc F q L),(iv (ix b 0)),(iv v1.Base)].toArray) (dT 4 gC cF R R R R)) (bW 2 R (bY E) pV R (FnOk.lends (A':=[OO kT3 3 l m i,OO kT3 3 F L q]) (A:=[RR kT3 l m i,RR kT3 F L q]) (B:=[]) (Z08_ok (v1:=(⟨i,q,(ix b 0),v1.Base⟩:View)) (bJ ai (cO E))) ⟨aY,aY,trivial⟩ (fun _=>⟨(bH j0),trivial⟩)) R ?_)
 rintro ⟨ae,bg,ag⟩
 refine aL 2 aB ?_
 rintro rfl
 refine bR ?_
 refine lM _ (tE 6 [2,4,0,1,3,5]) ?_
 refine bW 2 R (bY E) wI R (FnOk.lends (A':=[OO kT3 3 ae ag ah,OO kT3 3 u D b]) (A:=[RR kT3 ae ag ah,RR kT3 u D b]) (B:=[]) (Zy_ok (bJ ak (cO E))) ⟨aY,aY,trivial⟩ (fun _=>trivial)) R ?_
 rintro _
 refine aP ?_
 exact qj (tE 6 [4,5,2,3])
 rintro σ1
 refine bR ?_
 rcases cK g with ⟨a5,g⟩|⟨a5,g⟩
 refine aP ?_
 refine lO (vz (.agg [(.slice none 0 0),(.slice none 0 0),(iv 0),(iv 0)].toArray) (aV fD cW R R)) (aK 0 R R cF R R R R R R (lN (_::_::_::_::W1) ?_))
 refine bG ?_
 cases g
 exact qS ((none,0,0),(none,0,0)) (fun w s=>(((s.nilo kT3 3).nilo kT3 3).e 10 [1,0]))
 refine bM R a5 ?_
 refine b' ?_
 refine aK 0 R R cF R R R R R R (lN (aJ Z [(sc l i m),(sc F q L),(iv (ix b 0)),(iv v1.Base)] 96::_::_::_::W1) ?_)
 refine aP ?_
 cases g
 exact qS ((l,i.length,m),(F,q.length,L)) (tE 8 [2,3])
theorem Z28_ok  {v1:View}{a:Int}{r:Bool}(b:Z28 v1 a=some r) :
 FnOk Tryz.prog 119 [(.agg [(.slice A2 N2 D2),(.slice A3 N3 D3),(iv v1.Offset),(iv v1.Base)].toArray),(iv a)] [aO kT3 (.slice A2 N2 D2) v1.Dims,aO kT3 (.slice A3 N3 D3) v1.Strides] (fun (h:Unit)=>((.bool r),[])):=by
 unfold Z28 at b
 refine aQ Tryz.func119 R 18 R R fun C V=>?_
 refine cL 0 aA ?_
 rintro rfl
 refine cL 1 aA ?_
 rintro rfl
 let q:=RR kT3 A2 D2 v1.Dims::RR kT3 A3 D3 v1.Strides::V
 refine cN q ?_
 refine aU ?_
 refine eG R fun u=>?_
 refine aU ?_
 let j:=aJ u [(sc A2 v1.Dims D2),(sc A3 v1.Strides D3),(iv v1.Offset),(iv v1.Base)] 96::q
 refine qN j ?_
 refine aU ?_
 obtain ⟨l,m,b⟩:=bd b
 refine cQ [(4,(.bool ((l&&(decide (a≥0)))&&(decide (a<(v1.Dims.length:Int))))))] (j) ?_ ?_
 refine aU ?_
 refine lM _ (fun w s=>(((s.d 1 R).d 3 R).e 2 [1,0])) ?_
 refine lC 2 lv R (Z8_ok m) R ?_
 rintro _
 refine lN j ?_
 refine bR ?_
 rcases bo l with g | g
 refine bG ?_
 rcases bo (l&&(decide (a≥0))) with i | i
 refine cV ?_
 exact qj tI
 refine cV ?_
 exact qj tI
 refine iG ?_
 exact qj tI
 rintro σ1
 refine aU ?_
 cases b
 exact qF () (tE 3 [])
theorem Z2a_ok  {v1:View}{r:View}(a:Z2a v1=some r) :
 FnOk Tryz.prog 120 [(.agg [(.slice A2 N2 D2),(.slice A3 N3 D3),(iv v1.Offset),(iv v1.Base)].toArray)] [aO kT3 (.slice A2 N2 D2) v1.Dims,aO kT3 (.slice A3 N3 D3) v1.Strides] (fun (h:HH×HH)=>((.agg [(s3 h.1),(s3 h.2),(iv r.Offset),(iv r.Base)].toArray),[ow kT3 3 (s3 h.1) r.Dims,ow kT3 3 (s3 h.2) r.Strides])):=by
 unfold Z2a at a
 refine aQ Tryz.func120 R 14 R R fun C V=>?_
 refine cL 0 aA ?_
 rintro rfl
 refine cL 1 aA ?_
 rintro rfl
 let j:=RR kT3 A2 D2 v1.Dims::RR kT3 A3 D3 v1.Strides::V
 refine cN j ?_
 refine aU ?_
 refine eG R fun q=>?_
 refine bE R R cW (fun m=>(aC ?_))
 let l:=aJ q [(sc A2 v1.Dims D2),(sc A3 v1.Strides D3),(iv v1.Offset),(iv v1.Base)] 96::j
 refine aU ?_
 obtain ⟨i,g,a⟩:=bd a
 obtain ⟨e,b,a⟩:=bd a
 refine dC 12 [0] bO fun B u=>?_
 refine gO 0 [0] ?_
 refine gO 3 [0] ?_
 refine og 6 [0] ?_
 refine d1 2 R (lM _ (fun w s=>(s.d 2 R)) ?_)
 refine lC 1 jM R (Zq_ok g) R ?_
 rintro ⟨A8,N8,D8⟩
 refine aL 0 aB ?_
 rintro rfl
 refine aC (aG (sL [1,0]) (d1 5 R (lM _ (fun w s=>(s.d 4 R)) ?_)))
 refine lC 1 jM R (Zq_ok b) R ?_
 rintro ⟨A11,N11,D11⟩
 refine aL 0 aB ?_
 rintro rfl
 refine aC (aG (sL [2,1,0]) (dR 10 R (vz (.agg [(sc A8 i D8),(sc A11 e D11),(iv v1.Offset),(iv v1.Base)].toArray) (aV fD cW R R)) (hS:=(sL [2,1,0])) (d1 11 R (aK 2 R R cF R R R R R R (lN (_::_::aJ m [(sc A8 i D8),(sc A11 e D11),(iv v1.Offset),(iv v1.Base)] 96::l) ?_)))))
 refine aC (aG (sL [2,1,0]) (dD ?_))
 refine aU ?_
 cases a
 exact qS ((A8,i.length,D8),(A11,e.length,D11)) (tE 6 [1,0])
theorem Z2b_ok  {v1:View}{r:View}(a:Z2b v1=some r) :
 FnOk Tryz.prog 121 [(.agg [(.slice A2 N2 D2),(.slice A3 N3 D3),(iv v1.Offset),(iv v1.Base)].toArray)] [aO kT3 (.slice A2 N2 D2) v1.Dims,aO kT3 (.slice A3 N3 D3) v1.Strides] (fun (h:HH×HH)=>((.agg [(s3 h.1),(s3 h.2),(iv r.Offset),(iv r.Base)].toArray),[aO kT3 (s3 h.1) r.Dims,aO kT3 (s3 h.2) r.Strides])):=by
 unfold Z2b at a
 refine aQ Tryz.func121 R 8 R R fun C V=>?_
 refine cL 0 aA ?_
 rintro rfl
 refine cL 1 aA ?_
 rintro rfl
 let g:=RR kT3 A2 D2 v1.Dims::RR kT3 A3 D3 v1.Strides::V
 refine cN g ?_
 refine aU ?_
 refine eG R fun l=>?_
 refine bE R R cW (fun i=>(aC ?_))
 let j:=aJ l [(sc A2 v1.Dims D2),(sc A3 v1.Strides D3),(iv v1.Offset),(iv v1.Base)] 96::g
 refine aP ?_
 obtain ⟨m,b,a⟩:=bd a
 refine aU ?_
 refine lM _ (fun w s=>(((s.d 2 R).d 4 R).e 3 [1,0,2])) ?_
 refine lC 2 lv R (Z8_ok b) R ?_
 rintro _
 refine aP ?_
 split at a
 refine aP ?_
 refine lO (vz (.agg [(.slice none 0 0),(.slice none 0 0),(iv 0),(iv 0)].toArray) (aV fD cW R R)) (aK 0 R R cF R R R R R R (aC (aI (bV (cD ?_)))))
 cases a
 exact qS ((none,0,0),(none,0,0)) (fun w s=>(((s.nilr kT3).nilr kT3).e 6 [1,0]))
 refine bS ?_
 refine aK 0 R R cF R R R R R R (lN (aJ i [(sc A2 v1.Dims D2),(sc A3 v1.Strides D3),(iv v1.Offset),(iv v1.Base)] 96::j) ?_)
 refine aP ?_
 cases a
 exact qS ((A2,v1.Dims.length,D2),(A3,v1.Strides.length,D3)) (tE 4 [2,3])
theorem Z1a_ok  {v1:View}{g:Int}{L:Int}{b:Int}{j:Int}{r:View}(J:Z1a v1 g L b j=some r) :
 FnOk Tryz.prog 86 [(.agg [(.slice A2 N2 D2),(.slice A3 N3 D3),(iv v1.Offset),(iv v1.Base)].toArray),(iv g),(iv L),(iv b),(iv j)] [aO kT3 (.slice A2 N2 D2) v1.Dims,aO kT3 (.slice A3 N3 D3) v1.Strides] (fun (h:HH×HH)=>((.agg [(.slice h.1.1 h.1.2.1 h.1.2.2),(.slice h.2.1 h.2.2.1 h.2.2.2),(iv r.Offset),(iv r.Base)].toArray),[aO kT3 (.slice h.1.1 h.1.2.1 h.1.2.2) r.Dims,aO kT3 (.slice h.2.1 h.2.2.1 h.2.2.2) r.Strides])):=by
 unfold Z1a at J
 refine aQ Tryz.func86 R 102 R R fun C V=>?_
 refine cN (_::_::V) ?_
 refine cL 0 aA ?_
 rintro rfl
 refine cL 1 aA ?_
 rintro rfl
 let W0:List HP:=RR kT3 A2 D2 v1.Dims::RR kT3 A3 D3 v1.Strides::V
 refine cN W0 ?_
 refine aN (aE (eG R (fun b8=>(bE R R cW (fun b9=>(aC ?_))))))
 let U:List HP:=aJ b8 [(sc A2 v1.Dims D2),(sc A3 v1.Strides D3),(iv v1.Offset),(iv v1.Base)] 96::W0
 refine qN (_::U) ?_
 refine aI (aN (aN ?_))
 obtain ⟨a0,ai,J⟩:=bd J
 obtain ⟨a4,J⟩:=gd J
 refine cQ [(1,(iv g)),(2,(iv L)),(3,(iv b)),(4,(iv j)),(5,(pt b8 0)),(10,(pt b9 0)),(45,(.bool (((((((!a0)||(decide (b<(1:Int))))||(decide (b>(4096:Int))))||(decide (j<(-4096:Int))))||(decide (j>(4096:Int))))||(decide (L<(0:Int))))||(decide (L≥(ix v1.Dims g))))))] (aJ b9 [(.slice none 0 0),(.slice none 0 0),(iv 0),(iv 0)] 96::U) ?_ ?_
 refine aE (lO (vz (.agg [(sc A2 v1.Dims D2),(sc A3 v1.Strides D3),(iv v1.Offset),(iv v1.Base)].toArray) (dT 1 gC cF R R R R)) (lI R (lM (RR kT3 A2 D2 v1.Dims::RR kT3 A3 D3 v1.Strides::aJ _ _ _::U) (fun w s=>(((s.d 2 R).d 4 R).e 3 [1,0,2])) ?_)))
 refine lC 2 vr R (Z28_ok ai) R ?_
 rintro _
 refine lN (_::U) ?_
 refine lO (rt R) (lB R ?_)
 rcases bo (!a0) with l | l
 refine lf (dV l) (lf (dV l) (lO (fC (decide (b<(1:Int))) R l) (lB R (lf (dV (oT l)) (lf (dV (oT l)) (lO (fC (decide (b>(4096:Int))) R (oT l)) (lB R (lf (dV (oT (oT l))) (lf (dV (oT (oT l))) (lO (fC (decide (j<(-4096:Int))) R (oT (oT l))) (lB R (lf (dV (oT (oT (oT l)))) (lf (dV (oT (oT (oT l)))) (lO (fC (decide (j>(4096:Int))) R (oT (oT (oT l)))) (lB R (lf (dV (oT (oT (oT (oT l))))) (lf (dV (oT (oT (oT (oT l))))) (lO (fC (decide (L<(0:Int))) R (oT (oT (oT (oT l))))) (lB R (lf (dV (oT (oT (oT (oT (oT l)))))) (lf (dV (oT (oT (oT (oT (oT l)))))) (lf (dV (oT (oT (oT (oT (oT l)))))) (lf (dV (oT (oT (oT (oT (oT l)))))) (lf (dV (oT (oT (oT (oT (oT l)))))) (lf (dV (oT (oT (oT (oT (oT l)))))) (lf (dV (oT (oT (oT (oT (oT l)))))) (lO (fC (decide (L≥(ix v1.Dims g))) R (oT (oT (oT (oT (oT l)))))) (aC ?_))))))))))))))))))))))))))))
 exact qJ (fun w s=>s)
 refine lW (bY l) (vI R) (lW (bY l) (nS R R) (lO (fR R l R) (lB R ?_)))
 rcases bo ((!a0)||(decide (b<(1:Int)))) with m | m
 refine lf (dV m) (lf (dV m) (lO (fC (decide (b>(4096:Int))) R m) (lB R (lf (dV (oT m)) (lf (dV (oT m)) (lO (fC (decide (j<(-4096:Int))) R (oT m)) (lB R (lf (dV (oT (oT m))) (lf (dV (oT (oT m))) (lO (fC (decide (j>(4096:Int))) R (oT (oT m))) (lB R (lf (dV (oT (oT (oT m)))) (lf (dV (oT (oT (oT m)))) (lO (fC (decide (L<(0:Int))) R (oT (oT (oT m)))) (lB R (lf (dV (oT (oT (oT (oT m))))) (lf (dV (oT (oT (oT (oT m))))) (lf (dV (oT (oT (oT (oT m))))) (lf (dV (oT (oT (oT (oT m))))) (lf (dV (oT (oT (oT (oT m))))) (lf (dV (oT (oT (oT (oT m))))) (lf (dV (oT (oT (oT (oT m))))) (lO (fC (decide (L≥(ix v1.Dims g))) R (oT (oT (oT (oT m))))) (aC ?_))))))))))))))))))))))))
 exact qJ (fun w s=>s)
 refine lW (bY m) (vI R) (lW (bY m) (y6 R R) (lO (fR R m R) (lB R ?_)))
 rcases bo (((!a0)||(decide (b<(1:Int))))||(decide (b>(4096:Int)))) with q | q
 refine lf (dV q) (lf (dV q) (lO (fC (decide (j<(-4096:Int))) R q) (lB R (lf (dV (oT q)) (lf (dV (oT q)) (lO (fC (decide (j>(4096:Int))) R (oT q)) (lB R (lf (dV (oT (oT q))) (lf (dV (oT (oT q))) (lO (fC (decide (L<(0:Int))) R (oT (oT q))) (lB R (lf (dV (oT (oT (oT q)))) (lf (dV (oT (oT (oT q)))) (lf (dV (oT (oT (oT q)))) (lf (dV (oT (oT (oT q)))) (lf (dV (oT (oT (oT q)))) (lf (dV (oT (oT (oT q)))) (lf (dV (oT (oT (oT q)))) (lO (fC (decide (L≥(ix v1.Dims g))) R (oT (oT (oT q)))) (aC ?_))))))))))))))))))))
 exact qJ (fun w s=>s)
 refine lW (bY q) (vI R) (lW (bY q) (nS R R) (lO (fR R q R) (lB R ?_)))
 rcases bo ((((!a0)||(decide (b<(1:Int))))||(decide (b>(4096:Int))))||(decide (j<(-4096:Int)))) with D | D
 refine lf (dV D) (lf (dV D) (lO (fC (decide (j>(4096:Int))) R D) (lB R (lf (dV (oT D)) (lf (dV (oT D)) (lO (fC (decide (L<(0:Int))) R (oT D)) (lB R (lf (dV (oT (oT D))) (lf (dV (oT (oT D))) (lf (dV (oT (oT D))) (lf (dV (oT (oT D))) (lf (dV (oT (oT D))) (lf (dV (oT (oT D))) (lf (dV (oT (oT D))) (lO (fC (decide (L≥(ix v1.Dims g))) R (oT (oT D))) (aC ?_))))))))))))))))
 exact qJ (fun w s=>s)
 refine lW (bY D) (vI R) (lW (bY D) (y6 R R) (lO (fR R D R) (lB R ?_)))
 rcases bo (((((!a0)||(decide (b<(1:Int))))||(decide (b>(4096:Int))))||(decide (j<(-4096:Int))))||(decide (j>(4096:Int)))) with E | E
 refine lf (dV E) (lf (dV E) (lO (fC (decide (L<(0:Int))) R E) (lB R (lf (dV (oT E)) (lf (dV (oT E)) (lf (dV (oT E)) (lf (dV (oT E)) (lf (dV (oT E)) (lf (dV (oT E)) (lf (dV (oT E)) (lO (fC (decide (L≥(ix v1.Dims g))) R (oT E)) (aC ?_))))))))))))
 exact qJ (fun w s=>s)
 refine lW (bY E) (vI R) (lW (bY E) (nS R R) (lO (fR R E R) (lB R ?_)))
 rcases bo ((((((!a0)||(decide (b<(1:Int))))||(decide (b>(4096:Int))))||(decide (j<(-4096:Int))))||(decide (j>(4096:Int))))||(decide (L<(0:Int)))) with B | B
 refine lf (dV B) (lf (dV B) (lf (dV B) (lf (dV B) (lf (dV B) (lf (dV B) (lf (dV B) (lO (fC (decide (L≥(ix v1.Dims g))) R B) (aC ?_))))))))
 exact qJ (fun w s=>s)
 refine lW (bY B) (vI R) (lW (bY B) (fZ 0 gD R) (lW (bY B) (gI 1 cH R R R) (lW (bY B) (vI R) (bD 2 aA (show 0<v1.Dims.length by have:=(a4 B); omega) (fun aq o14 ha=>?_)))))
 subst ha
 refine lW (bY B) (eN bL cE R R (a4 B)) (lW (bY B) (gY 2 fS aA R (a4 B)) (lW (bY B) (zY R R) (lO (fR R B R) (aC ?_))))
 exact qJ (fun w s=>s)
 rintro σ1
 refine aI ?_
 rcases cK J with ⟨a6,J⟩|⟨a6,J⟩
 refine cC R a6 (aN (aE (lO (vz (.agg [(.slice none 0 0),(.slice none 0 0),(iv 0),(iv 0)].toArray) (aV fD cW R R)) (aK 0 R R cF R R R R R R (aC (aI (bV (cD ?_))))))))
 obtain rfl:=so J
 exact dF (vs:=[(.agg [(.slice none 0 0),(.slice none 0 0),(iv 0),(iv 0)].toArray)]) (.inl R) ((none,0,0),(none,0,0)) R ⟨⟨0,b9,_,_,R,R,.inl ⟨gC,cF,R⟩⟩,trivial⟩ R (fun w s=>(((s.nilr kT3).nilr kT3).e 6 [1,0]))
 refine bM R a6 (dI (aI (aN (aE (lI R (lI R (lO (wg R R) (lI R (lO (rr R R) (lO (lq R R) (lI R (aC (aI (aN (aN ?_)))))))))))))))
 obtain ⟨a5,J⟩:=gd J
 refine cQ [(1,(iv g)),(2,(iv L)),(3,(iv b)),(4,(iv j)),(5,(pt b8 0)),(10,(pt b9 0)),(63,(.bool ((decide ((aH (L+(aH ((aH (b - (1:Int)))*j))))<(0:Int)))||(decide ((aH (L+(aH ((aH (b - (1:Int)))*j))))≥(ix v1.Dims g))))))] (aJ b9 [(.slice none 0 0),(.slice none 0 0),(iv 0),(iv 0)] 96::U) ?_ ?_
 refine aE (lI R (lO (nS R R) (lB R ?_)))
 rcases bo (decide ((aH (L+(aH ((aH (b - (1:Int)))*j))))<(0:Int))) with u | u
 refine lf (dV u) (lf (dV u) (lf (dV u) (lf (dV u) (lf (dV u) (lf (dV u) (lf (dV u) (lO (fC (decide ((aH (L+(aH ((aH (b - (1:Int)))*j))))≥(ix v1.Dims g))) R u) (aC ?_))))))))
 exact qJ (fun w s=>s)
 refine lW (bY u) (vI R) (lW (bY u) (fZ 0 gD R) (lW (bY u) (gI 1 cH R R R) (lW (bY u) (vI R) (bD 2 aA (show 0<v1.Dims.length by have:=(a5 u); omega) (fun ar o24 ha=>?_)))))
 subst ha
 refine lW (bY u) (eN bL cE R R (a5 u)) (lW (bY u) (gY 2 fS aA R (a5 u)) (lW (bY u) (zY R R) (lO (fR R u R) (aC ?_))))
 exact qJ (fun w s=>s)
 rintro σ1
 refine aI ?_
 rcases cK J with ⟨a3,J⟩|⟨a3,J⟩
 refine cC R a3 (aN (aE (lO (vz (.agg [(.slice none 0 0),(.slice none 0 0),(iv 0),(iv 0)].toArray) (aV fD cW R R)) (aK 0 R R cF R R R R R R (aC (aI (bV (cD ?_))))))))
 obtain rfl:=so J
 exact dF (vs:=[(.agg [(.slice none 0 0),(.slice none 0 0),(iv 0),(iv 0)].toArray)]) (.inl R) ((none,0,0),(none,0,0)) R ⟨⟨0,b9,_,_,R,R,.inl ⟨gC,cF,R⟩⟩,trivial⟩ R (fun w s=>(((s.nilr kT3).nilr kT3).e 6 [1,0]))
 refine bM R a3 (dI (aI (aN ?_)))
 obtain ⟨i,ak,J⟩:=bd J
 refine aE (lO (vz (.agg [(sc A2 v1.Dims D2),(sc A3 v1.Strides D3),(iv v1.Offset),(iv v1.Base)].toArray) (dT 1 gC cF R R R R)) (lM (RR kT3 A2 D2 v1.Dims::RR kT3 A3 D3 v1.Strides::aJ _ _ _::U) (fun w s=>(((s.d 2 R).d 4 R).e 3 [1,0,2])) ?_))
 refine lC 2 vt R (Z2a_ok ak) R ?_
 rintro ⟨⟨a8,ao,M⟩,⟨a2,am,G⟩⟩
 refine lN (ow kT3 3 (.slice a8 ao M) i.Dims::ow kT3 3 (.slice a2 am G) i.Strides::_::U) ?_
 refine aL 0 aB ?_
 rintro rfl
 refine aL 1 aB ?_
 rintro rfl
 refine bE R R cW (fun Z=>(aK 0 R R cF R R R R R R (lN (aJ Z [(sc a8 i.Dims M),(sc a2 i.Strides G),(iv i.Offset),(iv i.Base)] 96::_::_::_::U) ?_)))
 refine aC (aI (aN ?_))
 obtain ⟨F,J⟩:=gd J
 refine cQ [(1,(iv g)),(3,(iv b)),(4,(iv j)),(10,(pt b9 0)),(12,(pt Z 0))] (aJ b9 [(.slice none 0 0),(.slice none 0 0),(iv 0),(iv 0)] 96::aJ Z [(sc a8 i.Dims M),(sc a2 i.Strides G),(iv (aH (i.Offset+(aH (L*(ix i.Strides g)))))),(iv i.Base)] 96::OO kT3 3 a8 M i.Dims::OO kT3 3 a2 G i.Strides::U) ?_ ?_
 refine aZ 2 aB (show 0<i.Strides.length by have:=F; omega) (fun al o34 ha=>?_)
 subst ha
 refine dC 12 [0] bO (fun ht hn=>(dR 0 R (fZ 2 nA R) (hS:=(sL [0])) (dR 2 R (vI R) (hS:=(sL [0])) (dR 3 R (fZ 1 fW R) (hS:=(sL [0])) (dR 5 R (vI R) (hS:=(sL [0])) (hR [1,4] (by kernel_rfl) R ⟨?_,?_,trivial⟩))))))
 refine lO (gI 0 fS R R R) (aC (aG (sL [0]) (d1 4 R (lO (gI 0 cH R R R) (aC (aG (sL [0]) (dR 6 R (eN bL cE R R F) (hS:=(sL [0])) (dR 7 R (gY 1 fS aB R F) (hS:=(sL [0])) (dR 8 R (rr R R) (hS:=(sL [0])) (dR 9 R (lq R R) (hS:=(sL [0])) (dR 10 R (fZ 2 nA R) (hS:=(sL [0])) (d1 11 R (cR 0 R R cE R R R R R (lN (aJ Z [(sc a8 i.Dims M),(sc (ad al o34) i.Strides G),(iv (aH (i.Offset+(aH (L*(ix i.Strides g)))))),(iv i.Base)] 96::_::OO kT3 3 (ad al o34) G i.Strides::_::U) ?_))))))))))))))
 refine aC (aG (sL [0]) (dD ?_))
 exact qJ (fun w s=>(s.e 4 [3,0,1,2]))
 refine lO (gI 0 cH R R R) (aC (aG (sL [0]) (dR 6 R (eN bL cE R R F) (hS:=(sL [0])) (dR 7 R (gY 1 fS aB R F) (hS:=(sL [0])) (dR 8 R (rr R R) (hS:=(sL [0])) (d1 1 R (lO (gI 0 fS R R R) (aC (aG (sL [0]) (dR 9 R (lq R R) (hS:=(sL [0])) (dR 10 R (fZ 2 nA R) (hS:=(sL [0])) (d1 11 R (cR 0 R R cE R R R R R (aC (aG (sL [0]) (dD ?_))))))))))))))))
 exact qJ (fun w s=>(s.e 4 [3,0,1,2]))
 rintro σ1
 refine aI (aN ?_)
 obtain ⟨a1,J⟩:=gd J
 refine aE (lO (fZ 0 gD R) (lO (gI 1 cH R R R) (lI R (lI R (bD 2 aB (show 0<i.Dims.length by have:=a1; omega) (fun Y o37 ha=>?_))))))
 subst ha
 refine lO (eN bL cE R R a1) (lM (OO kT3 3 (ad Y o37) M i.Dims::aJ _ _ _::aJ Z [(sc (ad Y o37) i.Dims M),(sc a2 i.Strides G),(iv (aH (i.Offset+(aH (L*(ix i.Strides g)))))),(iv i.Base)] 96::OO kT3 3 a2 G i.Strides::U) (fun w s=>(s.e 4 [2,0,1,3])) ?_)
 refine dX (K:=kT3) (x':=b) 0 g R R cE R R a1.1 a1.2 ?_ ?_
 exact fun I h s=>(gJ).put I h () b s
 refine lN (ow kT3 3 (.slice (ad Y o37) i.Dims.length M) (i.Dims.set g.toNat b)::_::_::_::U) ?_
 refine aC (aI (aN (aZ 3 aB (show 0<i.Strides.length by have:=F; omega) (fun T o39 ha=>?_))))
 subst ha
 refine dC 12 [3] bO (fun ht hn=>(dR 0 R (fZ 1 fW R) (hS:=(sL [3])) (dR 1 R (gI 2 cH R R R) (hS:=(sL [3])) (dR 2 R (vI R) (hS:=(sL [3])) (dR 3 R (fZ 1 fW R) (hS:=(sL [3])) (dR 4 R (gI 2 cH R R R) (hS:=(sL [3])) (dR 5 R (vI R) (hS:=(sL [3])) (dR 6 R (eN bL cE R R F) (hS:=(sL [3])) (dR 8 R (vI R) (hS:=(sL [3])) (d1 7 R (lO (gY 3 fS aB R F) (aC (aG (sL [3]) (dR 9 R (rr R R) (hS:=(sL [3])) (dR 10 R (eN bL cE R R F) (hS:=(sL [3])) (d1 11 R (lM (OO kT3 3 (ad T o39) G i.Strides::ow _ _ _ _::aJ _ _ _::aJ Z [(sc (ad Y o37) i.Dims M),(sc (ad T o39) i.Strides G),(iv (aH (i.Offset+(aH (L*(ix i.Strides g)))))),(iv i.Base)] 96::U) (fun w s=>(s.e 4 [3,0,1,2])) ?_)))))))))))))))))
 refine dX (K:=kT3) (x':=(aH ((ix i.Strides g)*j))) 0 g R R cE R R F.1 F.2 ?_ ?_
 exact fun I h s=>(gJ).put I h () (aH ((ix i.Strides g)*j)) s
 refine lN (ow kT3 3 (.slice (ad T o39) i.Strides.length G) (i.Strides.set g.toNat (aH ((ix i.Strides g)*j)))::_::_::_::U) ?_
 refine aC (aG (sL [0]) (dD ?_))
 obtain ⟨ag,a9,J⟩:=bd J
 replace a9:=Option.some.inj a9
 refine qM (ow kT3 3 (.slice (ad T o39) i.Strides.length G) ag::_::_::_::U) (fun w s=>by rw [← a9]; exact s) ?_
 refine aI (aN (bB (A:=((List Int))×(Unit)) (fun a=>Z1a_J1 g L b i a.1=some r) (fun a=>[(10,(pt b9 0)),(12,(pt Z 0))]) (fun a=>aJ b9 [(.slice none 0 0),(.slice none 0 0),(iv 0),(iv 0)] 96::aJ Z [(sc (ad Y o37) i.Dims M),(sc (ad T o39) i.Strides G),(iv (aH (i.Offset+(aH (L*(ix i.Strides g)))))),(iv i.Base)] 96::ow kT3 3 (.slice (ad Y o37) i.Dims.length M) (i.Dims.set g.toNat b)::ow kT3 3 (.slice (ad T o39) i.Strides.length G) a.1::U) ?_ ?_))
 refine aN (aE (lI R (lO (lA R R) (aC (aI ?_)))))
 rcases cK J with ⟨a7,J⟩|⟨a7,J⟩
 refine cC R a7 (aE (lO (fZ 1 fW R) (lO (gI 3 cH R R R) (lI R (lO (eN bL cE R R F) (dX (K:=kT3) (x':=(0:Int)) 0 g R R cE R R F.1 F.2 ?_ ?_))))))
 exact fun I h s=>(gJ).put I h () (0:Int) s
 refine lN (ow kT3 3 (.slice (ad T o39) i.Strides.length G) (ag.set g.toNat (0:Int))::_::_::_::U) ?_
 refine aC ?_
 exact qI ((ag.set g.toNat (0:Int)),()) J (fun w s=>(s.e 4 [2,3,1,0]))
 refine bM R a7 (dI ?_)
 exact qI (ag,()) J (fun w s=>(s.e 4 [2,3,1,0]))
 rintro ⟨ah,_⟩ σ1 J
 replace J:Z1a_J1 g L b i ah=some r:=J
 unfold Z1a_J1 at J
 refine aN ?_
 obtain ⟨O,aj,J⟩:=bd J
 refine aE (lO (vz (.agg [(sc (ad Y o37) i.Dims M),(sc (ad T o39) i.Strides G),(iv (aH (i.Offset+(aH (L*(ix i.Strides g)))))),(iv i.Base)].toArray) (dT 1 gC cF R R R R)) (iE (fun w s=>s.shr 2 R) (iE (fun w s=>s.shr 3 R) (lM (aO kT3 (.slice (ad Y o37) i.Dims.length M) (i.Dims.set g.toNat b)::aO kT3 (.slice (ad T o39) i.Strides.length G) ah::aO kT3 (.slice (ad T o39) i.Strides.length G) ah::aO kT3 (.slice (ad Y o37) i.Dims.length M) (i.Dims.set g.toNat b)::aJ _ _ _::aJ _ _ _::U) (fun w s=>(((s.d 1 R).d 1 R).e 6 [1,0,2,3,4,5])) ?_))))
 refine lC 2 vu R (Z2b_ok (v1:=(⟨(i.Dims.set g.toNat b),ah,(aH (i.Offset+(aH (L*(ix i.Strides g))))),i.Base⟩:View)) aj) R ?_
 rintro ⟨⟨ae,ap,ac⟩,⟨aa,an,ab⟩⟩
 refine lN (aO kT3 (.slice ae ap ac) O.Dims::aO kT3 (.slice aa an ab) O.Strides::_::_::_::_::U) ?_
 refine aL 0 aA ?_
 rintro rfl
 refine aL 1 aA ?_
 rintro rfl
 refine aK 4 R R cF R R R R R R (lN (_::_::_::_::aJ b9 [(sc ae O.Dims ac),(sc aa O.Strides ab),(iv O.Offset),(iv O.Base)] 96::_::U) ?_)
 refine aC (aI (bV ?_))
 obtain rfl:=so J
 exact dF (vs:=[(.agg [(sc ae O.Dims ac),(sc aa O.Strides ab),(iv O.Offset),(iv O.Base)].toArray)]) (.inl R) ((ae,O.Dims.length,ac),(aa,O.Strides.length,ab)) R ⟨⟨4,b9,_,_,R,R,.inl ⟨gC,cF,R⟩⟩,trivial⟩ R (fun w s=>(s.e 9 [0,1]))
theorem Z1u_ok  {t1:Tensor}{a:(List Int)}{i:Int}{r:(List Int)}(g:Z1u t1 a i=some r) :
 FnOk Tryz.prog 123 [(.agg [(.slice A2 N2 D2),(.slice A3 N3 D3)].toArray),(.slice A5 N5 D5),(iv i)] [aO kT3 (.slice A2 N2 D2) t1.Dims,ow kT3 3 (.slice A3 N3 D3) t1.Data,aO kT3 (.slice A5 N5 D5) a] (fun (h:Unit)=>((.tuple [].toArray),[ow kT3 3 (.slice A3 N3 D3) r])):=by
 unfold Z1u at g
 refine aQ Tryz.func123 R 14 R R fun C V=>?_
 refine cM _ (tE 3 [1,0,2]) ?_
 refine cL 0 aB ?_
 rintro rfl
 refine cL 1 aA ?_
 rintro rfl
 refine cL 2 aA ?_
 rintro rfl
 let q:=RR kT3 A2 D2 t1.Dims::RR kT3 A5 D5 a::V
 refine aU ?_
 refine eG R fun u=>?_
 refine aC (qM _ (tE 2 [1,0]) ?_)
 let F:=aJ u [(sc A2 t1.Dims D2),(sc A3 t1.Data D3)] 58::q
 refine bR ?_
 obtain ⟨l,j,g⟩:=bd g
 obtain ⟨b,g⟩:=gd g
 refine aZ 0 aB (show 0<t1.Data.length by have:=b; omega) (fun B o12 m=>?_)
 subst m
 refine dC 9 [0] bO fun E D=>?_
 refine kh 0 [0] ?_
 refine oe 6 [0] ?_
 refine d1 5 R (lM _ (fun w s=>(((s.d 2 R).d 4 R).e 3 [1,0,2])) ?_)
 refine lC 2 sn R (Z0m_ok j) R ?_
 rintro _
 refine aC (aG (sL [0]) ?_)
 refine oe 7 [0] ?_
 refine d1 8 R (dX (K:=kT3) (x':=i) 0 l R R cE R R b.1 b.2 ?_ ?_)
 exact fun I h s=>(gJ).put I h () i s
 refine aC (aG (sL [0]) (dD ?_))
 cases g
 exact zZ () (tE 4 [0])
theorem Z0t_ok  {t1:Tensor}{E:Int}{b:Int}{g:Int}{l:Int}{r:Tensor}(j:Z0t t1 E b g l=some r) :
 FnOk Tryz.prog 87 [(.agg [(.slice A2 N2 D2),(.slice A3 N3 D3)].toArray),(iv E),(iv b),(iv g),(iv l)] [aO kT3 (.slice A2 N2 D2) t1.Dims,aO kT3 (.slice A3 N3 D3) t1.Data] (fun (h:HH×HH)=>((.agg [(s3 h.1),(s3 h.2)].toArray),[ow kT3 3 (s3 h.1) r.Dims,ow kT3 3 (s3 h.2) r.Data])):=by
 unfold Z0t at j
 refine aQ Tryz.func87 R 101 R R fun C V=>?_
 refine cL 0 aA ?_
 rintro rfl
 refine cL 1 aA ?_
 rintro rfl
 let W0:=RR kT3 A2 D2 t1.Dims::RR kT3 A3 D3 t1.Data::V
 refine cN W0 ?_
 refine aU ?_
 refine eG R fun b8=>?_
 refine bE R R dP (fun O=>(aC ?_))
 let W1:=aJ b8 [(sc A2 t1.Dims D2),(sc A3 t1.Data D3)] 58::W0
 refine aP ?_
 obtain ⟨F,a4,j⟩:=bd j
 refine cQ [(1,(iv E)),(2,(iv b)),(3,(iv g)),(4,(iv l)),(5,(pt b8 0)),(10,(pt O 0)),(43,(.bool (((((((!F)||(decide (b<0)))||(decide (b>4096)))||(decide (g<0)))||(decide (g>4096)))||(decide (l<0)))||(decide (l>4096)))))] (aJ O [(.slice none 0 0),(.slice none 0 0)] 58::W1) ?_ ?_
 refine aP ?_
 refine lM _ (fun w s=>(((s.d 2 R).d 4 R).e 3 [1,0,2])) ?_
 refine lC 2 oq R (Z1g_ok a4) R ?_
 rintro _
 refine aU ?_
 rcases bo (!F) with ag | ag
 refine Ao ?_
 exact qj tI
 refine bG ?_
 rcases bo ((!F)||(decide (b<0))) with ae | ae
 refine An ?_
 exact qj tI
 refine bG ?_
 rcases bo (((!F)||(decide (b<0)))||(decide (b>4096))) with ai | ai
 refine wq ?_
 exact qj tI
 refine bG ?_
 rcases bo ((((!F)||(decide (b<0)))||(decide (b>4096)))||(decide (g<0))) with aa | aa
 refine iG ?_
 exact qj tI
 refine bG ?_
 rcases bo (((((!F)||(decide (b<0)))||(decide (b>4096)))||(decide (g<0)))||(decide (g>4096))) with a5 | a5
 refine cV ?_
 exact qj tI
 refine bG ?_
 rcases bo ((((((!F)||(decide (b<0)))||(decide (b>4096)))||(decide (g<0)))||(decide (g>4096)))||(decide (l<0))) with a1 | a1
 refine bG ?_
 exact qj tI
 refine bG ?_
 exact qj tI
 rintro σ1
 refine bR ?_
 split at j
 refine aP ?_
 refine lO (vz (.agg [(.slice none 0 0),(.slice none 0 0)].toArray) (aV gK dP R R)) (aK 0 R R bQ R R R R R R (aC (aI (bV (cD ?_)))))
 cases j
 exact qS ((none,0,0),(none,0,0)) (fun w s=>(((s.nilo kT3 3).nilo kT3 3).e 6 [1,0]))
 refine bG ?_
 obtain ⟨a7,j⟩:=gd j
 refine bG ?_
 refine bD 2 aA (show 0<t1.Dims.length by have:=a7; omega) (fun ax o21 ha=>?_)
 subst ha
 refine bS ?_
 obtain ⟨L,a2,j⟩:=bd j
 refine od ?_
 refine lM _ (fun w s=>(s.d 2 R)) ?_
 refine lC 1 kG R (Z0f_ok a2) R ?_
 rintro ⟨M,ay,I⟩
 refine aL 0 aB ?_
 rintro rfl
 refine b' ?_
 obtain ⟨b0,a0,j⟩:=bd j
 refine aU ?_
 refine lC 1 k9 R (FnOk.lends (A':=[OO kT3 3 M I L]) (A:=[RR kT3 M I L]) (B:=[]) (Zm_ok a0) ⟨aY,trivial⟩ (fun _=>trivial)) R ?_
 rintro _
 refine aP ?_
 split at j
 refine aP ?_
 refine lO (vz (.agg [(.slice none 0 0),(.slice none 0 0)].toArray) (aV gK dP R R)) (aK 1 R R bQ R R R R R R (aC (aI (bV (cD ?_)))))
 cases j
 exact qS ((none,0,0),(none,0,0)) (fun w s=>(((s.nilo kT3 3).nilo kT3 3).e 7 [1,0]))
 refine bG ?_
 obtain ⟨i,a3,j⟩:=bd j
 refine aU ?_
 refine lC 1 nz R (FnOk.lends (A':=[OO kT3 3 M I L]) (A:=[RR kT3 M I L]) (B:=[]) (Z0e_ok a3) ⟨aY,trivial⟩ (fun _=>⟨(bH j0),(bH j0),trivial⟩)) R ?_
 rintro ⟨⟨q,av,D⟩,⟨m,ar,u⟩⟩
 refine aL 1 aB ?_
 rintro rfl
 refine aL 2 aB ?_
 rintro rfl
 refine bE R R dP (fun G=>(aK 0 R R bQ R R R R R R (lN (aJ G [(sc q i.Dims D),(sc m i.Data u)] 58::_::_::_::_::W1) ?_)))
 refine aP ?_
 refine bB (A:=((List Int))×(Unit)) (fun a=>Z0t_J1 i a.1=some r) (fun a=>[(10,(pt O 0)),(13,(pt G 0))]) (fun a=>aJ O [(.slice none 0 0),(.slice none 0 0)] 58::aJ G [(sc q i.Dims D),(sc m i.Data u)] 58::OO kT3 3 q D i.Dims::ow kT3 3 (.slice m i.Data.length u) a.1::W1) ?_ ?_
 refine bS ?_
 obtain ⟨e1,al,ak⟩:=bd j
 refine bC (A:=Unit) al (fun s a=>[(1,(iv E)),(2,(iv b)),(4,(iv l)),(5,(pt b8 0)),(10,(pt O 0)),(13,(pt G 0)),(14,(iv s.2))]) (fun s a=>aJ O [(.slice none 0 0),(.slice none 0 0)] 58::aJ G [(sc q i.Dims D),(sc m i.Data u)] 58::OO kT3 3 q D i.Dims::ow kT3 3 (.slice m i.Data.length u) s.1::W1) () (aS R) (tE 5 [4,0,2,3]) ?_
 rintro ⟨J,au⟩ _ σ1 ao j an
 dsimp only [Z0t_L1] at j
 refine cT ?_
 split at j
 refine bS ?_
 obtain ⟨T,aj,j⟩:=bd j
 refine bG ?_
 refine lM _ (fun w s=>(s.d 5 R)) ?_
 refine lC 1 lr R (Zh_ok aj) R ?_
 rintro ⟨ap,aq,ab⟩
 refine aL 0 aB ?_
 rintro rfl
 refine aP ?_
 obtain ⟨a8,j⟩:=gd j
 obtain ⟨Z,a9,j⟩:=bd j
 obtain ⟨a6,j⟩:=gd j
 obtain ⟨az,ac,j⟩:=bd j
 refine aZ 0 aB (show 0<T.length by have:=a8; omega) (fun ah o56 ha=>?_)
 subst ha
 refine aZ 7 aA (show 0<t1.Data.length by have:=a6; omega) (fun b1 o62 ha=>?_)
 subst ha
 refine dC 19 [4] bO fun ht hn=>?_
 refine ub 0 [4] ?_
 refine kh 13 [4] ?_
 refine d1 12 R (lC 1 kG R (FnOk.lends (A':=[OO kT3 3 (ad ah o56) ab T]) (A:=[RR kT3 (ad ah o56) ab T]) (B:=[]) (Z0f_ok a9) ⟨aY,trivial⟩ (fun _=>⟨(bH j0),trivial⟩)) R ?_)
 rintro ⟨Y,aw,U⟩
 refine aL 1 aB ?_
 rintro rfl
 refine aC (aG (sL [5,1]) (d1 18 R (lM _ (tE 6 [4,1,5,0,2,3]) ?_)))
 refine lC 3 sq R (FnOk.lends (A':=[OO kT3 3 q D i.Dims,OO kT3 3 Y U Z]) (A:=[RR kT3 q D i.Dims,RR kT3 Y U Z]) (B:=[ow kT3 3 (.slice m i.Data.length u) J]) (FnOk.perm (Z1u_ok (t1:=(⟨i.Dims,J⟩:Tensor)) ac) (Pre':=[RR kT3 q D i.Dims,RR kT3 Y U Z,ow kT3 3 (.slice m i.Data.length u) J]) (fun _ _ _ s=>(s.e 3 [0,2,1]))) ⟨aY,aY,trivial⟩ (fun _=>⟨(bH j0),trivial⟩)) R ?_
 rintro _
 refine aC (aG (tE 6 [3,4,5,0]) (dD ?_))
 refine dH ?_
 cases j
 exact qA () (tE 6 [4,5,0,2])
 refine aP ?_
 cases j
 obtain rfl:=an _ R
 have j:=ak
 refine aU ?_
 exact qI (J,()) j tI
 rintro ⟨am,_⟩ σ1 j
 dsimp only [Z0t_J1] at j
 refine aP ?_
 refine aK 0 R R bQ R R R R R R (lN (aJ O [(sc q i.Dims D),(sc m i.Data u)] 58::_::_::ow kT3 3 (.slice m i.Data.length u) am::W1) ?_)
 refine aP ?_
 cases j
 exact qS ((q,i.Dims.length,D),(m,i.Data.length,u)) (tE 7 [2,3])
theorem Z0s_ok  {t1:Tensor}{m:Int}{b:(List Int)}{r:Tensor}(g:Z0s t1 m b=some r) :
 FnOk Tryz.prog 88 [(.agg [(.slice A2 N2 D2),(.slice A3 N3 D3)].toArray),(iv m),(.slice A6 N6 D6)] [aO kT3 (.slice A2 N2 D2) t1.Dims,aO kT3 (.slice A3 N3 D3) t1.Data,aO kT3 (.slice A6 N6 D6) b] (fun (h:HH×HH)=>((.agg [(s3 h.1),(s3 h.2)].toArray),[ow kT3 3 (s3 h.1) r.Dims,ow kT3 3 (s3 h.2) r.Data])):=by
 unfold Z0s at g
 refine aQ Tryz.func88 R 70 R R fun C V=>?_
 refine cL 0 aA ?_
 rintro rfl
 refine cL 1 aA ?_
 rintro rfl
 refine cL 2 aA ?_
 rintro rfl
 let W0:=RR kT3 A2 D2 t1.Dims::RR kT3 A3 D3 t1.Data::RR kT3 A6 D6 b::V
 refine cN W0 ?_
 refine aU ?_
 refine eG R fun b7=>?_
 refine bE R R dP (fun U=>(aC ?_))
 let W1:=aJ b7 [(sc A2 t1.Dims D2),(sc A3 t1.Data D3)] 58::W0
 refine aP ?_
 obtain ⟨r9,a3,g⟩:=bd g
 obtain ⟨M,g⟩:=gd g
 obtain ⟨ai,a5,g⟩:=bd g
 refine cQ [(1,(iv m)),(2,(sc A6 b D6)),(3,(pt b7 0)),(6,(pt U 0)),(29,(.bool (((!r9)||((b.length:Int)==0))||(!ai))))] (aJ U [(.slice none 0 0),(.slice none 0 0)] 58::W1) ?_ ?_
 refine aP ?_
 refine lM _ (fun w s=>(((s.d 2 R).d 4 R).e 3 [1,0,2])) ?_
 refine lC 2 oq R (Z1g_ok a3) R ?_
 rintro _
 refine aU ?_
 rcases bo (!r9) with a4 | a4
 refine nv ?_
 exact qj tI
 refine b' ?_
 rcases bo ((!r9)||((b.length:Int)==0)) with j | j
 refine cT ?_
 exact qj tI
 refine bG ?_
 refine bD 2 aA (show 0<t1.Dims.length by have:=(M j); omega) (fun ap o13 Y=>?_)
 subst Y
 refine lW (bY j) (eN bL cE R R (M j)) (lW (bY j) (gY 2 fS aA R (M j)) (lM _ (fun w s=>(s.d 4 R)) ?_))
 refine bW 1 R (bY j) ue R (Z0g_ok (bJ a5 (cO j))) R ?_
 rintro _
 refine aP ?_
 exact qj tI
 rintro σ1
 refine bR ?_
 split at g
 refine aP ?_
 refine lO (vz (.agg [(.slice none 0 0),(.slice none 0 0)].toArray) (aV gK dP R R)) (aK 0 R R bQ R R R R R R (aC (aI (bV (cD ?_)))))
 cases g
 exact qS ((none,0,0),(none,0,0)) (fun w s=>(((s.nilo kT3 3).nilo kT3 3).e 7 [1,0]))
 refine bG ?_
 obtain ⟨E,ae,g⟩:=bd g
 refine bS ?_
 refine lM _ (fun w s=>(s.d 2 R)) ?_
 refine lC 1 kG R (Z0f_ok ae) R ?_
 rintro ⟨D,ay,F⟩
 refine aL 0 aB ?_
 rintro rfl
 refine b' ?_
 obtain ⟨ax,a2,g⟩:=bd g
 refine aU ?_
 refine lC 1 k9 R (FnOk.lends (A':=[OO kT3 3 D F E]) (A:=[RR kT3 D F E]) (B:=[]) (Zm_ok a2) ⟨aY,trivial⟩ (fun _=>trivial)) R ?_
 rintro _
 refine aP ?_
 split at g
 refine aP ?_
 refine lO (vz (.agg [(.slice none 0 0),(.slice none 0 0)].toArray) (aV gK dP R R)) (aK 1 R R bQ R R R R R R (aC (aI (bV (cD ?_)))))
 cases g
 exact qS ((none,0,0),(none,0,0)) (fun w s=>(((s.nilo kT3 3).nilo kT3 3).e 8 [1,0]))
 refine bG ?_
 obtain ⟨i,a1,g⟩:=bd g
 refine aU ?_
 refine lC 1 nz R (FnOk.lends (A':=[OO kT3 3 D F E]) (A:=[RR kT3 D F E]) (B:=[]) (Z0e_ok a1) ⟨aY,trivial⟩ (fun _=>⟨(bH j0),(bH j0),trivial⟩)) R ?_
 rintro ⟨⟨u,b0,G⟩,⟨q,aq,l⟩⟩
 refine aL 1 aB ?_
 rintro rfl
 refine aL 2 aB ?_
 rintro rfl
 refine bE R R dP (fun L=>(aK 0 R R bQ R R R R R R (lN (aJ L [(sc u i.Dims G),(sc q i.Data l)] 58::_::_::_::_::W1) ?_)))
 refine aP ?_
 refine bB (A:=((List Int))×(Unit)) (fun a=>Z0s_J1 i a.1=some r) (fun a=>[(6,(pt U 0)),(8,(pt L 0))]) (fun a=>aJ U [(.slice none 0 0),(.slice none 0 0)] 58::aJ L [(sc u i.Dims G),(sc q i.Data l)] 58::OO kT3 3 u G i.Dims::ow kT3 3 (.slice q i.Data.length l) a.1::W1) ?_ ?_
 refine bS ?_
 obtain ⟨e1,ak,aj⟩:=bd g
 refine bC (A:=Unit) ak (fun s a=>[(1,(iv m)),(2,(sc A6 b D6)),(3,(pt b7 0)),(6,(pt U 0)),(7,(sc D E F)),(8,(pt L 0)),(9,(iv s.2))]) (fun s a=>aJ U [(.slice none 0 0),(.slice none 0 0)] 58::OO kT3 3 D F E::aJ L [(sc u i.Dims G),(sc q i.Data l)] 58::OO kT3 3 u G i.Dims::ow kT3 3 (.slice q i.Data.length l) s.1::W1) () (aS R) (tE 5 [4,1,0,2,3]) ?_
 rintro ⟨am,al⟩ _ σ1 ao g an
 dsimp only [Z0s_L1] at g
 refine cT ?_
 split at g
 refine bS ?_
 obtain ⟨O,ag,g⟩:=bd g
 refine aP ?_
 refine lM _ (tE 5 [1,0,2,3,4]) ?_
 refine lC 1 lr R (FnOk.lends (A':=[OO kT3 3 D F E]) (A:=[RR kT3 D F E]) (B:=[]) (Zh_ok ag) ⟨aY,trivial⟩ (fun _=>⟨(bH j0),trivial⟩)) R ?_
 rintro ⟨au,av,a7⟩
 refine aL 1 aB ?_
 rintro rfl
 refine aP ?_
 obtain ⟨a6,g⟩:=gd g
 obtain ⟨aa,g⟩:=gd g
 obtain ⟨a0,ac,g⟩:=bd g
 obtain ⟨ab,a8,g⟩:=bd g
 obtain ⟨J,g⟩:=gd g
 refine aZ 1 aB (show 0<O.length by have:=a6; omega) (fun a9 o56 Y=>?_)
 subst Y
 refine aZ 9 aA (show 0<b.length by have:=aa; omega) (fun ar o59 Y=>?_)
 subst Y
 refine aZ 5 aB (show 0<i.Data.length by have:=J; omega) (fun az o67 Y=>?_)
 subst Y
 refine dC 17 [5] bO fun ht hn=>?_
 refine mr 0 [5] ?_
 refine d1 13 R (lM _ (tE 6 [1,0,2,3,4,5]) ?_)
 refine lC 1 kG R (FnOk.lends (A':=[OO kT3 3 (ad a9 o56) a7 O]) (A:=[RR kT3 (ad a9 o56) a7 O]) (B:=[]) (Z0f_ok ac) ⟨aY,trivial⟩ (fun _=>⟨(bH j0),trivial⟩)) R ?_
 rintro ⟨T,aw,Z⟩
 refine aL 1 aB ?_
 rintro rfl
 refine aC (aG (tE 7 [2,0,3,4,5]) (d1 14 R (lM _ (fun w s=>(((s.d 8 R).d 10 R).e 9 [3,1,0,2,4,5,6,7,8])) ?_)))
 refine lC 3 n0 R (FnOk.lends (A':=[OO kT3 3 T Z a0]) (A:=[RR kT3 T Z a0]) (B:=[RR kT3 A2 D2 t1.Dims,RR kT3 A3 D3 t1.Data]) (FnOk.perm (Z16_ok a8) (Pre':=[RR kT3 T Z a0,RR kT3 A2 D2 t1.Dims,RR kT3 A3 D3 t1.Data]) (fun _ _ _ s=>(s.e 3 [1,2,0]))) ⟨aY,trivial⟩ (fun _=>trivial)) R ?_
 rintro _
 refine aC (aG (tE 7 [2,1,3,4,5]) (dR 15 R (eN bL cE R R J) (hS:=(tE 7 [2,1,3,4,5])) (d1 16 R (lM _ (fun w s=>(s.f 7 [6,1,0,6])) ?_))))
 refine dX (K:=kT3) (x':=ab) 0 al R R cE R R J.1 J.2 ?_ ?_
 exact fun I h s=>(gJ).put I h () ab s
 refine aC (aG (tE 7 [3,2,4,5,6]) (dD ?_))
 refine dH ?_
 cases g
 exact qA () (tE 7 [4,3,5,6,0])
 refine aP ?_
 cases g
 obtain rfl:=an _ R
 have g:=aj
 refine aU ?_
 exact qI (am,()) g (tE 5 [0,2,3,4])
 rintro ⟨ah,_⟩ σ1 g
 dsimp only [Z0s_J1] at g
 refine aP ?_
 refine aK 0 R R bQ R R R R R R (lN (aJ U [(sc u i.Dims G),(sc q i.Data l)] 58::aJ L [(sc u i.Dims G),(sc q i.Data l)] 58::_::ow kT3 3 (.slice q i.Data.length l) ah::W1) ?_)
 refine aP ?_
 cases g
 exact qS ((u,i.Dims.length,G),(q,i.Data.length,l)) (tE 8 [2,3])
theorem Z0u_ok  {t1:Tensor}{j:Int}{g:(List Int)}{n7:Int}{r:Tensor}(i:Z0u t1 j g n7=some r) :
 FnOk Tryz.prog 89 [(.agg [(.slice A2 N2 D2),(.slice A3 N3 D3)].toArray),(iv j),(.slice A6 N6 D6),(iv n7)] [aO kT3 (.slice A2 N2 D2) t1.Dims,aO kT3 (.slice A3 N3 D3) t1.Data,aO kT3 (.slice A6 N6 D6) g] (fun (h:HH×HH)=>((.agg [(s3 h.1),(s3 h.2)].toArray),[ow kT3 3 (s3 h.1) r.Dims,ow kT3 3 (s3 h.2) r.Data])):=by
 unfold Z0u at i
 refine aQ Tryz.func89 R 80 R R fun C V=>?_
 refine cL 0 aA ?_
 rintro rfl
 refine cL 1 aA ?_
 rintro rfl
 refine cL 2 aA ?_
 rintro rfl
 let W0:=RR kT3 A2 D2 t1.Dims::RR kT3 A3 D3 t1.Data::RR kT3 A6 D6 g::V
 refine cN W0 ?_
 refine aU ?_
 refine eG R fun b8=>?_
 refine bE R R dP (fun Z=>(aC ?_))
 let W1:=aJ b8 [(sc A2 t1.Dims D2),(sc A3 t1.Data D3)] 58::W0
 refine aP ?_
 obtain ⟨Y,a9,i⟩:=bd i
 obtain ⟨G,i⟩:=gd i
 obtain ⟨ai,a5,i⟩:=bd i
 refine cQ [(1,(iv j)),(2,(sc A6 g D6)),(3,(iv n7)),(4,(pt b8 0)),(8,(pt Z 0)),(33,(.bool (((!Y)||((g.length:Int) != (ix t1.Dims j)))||(!ai))))] (aJ Z [(.slice none 0 0),(.slice none 0 0)] 58::W1) ?_ ?_
 refine aP ?_
 refine lM _ (fun w s=>(((s.d 2 R).d 4 R).e 3 [1,0,2])) ?_
 refine lC 2 oq R (Z1g_ok a9) R ?_
 rintro _
 refine aU ?_
 rcases bo (!Y) with D | D
 refine wq ?_
 exact qj tI
 refine b' ?_
 refine bD 2 aA (show 0<t1.Dims.length by have:=(G D); omega) (fun b3 o14 ha=>?_)
 subst ha
 refine lW (bY D) (eN bL cE R R (G D)) (lW (bY D) (gY 2 fS aA R (G D)) ?_)
 refine aP ?_
 rcases bo ((!Y)||((g.length:Int) != (ix t1.Dims j))) with I | I
 refine bS ?_
 exact qj tI
 refine aU ?_
 refine lM _ (fun w s=>(s.d 4 R)) ?_
 refine bW 1 R (bY I) ue R (Z0g_ok (bJ a5 (cO I))) R ?_
 rintro _
 refine aP ?_
 exact qj tI
 rintro σ1
 refine bR ?_
 split at i
 refine aP ?_
 refine lO (vz (.agg [(.slice none 0 0),(.slice none 0 0)].toArray) (aV gK dP R R)) (aK 0 R R bQ R R R R R R (aC (aI (bV (cD ?_)))))
 cases i
 exact qS ((none,0,0),(none,0,0)) (fun w s=>(((s.nilo kT3 3).nilo kT3 3).e 7 [1,0]))
 refine bG ?_
 obtain ⟨O,aa,i⟩:=bd i
 refine b' ?_
 refine lM _ (fun w s=>(s.d 2 R)) ?_
 refine lC 1 kG R (Z0f_ok aa) R ?_
 rintro ⟨T,b0,U⟩
 refine aL 0 aB ?_
 rintro rfl
 refine b' ?_
 obtain ⟨av,ah,i⟩:=bd i
 refine aU ?_
 refine lC 1 k9 R (FnOk.lends (A':=[OO kT3 3 T U O]) (A:=[RR kT3 T U O]) (B:=[]) (Zm_ok ah) ⟨aY,trivial⟩ (fun _=>trivial)) R ?_
 rintro _
 refine aP ?_
 split at i
 refine aP ?_
 refine lO (vz (.agg [(.slice none 0 0),(.slice none 0 0)].toArray) (aV gK dP R R)) (aK 1 R R bQ R R R R R R (aC (aI (bV (cD ?_)))))
 cases i
 exact qS ((none,0,0),(none,0,0)) (fun w s=>(((s.nilo kT3 3).nilo kT3 3).e 8 [1,0]))
 refine bG ?_
 obtain ⟨b,a3,i⟩:=bd i
 refine aU ?_
 refine lC 1 nz R (FnOk.lends (A':=[OO kT3 3 T U O]) (A:=[RR kT3 T U O]) (B:=[]) (Z0e_ok a3) ⟨aY,trivial⟩ (fun _=>⟨(bH j0),(bH j0),trivial⟩)) R ?_
 rintro ⟨⟨l,ao,q⟩,⟨m,ay,u⟩⟩
 refine aL 1 aB ?_
 rintro rfl
 refine aL 2 aB ?_
 rintro rfl
 refine bE R R dP (fun M=>(aK 0 R R bQ R R R R R R (lN (aJ M [(sc l b.Dims q),(sc m b.Data u)] 58::_::_::_::_::W1) ?_)))
 refine aP ?_
 refine bB (A:=((List Int))×(Unit)) (fun a=>Z0u_J1 b a.1=some r) (fun a=>[(8,(pt Z 0)),(10,(pt M 0))]) (fun a=>aJ Z [(.slice none 0 0),(.slice none 0 0)] 58::aJ M [(sc l b.Dims q),(sc m b.Data u)] 58::OO kT3 3 l q b.Dims::ow kT3 3 (.slice m b.Data.length u) a.1::W1) ?_ ?_
 refine bS ?_
 obtain ⟨e1,al,ak⟩:=bd i
 refine bC (A:=Unit) al (fun s a=>[(1,(iv j)),(2,(sc A6 g D6)),(4,(pt b8 0)),(8,(pt Z 0)),(10,(pt M 0)),(11,(iv s.2))]) (fun s a=>aJ Z [(.slice none 0 0),(.slice none 0 0)] 58::aJ M [(sc l b.Dims q),(sc m b.Data u)] 58::OO kT3 3 l q b.Dims::ow kT3 3 (.slice m b.Data.length u) s.1::W1) () (aS R) (tE 5 [4,0,2,3]) ?_
 rintro ⟨E,ax⟩ _ σ1 an i am
 dsimp only [Z0u_L1] at i
 refine cT ?_
 split at i
 refine bS ?_
 obtain ⟨a0,a8,i⟩:=bd i
 refine bG ?_
 refine lM _ (fun w s=>(s.d 5 R)) ?_
 refine lC 1 lr R (Zh_ok a8) R ?_
 rintro ⟨au,aq,a7⟩
 refine aL 0 aB ?_
 rintro rfl
 refine bG ?_
 obtain ⟨ab,i⟩:=gd i
 obtain ⟨ac,i⟩:=gd i
 obtain ⟨J,a4,i⟩:=bd i
 refine bS ?_
 refine bD 0 aB (show 0<a0.length by have:=ab; omega) (fun a6 o61 ha=>?_)
 subst ha
 refine aU ?_
 refine bD 8 aA (show 0<g.length by have:=ac; omega) (fun ap o64 ha=>?_)
 subst ha
 refine aU ?_
 refine lC 1 kG R (FnOk.lends (A':=[OO kT3 3 (ad a6 o61) a7 a0]) (A:=[RR kT3 (ad a6 o61) a7 a0]) (B:=[]) (Z0f_ok a4) ⟨aY,trivial⟩ (fun _=>⟨(bH j0),trivial⟩)) R ?_
 rintro ⟨L,b1,F⟩
 refine aL 1 aB ?_
 rintro rfl
 refine aP ?_
 obtain ⟨aw,ae,i⟩:=bd i
 obtain ⟨ag,i⟩:=gd i
 obtain ⟨ar,a2,i⟩:=bd i
 obtain ⟨b2,a1,i⟩:=bd i
 refine aZ 8 aA (show 0<t1.Data.length by have:=ag; omega) (fun az o72 ha=>?_)
 subst ha
 refine dC 12 [5] bO fun ht hn=>?_
 refine og 0 [5] ?_
 refine kh 5 [5] ?_
 refine d1 4 R (lM _ (tE 6 [4,5,1,0,2,3]) ?_)
 refine lC 3 n0 R (FnOk.lends (A':=[OO kT3 3 l q b.Dims,ow kT3 3 (.slice m b.Data.length u) E,OO kT3 3 L F J]) (A:=[RR kT3 l q b.Dims,aO kT3 (.slice m b.Data.length u) E,RR kT3 L F J]) (B:=[]) (Z16_ok (t1:=(⟨b.Dims,E⟩:Tensor)) ae) ⟨aY,aY,aY,trivial⟩ (fun _=>trivial)) R ?_
 rintro _
 refine aC (aG (tE 6 [3,2,4,5,0]) (d1 10 R (lC 0 pU R (Z1m_ok a2) R ?_)))
 rintro _
 refine aC (aG (tE 6 [3,2,4,5,0]) (d1 11 R (lM _ (tE 6 [0,2,1,3,4,5]) ?_)))
 refine lC 3 sq R (FnOk.lends (A':=[OO kT3 3 l q b.Dims,OO kT3 3 L F J]) (A:=[RR kT3 l q b.Dims,RR kT3 L F J]) (B:=[ow kT3 3 (.slice m b.Data.length u) E]) (FnOk.perm (Z1u_ok (t1:=(⟨b.Dims,E⟩:Tensor)) a1) (Pre':=[RR kT3 l q b.Dims,RR kT3 L F J,ow kT3 3 (.slice m b.Data.length u) E]) (fun _ _ _ s=>(s.e 3 [0,2,1]))) ⟨aY,aY,trivial⟩ (fun _=>⟨(bH j0),trivial⟩)) R ?_
 rintro _
 refine aC (aG (tE 6 [3,1,4,5,0]) (dD ?_))
 refine dH ?_
 cases i
 exact qA () (tE 6 [4,5,0,2])
 refine aP ?_
 cases i
 obtain rfl:=am _ R
 have i:=ak
 refine aU ?_
 exact qI (E,()) i tI
 rintro ⟨aj,_⟩ σ1 i
 dsimp only [Z0u_J1] at i
 refine aP ?_
 refine aK 0 R R bQ R R R R R R (lN (aJ Z [(sc l b.Dims q),(sc m b.Data u)] 58::_::_::ow kT3 3 (.slice m b.Data.length u) aj::W1) ?_)
 refine aP ?_
 cases i
 exact qS ((l,b.Dims.length,q),(m,b.Data.length,u)) (tE 8 [2,3])
end Go.Proofs.YtmpnollfdpdipaaGreat
