import Derived.Test.YtmpnollfdpdipaaGreatGkF
import Derived.Test.YtmpnollfdpdipaaGreatGkW2
set_option linter.unusedVariables false
set_option maxRecDepth 20000
namespace Go.Proofs.YtmpnollfdpdipaaGreat
open Go Go.Pg
variable {A2 A3 A5 A6:Option Addr}{D2 D3 D5 D6 N2 N3 N5 N6:Nat}
theorem Z6_ok  {a7:aM}{i:(List Tensor)}{r:Tensor}(b:Z6 a7 i=some r) :
 FnOk Tryz.prog 81 [(aD a7),(.slice A3 N3 D3)] [aN dV (.slice A3 N3 D3) i] (fun (h:HH×HH)=>((.agg [(s3 h.1),(s3 h.2)].toArray),[ow kT3 3 (s3 h.1) r.Dims,ow kT3 3 (s3 h.2) r.Data])):=by
 unfold Z6 at b
 refine aQ Tryz.func81 R 142 R R fun C V=>?_
 refine cL 0 aA ?_
 rintro rfl
 let W0:=RR dV A3 D3 i::V
 refine cN W0 ?_
 refine aU ?_
 refine bF R R dQ (fun Y=>(aC (aI (aO ?_))))
 obtain ⟨l,c1,b⟩:=bd b
 refine aE (lO (vp (aD a7) R) (lC 0 yF R (Z0_ok c1) R ?_))
 rintro ⟨A7,N7,D7⟩
 refine aL 0 aB ?_
 rintro rfl
 refine lO (vT R) (lS R (lO (vp (aD l.2.1) R) (lB R (lS R (lO (vp (aD l.2.1) R) ?_)))))
 refine bZ ?_
 refine cQ [(1,(sc A3 i D3)),(4,(pt Y 0)),(5,(sc A7 l.1 D7)),(6,(aD l.2.1)),(35,(.bool ((!l.2.2)||((l.1.length:Int) != (i.length:Int)))))] (aJ Y [(.slice none 0 0),(.slice none 0 0)] 58::OO dO 9 A7 D7 l.1::W0) ?_ ?_
 refine bG ?_
 rcases bo (!l.2.2) with bj | bj
 refine dG ?_
 exact qj (tE 2 [1,0])
 refine dG ?_
 exact qj (tE 2 [1,0])
 rintro σ1
 refine bU ?_
 split at b
 refine aP ?_
 refine lO (vz (.agg [(.slice none 0 0),(.slice none 0 0)].toArray) (aX gN dQ R R)) (aK 0 R R bR R R R R R R (aC (aI (bY (cF ?_)))))
 cases b
 exact qS ((none,0,0),(none,0,0)) (fun w s=>(((s.nilo kT3 3).nilo kT3 3).e 5 [1,0]))
 refine bZ ?_
 refine bK (K:=bL) (xs:=([]:List (List Int))) (vs:=[]) 0 R R km fK lA R R R R R R ?_ R (fun A10 D10=>?_)
 exact fun I h s=>(mR).list [] I h s
 refine bG ?_
 refine aZ (A:=((List (List Int)))×(HH)) (fun a=>Z6_J1 i l a.1=some r) (fun a=>[(1,(sc A3 i D3)),(4,(pt Y 0)),(5,(sc A7 l.1 D7)),(6,(aD l.2.1)),(8,(s3 a.2))]) (fun a=>aJ Y [(.slice none 0 0),(.slice none 0 0)] 58::OO dO 9 A7 D7 l.1::ow (bL).share 23 (s3 a.2) a.1::W0) ?_ ?_
 refine bT ?_
 obtain ⟨e1,c2,be⟩:=bd b
 refine bD (A:=HH) c2 (fun s a=>[(1,(sc A3 i D3)),(4,(pt Y 0)),(5,(sc A7 l.1 D7)),(6,(aD l.2.1)),(8,(s3 a)),(9,(iv s.2))]) (fun s a=>aJ Y [(.slice none 0 0),(.slice none 0 0)] 58::OO dO 9 A7 D7 l.1::ow (bL).share 23 (s3 a) s.1::W0) (A10,([]:List (List Int)).length,D10) (aS R) (fun w s=>((s.wk 0 R).e 3 [1,2,0])) ?_
 rintro ⟨G,U⟩ ⟨c3,bs,bw⟩ σ1 c7 b ba
 dsimp only [Z6_L1] at b
 refine bJ 2 eW (fun (hn:bs=G.length)=>?_)
 subst hn
 refine cU ?_
 split at b
 refine dG ?_
 obtain ⟨ac,b⟩:=gd b
 obtain ⟨co,b0,b⟩:=bd b
 refine aP ?_
 refine bA 3 aA (show 0<i.length by have:=ac; omega) (fun c4 o29 ha=>?_)
 subst ha
 refine bU ?_
 refine gG (K:=dV) 3 U dT58.dec R ac.1 ac.2 ?_
 rintro ⟨⟨aw,au⟩,⟨bi,c0⟩⟩
 refine lO (vz (.agg [(sc aw ((ix i U).Dims) au),(sc bi ((ix i U).Data) c0)].toArray) (eE (fo:=0) 0 fF bR R R R R)) (lM _ (fun w s=>(((s.d 1 R).d 3 R).f 8 [1,1,0,1,2,6])) ?_)
 refine lC 2 nz R (Zs_ok b0) R ?_
 rintro _
 refine aP ?_
 split at b
 refine aP ?_
 refine lO (vz (.agg [(.slice none 0 0),(.slice none 0 0)].toArray) (aX gN dQ R R)) (aK 3 R R bR R R R R R R (aC (aI (bY (cF (dC (cF ?_)))))))
 cases b
 obtain rfl:=ba _ R
 have b:=be
 refine aP ?_
 cases b
 exact qS ((none,0,0),(none,0,0)) (fun w s=>(((s.nilo kT3 3).nilo kT3 3).e 9 [1,0]))
 refine aP ?_
 obtain ⟨bc,b⟩:=gd b
 refine bZ ?_
 refine lO (vz (.pointer (some ⟨c4,o29+U.toNat*2,none⟩)) (jf iS R R)) (lO (eJ (fo:=0) 0 cJ R R R) (lM _ (fun w s=>(s.d 1 R)) ?_))
 refine bK (K:=(bL).share) (xs:=([(ix i U).Dims]:List (List Int))) (vs:=[(sc aw ((ix i U).Dims) au)]) 1 R R km fK lA R R R R R R ?_ R (fun cq cm=>?_)
 exact fun I h s=>(sj).list [((sc aw ((ix i U).Dims) au),(ix i U).Dims)] I h s
 refine lM _ (fun w s=>(s.f 7 [6,1,0,6])) ?_
 refine eB (K:=(bL).share) 5864062014805 R R km fK un (Zr.zk (Zr.share zT23) lA) R R R R R R dM bc (fun ay b3=>(lN (OO (bL).share 23 ay b3 (G++([(ix i U).Dims]:List (List Int)))::_::_::_::_::_::W0) ?_))
 refine cU ?_
 cases b
 exact qA (ay,(G++([(ix i U).Dims]:List (List Int))).length,b3) (tE 6 [4,5,0])
 refine aP ?_
 cases b
 obtain rfl:=ba _ R
 have b:=be
 refine aU ?_
 exact qI (G,(c3,G.length,bw)) b tI
 rintro ⟨a2,⟨bf,bv,b5⟩⟩ σ1 b
 dsimp only [Z6_J1] at b
 refine bJ 2 eW (fun (hn:bv=a2.length)=>?_)
 subst hn
 refine bU ?_
 obtain ⟨j,bb,b⟩:=bd b
 refine aU ?_
 refine lO (vp (aD l.2.1) R) (lS R (lM _ (tE 3 [1,2,0]) ?_))
 refine lC 2 yG R (FnOk.lends (A':=[OO dO 9 A7 D7 l.1,OO (bL).share 23 bf b5 a2]) (A:=[RR dO A7 D7 l.1,RR bL bf b5 a2]) (B:=[]) (Z2_ok bb) ⟨aV,q8,trivial⟩ (fun _=>⟨(bH iM),trivial⟩)) R ?_
 rintro ⟨M,ct,O⟩
 refine aL 2 aB ?_
 rintro rfl
 refine lO (vT R) (lO (vp (aD j.1) R) (lS R (lB R (lO (vp (aD j.1) R) ?_))))
 refine bT ?_
 obtain ⟨ab,b⟩:=gd b
 obtain ⟨bm,b7,b⟩:=bd b
 refine cQ [(1,(sc A3 i D3)),(4,(pt Y 0)),(5,(sc A7 l.1 D7)),(6,(aD l.2.1)),(10,(aD j.1)),(11,(sc M j.2.1 O)),(76,(.bool ((!j.2.2)||(!bm))))] (aJ Y [(.slice none 0 0),(.slice none 0 0)] 58::OO dO 9 A7 D7 l.1::RR kT3 M O j.2.1::W0) ?_ ?_
 refine bG ?_
 rcases bo (!j.2.2) with J | J
 refine cV ?_
 exact qj (fun w s=>((s.shr 2 R).e 4 [3,1,0]))
 refine bU ?_
 refine lW (cA J) (vp (aD l.2.1) R) (lW (cA J) (vz (il l.2.1) (dN fJ R)) (iP (fun w s=>s.shr 2 R) (gC (K:=kT3) (0:Int) (l.2.1.length:Int) 0 R (cA J) bI cB R R R R (ab J).1 (ab J).2.1 (ab J).2.2 (fun cs cr=>(lM _ (fun w s=>(s.d 0 R)) ?_)))))
 refine bX 1 R (cA J) kb R (Zo_ok (bN b7 (cT J))) R ?_
 rintro _
 refine aP ?_
 exact qj (tE 5 [4,2,1])
 rintro σ1
 refine bU ?_
 split at b
 refine aP ?_
 refine lO (vz (.agg [(.slice none 0 0),(.slice none 0 0)].toArray) (aX gN dQ R R)) (aK 0 R R bR R R R R R R (lN (_::_::_::W0) ?_))
 refine bG ?_
 cases b
 exact qS ((none,0,0),(none,0,0)) (fun w s=>(((s.nilo kT3 3).nilo kT3 3).e 6 [1,0]))
 refine bG ?_
 obtain ⟨aj,b⟩:=gd b
 obtain ⟨g,b6,b⟩:=bd b
 refine aU ?_
 refine lO (vp (aD l.2.1) R) (lO (vz (il l.2.1) (dN fJ R)) (gC (K:=kT3) (0:Int) (l.2.1.length:Int) 2 R R bI cB R R R R aj.1 aj.2.1 aj.2.2 (fun ci ck=>(lM _ (fun w s=>(s.d 0 R)) ?_))))
 refine lC 1 nA R (Z0i_ok b6) R ?_
 rintro ⟨⟨q,cj,m⟩,⟨u,cp,D⟩⟩
 refine aL 0 aB ?_
 rintro rfl
 refine aL 1 aB ?_
 rintro rfl
 refine bF R R dQ (fun F=>(aK 0 R R bR R R R R R R (lN (aJ F [(sc q g.Dims m),(sc u g.Data D)] 58::_::_::_::_::_::_::W0) ?_)))
 refine cV ?_
 refine aZ (A:=(Int)×(Unit)) (fun a=>Z6_J2 i l j g a.1=some r) (fun a=>[(1,(sc A3 i D3)),(4,(pt Y 0)),(5,(sc A7 l.1 D7)),(6,(aD l.2.1)),(10,(aD j.1)),(11,(sc M j.2.1 O)),(13,(pt F 0)),(14,(iv a.1))]) (fun a=>aJ Y [(.slice none 0 0),(.slice none 0 0)] 58::OO dO 9 A7 D7 l.1::RR kT3 M O j.2.1::aJ F [(sc q g.Dims m),(sc u g.Data D)] 58::OO kT3 3 q m g.Dims::OO kT3 3 u D g.Data::W0) ?_ ?_
 refine bT ?_
 obtain ⟨e2,bn,bl⟩:=bd b
 refine bD (A:=Unit) bn (fun s a=>[(1,(sc A3 i D3)),(4,(pt Y 0)),(5,(sc A7 l.1 D7)),(6,(aD l.2.1)),(10,(aD j.1)),(11,(sc M j.2.1 O)),(13,(pt F 0)),(14,(iv s.1)),(15,(iv s.2))]) (fun s a=>aJ Y [(.slice none 0 0),(.slice none 0 0)] 58::OO dO 9 A7 D7 l.1::RR kT3 M O j.2.1::aJ F [(sc q g.Dims m),(sc u g.Data D)] 58::OO kT3 3 q m g.Dims::OO kT3 3 u D g.Data::W0) () (aS R) (fun w s=>(s.f 7 [4,3,0,3])) ?_
 rintro ⟨al,cu⟩ _ σ1 ch b bp
 dsimp only [Z6_L2] at b
 refine cU ?_
 split at b
 refine bZ ?_
 obtain ⟨bg,b⟩:=gd b
 refine bG ?_
 refine bA 2 aA (show 0<j.2.1.length by have:=bg; omega) (fun cn o68 ha=>?_)
 subst ha
 refine hH ?_
 cases b
 exact qA () tI
 refine aP ?_
 cases b
 obtain rfl:=bp _ R
 have b:=bl
 refine aU ?_
 exact qI (al,()) b tI
 rintro ⟨a3,_⟩ σ1 b
 dsimp only [Z6_J2] at b
 refine aO (aZ (A:=((List Int))×(Unit)) (fun a=>Z6_J5 g a.1=some r) (fun a=>[(4,(pt Y 0)),(13,(pt F 0))]) (fun a=>aJ Y [(.slice none 0 0),(.slice none 0 0)] 58::aJ F [(sc q g.Dims m),(sc u g.Data D)] 58::OO kT3 3 q m g.Dims::ow kT3 3 (.slice u g.Data.length D) a.1::W0) ?_ ?_)
 refine bT ?_
 obtain ⟨e3,bq,bk⟩:=bd b
 refine bD (A:=Unit) bq (fun s a=>[(1,(sc A3 i D3)),(4,(pt Y 0)),(5,(sc A7 l.1 D7)),(6,(aD l.2.1)),(10,(aD j.1)),(11,(sc M j.2.1 O)),(13,(pt F 0)),(14,(iv a3)),(16,(iv s.2))]) (fun s a=>aJ Y [(.slice none 0 0),(.slice none 0 0)] 58::OO dO 9 A7 D7 l.1::RR kT3 M O j.2.1::aJ F [(sc q g.Dims m),(sc u g.Data D)] 58::OO kT3 3 q m g.Dims::ow kT3 3 (.slice u g.Data.length D) s.1::W0) () (aS R) tI ?_
 rintro ⟨T,aa⟩ _ σ1 b2 b bz
 dsimp only [Z6_L3] at b
 refine cV ?_
 split at b
 refine bT ?_
 obtain ⟨L,ao,b⟩:=bd b
 refine aP ?_
 refine lM _ (fun w s=>(s.d 2 R)) ?_
 refine lC 1 ln R (Zj_ok ao) R ?_
 rintro ⟨a0,cb,Z⟩
 refine aL 0 aB ?_
 rintro rfl
 refine cU ?_
 refine aZ (A:=(Int)×(Unit)) (fun a=>Z6_J4 l g T aa L a.1=some b2) (fun a=>[(1,(sc A3 i D3)),(4,(pt Y 0)),(5,(sc A7 l.1 D7)),(6,(aD l.2.1)),(10,(aD j.1)),(11,(sc M j.2.1 O)),(13,(pt F 0)),(14,(iv a3)),(16,(iv aa)),(17,(sc a0 L Z)),(18,(iv a.1))]) (fun a=>aJ Y [(.slice none 0 0),(.slice none 0 0)] 58::OO dO 9 A7 D7 l.1::RR kT3 M O j.2.1::aJ F [(sc q g.Dims m),(sc u g.Data D)] 58::OO kT3 3 q m g.Dims::ow kT3 3 (.slice u g.Data.length D) T::OO kT3 3 a0 Z L::W0) ?_ ?_
 refine bT ?_
 obtain ⟨e4,bu,bh⟩:=bd b
 refine bD (A:=Unit) bu (fun s a=>[(1,(sc A3 i D3)),(4,(pt Y 0)),(5,(sc A7 l.1 D7)),(6,(aD l.2.1)),(10,(aD j.1)),(11,(sc M j.2.1 O)),(13,(pt F 0)),(14,(iv a3)),(16,(iv aa)),(17,(sc a0 L Z)),(18,(iv s.1)),(19,(iv s.2))]) (fun s a=>aJ Y [(.slice none 0 0),(.slice none 0 0)] 58::OO dO 9 A7 D7 l.1::RR kT3 M O j.2.1::aJ F [(sc q g.Dims m),(sc u g.Data D)] 58::OO kT3 3 q m g.Dims::ow kT3 3 (.slice u g.Data.length D) T::OO kT3 3 a0 Z L::W0) () (aS R) (fun w s=>(s.f 7 [1,6,0,1])) ?_
 rintro ⟨b1,E⟩ _ σ1 c6 b br
 dsimp only [Z6_L4] at b
 refine cU ?_
 split at b
 refine bZ ?_
 obtain ⟨a5,b⟩:=gd b
 obtain ⟨a6,b⟩:=gd b
 obtain ⟨ak,av,b⟩:=bd b
 obtain ⟨cc,ap,b⟩:=bd b
 obtain ⟨c5,aq,b⟩:=bd b
 refine bB 7 aA (show 0<i.length by have:=a5; omega) (fun cg o149 ha=>?_)
 subst ha
 refine dL (K:=dV) 7 E dT58.dec R a5.1 a5.2 ?_
 rintro ⟨⟨ai,ah⟩,⟨a8,ag⟩⟩
 refine bB 4 aB (show 0<l.1.length by have:=a6; omega) (fun c8 o154 ha=>?_)
 subst ha
 refine dF 15 [] bP fun ht hn=>?_
 refine oq 0 [] ?_
 refine dR 4 R (vz (.agg [(sc ai ((ix i E).Dims) ah),(sc a8 ((ix i E).Data) ag)].toArray) (eE (fo:=0) 0 fF bR R R R R)) ?_
 refine hX 5 [] ?_
 refine dR 8 R (vz (aD (ix l.1 E)) (jH (K:=dO) (fo:=0) (pr:=fun x=>(aD x)) 4 E qX (dT9.leaf fun _ _=>R) aB R a6.1 a6.2)) (dR 9 R (vp (aD j.1) R) (dR 10 R (vS R) (d1 11 R (lM _ (fun w s=>(s.f 10 [9,1,0,9])) ?_))))
 refine lC 1 yH R (FnOk.lends (A':=[OO kT3 3 a0 Z L]) (A:=[RR kT3 a0 Z L]) (B:=[]) (Zg_ok av) ⟨aV,trivial⟩ (fun _=>⟨(bH iM),trivial⟩)) R ?_
 rintro ⟨ae,ca,a9⟩
 refine aL 1 aB ?_
 rintro rfl
 refine aC (aG (fun w s=>(s.f 11 [2,9,0,1])) (d1 12 R (lM _ (fun w s=>(((s.d 3 R).d 5 R).f 13 [3,1,1,1,0,1,2,1,4,9])) ?_)))
 refine lC 3 m' R (FnOk.lends (A':=[OO kT3 3 ae a9 ak]) (A:=[RR kT3 ae a9 ak]) (B:=[RR kT3 ai ah ((ix i E).Dims),RR kT3 a8 ag ((ix i E).Data)]) (FnOk.perm (Z19_ok ap) (Pre':=[RR kT3 ae a9 ak,RR kT3 ai ah ((ix i E).Dims),RR kT3 a8 ag ((ix i E).Data)]) (fun _ _ _ s=>(s.e 3 [1,2,0]))) ⟨aV,trivial⟩ (fun _=>trivial)) R ?_
 rintro _
 refine aC (aG (fun w s=>(s.f 11 [2,9,1,1])) (d1 13 R (lC 0 oB R (Z1h_ok aq) R ?_)))
 rintro _
 refine aC (aG (fun w s=>(s.f 11 [2,9,1,1])) (dR 14 R (vI R) (hS:=(fun w s=>(s.f 11 [2,9,1,1]))) (dD ?_)))
 refine dG ?_
 cases b
 exact qA () (fun w s=>(s.f 11 [5,6,1,1]))
 refine aP ?_
 cases b
 obtain rfl:=br _ R
 have b:=bh
 refine aU ?_
 exact qI (b1,()) b tI
 rintro ⟨c9,_⟩ σ1 b
 dsimp only [Z6_J4] at b
 refine bU ?_
 obtain ⟨a4,b⟩:=gd b
 obtain ⟨b9,ar,b⟩:=bd b
 refine dF 8 [6] bP fun ht hn=>?_
 refine hX 0 [6] ?_
 refine dR 3 R (vp (aD l.2.1) R) (hS:=(sL [6])) (dR 4 R (vz (il l.2.1) (dN fJ R)) (hS:=(sL [6])) (d1 5 R (iP (fun w s=>s.shr 6 R) (gC (K:=kT3) (0:Int) (l.2.1.length:Int) 0 R R bI cB R R R R a4.1 a4.2.1 a4.2.2 (fun b8 az=>(aC (aG (sL [1,0]) (d1 6 R (lM _ (fun w s=>((s.d 0 R).f 9 [7,1,0,7,8,1])) ?_)))))))))
 refine lC 2 sw R (FnOk.lends (A':=[OO kT3 3 q m g.Dims]) (A:=[RR kT3 q m g.Dims]) (B:=[RR kT3 b8 az (sub L (0:Int) (l.2.1.length:Int))]) (Z0n_ok ar) ⟨aV,trivial⟩ (fun _=>trivial)) R ?_
 rintro _
 refine aC (aG (tE 8 [3,4,5,6,0,7]) (dR 7 R (vI R) (hS:=(tE 8 [3,4,5,6,0,7])) (dD (aI ?_))))
 obtain ⟨a1,b⟩:=gd b
 obtain ⟨an,ax,b⟩:=bd b
 refine bB 7 aB (show 0<g.Data.length by have:=a1; omega) (fun cf o171 ha=>?_)
 subst ha
 refine dF 12 [7] bP fun ht hn=>?_
 refine sg 0 [7] ?_
 refine oo 8 [7] ?_
 refine d1 7 R (lO (gO 7 fQ aB R a1) (aC (aG (sL [7]) (d1 9 R (lC 0 qc R (Z1o_ok ax) R ?_)))))
 rintro _
 refine aC (aG (sL [7]) ?_)
 refine oo 10 [7] ?_
 refine d1 11 R (lM _ (fun w s=>(s.f 8 [7,1,0,7])) ?_)
 refine eA (K:=kT3) (x':=an) 0 b9 R R cB R R a1.1 a1.2 ?_ ?_
 exact fun I h s=>(fZ).put I h () an s
 refine aC (aG (sL [0]) (dD ?_))
 refine dG ?_
 cases b
 exact qA () (tE 8 [4,5,6,7,1,0])
 refine aP ?_
 cases b
 obtain rfl:=bz _ R
 have b:=bk
 refine aU ?_
 exact qI (T,()) b (tE 6 [0,3,4,5])
 rintro ⟨am,_⟩ σ1 b
 dsimp only [Z6_J5] at b
 refine aP ?_
 refine aK 0 R R bR R R R R R R (lN (aJ Y [(sc q g.Dims m),(sc u g.Data D)] 58::aJ F [(sc q g.Dims m),(sc u g.Data D)] 58::_::ow kT3 3 (.slice u g.Data.length D) am::W0) ?_)
 refine aP ?_
 cases b
 exact qS ((q,g.Dims.length,m),(u,g.Data.length,D)) (tE 5 [2,3])
theorem Z0h_ok  {v1:View}{r:View}(b:Z0h v1=some r) :
 FnOk Tryz.prog 118 [(.agg [(.slice A2 N2 D2),(.slice A3 N3 D3),(iv v1.Offset),(iv v1.Base)].toArray)] [aN kT3 (.slice A2 N2 D2) v1.Dims,ow kT3 3 (.slice A3 N3 D3) v1.Strides] (fun (h:HH×HH)=>((.agg [(s3 h.1),(s3 h.2),(iv r.Offset),(iv r.Base)].toArray),[aN kT3 (s3 h.1) r.Dims,ow kT3 3 (s3 h.2) r.Strides])):=by
 unfold Z0h at b
 refine aQ Tryz.func118 R 22 R R fun C V=>?_
 refine cM _ (tE 2 [1,0]) ?_
 refine cL 0 aB ?_
 rintro rfl
 refine cL 1 aA ?_
 rintro rfl
 let J:=RR kT3 A2 D2 v1.Dims::V
 refine aU ?_
 refine eF R fun q=>?_
 refine bF R R cY (fun i=>(aC (qM _ (tE 3 [0,2,1]) ?_)))
 let u:=aJ q [(sc A2 v1.Dims D2),(sc A3 v1.Strides D3),(iv v1.Offset),(iv v1.Base)] 96::J
 refine aU ?_
 refine aZ (A:=((List Int))×(Unit)) (fun a=>Z0h_J3 v1 a.1=some r) (fun a=>[(1,(pt q 0)),(2,(pt i 0))]) (fun a=>aJ i [(.slice none 0 0),(.slice none 0 0),(iv 0),(iv 0)] 96::ow kT3 3 (.slice A3 v1.Strides.length D3) a.1::u) ?_ ?_
 refine bT ?_
 obtain ⟨T,E,B⟩:=bd b
 refine bD (A:=Unit) E (fun s a=>[(1,(pt q 0)),(2,(pt i 0)),(3,(iv s.1))]) (fun s a=>aJ i [(.slice none 0 0),(.slice none 0 0),(iv 0),(iv 0)] 96::ow kT3 3 (.slice A3 v1.Strides.length D3) s.2::u) () (aS R) tI ?_
 rintro ⟨g,j⟩ _ σ1 l b G
 dsimp only [Z0h_L1] at b
 refine cP ?_
 split at b
 refine bG ?_
 refine aZ (A:=((List Int))×(Unit)) (fun a=>Z0h_J2 g a.1=some l) (fun a=>[(1,(pt q 0)),(2,(pt i 0)),(3,(iv g))]) (fun a=>aJ i [(.slice none 0 0),(.slice none 0 0),(iv 0),(iv 0)] 96::ow kT3 3 (.slice A3 v1.Strides.length D3) a.1::u) ?_ ?_
 refine aU ?_
 obtain ⟨m,b⟩:=gd b
 refine bG ?_
 refine bA 3 aA (show 0<v1.Dims.length by have:=m; omega) (fun M o20 D=>?_)
 subst D
 refine bZ ?_
 split at b
 refine bU ?_
 obtain ⟨e,b⟩:=gd b
 refine bG ?_
 refine bA 1 aB (show 0<v1.Strides.length by have:=e; omega) (fun O o24 D=>?_)
 subst D
 refine bU ?_
 refine lM _ (tE 2 [1,0]) ?_
 refine eA (K:=kT3) (x':=(0:Int)) 0 g R R cB R R e.1 e.2 ?_ ?_
 exact fun I h s=>(fZ).put I h () (0:Int) s
 refine aU ?_
 exact qI ((j.set g.toNat (0:Int)),()) b (tE 2 [1,0])
 refine aP ?_
 exact qI (j,()) b tI
 rintro ⟨L,_⟩ σ1 b
 dsimp only [Z0h_J2] at b
 refine bZ ?_
 cases b
 exact qA () tI
 refine aP ?_
 cases b
 obtain rfl:=G _ R
 have b:=B
 refine aU ?_
 exact qI (j,()) b tI
 rintro ⟨F,_⟩ σ1 b
 dsimp only [Z0h_J3] at b
 refine aP ?_
 refine aK 0 R R cG R R R R R R (lN (aJ i [(sc A2 v1.Dims D2),(sc A3 v1.Strides D3),(iv v1.Offset),(iv v1.Base)] 96::ow kT3 3 (.slice A3 v1.Strides.length D3) F::u) ?_)
 refine aP ?_
 cases b
 exact qS ((A2,v1.Dims.length,D2),(A3,v1.Strides.length,D3)) (tE 4 [3,1])
theorem Zy_ok  {b:(List Int)}{r:View}(g:Zy b=some r) :
 FnOk Tryz.prog 84 [(.slice A2 N2 D2)] [aN kT3 (.slice A2 N2 D2) b] (fun (h:HH×HH)=>((.agg [(.slice h.1.1 h.1.2.1 h.1.2.2),(.slice h.2.1 h.2.2.1 h.2.2.2),(iv r.Offset),(iv r.Base)].toArray),[aN kT3 (.slice h.1.1 h.1.2.1 h.1.2.2) r.Dims,ow kT3 3 (.slice h.2.1 h.2.2.1 h.2.2.2) r.Strides])):=by
 unfold Zy at g
 refine aQ Tryz.func84 R 32 R R fun C V=>?_
 refine cN (_::V) ?_
 refine cL 0 aA ?_
 rintro rfl
 let l:List HP:=RR kT3 A2 D2 b::V
 refine cN l ?_
 refine aO (aE (bF R R cY (fun T=>(aC (aI (aO (aO ?_)))))))
 obtain ⟨r4,ab,g⟩:=bd g
 refine aE (lS R (lM (RR kT3 A2 D2 b::_::l) (fun w s=>(s.d 1 R)) ?_))
 refine lC 1 kb R (Zo_ok ab) R ?_
 rintro _
 refine lN (_::l) ?_
 refine lO (rZ R) (aC (aI ?_))
 rcases cO g with ⟨Z,g⟩|⟨Z,g⟩
 refine cC R Z (aO (aE (lO (vz (.agg [(.slice none 0 0),(.slice none 0 0),(iv 0),(iv 0)].toArray) (aX fD cY R R)) (aK 0 R R cG R R R R R R (aC (aI (bY (cF ?_))))))))
 obtain rfl:=so g
 exact dI (vs:=[(.agg [(.slice none 0 0),(.slice none 0 0),(iv 0),(iv 0)].toArray)]) (.inl R) ((none,0,0),(none,0,0)) R ⟨⟨0,T,_,_,R,R,.inl ⟨gI,cG,R⟩⟩,trivial⟩ R (fun w s=>(((s.nilr kT3).nilo kT3 3).e 4 [1,0]))
 refine bM R Z (dE (aI (aO ?_)))
 obtain ⟨u,ai,g⟩:=bd g
 obtain ⟨j,aa,g⟩:=bd g
 refine aE (lS R (lM (RR kT3 A2 D2 b::_::l) (fun w s=>(s.d 1 R)) ?_))
 refine lC 1 jN R (Zu_ok ai) R ?_
 rintro ⟨A9,N9,D9⟩
 refine lN (ow kT3 3 (.slice A9 N9 D9) u::_::l) ?_
 refine aL 0 aB ?_
 rintro rfl
 refine lS R (lM (RR kT3 A2 D2 b::_::_::l) (fun w s=>(s.d 2 R)) ?_)
 refine lC 1 ny R (Zw_ok aa) R ?_
 rintro _
 refine lN (_::_::l) ?_
 refine lO (vz (.agg [(sc A9 u D9),(.slice none 0 0),(iv 0),(iv j)].toArray) (aX fD cY R R)) (bF R R cY (fun q=>(aK 0 R R cG R R R R R R (lN (aJ q [(sc A9 u D9),(.slice none 0 0),(iv 0),(iv j)] 96::_::_::l) ?_))))
 refine aC (aI (aO (aZ (A:=((List Int))×(HH)) (fun a=>Zy_J1 u j a.1=some r) (fun a=>[(2,(pt T 0)),(3,(pt q 0))]) (fun a=>aJ T [(.slice none 0 0),(.slice none 0 0),(iv 0),(iv 0)] 96::aJ q [(sc A9 u D9),(.slice a.2.1 a.2.2.1 a.2.2.2),(iv 0),(iv j)] 96::OO kT3 3 A9 D9 u::ow kT3 3 (.slice a.2.1 a.2.2.1 a.2.2.2) a.1::l) ?_ ?_)))
 refine aO (aE (lI R (aC (aI (dJ ?_)))))
 obtain ⟨e1,am,ak⟩:=bd g
 refine bD (A:=HH) am (fun s a=>[(0,(sc A2 b D2)),(2,(pt T 0)),(3,(pt q 0)),(4,(iv s.2))]) (fun s a=>aJ T [(.slice none 0 0),(.slice none 0 0),(iv 0),(iv 0)] 96::aJ q [(sc A9 u D9),(.slice a.1 a.2.1 a.2.2),(iv 0),(iv j)] 96::OO kT3 3 A9 D9 u::ow kT3 3 (.slice a.1 a.2.1 a.2.2) s.1::l) (none,0,0) (aS R) (fun w s=>((s.nilo kT3 3).e 4 [3,1,2,0])) ?_
 rintro ⟨m,G⟩ ⟨a3,ae,U⟩ σ1 a8 g ag
 replace g:Zy_L1 b m G=some a8:=g
 unfold Zy_L1 at g
 refine bJ 3 aB (fun (hn:ae=m.length)=>?_)
 subst hn
 refine aO (aO (aE (lI R (lS R (lO (kc bI R) (lO (mZ R R) (aC (aI ?_))))))))
 rcases cO g with ⟨F,g⟩|⟨F,g⟩
 refine cC R F (dE (aI (aO (dJ ?_))))
 obtain ⟨E,g⟩:=gd g
 obtain ⟨B,a6,g⟩:=bd g
 obtain ⟨a9,g⟩:=gd g
 refine dF 8 [] bP (fun ht hn=>(dR 0 R (fP 1 gA R) (dR 1 R (fW 1 cJ R R R) (dR 2 R (vS R) (dR 3 R (vI R) (dR 4 R (kW R R) (d1 5 R (gC (K:=kT3) (aH (G+(1:Int))) (b.length:Int) 4 R R bI cB R R R R E.1 E.2.1 E.2.2 (fun a5 a7=>(aC (aG (sL [0]) (d1 6 R (lM (RR kT3 a5 a7 (sub b (aH (G+(1:Int))) (b.length:Int))::RR kT3 a5 a7 (sub b (aH (G+(1:Int))) (b.length:Int))::_::aJ q [(sc A9 u D9),(sc a3 m U),(iv 0),(iv j)] 96::_::OO kT3 3 a3 U m::l) (fun w s=>(s.d 0 R)) ?_)))))))))))))
 refine lC 1 ny R (Zw_ok a6) R ?_
 rintro _
 refine lN (_::_::_::_::_::l) ?_
 refine aC (aG (sL [0]) (d1 7 R (bK (K:=kT3) (xs:=([B]:List Int)) (vs:=[(iv B)]) 0 R R bI cB f' R R R R R R ?_ R (fun ah ac=>?_))))
 exact fun I h s=>(fZ).list [((),B)] I h s
 refine lN (OO kT3 3 ah ac ([B]:List Int)::_::_::_::_::_::l) ?_
 refine aC (aG (sL [1,0]) (d1 8 R (lM (ow _ _ _ _::ow _ _ _ _::aN _ _ _::aJ _ _ _::aJ _ _ _::ow _ _ _ _::l) (fun w s=>(s.f 6 [5,1,0,5])) ?_)))
 refine eB (K:=kT3) 17592186044416 R R bI cB jZ (Zr.zk zT3 f') R R R R R R dM a9 (fun Y a1=>(lN (OO kT3 3 Y a1 (m++([B]:List Int))::_::_::_::_::l) ?_))
 refine aC (qE (d1 9 R (lO (fP 1 gA R) (aC (qE (d1 10 R (cK 3 R R fK R R R R R (lN (_::_::_::aJ q [(sc A9 u D9),(sc Y (m++([B]:List Int)) a1),(iv 0),(iv j)] 96::_::l) ?_))))))))
 refine aC (qE (dD (dY (aI (aE (lI R (lO (kW R R) (lI R (aC ?_)))))))))
 obtain rfl:=so g
 exact qA (Y,(m++([B]:List Int)).length,a1) (fun w s=>(s.e 5 [2,3,4,0]))
 refine bM R F (hJ (eD ?_))
 obtain rfl:=so g
 obtain rfl:=ag _ R
 have g:=ak
 refine eD (fX ?_)
 exact qI (m,(a3,m.length,U)) g (fun w s=>s)
 rintro ⟨D,⟨a2,an,a0⟩⟩ σ1 g
 replace g:Zy_J1 u j D=some r:=g
 unfold Zy_J1 at g
 refine bJ 3 aB (fun (hn:an=D.length)=>?_)
 subst hn
 refine aO ?_
 obtain ⟨i,a4,g⟩:=bd g
 refine aE (lO (vz (.agg [(sc A9 u D9),(sc a2 D a0),(iv 0),(iv j)].toArray) (dT 1 gI cG R R R R)) (iP (fun w s=>s.shr 2 R) (lM (RR kT3 A9 D9 u::OO kT3 3 a2 a0 D::RR kT3 A9 D9 u::aJ _ _ _::aJ q [(sc A9 u D9),(sc a2 D a0),(iv 0),(iv j)] 96::l) (fun w s=>((s.d 0 R).e 5 [0,4,1,2,3])) ?_)))
 refine lC 2 yI R (Z0h_ok (v1:=(⟨u,D,(0:Int),j⟩:View)) a4) R ?_
 rintro ⟨⟨L,aj,M⟩,⟨J,al,O⟩⟩
 refine lN (aN kT3 (.slice L aj M) i.Dims::ow kT3 3 (.slice J al O) i.Strides::_::_::_::l) ?_
 refine aL 0 aA ?_
 rintro rfl
 refine aL 1 aB ?_
 rintro rfl
 refine aK 3 R R cG R R R R R R (lN (_::_::_::aJ T [(sc L i.Dims M),(sc J i.Strides O),(iv i.Offset),(iv i.Base)] 96::_::l) ?_)
 refine aC (aI (bY ?_))
 obtain rfl:=so g
 exact dI (vs:=[(.agg [(sc L i.Dims M),(sc J i.Strides O),(iv i.Offset),(iv i.Base)].toArray)]) (.inl R) ((L,i.Dims.length,M),(J,i.Strides.length,O)) R ⟨⟨3,T,_,_,R,R,.inl ⟨gI,cG,R⟩⟩,trivial⟩ R (fun w s=>(s.e 6 [0,1]))
theorem Z18_ok  {v1:View}{b:(List Int)}{r:Int}(e:Z18 v1 b=some r) :
 FnOk Tryz.prog 144 [(.agg [(.slice A2 N2 D2),(.slice A3 N3 D3),(iv v1.Offset),(iv v1.Base)].toArray),(.slice A5 N5 D5)] [aN kT3 (.slice A2 N2 D2) v1.Dims,aN kT3 (.slice A3 N3 D3) v1.Strides,aN kT3 (.slice A5 N5 D5) b] (fun (h:Unit)=>((iv r),[])):=by
 unfold Z18 at e
 refine aQ Tryz.func144 R 28 R R fun C V=>?_
 refine cL 0 aA ?_
 rintro rfl
 refine cL 1 aA ?_
 rintro rfl
 refine cL 2 aA ?_
 rintro rfl
 let D:=RR kT3 A2 D2 v1.Dims::RR kT3 A3 D3 v1.Strides::RR kT3 A5 D5 b::V
 refine cN D ?_
 refine aU ?_
 refine eF R fun F=>?_
 refine aU ?_
 let B:=aJ F [(sc A2 v1.Dims D2),(sc A3 v1.Strides D3),(iv v1.Offset),(iv v1.Base)] 96::D
 refine qN B ?_
 refine cU ?_
 refine aZ (A:=(Int)×(Unit)) (fun a=>Z18_J1 a.1=some r) (fun a=>[(5,(iv a.1))]) (fun a=>B) ?_ ?_
 refine bT ?_
 obtain ⟨O,q,j⟩:=bd e
 refine bD (A:=Unit) q (fun s a=>[(1,(sc A5 b D5)),(2,(pt F 0)),(5,(iv s.1)),(6,(iv s.2))]) (fun s a=>B) () (aS R) tI ?_
 rintro ⟨l,J⟩ _ σ1 E e u
 dsimp only [Z18_L1] at e
 refine cU ?_
 split at e
 refine bZ ?_
 obtain ⟨i,e⟩:=gd e
 obtain ⟨g,e⟩:=gd e
 refine bB 3 aA (show 0<b.length by have:=i; omega) (fun G o19 m=>?_)
 subst m
 refine bB 2 aA (show 0<v1.Strides.length by have:=g; omega) (fun L o22 m=>?_)
 subst m
 refine dF 13 [] bP fun M T=>?_
 refine ml 0 [] ?_
 refine dD ?_
 refine dG ?_
 cases e
 exact qA () tI
 refine aP ?_
 cases e
 obtain rfl:=u _ R
 have e:=j
 refine aU ?_
 exact qI (l,()) e tI
 rintro ⟨I,_⟩ σ1 e
 dsimp only [Z18_J1] at e
 refine dG ?_
 cases e
 exact qF () (tE 4 [])
theorem Z0b_ok  {v1:View}{r:(List Int)}(b:Z0b v1=some r) :
 FnOk Tryz.prog 117 [(.agg [(.slice A2 N2 D2),(.slice A3 N3 D3),(iv v1.Offset),(iv v1.Base)].toArray)] [aN kT3 (.slice A2 N2 D2) v1.Dims,aN kT3 (.slice A3 N3 D3) v1.Strides] (fun (h:HH)=>((.slice h.1 h.2.1 h.2.2),[ow kT3 3 (.slice h.1 h.2.1 h.2.2) r])):=by
 unfold Z0b at b
 refine aQ Tryz.func117 R 25 R R fun C V=>?_
 refine cN (_::_::V) ?_
 refine cL 0 aA ?_
 rintro rfl
 refine cL 1 aA ?_
 rintro rfl
 let W0:List HP:=RR kT3 A2 D2 v1.Dims::RR kT3 A3 D3 v1.Strides::V
 refine cN W0 ?_
 refine aO (aE (eF R (fun b4=>(lS R (aC ?_)))))
 let j:List HP:=aJ b4 [(sc A2 v1.Dims D2),(sc A3 v1.Strides D3),(iv v1.Offset),(iv v1.Base)] 96::W0
 refine qN j ?_
 refine aI (aO (aE (bK (K:=kT3) (xs:=([]:List Int)) (vs:=[]) 0 R R bI cB f' R R R R R R ?_ R (fun A5 D5=>?_))))
 exact fun I h s=>(fZ).list [] I h s
 refine lN (OO kT3 3 A5 D5 ([]:List Int)::j) ?_
 refine lS R (aC (aI (aO ?_)))
 obtain ⟨r6,a8,b⟩:=bd b
 refine aE (lO (fP 0 gJ R) (lO (fW 1 cJ R R R) (lM (RR kT3 A2 D2 v1.Dims::_::j) (fun w s=>(s.d 2 R)) ?_)))
 refine lC 1 ny R (Zw_ok a8) R ?_
 rintro _
 refine lN (_::j) ?_
 refine lI R (aC (aI (aO (aZ (A:=((List Int))×(HH)) (fun a=>Z0b_J1 a.1=some r) (fun a=>[(3,(.slice a.2.1 a.2.2.1 a.2.2.2))]) (fun a=>ow kT3 3 (.slice a.2.1 a.2.2.1 a.2.2.2) a.1::j) ?_ ?_))))
 refine aO (aE (lI R (aC (aI (dJ ?_)))))
 obtain ⟨e1,a6,a4⟩:=bd b
 refine bD (A:=HH) a6 (fun s a=>[(1,(pt b4 0)),(3,(.slice a.1 a.2.1 a.2.2)),(4,(iv r6)),(5,(iv s.2))]) (fun s a=>ow kT3 3 (.slice a.1 a.2.1 a.2.2) s.1::j) (A5,([]:List Int).length,D5) (aS R) (fun w s=>s) ?_
 rintro ⟨g,a0⟩ ⟨E,a7,L⟩ σ1 O b a1
 replace b:Z0b_L1 v1 r6 g a0=some O:=b
 unfold Z0b_L1 at b
 refine bJ 0 aB (fun (U:a7=g.length)=>?_)
 subst U
 refine aO (aO (aE (lI R (lI R (lO (mZ R R) (aC (aI ?_)))))))
 rcases cO b with ⟨l,b⟩|⟨l,b⟩
 refine cC R l (dE (aI (aO (dJ ?_))))
 obtain ⟨m,T,b⟩:=bd b
 obtain ⟨i,M,b⟩:=bd b
 obtain ⟨J,b⟩:=gd b
 refine dF 10 [0] bP (fun ht U=>(dR 0 R (vS R) (hS:=(sL [0])) (dR 1 R (vz (.agg [(sc A2 v1.Dims D2),(sc A3 v1.Strides D3),(iv v1.Offset),(iv v1.Base)].toArray) (dT 0 gI cG R R R R)) (hS:=(sL [0])) (dR 2 R (fP 0 gJ R) (hS:=(sL [0])) (dR 3 R (fW 0 cJ R R R) (hS:=(sL [0])) (dR 4 R (vI R) (hS:=(sL [0])) (d1 5 R (lM (RR kT3 A2 D2 v1.Dims::OO kT3 3 E L g::j) (fun w s=>(s.d 2 R)) ?_))))))))
 refine lC 1 ln R (Zj_ok T) R ?_
 rintro ⟨u,a3,q⟩
 refine lN (ow kT3 3 (.slice u a3 q) m::_::j) ?_
 refine aL 0 aB ?_
 rintro rfl
 refine aC (aG (sL [1,0]) (d1 6 R (lM (ow _ _ _ _::RR kT3 A2 D2 v1.Dims::RR kT3 A3 D3 v1.Strides::ow _ _ _ _::j) (fun w s=>(((s.d 3 R).d 5 R).e 4 [2,1,0,3])) ?_)))
 refine lC 3 yJ R (FnOk.lends (A':=[OO kT3 3 u q m]) (A:=[RR kT3 u q m]) (B:=[RR kT3 A2 D2 v1.Dims,RR kT3 A3 D3 v1.Strides]) (FnOk.perm (Z18_ok M) (Pre':=[RR kT3 u q m,RR kT3 A2 D2 v1.Dims,RR kT3 A3 D3 v1.Strides]) (fun _ _ _ s=>(s.e 3 [1,2,0]))) ⟨aV,trivial⟩ (fun _=>trivial)) R ?_
 rintro _
 refine lN (_::_::j) ?_
 refine aC (aG (sL [1,0]) (d1 7 R (bK (K:=kT3) (xs:=([i]:List Int)) (vs:=[(iv i)]) 0 R R bI cB f' R R R R R R ?_ R (fun a2 a5=>?_))))
 exact fun I h s=>(fZ).list [((),i)] I h s
 refine lN (OO kT3 3 a2 a5 ([i]:List Int)::_::_::j) ?_
 refine aC (aG (sL [2,1,0]) (d1 8 R (lM (ow _ _ _ _::ow _ _ _ _::ow _ _ _ _::j) (fun w s=>(s.e 3 [2,0,1])) ?_)))
 refine eB (K:=kT3) 17592186044416 R R bI cB jZ (Zr.zk zT3 f') R R R R R R dM J (fun G F=>(lN (OO kT3 3 G F (g++([i]:List Int))::_::j) ?_))
 refine aC (aG (sL [1,0]) (dR 9 R (vS R) (hS:=(sL [1,0])) (dD (dY (aI (aE (lI R (lO (kW R R) (lI R (aC ?_))))))))))
 obtain rfl:=so b
 exact qA (G,(g++([i]:List Int)).length,F) (fun w s=>(s.e 2 [0]))
 refine bM R l (hJ (eD ?_))
 obtain rfl:=so b
 obtain rfl:=a1 _ R
 have b:=a4
 refine eD (fX ?_)
 exact qI (g,(E,g.length,L)) b (fun w s=>s)
 rintro ⟨D,⟨Z,Y,a9⟩⟩ σ1 b
 replace b:Z0b_J1 D=some r:=b
 unfold Z0b_J1 at b
 refine bJ 0 aB (fun (U:Y=D.length)=>?_)
 subst U
 refine aO (aE (lS R (lS R (aC (aI (bY ?_))))))
 obtain rfl:=so b
 exact qF (Z,D.length,a9) (fun w s=>(s.e 4 [0]))
theorem Z9_ok  {v1:View}{r:Bool}(b:Z9 v1=some r) :
 FnOk Tryz.prog 116 [(.agg [(.slice A2 N2 D2),(.slice A3 N3 D3),(iv v1.Offset),(iv v1.Base)].toArray)] [aN kT3 (.slice A2 N2 D2) v1.Dims,aN kT3 (.slice A3 N3 D3) v1.Strides] (fun (h:Unit)=>((.bool r),[])):=by
 unfold Z9 at b
 refine aQ Tryz.func116 R 84 R R fun C V=>?_
 refine cL 0 aA ?_
 rintro rfl
 refine cL 1 aA ?_
 rintro rfl
 let W0:=RR kT3 A2 D2 v1.Dims::RR kT3 A3 D3 v1.Strides::V
 refine cN W0 ?_
 refine aU ?_
 refine eF R fun B=>?_
 refine aU ?_
 let q:=aJ B [(sc A2 v1.Dims D2),(sc A3 v1.Strides D3),(iv v1.Offset),(iv v1.Base)] 96::W0
 refine qN q ?_
 refine aP ?_
 obtain ⟨D,a2,b⟩:=bd b
 refine cQ [(1,(pt B 0)),(40,(.bool ((((((!D)||((v1.Strides.length:Int) != (v1.Dims.length:Int)))||(decide (v1.Base<1)))||(decide (v1.Base>4096)))||(decide (v1.Offset<0)))||(decide (v1.Offset≥v1.Base)))))] (q) ?_ ?_
 refine aP ?_
 refine lM _ (fun w s=>(s.d 1 R)) ?_
 refine lC 1 kb R (Zo_ok a2) R ?_
 rintro _
 refine lN q ?_
 refine aU ?_
 rcases bo (!D) with a3 | a3
 refine wB ?_
 exact qj tI
 refine cU ?_
 rcases bo ((!D)||((v1.Strides.length:Int) != (v1.Dims.length:Int))) with Z | Z
 refine yo ?_
 exact qj tI
 refine bZ ?_
 rcases bo (((!D)||((v1.Strides.length:Int) != (v1.Dims.length:Int)))||(decide (v1.Base<1))) with a1 | a1
 refine om ?_
 exact qj tI
 refine bZ ?_
 rcases bo ((((!D)||((v1.Strides.length:Int) != (v1.Dims.length:Int)))||(decide (v1.Base<1)))||(decide (v1.Base>4096))) with Y | Y
 refine hH ?_
 exact qj tI
 refine bZ ?_
 rcases bo (((((!D)||((v1.Strides.length:Int) != (v1.Dims.length:Int)))||(decide (v1.Base<1)))||(decide (v1.Base>4096)))||(decide (v1.Offset<0))) with E | E
 refine dG ?_
 exact qj tI
 refine dG ?_
 exact qj tI
 rintro σ1
 refine bU ?_
 split at b
 refine cV ?_
 cases b
 exact qF () (tE 3 [])
 refine bG ?_
 refine aZ (A:=(Unit)×(Unit)) (fun a=>Z9_J1 v1=some r) (fun a=>[(1,(pt B 0))]) (fun a=>q) ?_ ?_
 refine bT ?_
 obtain ⟨e1,a4,M⟩:=bd b
 refine bD (A:=Unit) a4 (fun s a=>[(1,(pt B 0)),(3,(iv s))]) (fun s a=>q) () (aS R) tI ?_
 rintro l _ σ1 a7 b G
 dsimp only [Z9_L1] at b
 refine cP ?_
 split at b
 refine bT ?_
 obtain ⟨T,b⟩:=gd b
 refine cQ [(1,(pt B 0)),(3,(iv l)),(61,(.bool ((decide ((ix v1.Strides l)<(-4096:Int)))||(decide ((ix v1.Strides l)>4096)))))] (q) ?_ ?_
 refine bG ?_
 refine bA 2 aA (show 0<v1.Strides.length by have:=T; omega) (fun a8 o23 O=>?_)
 subst O
 refine bG ?_
 rcases bo (decide ((ix v1.Strides l)<(-4096:Int))) with I | I
 refine cV ?_
 exact qj tI
 refine cV ?_
 exact qj tI
 rintro σ1
 refine bU ?_
 split at b
 refine cU ?_
 cases b
 obtain rfl:=G _ R
 have b:=M
 refine aP ?_
 cases b
 exact qF () (tE 3 [])
 refine cU ?_
 cases b
 exact qA () tI
 refine aP ?_
 cases b
 obtain rfl:=G _ R
 have b:=M
 refine aU ?_
 exact qI ((),()) b tI
 rintro ⟨_,_⟩ σ1 b
 dsimp only [Z9_J1] at b
 refine bU ?_
 obtain ⟨g,J,b⟩:=bd b
 refine aU ?_
 refine lM _ (fun w s=>(((s.d 1 R).d 3 R).e 2 [1,0])) ?_
 refine lC 2 qd R (Z0b_ok J) R ?_
 rintro ⟨j,a9,i⟩
 refine aL 0 aB ?_
 rintro rfl
 refine bG ?_
 refine aZ (A:=(Unit)×(Unit)) (fun a=>Z9_J2=some r) (fun a=>[]) (fun a=>q) ?_ ?_
 refine bT ?_
 obtain ⟨e2,a0,F⟩:=bd b
 refine bD (A:=Unit) a0 (fun s a=>[(1,(pt B 0)),(4,(sc j g i)),(5,(iv s))]) (fun s a=>OO kT3 3 j i g::q) () (aS R) tI ?_
 rintro m _ σ1 a6 b U
 dsimp only [Z9_L2] at b
 refine cU ?_
 split at b
 refine bT ?_
 obtain ⟨u,b⟩:=gd b
 refine cQ [(1,(pt B 0)),(4,(sc j g i)),(5,(iv m)),(83,(.bool ((decide ((ix g m)<0))||(decide ((ix g m)≥v1.Base)))))] (OO kT3 3 j i g::q) ?_ ?_
 rcases bo (decide ((ix g m)<0)) with L | L
 refine bB 0 aB (show 0<g.length by have:=u; omega) (fun a5 o40 O=>?_)
 subst O
 refine dF 14 [] bP fun ht hn=>?_
 refine uk 0 [] ?_
 refine dD ?_
 exact qj tI
 refine bB 0 aB (show 0<g.length by have:=u; omega) (fun a5 o40 O=>?_)
 subst O
 refine dF 14 [] bP fun ht hn=>?_
 refine uk 0 [] ?_
 refine dD ?_
 exact qj tI
 rintro σ1
 refine bU ?_
 split at b
 refine cU ?_
 cases b
 obtain rfl:=U _ R
 have b:=F
 refine aP ?_
 cases b
 exact qF () (tE 4 [])
 refine cU ?_
 cases b
 exact qA () tI
 refine aP ?_
 cases b
 obtain rfl:=U _ R
 have b:=F
 refine aU ?_
 exact cS ((),()) b trivial (tE 1 [])
 rintro ⟨_,_⟩ σ1 b
 dsimp only [Z9_J2] at b
 refine bT ?_
 cases b
 exact qF () (tE 3 [])
theorem Z04_ok  {v1:View}{b:(List Int)}{r:View}(j:Z04 v1 b=some r) :
 FnOk Tryz.prog 83 [(.agg [(.slice A2 N2 D2),(.slice A3 N3 D3),(iv v1.Offset),(iv v1.Base)].toArray),(.slice A5 N5 D5)] [aN kT3 (.slice A2 N2 D2) v1.Dims,aN kT3 (.slice A3 N3 D3) v1.Strides,aN kT3 (.slice A5 N5 D5) b] (fun (h:HH×HH)=>((.agg [(s3 h.1),(s3 h.2),(iv r.Offset),(iv r.Base)].toArray),[ow kT3 3 (s3 h.1) r.Dims,ow kT3 3 (s3 h.2) r.Strides])):=by
 unfold Z04 at j
 refine aQ Tryz.func83 R 77 R R fun C V=>?_
 refine cL 0 aA ?_
 rintro rfl
 refine cL 1 aA ?_
 rintro rfl
 refine cL 2 aA ?_
 rintro rfl
 let W0:=RR kT3 A2 D2 v1.Dims::RR kT3 A3 D3 v1.Strides::RR kT3 A5 D5 b::V
 refine cN W0 ?_
 refine aU ?_
 refine eF R fun b6=>?_
 refine bF R R cY (fun Z=>(aC ?_))
 let L:=aJ b6 [(sc A2 v1.Dims D2),(sc A3 v1.Strides D3),(iv v1.Offset),(iv v1.Base)] 96::W0
 refine oi ?_
 obtain ⟨r8,aj,j⟩:=bd j
 obtain ⟨a9,ai,j⟩:=bd j
 refine cQ [(1,(sc A5 b D5)),(2,(pt b6 0)),(4,(pt Z 0)),(5,(iv (aH ((b.length:Int) - (v1.Dims.length:Int))))),(25,(.bool (((!r8)||(!a9))||(decide ((aH ((b.length:Int) - (v1.Dims.length:Int)))<0)))))] (aJ Z [(.slice none 0 0),(.slice none 0 0),(iv 0),(iv 0)] 96::L) ?_ ?_
 refine aU ?_
 refine lM (RR kT3 A2 D2 v1.Dims::RR kT3 A3 D3 v1.Strides::aJ _ _ _::L) (fun w s=>(((s.d 2 R).d 4 R).e 3 [1,0,2])) ?_
 refine lC 2 lr R (Z9_ok aj) R ?_
 rintro _
 refine aU ?_
 rcases bo (!r8) with U | U
 refine cU ?_
 exact qj tI
 refine bU ?_
 refine lM (RR kT3 A5 D5 b::_::L) (fun w s=>(s.d 4 R)) ?_
 refine bX 1 R (cA U) kb R (Zo_ok (bN ai (cT U))) R ?_
 rintro _
 refine aP ?_
 rcases bo ((!r8)||(!a9)) with ah | ah
 refine bG ?_
 exact qj tI
 refine bG ?_
 exact qj tI
 rintro σ1
 refine bU ?_
 split at j
 refine aP ?_
 refine lO (vz (.agg [(.slice none 0 0),(.slice none 0 0),(iv 0),(iv 0)].toArray) (aX fD cY R R)) (aK 0 R R cG R R R R R R (aC (aI (bY (cF ?_)))))
 cases j
 exact qS ((none,0,0),(none,0,0)) (fun w s=>(((s.nilo kT3 3).nilo kT3 3).e 7 [1,0]))
 refine bG ?_
 obtain ⟨g,M,j⟩:=bd j
 obtain ⟨i,j⟩:=gd j
 refine iQ (A:=(Unit)×(Nat×HH×HH)) (fun _=>True) (fun a=>[(1,(sc A5 b D5)),(2,(pt b6 0)),(4,(pt Z 0)),(5,(iv (aH ((b.length:Int) - (v1.Dims.length:Int))))),(6,(pt a.2.1 0))]) (fun a=>aJ Z [(.slice none 0 0),(.slice none 0 0),(iv 0),(iv 0)] 96::aJ a.2.1 [(s3 a.2.2.1),(s3 a.2.2.2),(iv v1.Offset),(iv v1.Base)] 96::ow kT3 3 (s3 a.2.2.1) g::ow kT3 3 (s3 a.2.2.2) (List.replicate (b.length:Int).toNat (0:Int))::L) ?_ ?_
 refine dF 12 [] bP fun ht hn=>?_
 refine dR 0 R (vS R) ?_
 refine gR 2 [] ?_
 refine oq 5 [] ?_
 refine hT [1,4,10] (by kernel_rfl) R ⟨?_,?_,?_,trivial⟩
 refine lM (RR kT3 A5 D5 b::_::L) (fun w s=>(s.d 4 R)) ?_
 refine lC 1 jN R (Zu_ok M) R ?_
 rintro ⟨B,a2,u⟩
 refine aL 0 aB ?_
 rintro rfl
 refine aC (aG (sL [0]) (hT [4,10] (by kernel_rfl) R ⟨?_,?_,trivial⟩))
 refine fI (K:=kT3) (m:=(b.length:Int)) (z:=(0:Int)) R R bI cB jZ (Zr.zk zT3 f') (by decide) R R i.1 i.2.1 i.2.2 (fun l q=>(aC (aG (sL [1,0]) (dR 9 R (vz (.agg [(sc B g u),(sc l (List.replicate (b.length:Int).toNat (0:Int)) q),(iv v1.Offset),(iv v1.Base)].toArray) (aX fD cY R R)) (hS:=(sL [1,0])) (d1 10 R (bF R R cY (fun D=>(aC (aG (sL [2,1,0]) (d1 11 R (aK 0 R R cG R R R R R R (lN (aJ D [(sc B g u),(sc l (List.replicate (b.length:Int).toNat (0:Int)) q),(iv v1.Offset),(iv v1.Base)] 96::OO kT3 3 l q (List.replicate (b.length:Int).toNat (0:Int))::_::_::L) ?_))))))))))))
 refine aC (aG (sL [2,1,0]) (dD ?_))
 exact cS ((),(D,(B,g.length,u),(l,(List.replicate (b.length:Int).toNat (0:Int)).length,q))) trivial (aS R) (tE 4 [3,0,2,1])
 refine bF R R cY (fun D=>(aC (aG (sL [1,0]) (d1 4 R (fI (K:=kT3) (m:=(b.length:Int)) (z:=(0:Int)) R R bI cB jZ (Zr.zk zT3 f') (by decide) R R i.1 i.2.1 i.2.2 (fun l q=>(aC (aG (sL [2,1,0]) (dR 9 R (vz (.agg [(sc B g u),(sc l (List.replicate (b.length:Int).toNat (0:Int)) q),(iv v1.Offset),(iv v1.Base)].toArray) (aX fD cY R R)) (hS:=(sL [2,1,0])) (d1 11 R (aK 1 R R cG R R R R R R (lN (_::_::_::_::L) ?_))))))))))))
 refine aC (aG (sL [2,1,0]) (dD ?_))
 exact cS ((),(D,(B,g.length,u),(l,(List.replicate (b.length:Int).toNat (0:Int)).length,q))) trivial (aS R) (tE 4 [3,1,2,0])
 refine fI (K:=kT3) (m:=(b.length:Int)) (z:=(0:Int)) R R bI cB jZ (Zr.zk zT3 f') (by decide) R R i.1 i.2.1 i.2.2 (fun l q=>(aC (aG (sL [0]) (hT [1,10] (by kernel_rfl) R ⟨?_,?_,trivial⟩))))
 refine lM (RR kT3 A5 D5 b::_::_::L) (fun w s=>(s.d 5 R)) ?_
 refine lC 1 jN R (Zu_ok M) R ?_
 rintro ⟨B,a2,u⟩
 refine aL 0 aB ?_
 rintro rfl
 refine aC (aG (sL [1,0]) (dR 9 R (vz (.agg [(sc B g u),(sc l (List.replicate (b.length:Int).toNat (0:Int)) q),(iv v1.Offset),(iv v1.Base)].toArray) (aX fD cY R R)) (hS:=(sL [1,0])) (d1 10 R (bF R R cY (fun D=>(aC (aG (sL [2,1,0]) (d1 11 R (aK 0 R R cG R R R R R R (lN (aJ D [(sc B g u),(sc l (List.replicate (b.length:Int).toNat (0:Int)) q),(iv v1.Offset),(iv v1.Base)] 96::_::_::_::L) ?_))))))))))
 refine aC (aG (sL [2,1,0]) (dD ?_))
 exact cS ((),(D,(B,g.length,u),(l,(List.replicate (b.length:Int).toNat (0:Int)).length,q))) trivial (aS R) (tE 4 [3,0,1,2])
 refine bF R R cY (fun D=>(aC (aG (sL [1,0]) (d1 1 R (lM (RR kT3 A5 D5 b::_::_::_::L) (fun w s=>(s.d 6 R)) ?_)))))
 refine lC 1 jN R (Zu_ok M) R ?_
 rintro ⟨B,a2,u⟩
 refine aL 0 aB ?_
 rintro rfl
 refine aC (aG (sL [2,1,0]) (dR 9 R (vz (.agg [(sc B g u),(sc l (List.replicate (b.length:Int).toNat (0:Int)) q),(iv v1.Offset),(iv v1.Base)].toArray) (aX fD cY R R)) (hS:=(sL [2,1,0])) (d1 11 R (aK 1 R R cG R R R R R R (lN (_::aJ D [(sc B g u),(sc l (List.replicate (b.length:Int).toNat (0:Int)) q),(iv v1.Offset),(iv v1.Base)] 96::_::_::L) ?_)))))
 refine aC (aG (sL [2,1,0]) (dD ?_))
 exact cS ((),(D,(B,g.length,u),(l,(List.replicate (b.length:Int).toNat (0:Int)).length,q))) trivial (aS R) (tE 4 [3,1,0,2])
 refine bF R R cY (fun D=>(aC (aG (sL [0]) (hT [1,4] (by kernel_rfl) R ⟨?_,?_,trivial⟩))))
 refine lM (RR kT3 A5 D5 b::_::_::L) (fun w s=>(s.d 5 R)) ?_
 refine lC 1 jN R (Zu_ok M) R ?_
 rintro ⟨B,a2,u⟩
 refine aL 0 aB ?_
 rintro rfl
 refine aC (aG (sL [1,0]) (d1 4 R (fI (K:=kT3) (m:=(b.length:Int)) (z:=(0:Int)) R R bI cB jZ (Zr.zk zT3 f') (by decide) R R i.1 i.2.1 i.2.2 (fun l q=>(aC (aG (sL [2,1,0]) (dR 9 R (vz (.agg [(sc B g u),(sc l (List.replicate (b.length:Int).toNat (0:Int)) q),(iv v1.Offset),(iv v1.Base)].toArray) (aX fD cY R R)) (hS:=(sL [2,1,0])) (d1 11 R (aK 2 R R cG R R R R R R (lN (OO kT3 3 l q (List.replicate (b.length:Int).toNat (0:Int))::_::aJ D [(sc B g u),(sc l (List.replicate (b.length:Int).toNat (0:Int)) q),(iv v1.Offset),(iv v1.Base)] 96::_::L) ?_))))))))))
 refine aC (aG (sL [2,1,0]) (dD ?_))
 exact cS ((),(D,(B,g.length,u),(l,(List.replicate (b.length:Int).toNat (0:Int)).length,q))) trivial (aS R) (tE 4 [3,2,1,0])
 refine fI (K:=kT3) (m:=(b.length:Int)) (z:=(0:Int)) R R bI cB jZ (Zr.zk zT3 f') (by decide) R R i.1 i.2.1 i.2.2 (fun l q=>(aC (aG (sL [1,0]) (d1 1 R (lM (RR kT3 A5 D5 b::_::aJ D [(.slice none 0 0),(.slice none 0 0),(iv 0),(iv 0)] 96::_::L) (fun w s=>(s.d 6 R)) ?_)))))
 refine lC 1 jN R (Zu_ok M) R ?_
 rintro ⟨B,a2,u⟩
 refine aL 0 aB ?_
 rintro rfl
 refine aC (aG (sL [2,1,0]) (dR 9 R (vz (.agg [(sc B g u),(sc l (List.replicate (b.length:Int).toNat (0:Int)) q),(iv v1.Offset),(iv v1.Base)].toArray) (aX fD cY R R)) (hS:=(sL [2,1,0])) (d1 11 R (aK 2 R R cG R R R R R R (lN (_::_::aJ D [(sc B g u),(sc l (List.replicate (b.length:Int).toNat (0:Int)) q),(iv v1.Offset),(iv v1.Base)] 96::_::L) ?_)))))
 refine aC (aG (sL [2,1,0]) (dD ?_))
 exact cS ((),(D,(B,g.length,u),(l,(List.replicate (b.length:Int).toNat (0:Int)).length,q))) trivial (aS R) (tE 4 [3,2,0,1])
 rintro ⟨_,⟨O,⟨J,ak,F⟩,⟨G,al,E⟩⟩⟩ σ1 -
 refine hU 2 aB (fun (hn:ak=g.length)=>?_)
 subst hn
 refine hU 3 aB (fun (hn:al=(List.replicate (b.length:Int).toNat (0:Int)).length)=>?_)
 subst hn
 refine aU ?_
 refine aZ (A:=((List Int))×(Unit)) (fun a=>Z04_J3 v1 g a.1=some r) (fun a=>[(4,(pt Z 0)),(6,(pt O 0))]) (fun a=>aJ Z [(.slice none 0 0),(.slice none 0 0),(iv 0),(iv 0)] 96::aJ O [(sc J g F),(sc G (List.replicate (b.length:Int).toNat (0:Int)) E),(iv v1.Offset),(iv v1.Base)] 96::OO kT3 3 J F g::ow kT3 3 (.slice G (List.replicate (b.length:Int).toNat (0:Int)).length E) a.1::L) ?_ ?_
 refine bT ?_
 obtain ⟨e1,an,aa⟩:=bd j
 refine bD (A:=Unit) an (fun s a=>[(1,(sc A5 b D5)),(2,(pt b6 0)),(4,(pt Z 0)),(5,(iv (aH ((b.length:Int) - (v1.Dims.length:Int))))),(6,(pt O 0)),(7,(iv s.2))]) (fun s a=>aJ Z [(.slice none 0 0),(.slice none 0 0),(iv 0),(iv 0)] 96::aJ O [(sc J g F),(sc G (List.replicate (b.length:Int).toNat (0:Int)) E),(iv v1.Offset),(iv v1.Base)] 96::OO kT3 3 J F g::ow kT3 3 (.slice G (List.replicate (b.length:Int).toNat (0:Int)).length E) s.1::L) () (aS R) tI ?_
 rintro ⟨a1,T⟩ _ σ1 ae j a7
 dsimp only [Z04_L1] at j
 refine cP ?_
 rcases cO j with ⟨a4,j⟩|⟨a4,j⟩
 refine bG ?_
 refine aZ (A:=((List Int))×(Unit)) (fun a=>Z04_J2 T a.1=some ae) (fun a=>[(1,(sc A5 b D5)),(2,(pt b6 0)),(4,(pt Z 0)),(5,(iv (aH ((b.length:Int) - (v1.Dims.length:Int))))),(6,(pt O 0)),(7,(iv T))]) (fun a=>aJ Z [(.slice none 0 0),(.slice none 0 0),(iv 0),(iv 0)] 96::aJ O [(sc J g F),(sc G (List.replicate (b.length:Int).toNat (0:Int)) E),(iv v1.Offset),(iv v1.Base)] 96::OO kT3 3 J F g::ow kT3 3 (.slice G (List.replicate (b.length:Int).toNat (0:Int)).length E) a.1::L) ?_ ?_
 refine aP ?_
 obtain ⟨ab,j⟩:=gd j
 obtain ⟨ac,j⟩:=gd j
 refine bB 5 aA (show 0<v1.Dims.length by have:=ab; omega) (fun aq o47 ha=>?_)
 subst ha
 refine bB 7 aA (show 0<b.length by have:=ac; omega) (fun ar o50 ha=>?_)
 subst ha
 refine dF 13 [] bP fun ht hn=>?_
 refine ml 0 [] ?_
 refine dD (aI ?_)
 rcases cO j with ⟨a5,j⟩|⟨a5,j⟩
 refine bU ?_
 obtain ⟨a8,j⟩:=gd j
 obtain ⟨a0,j⟩:=gd j
 refine bB 6 aA (show 0<v1.Strides.length by have:=a8; omega) (fun ao o54 ha=>?_)
 subst ha
 refine bB 3 aB (show 0<(List.replicate (b.length:Int).toNat (0:Int)).length by have:=a0; omega) (fun a6 o57 ha=>?_)
 subst ha
 refine dF 12 [3] bP fun ht hn=>?_
 refine pc 0 [3] ?_
 refine d1 11 R (lM (ow kT3 3 (.slice (ad a6 o57) (List.replicate (b.length:Int).toNat (0:Int)).length E) a1::aJ _ _ _::aJ O [(sc J g F),(sc (ad a6 o57) (List.replicate (b.length:Int).toNat (0:Int)) E),(iv v1.Offset),(iv v1.Base)] 96::OO kT3 3 J F g::L) (tE 4 [3,0,1,2]) ?_)
 refine eA (K:=kT3) (x':=(ix v1.Strides T)) 0 (aH ((aH ((b.length:Int) - (v1.Dims.length:Int)))+T)) R R cB R R a0.1 a0.2 ?_ ?_
 exact fun I h s=>(fZ).put I h () (ix v1.Strides T) s
 refine aC (aG (sL [0]) (dD ?_))
 obtain ⟨ag,Y,j⟩:=bd j
 replace Y:=Option.some.inj Y
 refine qM (ow kT3 3 (.slice (ad a6 o57) (List.replicate (b.length:Int).toNat (0:Int)).length E) ag::_::_::_::L) (fun w s=>by rw [← Y]; exact s) ?_
 refine aU ?_
 exact qI (ag,()) j (tE 4 [1,2,3,0])
 refine bM R a5 ?_
 refine hN ?_
 rcases cO j with ⟨a3,j⟩|⟨a3,j⟩
 refine aP ?_
 refine lO (vz (.agg [(.slice none 0 0),(.slice none 0 0),(iv 0),(iv 0)].toArray) (aX fD cY R R)) (aK 0 R R cG R R R R R R (lN (_::aJ O [(sc J g F),(sc G (List.replicate (b.length:Int).toNat (0:Int)) E),(iv v1.Offset),(iv v1.Base)] 96::_::ow kT3 3 (.slice G (List.replicate (b.length:Int).toNat (0:Int)).length E) a1::L) ?_))
 refine bT ?_
 cases j
 obtain rfl:=a7 _ R
 have j:=aa
 refine aP ?_
 cases j
 exact qS ((none,0,0),(none,0,0)) (fun w s=>(((s.nilo kT3 3).nilo kT3 3).e 10 [1,0]))
 refine bM R a3 ?_
 refine aP ?_
 exact qI (a1,()) j tI
 rintro ⟨ap,_⟩ σ1 j
 dsimp only [Z04_J2] at j
 refine bZ ?_
 cases j
 exact qA () tI
 refine bM R a4 ?_
 refine aU ?_
 cases j
 obtain rfl:=a7 _ R
 have j:=aa
 refine aU ?_
 exact qI (a1,()) j tI
 rintro ⟨am,_⟩ σ1 j
 dsimp only [Z04_J3] at j
 refine aP ?_
 refine aK 0 R R cG R R R R R R (lN (aJ Z [(sc J g F),(sc G (List.replicate (b.length:Int).toNat (0:Int)) E),(iv v1.Offset),(iv v1.Base)] 96::_::_::ow kT3 3 (.slice G (List.replicate (b.length:Int).toNat (0:Int)).length E) am::L) ?_)
 refine aP ?_
 cases j
 exact qS ((J,g.length,F),(G,(List.replicate (b.length:Int).toNat (0:Int)).length,E)) (tE 8 [2,3])
theorem Z03_ok  {t1:Tensor}{v4:View}{r:Tensor}(i:Z03 t1 v4=some r) :
 FnOk Tryz.prog 82 [(.agg [(.slice A2 N2 D2),(.slice A3 N3 D3)].toArray),(.agg [(.slice A5 N5 D5),(.slice A6 N6 D6),(iv v4.Offset),(iv v4.Base)].toArray)] [aN kT3 (.slice A2 N2 D2) t1.Dims,aN kT3 (.slice A3 N3 D3) t1.Data,aN kT3 (.slice A5 N5 D5) v4.Dims,aN kT3 (.slice A6 N6 D6) v4.Strides] (fun (h:HH×HH)=>((.agg [(s3 h.1),(s3 h.2)].toArray),[ow kT3 3 (s3 h.1) r.Dims,ow kT3 3 (s3 h.2) r.Data])):=by
 unfold Z03 at i
 refine aQ Tryz.func82 R 51 R R fun C V=>?_
 refine cL 0 aA ?_
 rintro rfl
 refine cL 1 aA ?_
 rintro rfl
 refine cL 2 aA ?_
 rintro rfl
 refine cL 3 aA ?_
 rintro rfl
 let W0:=RR kT3 A2 D2 t1.Dims::RR kT3 A3 D3 t1.Data::RR kT3 A5 D5 v4.Dims::RR kT3 A6 D6 v4.Strides::V
 refine cN W0 ?_
 refine aU ?_
 refine eF R fun b7=>?_
 refine eF R fun b8=>?_
 refine bF R R dQ (fun L=>(aC ?_))
 let G:=aJ b8 [(sc A5 v4.Dims D5),(sc A6 v4.Strides D6),(iv v4.Offset),(iv v4.Base)] 96::aJ b7 [(sc A2 t1.Dims D2),(sc A3 t1.Data D3)] 58::W0
 refine aP ?_
 obtain ⟨Z,a7,i⟩:=bd i
 obtain ⟨a3,a4,i⟩:=bd i
 refine cQ [(2,(pt b7 0)),(3,(pt b8 0)),(4,(pt L 0)),(23,(.bool (((!Z)||(!a3))||(v4.Base != (t1.Data.length:Int)))))] (aJ L [(.slice none 0 0),(.slice none 0 0)] 58::G) ?_ ?_
 refine aU ?_
 refine lM _ (fun w s=>(((s.d 3 R).d 5 R).e 3 [1,0,2])) ?_
 refine lC 2 nz R (Zs_ok a7) R ?_
 rintro _
 refine aU ?_
 rcases bo (!Z) with F | F
 refine kj ?_
 exact qj tI
 refine bU ?_
 refine lM _ (fun w s=>(((s.d 5 R).d 7 R).e 3 [1,0,2])) ?_
 refine bX 2 R (cA F) lr R (Z9_ok (bN a4 (cT F))) R ?_
 rintro _
 refine aP ?_
 rcases bo ((!Z)||(!a3)) with a1 | a1
 refine cV ?_
 exact qj tI
 refine cV ?_
 exact qj tI
 rintro σ1
 refine bU ?_
 split at i
 refine aP ?_
 refine lO (vz (.agg [(.slice none 0 0),(.slice none 0 0)].toArray) (aX gN dQ R R)) (aK 0 R R bR R R R R R R (aC (aI (bY (cF ?_)))))
 cases i
 exact qS ((none,0,0),(none,0,0)) (fun w s=>(((s.nilo kT3 3).nilo kT3 3).e 9 [1,0]))
 refine bG ?_
 obtain ⟨j,a5,i⟩:=bd i
 refine aP ?_
 refine lM _ (fun w s=>(s.d 5 R)) ?_
 refine lC 1 jN R (Zu_ok a5) R ?_
 rintro ⟨l,aq,m⟩
 refine aL 0 aB ?_
 rintro rfl
 refine lO (vz (.agg [(sc l j m),(.slice none 0 0)].toArray) (aX gN dQ R R)) (bF R R dQ (fun u=>(aK 0 R R bR R R R R R R (lN (aJ u [(sc l j m),(.slice none 0 0)] 58::_::_::G) ?_))))
 refine aP ?_
 obtain ⟨b,a6,i⟩:=bd i
 refine aU ?_
 refine lM _ (fun w s=>(((s.d 7 R).d 9 R).e 5 [1,0,2,3,4])) ?_
 refine lC 2 qd R (Z0b_ok a6) R ?_
 rintro ⟨T,an,O⟩
 refine aL 0 aB ?_
 rintro rfl
 refine bG ?_
 refine aZ (A:=((List Int))×(HH)) (fun a=>Z03_J1 j a.1=some r) (fun a=>[(4,(pt L 0)),(5,(pt u 0))]) (fun a=>aJ L [(.slice none 0 0),(.slice none 0 0)] 58::aJ u [(sc l j m),(s3 a.2)] 58::OO kT3 3 l m j::ow kT3 3 (s3 a.2) a.1::G) ?_ ?_
 refine bT ?_
 obtain ⟨e1,ai,ac⟩:=bd i
 refine bD (A:=HH) ai (fun s a=>[(2,(pt b7 0)),(4,(pt L 0)),(5,(pt u 0)),(6,(sc T b O)),(7,(iv s.2))]) (fun s a=>aJ L [(.slice none 0 0),(.slice none 0 0)] 58::aJ u [(sc l j m),(s3 a)] 58::OO kT3 3 l m j::ow kT3 3 (s3 a) s.1::OO kT3 3 T O b::G) (none,0,0) (aS R) (fun w s=>((s.nilo kT3 3).e 5 [4,2,3,0,1])) ?_
 rintro ⟨q,g⟩ ⟨ae,ak,aa⟩ σ1 am i a8
 dsimp only [Z03_L1] at i
 refine bJ 3 aB (fun (hn:ak=q.length)=>?_)
 subst hn
 refine cU ?_
 rcases cO i with ⟨Y,i⟩|⟨Y,i⟩
 refine bZ ?_
 obtain ⟨a2,i⟩:=gd i
 obtain ⟨a0,i⟩:=gd i
 obtain ⟨U,i⟩:=gd i
 refine iQ (A:=(Unit)×(HH)) (fun _=>True) (fun a=>[(2,(pt b7 0)),(4,(pt L 0)),(5,(pt u 0)),(6,(sc T b O)),(7,(iv g))]) (fun a=>aJ L [(.slice none 0 0),(.slice none 0 0)] 58::aJ u [(sc l j m),(s3 a.2)] 58::OO kT3 3 l m j::ow kT3 3 (s3 a.2) (q++([(ix t1.Data (ix b g))]:List Int))::OO kT3 3 T O b::G) ?_ ?_
 refine bB 4 aB (show 0<b.length by have:=a2; omega) (fun ap o41 ha=>?_)
 subst ha
 refine bB 8 aA (show 0<t1.Data.length by have:=a0; omega) (fun ao o44 ha=>?_)
 subst ha
 refine dF 14 [3,1] bP fun ht hn=>?_
 refine oo 0 [3,1] ?_
 refine ug 2 [3,1] ?_
 refine hT [1,10] (by kernel_rfl) R ⟨?_,?_,trivial⟩
 refine lO (fW 1 cJ R R R) (aC (aG (sL [3,1]) (d1 10 R (bK (K:=kT3) (xs:=([(ix t1.Data (ix b g))]:List Int)) (vs:=[(iv (ix t1.Data (ix b g)))]) 0 R R bI cB f' R R R R R R ?_ R (fun ab ah=>?_)))))
 exact fun I h s=>(fZ).list [((),(ix t1.Data (ix b g)))] I h s
 refine aC (aG (sL [4,2,0]) (d1 11 R (lM _ (tE 6 [4,0,1,2,3,5]) ?_)))
 refine eB (K:=kT3) 17592186044416 R R bI cB jZ (Zr.zk zT3 f') R R R R R R dM U (fun D B=>(lN (OO kT3 3 D B (q++([(ix t1.Data (ix b g))]:List Int))::_::_::_::_::G) ?_))
 refine aC (aG (sL [2,0]) ?_)
 refine oo 12 [2,0] ?_
 refine d1 13 R (cK 2 R R fK R R R R R (lN (_::_::aJ u [(sc l j m),(sc D (q++([(ix t1.Data (ix b g))]:List Int)) B)] 58::_::_::G) ?_))
 refine aC (aG (sL [2,0]) (dD ?_))
 exact cS ((),(D,(q++([(ix t1.Data (ix b g))]:List Int)).length,B)) trivial (aS R) (tE 5 [1,2,3,0,4])
 refine bK (K:=kT3) (xs:=([(ix t1.Data (ix b g))]:List Int)) (vs:=[(iv (ix t1.Data (ix b g)))]) 0 R R bI cB f' R R R R R R ?_ R (fun ab ah=>?_)
 exact fun I h s=>(fZ).list [((),(ix t1.Data (ix b g)))] I h s
 refine aC (aG (sL [4,2,0]) (d1 1 R (lO (fW 2 cJ R R R) (aC (aG (sL [4,2,0]) (d1 11 R (lM _ (tE 6 [4,0,1,2,3,5]) ?_)))))))
 refine eB (K:=kT3) 17592186044416 R R bI cB jZ (Zr.zk zT3 f') R R R R R R dM U (fun D B=>(lN (OO kT3 3 D B (q++([(ix t1.Data (ix b g))]:List Int))::_::_::_::_::G) ?_))
 refine aC (aG (sL [2,0]) ?_)
 refine oo 12 [2,0] ?_
 refine d1 13 R (cK 2 R R fK R R R R R (lN (_::_::aJ u [(sc l j m),(sc D (q++([(ix t1.Data (ix b g))]:List Int)) B)] 58::_::_::G) ?_))
 refine aC (aG (sL [2,0]) (dD ?_))
 exact cS ((),(D,(q++([(ix t1.Data (ix b g))]:List Int)).length,B)) trivial (aS R) (tE 5 [1,2,3,0,4])
 rintro ⟨_,⟨ag,al,a9⟩⟩ σ1 -
 refine hU 3 aB (fun (hn:al=(q++([(ix t1.Data (ix b g))]:List Int)).length)=>?_)
 subst hn
 refine dG ?_
 cases i
 exact qA (ag,(q++([(ix t1.Data (ix b g))]:List Int)).length,a9) tI
 refine bM R Y ?_
 refine aU ?_
 cases i
 obtain rfl:=a8 _ R
 have i:=ac
 refine aU ?_
 exact qI (q,(ae,q.length,aa)) i (fun w s=>(s.f 5 [0,4]))
 rintro ⟨E,⟨J,aj,M⟩⟩ σ1 i
 dsimp only [Z03_J1] at i
 refine bJ 3 aB (fun (hn:aj=E.length)=>?_)
 subst hn
 refine aP ?_
 refine aK 0 R R bR R R R R R R (lN (aJ L [(sc l j m),(sc J E M)] 58::aJ u [(sc l j m),(sc J E M)] 58::_::OO kT3 3 J M E::G) ?_)
 refine aP ?_
 cases i
 exact qS ((l,j.length,m),(J,E.length,M)) (tE 10 [2,3])
theorem Z0a_ok  {v1:View}{j:(List Int)}{r:View}(g:Z0a v1 j=some r) :
 FnOk Tryz.prog 85 [(.agg [(.slice A2 N2 D2),(.slice A3 N3 D3),(iv v1.Offset),(iv v1.Base)].toArray),(.slice A5 N5 D5)] [aN kT3 (.slice A2 N2 D2) v1.Dims,aN kT3 (.slice A3 N3 D3) v1.Strides,aN kT3 (.slice A5 N5 D5) j] (fun (h:HH×HH)=>((.agg [(s3 h.1),(s3 h.2),(iv r.Offset),(iv r.Base)].toArray),[ow kT3 3 (s3 h.1) r.Dims,ow kT3 3 (s3 h.2) r.Strides])):=by
 unfold Z0a at g
 refine aQ Tryz.func85 R 77 R R fun C V=>?_
 refine cL 0 aA ?_
 rintro rfl
 refine cL 1 aA ?_
 rintro rfl
 refine cL 2 aA ?_
 rintro rfl
 let W0:=RR kT3 A2 D2 v1.Dims::RR kT3 A3 D3 v1.Strides::RR kT3 A5 D5 j::V
 refine cN W0 ?_
 refine aU ?_
 refine eF R fun b6=>?_
 refine bF R R cY (fun Y=>(aC ?_))
 let W1:=aJ b6 [(sc A2 v1.Dims D2),(sc A3 v1.Strides D3),(iv v1.Offset),(iv v1.Base)] 96::W0
 refine aP ?_
 obtain ⟨r8,aa,g⟩:=bd g
 obtain ⟨ai,a5,g⟩:=bd g
 obtain ⟨az,aj,g⟩:=bd g
 obtain ⟨b5,ar,g⟩:=bd g
 refine cQ [(1,(sc A5 j D5)),(2,(pt b6 0)),(4,(pt Y 0)),(24,(.bool (((!r8)||(!ai))||(az != b5))))] (aJ Y [(.slice none 0 0),(.slice none 0 0),(iv 0),(iv 0)] 96::W1) ?_ ?_
 rcases bo (!r8) with O | O
 refine dF 16 [] bP fun ht hn=>?_
 refine oo 0 [] ?_
 refine d1 1 R (lM _ (fun w s=>(((s.d 2 R).d 4 R).e 3 [1,0,2])) ?_)
 refine lC 2 lr R (Z9_ok aa) R ?_
 rintro _
 refine aC (aG (sL []) ?_)
 refine uk 2 [] ?_
 refine dD ?_
 exact qj tI
 rcases bo ((!r8)||(!ai)) with M | M
 refine dF 16 [] bP fun ht hn=>?_
 refine oo 0 [] ?_
 refine d1 1 R (lM _ (fun w s=>(((s.d 2 R).d 4 R).e 3 [1,0,2])) ?_)
 refine lC 2 lr R (Z9_ok aa) R ?_
 rintro _
 refine aC (aG (sL []) ?_)
 refine hX 2 [] ?_
 refine d1 5 R (lM _ (fun w s=>(s.d 4 R)) ?_)
 refine bX 1 R (cA O) kb R (Zo_ok (bN a5 (cT O))) R ?_
 rintro _
 refine aC (aG (sL []) ?_)
 refine qV 6 [] ?_
 refine dD ?_
 exact qj tI
 refine dF 16 [] bP fun ht hn=>?_
 refine oo 0 [] ?_
 refine d1 1 R (lM _ (fun w s=>(((s.d 2 R).d 4 R).e 3 [1,0,2])) ?_)
 refine lC 2 lr R (Z9_ok aa) R ?_
 rintro _
 refine aC (aG (sL []) ?_)
 refine hX 2 [] ?_
 refine d1 5 R (lM _ (fun w s=>(s.d 4 R)) ?_)
 refine bX 1 R (cA O) kb R (Zo_ok (bN a5 (cT O))) R ?_
 rintro _
 refine aC (aG (sL []) ?_)
 refine oq 6 [] ?_
 refine gR 11 [] ?_
 refine d1 10 R (lM _ (fun w s=>(s.d 4 R)) ?_)
 refine bX 1 R (cA M) ny R (Zw_ok (bN aj (cT M))) R ?_
 rintro _
 refine aC (aG (sL []) (d1 13 R (lM _ (fun w s=>(s.d 2 R)) ?_)))
 refine bX 1 R (cA M) ny R (Zw_ok (bN ar (cT M))) R ?_
 rintro _
 refine aC (aG (sL []) ?_)
 refine gR 14 [] ?_
 refine dD ?_
 exact qj tI
 rintro σ1
 refine bU ?_
 split at g
 refine aP ?_
 refine lO (vz (.agg [(.slice none 0 0),(.slice none 0 0),(iv 0),(iv 0)].toArray) (aX fD cY R R)) (aK 0 R R cG R R R R R R (aC (aI (bY (cF ?_)))))
 cases g
 exact qS ((none,0,0),(none,0,0)) (fun w s=>(((s.nilo kT3 3).nilo kT3 3).e 7 [1,0]))
 refine bG ?_
 obtain ⟨b,aw,g⟩:=bd g
 refine aU ?_
 refine lM _ (fun w s=>(((s.d 2 R).d 4 R).e 3 [1,0,2])) ?_
 refine lC 2 qd R (Z0b_ok aw) R ?_
 rintro ⟨u,bc,D⟩
 refine aL 0 aB ?_
 rintro rfl
 refine bG ?_
 obtain ⟨i,a3,g⟩:=bd g
 obtain ⟨aq,g⟩:=gd g
 refine iQ (A:=(Unit)×(Nat×HH)) (fun _=>True) (fun a=>[(1,(sc A5 j D5)),(4,(pt Y 0)),(5,(sc u b D)),(6,(pt a.2.1 0))]) (fun a=>aJ Y [(.slice none 0 0),(.slice none 0 0),(iv 0),(iv 0)] 96::OO kT3 3 u D b::aJ a.2.1 [(s3 a.2.2),(.slice none 0 0),(iv (ix b 0)),(iv v1.Base)] 96::ow kT3 3 (s3 a.2.2) i::W1) ?_ ?_
 refine bB 0 aB (show 0<b.length by have:=aq; omega) (fun be o27 ha=>?_)
 subst ha
 refine dF 10 [] bP fun ht hn=>?_
 refine dR 0 R (vS R) ?_
 refine kk 2 [] ?_
 refine hT [1,8] (by kernel_rfl) R ⟨?_,?_,trivial⟩
 refine lM _ (fun w s=>(s.d 5 R)) ?_
 refine lC 1 jN R (Zu_ok a3) R ?_
 rintro ⟨U,b2,T⟩
 refine aL 0 aB ?_
 rintro rfl
 refine aC (aG (sL [0]) (dR 7 R (vz (.agg [(sc U i T),(.slice none 0 0),(iv (ix b 0)),(iv v1.Base)].toArray) (aX fD cY R R)) (hS:=(sL [0])) (d1 8 R (bF R R cY (fun a1=>(aC (aG (sL [1,0]) (d1 9 R (aK 0 R R cG R R R R R R (lN (aJ a1 [(sc U i T),(.slice none 0 0),(iv (ix b 0)),(iv v1.Base)] 96::_::_::_::W1) ?_))))))))))
 refine aC (aG (sL [1,0]) (dD ?_))
 exact cS ((),(a1,(U,i.length,T))) trivial (aS R) (tE 4 [3,2,0,1])
 refine bF R R cY (fun a1=>(aC (aG (sL [0]) (d1 1 R (lM _ (fun w s=>(s.d 6 R)) ?_)))))
 refine lC 1 jN R (Zu_ok a3) R ?_
 rintro ⟨U,b2,T⟩
 refine aL 0 aB ?_
 rintro rfl
 refine aC (aG (sL [1,0]) (dR 7 R (vz (.agg [(sc U i T),(.slice none 0 0),(iv (ix b 0)),(iv v1.Base)].toArray) (aX fD cY R R)) (hS:=(sL [1,0])) (d1 9 R (aK 1 R R cG R R R R R R (lN (_::aJ a1 [(sc U i T),(.slice none 0 0),(iv (ix b 0)),(iv v1.Base)] 96::_::_::W1) ?_)))))
 refine aC (aG (sL [1,0]) (dD ?_))
 exact cS ((),(a1,(U,i.length,T))) trivial (aS R) (tE 4 [3,2,1,0])
 rintro ⟨_,⟨L,⟨m,b0,l⟩⟩⟩ σ1 -
 refine hU 3 aB (fun (hn:b0=i.length)=>?_)
 subst hn
 refine aU ?_
 refine aZ (A:=((List Int))×(HH)) (fun a=>Z0a_J3 v1 b i a.1=some r) (fun a=>[(4,(pt Y 0)),(5,(sc u b D)),(6,(pt L 0))]) (fun a=>aJ Y [(.slice none 0 0),(.slice none 0 0),(iv 0),(iv 0)] 96::OO kT3 3 u D b::aJ L [(sc m i l),(s3 a.2),(iv (ix b 0)),(iv v1.Base)] 96::OO kT3 3 m l i::ow kT3 3 (s3 a.2) a.1::W1) ?_ ?_
 refine bT ?_
 obtain ⟨e1,b9,b8⟩:=bd g
 refine bD (A:=HH) b9 (fun s a=>[(1,(sc A5 j D5)),(4,(pt Y 0)),(5,(sc u b D)),(6,(pt L 0)),(7,(iv s.2))]) (fun s a=>aJ Y [(.slice none 0 0),(.slice none 0 0),(iv 0),(iv 0)] 96::OO kT3 3 u D b::aJ L [(sc m i l),(s3 a),(iv (ix b 0)),(iv v1.Base)] 96::OO kT3 3 m l i::ow kT3 3 (s3 a) s.1::W1) (none,0,0) (aS R) (fun w s=>((s.nilo kT3 3).f 5 [1,4,0,1])) ?_
 rintro ⟨J,ab⟩ ⟨a9,ba,a7⟩ σ1 an g b4
 dsimp only [Z0a_L1] at g
 refine bJ 4 aB (fun (hn:ba=J.length)=>?_)
 subst hn
 refine cU ?_
 rcases cO g with ⟨a2,g⟩|⟨a2,g⟩
 refine hN ?_
 refine aZ (A:=(Int)×(Unit)) (fun a=>Z0a_J2 J ab a.1=some an) (fun a=>[(1,(sc A5 j D5)),(4,(pt Y 0)),(5,(sc u b D)),(6,(pt L 0)),(7,(iv ab)),(8,(iv a.1))]) (fun a=>aJ Y [(.slice none 0 0),(.slice none 0 0),(iv 0),(iv 0)] 96::OO kT3 3 u D b::aJ L [(sc m i l),(sc a9 J a7),(iv (ix b 0)),(iv v1.Base)] 96::OO kT3 3 m l i::OO kT3 3 a9 a7 J::W1) ?_ ?_
 refine bU ?_
 obtain ⟨ao,g⟩:=gd g
 refine aP ?_
 refine bA 8 aA (show 0<j.length by have:=ao; omega) (fun bb o53 ha=>?_)
 subst ha
 refine bZ ?_
 rcases cO g with ⟨a6,g⟩|⟨a6,g⟩
 refine bU ?_
 obtain ⟨a0,g⟩:=gd g
 obtain ⟨ay,au,g⟩:=bd g
 obtain ⟨ap,g⟩:=gd g
 refine bB 1 aB (show 0<b.length by have:=ap; omega) (fun bg o61 ha=>?_)
 subst ha
 refine dF 13 [] bP fun ht hn=>?_
 refine oq 0 [] ?_
 refine hX 8 [] ?_
 refine d1 4 R (gC (K:=kT3) (aH (ab+1)) (j.length:Int) 8 R R bI cB R R R R a0.1 a0.2.1 a0.2.2 (fun bj bi=>(aC (aG (sL [0]) (d1 5 R (lM _ (fun w s=>(s.d 0 R)) ?_))))))
 refine lC 1 ny R (Zw_ok au) R ?_
 rintro _
 refine aC (aG (sL [0]) ?_)
 refine gR 6 [0] ?_
 refine gR 11 [0] ?_
 refine dD ?_
 exact qI ((aH ((ix b ay) - (ix b 0))),()) g (fun w s=>(s.f 6 [1,5]))
 refine bM R a6 (dE ?_)
 exact qI ((0:Int),()) g tI
 rintro ⟨Z,_⟩ σ1 g
 dsimp only [Z0a_J2] at g
 obtain ⟨al,g⟩:=gd g
 refine bG ?_
 refine bK (K:=kT3) (xs:=([Z]:List Int)) (vs:=[(iv Z)]) 0 R R bI cB f' R R R R R R ?_ R (fun bh bf=>?_)
 exact fun I h s=>(fZ).list [((),Z)] I h s
 refine lM _ (fun w s=>(s.f 6 [5,1,0,5])) ?_
 refine eB (K:=kT3) 17592186044416 R R bI cB jZ (Zr.zk zT3 f') R R R R R R dM al (fun ac a8=>(lN (OO kT3 3 ac a8 (J++([Z]:List Int))::_::_::_::_::W1) ?_))
 refine bU ?_
 refine cK 3 R R fK R R R R R (lN (_::_::_::aJ L [(sc m i l),(sc ac (J++([Z]:List Int)) a8),(iv (ix b 0)),(iv v1.Base)] 96::_::W1) ?_)
 refine cV ?_
 cases g
 exact qA (ac,(J++([Z]:List Int)).length,a8) (fun w s=>(s.f 5 [1,4,0,1]))
 refine bM R a2 ?_
 refine aU ?_
 cases g
 obtain rfl:=b4 _ R
 have g:=b8
 refine aU ?_
 exact qI (J,(a9,J.length,a7)) g tI
 rintro ⟨q,⟨F,b3,G⟩⟩ σ1 g
 dsimp only [Z0a_J3] at g
 refine bJ 4 aB (fun (hn:b3=q.length)=>?_)
 subst hn
 refine aU ?_
 obtain ⟨ah,ag,g⟩:=bd g
 obtain ⟨ae,am,g⟩:=bd g
 obtain ⟨b1,av,g⟩:=bd g
 refine cQ [(4,(pt Y 0)),(6,(pt L 0)),(74,(.bool ((!ah)||(!b1))))] (aJ Y [(.slice none 0 0),(.slice none 0 0),(iv 0),(iv 0)] 96::aJ L [(sc m i l),(sc F q G),(iv (ix b 0)),(iv v1.Base)] 96::OO kT3 3 m l i::OO kT3 3 F G q::W1) ?_ ?_
 refine aU ?_
 refine lM _ (fun w s=>(s.f 5 [3,2,0,3])) ?_
 refine lC 2 lr R (FnOk.lends (A':=[OO kT3 3 m l i,OO kT3 3 F G q]) (A:=[RR kT3 m l i,RR kT3 F G q]) (B:=[]) (Z9_ok (v1:=(⟨i,q,(ix b 0),v1.Base⟩:View)) ag) ⟨aV,aV,trivial⟩ (fun _=>trivial)) R ?_
 rintro _
 refine aU ?_
 rcases bo (!ah) with E | E
 refine dG ?_
 exact qj (tE 5 [2,4,0,1])
 refine lW (cA E) (vz (.agg [(sc m i l),(sc F q G),(iv (ix b 0)),(iv v1.Base)].toArray) (dT 4 gI cG R R R R)) (bX 2 R (cA E) qd R (FnOk.lends (A':=[OO kT3 3 m l i,OO kT3 3 F G q]) (A:=[RR kT3 m l i,RR kT3 F G q]) (B:=[]) (Z0b_ok (v1:=(⟨i,q,(ix b 0),v1.Base⟩:View)) (bN am (cT E))) ⟨aV,aV,trivial⟩ (fun _=>⟨(bH iM),trivial⟩)) R ?_)
 rintro ⟨ak,bk,ax⟩
 refine aL 2 aB ?_
 rintro rfl
 refine bU ?_
 refine lM _ (tE 6 [2,4,0,1,3,5]) ?_
 refine bX 2 R (cA E) wQ R (FnOk.lends (A':=[OO kT3 3 ak ax ae,OO kT3 3 u D b]) (A:=[RR kT3 ak ax ae,RR kT3 u D b]) (B:=[]) (Z02_ok (bN av (cT E))) ⟨aV,aV,trivial⟩ (fun _=>trivial)) R ?_
 rintro _
 refine aP ?_
 exact qj (tE 6 [4,5,2,3])
 rintro σ1
 refine bU ?_
 rcases cO g with ⟨a4,g⟩|⟨a4,g⟩
 refine aP ?_
 refine lO (vz (.agg [(.slice none 0 0),(.slice none 0 0),(iv 0),(iv 0)].toArray) (aX fD cY R R)) (aK 0 R R cG R R R R R R (lN (_::_::_::_::W1) ?_))
 refine bG ?_
 cases g
 exact qS ((none,0,0),(none,0,0)) (fun w s=>(((s.nilo kT3 3).nilo kT3 3).e 10 [1,0]))
 refine bM R a4 ?_
 refine bZ ?_
 refine aK 0 R R cG R R R R R R (lN (aJ Y [(sc m i l),(sc F q G),(iv (ix b 0)),(iv v1.Base)] 96::_::_::_::W1) ?_)
 refine aP ?_
 cases g
 exact qS ((m,i.length,l),(F,q.length,G)) (tE 8 [2,3])
theorem Z29_ok  {v1:View}{a:Int}{r:Bool}(b:Z29 v1 a=some r) :
 FnOk Tryz.prog 119 [(.agg [(.slice A2 N2 D2),(.slice A3 N3 D3),(iv v1.Offset),(iv v1.Base)].toArray),(iv a)] [aN kT3 (.slice A2 N2 D2) v1.Dims,aN kT3 (.slice A3 N3 D3) v1.Strides] (fun (h:Unit)=>((.bool r),[])):=by
 unfold Z29 at b
 refine aQ Tryz.func119 R 18 R R fun C V=>?_
 refine cL 0 aA ?_
 rintro rfl
 refine cL 1 aA ?_
 rintro rfl
 let q:=RR kT3 A2 D2 v1.Dims::RR kT3 A3 D3 v1.Strides::V
 refine cN q ?_
 refine aU ?_
 refine eF R fun u=>?_
 refine aU ?_
 let j:=aJ u [(sc A2 v1.Dims D2),(sc A3 v1.Strides D3),(iv v1.Offset),(iv v1.Base)] 96::q
 refine qN j ?_
 refine aU ?_
 obtain ⟨g,i,b⟩:=bd b
 refine cQ [(4,(.bool ((g&&(decide (a≥0)))&&(decide (a<(v1.Dims.length:Int))))))] (j) ?_ ?_
 refine aU ?_
 refine lM _ (fun w s=>(((s.d 1 R).d 3 R).e 2 [1,0])) ?_
 refine lC 2 lr R (Z9_ok i) R ?_
 rintro _
 refine lN j ?_
 refine bU ?_
 rcases bo g with m | m
 refine bG ?_
 rcases bo (g&&(decide (a≥0))) with l | l
 refine cV ?_
 exact qj tI
 refine cV ?_
 exact qj tI
 refine hH ?_
 exact qj tI
 rintro σ1
 refine aU ?_
 cases b
 exact qF () (tE 3 [])
theorem Z2b_ok  {v1:View}{r:View}(a:Z2b v1=some r) :
 FnOk Tryz.prog 120 [(.agg [(.slice A2 N2 D2),(.slice A3 N3 D3),(iv v1.Offset),(iv v1.Base)].toArray)] [aN kT3 (.slice A2 N2 D2) v1.Dims,aN kT3 (.slice A3 N3 D3) v1.Strides] (fun (h:HH×HH)=>((.agg [(s3 h.1),(s3 h.2),(iv r.Offset),(iv r.Base)].toArray),[ow kT3 3 (s3 h.1) r.Dims,ow kT3 3 (s3 h.2) r.Strides])):=by
 unfold Z2b at a
 refine aQ Tryz.func120 R 14 R R fun C V=>?_
 refine cL 0 aA ?_
 rintro rfl
 refine cL 1 aA ?_
 rintro rfl
 let j:=RR kT3 A2 D2 v1.Dims::RR kT3 A3 D3 v1.Strides::V
 refine cN j ?_
 refine aU ?_
 refine eF R fun m=>?_
 refine bF R R cY (fun l=>(aC ?_))
 let q:=aJ m [(sc A2 v1.Dims D2),(sc A3 v1.Strides D3),(iv v1.Offset),(iv v1.Base)] 96::j
 refine aU ?_
 obtain ⟨g,i,a⟩:=bd a
 obtain ⟨e,b,a⟩:=bd a
 refine dF 12 [0] bP fun u B=>?_
 refine gR 0 [0] ?_
 refine gR 3 [0] ?_
 refine oq 6 [0] ?_
 refine d1 2 R (lM _ (fun w s=>(s.d 2 R)) ?_)
 refine lC 1 jN R (Zu_ok i) R ?_
 rintro ⟨A8,N8,D8⟩
 refine aL 0 aB ?_
 rintro rfl
 refine aC (aG (sL [1,0]) (d1 5 R (lM _ (fun w s=>(s.d 4 R)) ?_)))
 refine lC 1 jN R (Zu_ok b) R ?_
 rintro ⟨A11,N11,D11⟩
 refine aL 0 aB ?_
 rintro rfl
 refine aC (aG (sL [2,1,0]) (dR 10 R (vz (.agg [(sc A8 g D8),(sc A11 e D11),(iv v1.Offset),(iv v1.Base)].toArray) (aX fD cY R R)) (hS:=(sL [2,1,0])) (d1 11 R (aK 2 R R cG R R R R R R (lN (_::_::aJ l [(sc A8 g D8),(sc A11 e D11),(iv v1.Offset),(iv v1.Base)] 96::q) ?_)))))
 refine aC (aG (sL [2,1,0]) (dD ?_))
 refine aU ?_
 cases a
 exact qS ((A8,g.length,D8),(A11,e.length,D11)) (tE 6 [1,0])
theorem Z2c_ok  {v1:View}{r:View}(a:Z2c v1=some r) :
 FnOk Tryz.prog 121 [(.agg [(.slice A2 N2 D2),(.slice A3 N3 D3),(iv v1.Offset),(iv v1.Base)].toArray)] [aN kT3 (.slice A2 N2 D2) v1.Dims,aN kT3 (.slice A3 N3 D3) v1.Strides] (fun (h:HH×HH)=>((.agg [(s3 h.1),(s3 h.2),(iv r.Offset),(iv r.Base)].toArray),[aN kT3 (s3 h.1) r.Dims,aN kT3 (s3 h.2) r.Strides])):=by
 unfold Z2c at a
 refine aQ Tryz.func121 R 8 R R fun C V=>?_
 refine cL 0 aA ?_
 rintro rfl
 refine cL 1 aA ?_
 rintro rfl
 let g:=RR kT3 A2 D2 v1.Dims::RR kT3 A3 D3 v1.Strides::V
 refine cN g ?_
 refine aU ?_
 refine eF R fun j=>?_
 refine bF R R cY (fun i=>(aC ?_))
 let l:=aJ j [(sc A2 v1.Dims D2),(sc A3 v1.Strides D3),(iv v1.Offset),(iv v1.Base)] 96::g
 refine aP ?_
 obtain ⟨m,b,a⟩:=bd a
 refine aU ?_
 refine lM _ (fun w s=>(((s.d 2 R).d 4 R).e 3 [1,0,2])) ?_
 refine lC 2 lr R (Z9_ok b) R ?_
 rintro _
 refine aP ?_
 split at a
 refine aP ?_
 refine lO (vz (.agg [(.slice none 0 0),(.slice none 0 0),(iv 0),(iv 0)].toArray) (aX fD cY R R)) (aK 0 R R cG R R R R R R (aC (aI (bY (cF ?_)))))
 cases a
 exact qS ((none,0,0),(none,0,0)) (fun w s=>(((s.nilr kT3).nilr kT3).e 6 [1,0]))
 refine bT ?_
 refine aK 0 R R cG R R R R R R (lN (aJ i [(sc A2 v1.Dims D2),(sc A3 v1.Strides D3),(iv v1.Offset),(iv v1.Base)] 96::l) ?_)
 refine aP ?_
 cases a
 exact qS ((A2,v1.Dims.length,D2),(A3,v1.Strides.length,D3)) (tE 4 [2,3])
theorem Z1c_ok  {v1:View}{g:Int}{L:Int}{b:Int}{j:Int}{r:View}(J:Z1c v1 g L b j=some r) :
 FnOk Tryz.prog 86 [(.agg [(.slice A2 N2 D2),(.slice A3 N3 D3),(iv v1.Offset),(iv v1.Base)].toArray),(iv g),(iv L),(iv b),(iv j)] [aN kT3 (.slice A2 N2 D2) v1.Dims,aN kT3 (.slice A3 N3 D3) v1.Strides] (fun (h:HH×HH)=>((.agg [(.slice h.1.1 h.1.2.1 h.1.2.2),(.slice h.2.1 h.2.2.1 h.2.2.2),(iv r.Offset),(iv r.Base)].toArray),[aN kT3 (.slice h.1.1 h.1.2.1 h.1.2.2) r.Dims,aN kT3 (.slice h.2.1 h.2.2.1 h.2.2.2) r.Strides])):=by
 unfold Z1c at J
 refine aQ Tryz.func86 R 102 R R fun C V=>?_
 refine cN (_::_::V) ?_
 refine cL 0 aA ?_
 rintro rfl
 refine cL 1 aA ?_
 rintro rfl
 let W0:List HP:=RR kT3 A2 D2 v1.Dims::RR kT3 A3 D3 v1.Strides::V
 refine cN W0 ?_
 refine aO (aE (eF R (fun b8=>(bF R R cY (fun b9=>(aC ?_))))))
 let U:List HP:=aJ b8 [(sc A2 v1.Dims D2),(sc A3 v1.Strides D3),(iv v1.Offset),(iv v1.Base)] 96::W0
 refine qN (_::U) ?_
 refine aI (aO (aO ?_))
 obtain ⟨a0,al,J⟩:=bd J
 obtain ⟨a7,J⟩:=gd J
 refine cQ [(1,(iv g)),(2,(iv L)),(3,(iv b)),(4,(iv j)),(5,(pt b8 0)),(10,(pt b9 0)),(45,(.bool (((((((!a0)||(decide (b<(1:Int))))||(decide (b>(4096:Int))))||(decide (j<(-4096:Int))))||(decide (j>(4096:Int))))||(decide (L<(0:Int))))||(decide (L≥(ix v1.Dims g))))))] (aJ b9 [(.slice none 0 0),(.slice none 0 0),(iv 0),(iv 0)] 96::U) ?_ ?_
 refine aE (lO (vz (.agg [(sc A2 v1.Dims D2),(sc A3 v1.Strides D3),(iv v1.Offset),(iv v1.Base)].toArray) (dT 1 gI cG R R R R)) (lI R (lM (RR kT3 A2 D2 v1.Dims::RR kT3 A3 D3 v1.Strides::aJ _ _ _::U) (fun w s=>(((s.d 2 R).d 4 R).e 3 [1,0,2])) ?_)))
 refine lC 2 vD R (Z29_ok al) R ?_
 rintro _
 refine lN (_::U) ?_
 refine lO (rZ R) (lB R ?_)
 rcases bo (!a0) with l | l
 refine lf (dZ l) (lf (dZ l) (lO (fC (decide (b<(1:Int))) R l) (lB R (lf (dZ (oT l)) (lf (dZ (oT l)) (lO (fC (decide (b>(4096:Int))) R (oT l)) (lB R (lf (dZ (oT (oT l))) (lf (dZ (oT (oT l))) (lO (fC (decide (j<(-4096:Int))) R (oT (oT l))) (lB R (lf (dZ (oT (oT (oT l)))) (lf (dZ (oT (oT (oT l)))) (lO (fC (decide (j>(4096:Int))) R (oT (oT (oT l)))) (lB R (lf (dZ (oT (oT (oT (oT l))))) (lf (dZ (oT (oT (oT (oT l))))) (lO (fC (decide (L<(0:Int))) R (oT (oT (oT (oT l))))) (lB R (lf (dZ (oT (oT (oT (oT (oT l)))))) (lf (dZ (oT (oT (oT (oT (oT l)))))) (lf (dZ (oT (oT (oT (oT (oT l)))))) (lf (dZ (oT (oT (oT (oT (oT l)))))) (lf (dZ (oT (oT (oT (oT (oT l)))))) (lf (dZ (oT (oT (oT (oT (oT l)))))) (lf (dZ (oT (oT (oT (oT (oT l)))))) (lO (fC (decide (L≥(ix v1.Dims g))) R (oT (oT (oT (oT (oT l)))))) (aC ?_))))))))))))))))))))))))))))
 exact qJ (fun w s=>s)
 refine lW (cA l) (vI R) (lW (cA l) (mZ R R) (lO (fU R l R) (lB R ?_)))
 rcases bo ((!a0)||(decide (b<(1:Int)))) with m | m
 refine lf (dZ m) (lf (dZ m) (lO (fC (decide (b>(4096:Int))) R m) (lB R (lf (dZ (oT m)) (lf (dZ (oT m)) (lO (fC (decide (j<(-4096:Int))) R (oT m)) (lB R (lf (dZ (oT (oT m))) (lf (dZ (oT (oT m))) (lO (fC (decide (j>(4096:Int))) R (oT (oT m))) (lB R (lf (dZ (oT (oT (oT m)))) (lf (dZ (oT (oT (oT m)))) (lO (fC (decide (L<(0:Int))) R (oT (oT (oT m)))) (lB R (lf (dZ (oT (oT (oT (oT m))))) (lf (dZ (oT (oT (oT (oT m))))) (lf (dZ (oT (oT (oT (oT m))))) (lf (dZ (oT (oT (oT (oT m))))) (lf (dZ (oT (oT (oT (oT m))))) (lf (dZ (oT (oT (oT (oT m))))) (lf (dZ (oT (oT (oT (oT m))))) (lO (fC (decide (L≥(ix v1.Dims g))) R (oT (oT (oT (oT m))))) (aC ?_))))))))))))))))))))))))
 exact qJ (fun w s=>s)
 refine lW (cA m) (vI R) (lW (cA m) (yf R R) (lO (fU R m R) (lB R ?_)))
 rcases bo (((!a0)||(decide (b<(1:Int))))||(decide (b>(4096:Int)))) with q | q
 refine lf (dZ q) (lf (dZ q) (lO (fC (decide (j<(-4096:Int))) R q) (lB R (lf (dZ (oT q)) (lf (dZ (oT q)) (lO (fC (decide (j>(4096:Int))) R (oT q)) (lB R (lf (dZ (oT (oT q))) (lf (dZ (oT (oT q))) (lO (fC (decide (L<(0:Int))) R (oT (oT q))) (lB R (lf (dZ (oT (oT (oT q)))) (lf (dZ (oT (oT (oT q)))) (lf (dZ (oT (oT (oT q)))) (lf (dZ (oT (oT (oT q)))) (lf (dZ (oT (oT (oT q)))) (lf (dZ (oT (oT (oT q)))) (lf (dZ (oT (oT (oT q)))) (lO (fC (decide (L≥(ix v1.Dims g))) R (oT (oT (oT q)))) (aC ?_))))))))))))))))))))
 exact qJ (fun w s=>s)
 refine lW (cA q) (vI R) (lW (cA q) (mZ R R) (lO (fU R q R) (lB R ?_)))
 rcases bo ((((!a0)||(decide (b<(1:Int))))||(decide (b>(4096:Int))))||(decide (j<(-4096:Int)))) with D | D
 refine lf (dZ D) (lf (dZ D) (lO (fC (decide (j>(4096:Int))) R D) (lB R (lf (dZ (oT D)) (lf (dZ (oT D)) (lO (fC (decide (L<(0:Int))) R (oT D)) (lB R (lf (dZ (oT (oT D))) (lf (dZ (oT (oT D))) (lf (dZ (oT (oT D))) (lf (dZ (oT (oT D))) (lf (dZ (oT (oT D))) (lf (dZ (oT (oT D))) (lf (dZ (oT (oT D))) (lO (fC (decide (L≥(ix v1.Dims g))) R (oT (oT D))) (aC ?_))))))))))))))))
 exact qJ (fun w s=>s)
 refine lW (cA D) (vI R) (lW (cA D) (yf R R) (lO (fU R D R) (lB R ?_)))
 rcases bo (((((!a0)||(decide (b<(1:Int))))||(decide (b>(4096:Int))))||(decide (j<(-4096:Int))))||(decide (j>(4096:Int)))) with E | E
 refine lf (dZ E) (lf (dZ E) (lO (fC (decide (L<(0:Int))) R E) (lB R (lf (dZ (oT E)) (lf (dZ (oT E)) (lf (dZ (oT E)) (lf (dZ (oT E)) (lf (dZ (oT E)) (lf (dZ (oT E)) (lf (dZ (oT E)) (lO (fC (decide (L≥(ix v1.Dims g))) R (oT E)) (aC ?_))))))))))))
 exact qJ (fun w s=>s)
 refine lW (cA E) (vI R) (lW (cA E) (mZ R R) (lO (fU R E R) (lB R ?_)))
 rcases bo ((((((!a0)||(decide (b<(1:Int))))||(decide (b>(4096:Int))))||(decide (j<(-4096:Int))))||(decide (j>(4096:Int))))||(decide (L<(0:Int)))) with B | B
 refine lf (dZ B) (lf (dZ B) (lf (dZ B) (lf (dZ B) (lf (dZ B) (lf (dZ B) (lf (dZ B) (lO (fC (decide (L≥(ix v1.Dims g))) R B) (aC ?_))))))))
 exact qJ (fun w s=>s)
 refine lW (cA B) (vI R) (lW (cA B) (fP 0 gJ R) (lW (cA B) (fW 1 cJ R R R) (lW (cA B) (vI R) (bA 2 aA (show 0<v1.Dims.length by have:=(a7 B); omega) (fun aq o14 ha=>?_)))))
 subst ha
 refine lW (cA B) (eL bI cB R R (a7 B)) (lW (cA B) (gO 2 fQ aA R (a7 B)) (lW (cA B) (Ai R R) (lO (fU R B R) (aC ?_))))
 exact qJ (fun w s=>s)
 rintro σ1
 refine aI ?_
 rcases cO J with ⟨a3,J⟩|⟨a3,J⟩
 refine cC R a3 (aO (aE (lO (vz (.agg [(.slice none 0 0),(.slice none 0 0),(iv 0),(iv 0)].toArray) (aX fD cY R R)) (aK 0 R R cG R R R R R R (aC (aI (bY (cF ?_))))))))
 obtain rfl:=so J
 exact dI (vs:=[(.agg [(.slice none 0 0),(.slice none 0 0),(iv 0),(iv 0)].toArray)]) (.inl R) ((none,0,0),(none,0,0)) R ⟨⟨0,b9,_,_,R,R,.inl ⟨gI,cG,R⟩⟩,trivial⟩ R (fun w s=>(((s.nilr kT3).nilr kT3).e 6 [1,0]))
 refine bM R a3 (dE (aI (aO (aE (lI R (lI R (lO (wu R R) (lI R (lO (rB R R) (lO (kW R R) (lI R (aC (aI (aO (aO ?_)))))))))))))))
 obtain ⟨a9,J⟩:=gd J
 refine cQ [(1,(iv g)),(2,(iv L)),(3,(iv b)),(4,(iv j)),(5,(pt b8 0)),(10,(pt b9 0)),(63,(.bool ((decide ((aH (L+(aH ((aH (b - (1:Int)))*j))))<(0:Int)))||(decide ((aH (L+(aH ((aH (b - (1:Int)))*j))))≥(ix v1.Dims g))))))] (aJ b9 [(.slice none 0 0),(.slice none 0 0),(iv 0),(iv 0)] 96::U) ?_ ?_
 refine aE (lI R (lO (mZ R R) (lB R ?_)))
 rcases bo (decide ((aH (L+(aH ((aH (b - (1:Int)))*j))))<(0:Int))) with u | u
 refine lf (dZ u) (lf (dZ u) (lf (dZ u) (lf (dZ u) (lf (dZ u) (lf (dZ u) (lf (dZ u) (lO (fC (decide ((aH (L+(aH ((aH (b - (1:Int)))*j))))≥(ix v1.Dims g))) R u) (aC ?_))))))))
 exact qJ (fun w s=>s)
 refine lW (cA u) (vI R) (lW (cA u) (fP 0 gJ R) (lW (cA u) (fW 1 cJ R R R) (lW (cA u) (vI R) (bA 2 aA (show 0<v1.Dims.length by have:=(a9 u); omega) (fun ar o24 ha=>?_)))))
 subst ha
 refine lW (cA u) (eL bI cB R R (a9 u)) (lW (cA u) (gO 2 fQ aA R (a9 u)) (lW (cA u) (Ai R R) (lO (fU R u R) (aC ?_))))
 exact qJ (fun w s=>s)
 rintro σ1
 refine aI ?_
 rcases cO J with ⟨a4,J⟩|⟨a4,J⟩
 refine cC R a4 (aO (aE (lO (vz (.agg [(.slice none 0 0),(.slice none 0 0),(iv 0),(iv 0)].toArray) (aX fD cY R R)) (aK 0 R R cG R R R R R R (aC (aI (bY (cF ?_))))))))
 obtain rfl:=so J
 exact dI (vs:=[(.agg [(.slice none 0 0),(.slice none 0 0),(iv 0),(iv 0)].toArray)]) (.inl R) ((none,0,0),(none,0,0)) R ⟨⟨0,b9,_,_,R,R,.inl ⟨gI,cG,R⟩⟩,trivial⟩ R (fun w s=>(((s.nilr kT3).nilr kT3).e 6 [1,0]))
 refine bM R a4 (dE (aI (aO ?_)))
 obtain ⟨i,aj,J⟩:=bd J
 refine aE (lO (vz (.agg [(sc A2 v1.Dims D2),(sc A3 v1.Strides D3),(iv v1.Offset),(iv v1.Base)].toArray) (dT 1 gI cG R R R R)) (lM (RR kT3 A2 D2 v1.Dims::RR kT3 A3 D3 v1.Strides::aJ _ _ _::U) (fun w s=>(((s.d 2 R).d 4 R).e 3 [1,0,2])) ?_))
 refine lC 2 vE R (Z2b_ok aj) R ?_
 rintro ⟨⟨a6,ap,M⟩,⟨a2,ao,G⟩⟩
 refine lN (ow kT3 3 (.slice a6 ap M) i.Dims::ow kT3 3 (.slice a2 ao G) i.Strides::_::U) ?_
 refine aL 0 aB ?_
 rintro rfl
 refine aL 1 aB ?_
 rintro rfl
 refine bF R R cY (fun Z=>(aK 0 R R cG R R R R R R (lN (aJ Z [(sc a6 i.Dims M),(sc a2 i.Strides G),(iv i.Offset),(iv i.Base)] 96::_::_::_::U) ?_)))
 refine aC (aI (aO ?_))
 obtain ⟨F,J⟩:=gd J
 refine cQ [(1,(iv g)),(3,(iv b)),(4,(iv j)),(10,(pt b9 0)),(12,(pt Z 0))] (aJ b9 [(.slice none 0 0),(.slice none 0 0),(iv 0),(iv 0)] 96::aJ Z [(sc a6 i.Dims M),(sc a2 i.Strides G),(iv (aH (i.Offset+(aH (L*(ix i.Strides g)))))),(iv i.Base)] 96::OO kT3 3 a6 M i.Dims::OO kT3 3 a2 G i.Strides::U) ?_ ?_
 refine bB 2 aB (show 0<i.Strides.length by have:=F; omega) (fun ai o34 ha=>?_)
 subst ha
 refine dF 12 [0] bP (fun ht hn=>(dR 0 R (fP 2 nB R) (hS:=(sL [0])) (dR 2 R (vI R) (hS:=(sL [0])) (dR 3 R (fP 1 gA R) (hS:=(sL [0])) (dR 5 R (vI R) (hS:=(sL [0])) (hT [1,4] (by kernel_rfl) R ⟨?_,?_,trivial⟩))))))
 refine lO (fW 0 fQ R R R) (aC (aG (sL [0]) (d1 4 R (lO (fW 0 cJ R R R) (aC (aG (sL [0]) (dR 6 R (eL bI cB R R F) (hS:=(sL [0])) (dR 7 R (gO 1 fQ aB R F) (hS:=(sL [0])) (dR 8 R (rB R R) (hS:=(sL [0])) (dR 9 R (kW R R) (hS:=(sL [0])) (dR 10 R (fP 2 nB R) (hS:=(sL [0])) (d1 11 R (cK 0 R R cB R R R R R (lN (aJ Z [(sc a6 i.Dims M),(sc (ad ai o34) i.Strides G),(iv (aH (i.Offset+(aH (L*(ix i.Strides g)))))),(iv i.Base)] 96::_::OO kT3 3 (ad ai o34) G i.Strides::_::U) ?_))))))))))))))
 refine aC (aG (sL [0]) (dD ?_))
 exact qJ (fun w s=>(s.e 4 [3,0,1,2]))
 refine lO (fW 0 cJ R R R) (aC (aG (sL [0]) (dR 6 R (eL bI cB R R F) (hS:=(sL [0])) (dR 7 R (gO 1 fQ aB R F) (hS:=(sL [0])) (dR 8 R (rB R R) (hS:=(sL [0])) (d1 1 R (lO (fW 0 fQ R R R) (aC (aG (sL [0]) (dR 9 R (kW R R) (hS:=(sL [0])) (dR 10 R (fP 2 nB R) (hS:=(sL [0])) (d1 11 R (cK 0 R R cB R R R R R (aC (aG (sL [0]) (dD ?_))))))))))))))))
 exact qJ (fun w s=>(s.e 4 [3,0,1,2]))
 rintro σ1
 refine aI (aO ?_)
 obtain ⟨a1,J⟩:=gd J
 refine aE (lO (fP 0 gJ R) (lO (fW 1 cJ R R R) (lI R (lI R (bA 2 aB (show 0<i.Dims.length by have:=a1; omega) (fun Y o37 ha=>?_))))))
 subst ha
 refine lO (eL bI cB R R a1) (lM (OO kT3 3 (ad Y o37) M i.Dims::aJ _ _ _::aJ Z [(sc (ad Y o37) i.Dims M),(sc a2 i.Strides G),(iv (aH (i.Offset+(aH (L*(ix i.Strides g)))))),(iv i.Base)] 96::OO kT3 3 a2 G i.Strides::U) (fun w s=>(s.e 4 [2,0,1,3])) ?_)
 refine eA (K:=kT3) (x':=b) 0 g R R cB R R a1.1 a1.2 ?_ ?_
 exact fun I h s=>(fZ).put I h () b s
 refine lN (ow kT3 3 (.slice (ad Y o37) i.Dims.length M) (i.Dims.set g.toNat b)::_::_::_::U) ?_
 refine aC (aI (aO (bB 3 aB (show 0<i.Strides.length by have:=F; omega) (fun T o39 ha=>?_))))
 subst ha
 refine dF 12 [3] bP (fun ht hn=>(dR 0 R (fP 1 gA R) (hS:=(sL [3])) (dR 1 R (fW 2 cJ R R R) (hS:=(sL [3])) (dR 2 R (vI R) (hS:=(sL [3])) (dR 3 R (fP 1 gA R) (hS:=(sL [3])) (dR 4 R (fW 2 cJ R R R) (hS:=(sL [3])) (dR 5 R (vI R) (hS:=(sL [3])) (dR 6 R (eL bI cB R R F) (hS:=(sL [3])) (dR 8 R (vI R) (hS:=(sL [3])) (d1 7 R (lO (gO 3 fQ aB R F) (aC (aG (sL [3]) (dR 9 R (rB R R) (hS:=(sL [3])) (dR 10 R (eL bI cB R R F) (hS:=(sL [3])) (d1 11 R (lM (OO kT3 3 (ad T o39) G i.Strides::ow _ _ _ _::aJ _ _ _::aJ Z [(sc (ad Y o37) i.Dims M),(sc (ad T o39) i.Strides G),(iv (aH (i.Offset+(aH (L*(ix i.Strides g)))))),(iv i.Base)] 96::U) (fun w s=>(s.e 4 [3,0,1,2])) ?_)))))))))))))))))
 refine eA (K:=kT3) (x':=(aH ((ix i.Strides g)*j))) 0 g R R cB R R F.1 F.2 ?_ ?_
 exact fun I h s=>(fZ).put I h () (aH ((ix i.Strides g)*j)) s
 refine lN (ow kT3 3 (.slice (ad T o39) i.Strides.length G) (i.Strides.set g.toNat (aH ((ix i.Strides g)*j)))::_::_::_::U) ?_
 refine aC (aG (sL [0]) (dD ?_))
 obtain ⟨ah,a5,J⟩:=bd J
 replace a5:=Option.some.inj a5
 refine qM (ow kT3 3 (.slice (ad T o39) i.Strides.length G) ah::_::_::_::U) (fun w s=>by rw [← a5]; exact s) ?_
 refine aI (aO (aZ (A:=((List Int))×(Unit)) (fun a=>Z1c_J1 g L b i a.1=some r) (fun a=>[(10,(pt b9 0)),(12,(pt Z 0))]) (fun a=>aJ b9 [(.slice none 0 0),(.slice none 0 0),(iv 0),(iv 0)] 96::aJ Z [(sc (ad Y o37) i.Dims M),(sc (ad T o39) i.Strides G),(iv (aH (i.Offset+(aH (L*(ix i.Strides g)))))),(iv i.Base)] 96::ow kT3 3 (.slice (ad Y o37) i.Dims.length M) (i.Dims.set g.toNat b)::ow kT3 3 (.slice (ad T o39) i.Strides.length G) a.1::U) ?_ ?_))
 refine aO (aE (lI R (lO (ly R R) (aC (aI ?_)))))
 rcases cO J with ⟨a8,J⟩|⟨a8,J⟩
 refine cC R a8 (aE (lO (fP 1 gA R) (lO (fW 3 cJ R R R) (lI R (lO (eL bI cB R R F) (eA (K:=kT3) (x':=(0:Int)) 0 g R R cB R R F.1 F.2 ?_ ?_))))))
 exact fun I h s=>(fZ).put I h () (0:Int) s
 refine lN (ow kT3 3 (.slice (ad T o39) i.Strides.length G) (ah.set g.toNat (0:Int))::_::_::_::U) ?_
 refine aC ?_
 exact qI ((ah.set g.toNat (0:Int)),()) J (fun w s=>(s.e 4 [2,3,1,0]))
 refine bM R a8 (dE ?_)
 exact qI (ah,()) J (fun w s=>(s.e 4 [2,3,1,0]))
 rintro ⟨ab,_⟩ σ1 J
 replace J:Z1c_J1 g L b i ab=some r:=J
 unfold Z1c_J1 at J
 refine aO ?_
 obtain ⟨O,ak,J⟩:=bd J
 refine aE (lO (vz (.agg [(sc (ad Y o37) i.Dims M),(sc (ad T o39) i.Strides G),(iv (aH (i.Offset+(aH (L*(ix i.Strides g)))))),(iv i.Base)].toArray) (dT 1 gI cG R R R R)) (iP (fun w s=>s.shr 2 R) (iP (fun w s=>s.shr 3 R) (lM (aN kT3 (.slice (ad Y o37) i.Dims.length M) (i.Dims.set g.toNat b)::aN kT3 (.slice (ad T o39) i.Strides.length G) ab::aN kT3 (.slice (ad T o39) i.Strides.length G) ab::aN kT3 (.slice (ad Y o37) i.Dims.length M) (i.Dims.set g.toNat b)::aJ _ _ _::aJ _ _ _::U) (fun w s=>(((s.d 1 R).d 1 R).e 6 [1,0,2,3,4,5])) ?_))))
 refine lC 2 vF R (Z2c_ok (v1:=(⟨(i.Dims.set g.toNat b),ab,(aH (i.Offset+(aH (L*(ix i.Strides g))))),i.Base⟩:View)) ak) R ?_
 rintro ⟨⟨ac,an,ae⟩,⟨ag,am,aa⟩⟩
 refine lN (aN kT3 (.slice ac an ae) O.Dims::aN kT3 (.slice ag am aa) O.Strides::_::_::_::_::U) ?_
 refine aL 0 aA ?_
 rintro rfl
 refine aL 1 aA ?_
 rintro rfl
 refine aK 4 R R cG R R R R R R (lN (_::_::_::_::aJ b9 [(sc ac O.Dims ae),(sc ag O.Strides aa),(iv O.Offset),(iv O.Base)] 96::_::U) ?_)
 refine aC (aI (bY ?_))
 obtain rfl:=so J
 exact dI (vs:=[(.agg [(sc ac O.Dims ae),(sc ag O.Strides aa),(iv O.Offset),(iv O.Base)].toArray)]) (.inl R) ((ac,O.Dims.length,ae),(ag,O.Strides.length,aa)) R ⟨⟨4,b9,_,_,R,R,.inl ⟨gI,cG,R⟩⟩,trivial⟩ R (fun w s=>(s.e 9 [0,1]))
theorem Z1w_ok  {t1:Tensor}{a:(List Int)}{i:Int}{r:(List Int)}(g:Z1w t1 a i=some r) :
 FnOk Tryz.prog 123 [(.agg [(.slice A2 N2 D2),(.slice A3 N3 D3)].toArray),(.slice A5 N5 D5),(iv i)] [aN kT3 (.slice A2 N2 D2) t1.Dims,ow kT3 3 (.slice A3 N3 D3) t1.Data,aN kT3 (.slice A5 N5 D5) a] (fun (h:Unit)=>((.tuple [].toArray),[ow kT3 3 (.slice A3 N3 D3) r])):=by
 unfold Z1w at g
 refine aQ Tryz.func123 R 14 R R fun C V=>?_
 refine cM _ (tE 3 [1,0,2]) ?_
 refine cL 0 aB ?_
 rintro rfl
 refine cL 1 aA ?_
 rintro rfl
 refine cL 2 aA ?_
 rintro rfl
 let l:=RR kT3 A2 D2 t1.Dims::RR kT3 A5 D5 a::V
 refine aU ?_
 refine eF R fun B=>?_
 refine aC (qM _ (tE 2 [1,0]) ?_)
 let F:=aJ B [(sc A2 t1.Dims D2),(sc A3 t1.Data D3)] 58::l
 refine bU ?_
 obtain ⟨m,j,g⟩:=bd g
 obtain ⟨b,g⟩:=gd g
 refine bB 0 aB (show 0<t1.Data.length by have:=b; omega) (fun u o12 q=>?_)
 subst q
 refine dF 9 [0] bP fun D E=>?_
 refine kk 0 [0] ?_
 refine oo 6 [0] ?_
 refine d1 5 R (lM _ (fun w s=>(((s.d 2 R).d 4 R).e 3 [1,0,2])) ?_)
 refine lC 2 sw R (Z0n_ok j) R ?_
 rintro _
 refine aC (aG (sL [0]) ?_)
 refine oo 7 [0] ?_
 refine d1 8 R (eA (K:=kT3) (x':=i) 0 m R R cB R R b.1 b.2 ?_ ?_)
 exact fun I h s=>(fZ).put I h () i s
 refine aC (aG (sL [0]) (dD ?_))
 cases g
 exact Aj () (tE 4 [0])
theorem Z0v_ok  {t1:Tensor}{E:Int}{b:Int}{g:Int}{l:Int}{r:Tensor}(j:Z0v t1 E b g l=some r) :
 FnOk Tryz.prog 87 [(.agg [(.slice A2 N2 D2),(.slice A3 N3 D3)].toArray),(iv E),(iv b),(iv g),(iv l)] [aN kT3 (.slice A2 N2 D2) t1.Dims,aN kT3 (.slice A3 N3 D3) t1.Data] (fun (h:HH×HH)=>((.agg [(s3 h.1),(s3 h.2)].toArray),[ow kT3 3 (s3 h.1) r.Dims,ow kT3 3 (s3 h.2) r.Data])):=by
 unfold Z0v at j
 refine aQ Tryz.func87 R 101 R R fun C V=>?_
 refine cL 0 aA ?_
 rintro rfl
 refine cL 1 aA ?_
 rintro rfl
 let W0:=RR kT3 A2 D2 t1.Dims::RR kT3 A3 D3 t1.Data::V
 refine cN W0 ?_
 refine aU ?_
 refine eF R fun b8=>?_
 refine bF R R dQ (fun Y=>(aC ?_))
 let W1:=aJ b8 [(sc A2 t1.Dims D2),(sc A3 t1.Data D3)] 58::W0
 refine aP ?_
 obtain ⟨F,aj,j⟩:=bd j
 refine cQ [(1,(iv E)),(2,(iv b)),(3,(iv g)),(4,(iv l)),(5,(pt b8 0)),(10,(pt Y 0)),(43,(.bool (((((((!F)||(decide (b<0)))||(decide (b>4096)))||(decide (g<0)))||(decide (g>4096)))||(decide (l<0)))||(decide (l>4096)))))] (aJ Y [(.slice none 0 0),(.slice none 0 0)] 58::W1) ?_ ?_
 refine aP ?_
 refine lM _ (fun w s=>(((s.d 2 R).d 4 R).e 3 [1,0,2])) ?_
 refine lC 2 oC R (Z1i_ok aj) R ?_
 rintro _
 refine aU ?_
 rcases bo (!F) with a8 | a8
 refine yp ?_
 exact qj tI
 refine bG ?_
 rcases bo ((!F)||(decide (b<0))) with ai | ai
 refine AB ?_
 exact qj tI
 refine bG ?_
 rcases bo (((!F)||(decide (b<0)))||(decide (b>4096))) with ac | ac
 refine wA ?_
 exact qj tI
 refine bG ?_
 rcases bo ((((!F)||(decide (b<0)))||(decide (b>4096)))||(decide (g<0))) with a3 | a3
 refine hH ?_
 exact qj tI
 refine bG ?_
 rcases bo (((((!F)||(decide (b<0)))||(decide (b>4096)))||(decide (g<0)))||(decide (g>4096))) with a9 | a9
 refine cV ?_
 exact qj tI
 refine bG ?_
 rcases bo ((((((!F)||(decide (b<0)))||(decide (b>4096)))||(decide (g<0)))||(decide (g>4096)))||(decide (l<0))) with a4 | a4
 refine bG ?_
 exact qj tI
 refine bG ?_
 exact qj tI
 rintro σ1
 refine bU ?_
 split at j
 refine aP ?_
 refine lO (vz (.agg [(.slice none 0 0),(.slice none 0 0)].toArray) (aX gN dQ R R)) (aK 0 R R bR R R R R R R (aC (aI (bY (cF ?_)))))
 cases j
 exact qS ((none,0,0),(none,0,0)) (fun w s=>(((s.nilo kT3 3).nilo kT3 3).e 6 [1,0]))
 refine bG ?_
 obtain ⟨a0,j⟩:=gd j
 refine bG ?_
 refine bA 2 aA (show 0<t1.Dims.length by have:=a0; omega) (fun aq o21 ha=>?_)
 subst ha
 refine bT ?_
 obtain ⟨L,aa,j⟩:=bd j
 refine oi ?_
 refine lM _ (fun w s=>(s.d 2 R)) ?_
 refine lC 1 kF R (Z0j_ok aa) R ?_
 rintro ⟨M,ap,J⟩
 refine aL 0 aB ?_
 rintro rfl
 refine bZ ?_
 obtain ⟨av,ah,j⟩:=bd j
 refine aU ?_
 refine lC 1 kb R (FnOk.lends (A':=[OO kT3 3 M J L]) (A:=[RR kT3 M J L]) (B:=[]) (Zo_ok ah) ⟨aV,trivial⟩ (fun _=>trivial)) R ?_
 rintro _
 refine aP ?_
 split at j
 refine aP ?_
 refine lO (vz (.agg [(.slice none 0 0),(.slice none 0 0)].toArray) (aX gN dQ R R)) (aK 1 R R bR R R R R R R (aC (aI (bY (cF ?_)))))
 cases j
 exact qS ((none,0,0),(none,0,0)) (fun w s=>(((s.nilo kT3 3).nilo kT3 3).e 7 [1,0]))
 refine bG ?_
 obtain ⟨i,a2,j⟩:=bd j
 refine aU ?_
 refine lC 1 nA R (FnOk.lends (A':=[OO kT3 3 M J L]) (A:=[RR kT3 M J L]) (B:=[]) (Z0i_ok a2) ⟨aV,trivial⟩ (fun _=>⟨(bH iM),(bH iM),trivial⟩)) R ?_
 rintro ⟨⟨D,ay,q⟩,⟨m,az,u⟩⟩
 refine aL 1 aB ?_
 rintro rfl
 refine aL 2 aB ?_
 rintro rfl
 refine bF R R dQ (fun G=>(aK 0 R R bR R R R R R R (lN (aJ G [(sc D i.Dims q),(sc m i.Data u)] 58::_::_::_::_::W1) ?_)))
 refine aP ?_
 refine aZ (A:=((List Int))×(Unit)) (fun a=>Z0v_J1 i a.1=some r) (fun a=>[(10,(pt Y 0)),(13,(pt G 0))]) (fun a=>aJ Y [(.slice none 0 0),(.slice none 0 0)] 58::aJ G [(sc D i.Dims q),(sc m i.Data u)] 58::OO kT3 3 D q i.Dims::ow kT3 3 (.slice m i.Data.length u) a.1::W1) ?_ ?_
 refine bT ?_
 obtain ⟨e1,an,am⟩:=bd j
 refine bD (A:=Unit) an (fun s a=>[(1,(iv E)),(2,(iv b)),(4,(iv l)),(5,(pt b8 0)),(10,(pt Y 0)),(13,(pt G 0)),(14,(iv s.2))]) (fun s a=>aJ Y [(.slice none 0 0),(.slice none 0 0)] 58::aJ G [(sc D i.Dims q),(sc m i.Data u)] 58::OO kT3 3 D q i.Dims::ow kT3 3 (.slice m i.Data.length u) s.1::W1) () (aS R) (tE 5 [4,0,2,3]) ?_
 rintro ⟨I,au⟩ _ σ1 ao j al
 dsimp only [Z0v_L1] at j
 refine cP ?_
 split at j
 refine bT ?_
 obtain ⟨U,a6,j⟩:=bd j
 refine bG ?_
 refine lM _ (fun w s=>(s.d 5 R)) ?_
 refine lC 1 ln R (Zj_ok a6) R ?_
 rintro ⟨ar,b0,ab⟩
 refine aL 0 aB ?_
 rintro rfl
 refine aP ?_
 obtain ⟨ae,j⟩:=gd j
 obtain ⟨O,a5,j⟩:=bd j
 obtain ⟨a7,j⟩:=gd j
 obtain ⟨aw,ag,j⟩:=bd j
 refine bB 0 aB (show 0<U.length by have:=ae; omega) (fun a1 o56 ha=>?_)
 subst ha
 refine bB 7 aA (show 0<t1.Data.length by have:=a7; omega) (fun ax o62 ha=>?_)
 subst ha
 refine dF 19 [4] bP fun ht hn=>?_
 refine uh 0 [4] ?_
 refine kk 13 [4] ?_
 refine d1 12 R (lC 1 kF R (FnOk.lends (A':=[OO kT3 3 (ad a1 o56) ab U]) (A:=[RR kT3 (ad a1 o56) ab U]) (B:=[]) (Z0j_ok a5) ⟨aV,trivial⟩ (fun _=>⟨(bH iM),trivial⟩)) R ?_)
 rintro ⟨T,b1,Z⟩
 refine aL 1 aB ?_
 rintro rfl
 refine aC (aG (sL [5,1]) (d1 18 R (lM _ (tE 6 [4,1,5,0,2,3]) ?_)))
 refine lC 3 sx R (FnOk.lends (A':=[OO kT3 3 D q i.Dims,OO kT3 3 T Z O]) (A:=[RR kT3 D q i.Dims,RR kT3 T Z O]) (B:=[ow kT3 3 (.slice m i.Data.length u) I]) (FnOk.perm (Z1w_ok (t1:=(⟨i.Dims,I⟩:Tensor)) ag) (Pre':=[RR kT3 D q i.Dims,RR kT3 T Z O,ow kT3 3 (.slice m i.Data.length u) I]) (fun _ _ _ s=>(s.e 3 [0,2,1]))) ⟨aV,aV,trivial⟩ (fun _=>⟨(bH iM),trivial⟩)) R ?_
 rintro _
 refine aC (aG (tE 6 [3,4,5,0]) (dD ?_))
 refine dG ?_
 cases j
 exact qA () (tE 6 [4,5,0,2])
 refine aP ?_
 cases j
 obtain rfl:=al _ R
 have j:=am
 refine aU ?_
 exact qI (I,()) j tI
 rintro ⟨ak,_⟩ σ1 j
 dsimp only [Z0v_J1] at j
 refine aP ?_
 refine aK 0 R R bR R R R R R R (lN (aJ Y [(sc D i.Dims q),(sc m i.Data u)] 58::_::_::ow kT3 3 (.slice m i.Data.length u) ak::W1) ?_)
 refine aP ?_
 cases j
 exact qS ((D,i.Dims.length,q),(m,i.Data.length,u)) (tE 7 [2,3])
theorem Z0u_ok  {t1:Tensor}{q:Int}{b:(List Int)}{r:Tensor}(g:Z0u t1 q b=some r) :
 FnOk Tryz.prog 88 [(.agg [(.slice A2 N2 D2),(.slice A3 N3 D3)].toArray),(iv q),(.slice A6 N6 D6)] [aN kT3 (.slice A2 N2 D2) t1.Dims,aN kT3 (.slice A3 N3 D3) t1.Data,aN kT3 (.slice A6 N6 D6) b] (fun (h:HH×HH)=>((.agg [(s3 h.1),(s3 h.2)].toArray),[ow kT3 3 (s3 h.1) r.Dims,ow kT3 3 (s3 h.2) r.Data])):=by
 unfold Z0u at g
 refine aQ Tryz.func88 R 70 R R fun C V=>?_
 refine cL 0 aA ?_
 rintro rfl
 refine cL 1 aA ?_
 rintro rfl
 refine cL 2 aA ?_
 rintro rfl
 let W0:=RR kT3 A2 D2 t1.Dims::RR kT3 A3 D3 t1.Data::RR kT3 A6 D6 b::V
 refine cN W0 ?_
 refine aU ?_
 refine eF R fun b7=>?_
 refine bF R R dQ (fun O=>(aC ?_))
 let W1:=aJ b7 [(sc A2 t1.Dims D2),(sc A3 t1.Data D3)] 58::W0
 refine aP ?_
 obtain ⟨r9,aa,g⟩:=bd g
 obtain ⟨M,g⟩:=gd g
 obtain ⟨aj,a2,g⟩:=bd g
 refine cQ [(1,(iv q)),(2,(sc A6 b D6)),(3,(pt b7 0)),(6,(pt O 0)),(29,(.bool (((!r9)||((b.length:Int)==0))||(!aj))))] (aJ O [(.slice none 0 0),(.slice none 0 0)] 58::W1) ?_ ?_
 refine aP ?_
 refine lM _ (fun w s=>(((s.d 2 R).d 4 R).e 3 [1,0,2])) ?_
 refine lC 2 oC R (Z1i_ok aa) R ?_
 rintro _
 refine aU ?_
 rcases bo (!r9) with a4 | a4
 refine oj ?_
 exact qj tI
 refine bZ ?_
 rcases bo ((!r9)||((b.length:Int)==0)) with j | j
 refine cP ?_
 exact qj tI
 refine bG ?_
 refine bA 2 aA (show 0<t1.Dims.length by have:=(M j); omega) (fun ap o13 ha=>?_)
 subst ha
 refine lW (cA j) (eL bI cB R R (M j)) (lW (cA j) (gO 2 fQ aA R (M j)) (lM _ (fun w s=>(s.d 4 R)) ?_))
 refine bX 1 R (cA j) um R (Z0k_ok (bN a2 (cT j))) R ?_
 rintro _
 refine aP ?_
 exact qj tI
 rintro σ1
 refine bU ?_
 split at g
 refine aP ?_
 refine lO (vz (.agg [(.slice none 0 0),(.slice none 0 0)].toArray) (aX gN dQ R R)) (aK 0 R R bR R R R R R R (aC (aI (bY (cF ?_)))))
 cases g
 exact qS ((none,0,0),(none,0,0)) (fun w s=>(((s.nilo kT3 3).nilo kT3 3).e 7 [1,0]))
 refine bG ?_
 obtain ⟨D,a9,g⟩:=bd g
 refine bT ?_
 refine lM _ (fun w s=>(s.d 2 R)) ?_
 refine lC 1 kF R (Z0j_ok a9) R ?_
 rintro ⟨u,ao,E⟩
 refine aL 0 aB ?_
 rintro rfl
 refine bZ ?_
 obtain ⟨av,a5,g⟩:=bd g
 refine aU ?_
 refine lC 1 kb R (FnOk.lends (A':=[OO kT3 3 u E D]) (A:=[RR kT3 u E D]) (B:=[]) (Zo_ok a5) ⟨aV,trivial⟩ (fun _=>trivial)) R ?_
 rintro _
 refine aP ?_
 split at g
 refine aP ?_
 refine lO (vz (.agg [(.slice none 0 0),(.slice none 0 0)].toArray) (aX gN dQ R R)) (aK 1 R R bR R R R R R R (aC (aI (bY (cF ?_)))))
 cases g
 exact qS ((none,0,0),(none,0,0)) (fun w s=>(((s.nilo kT3 3).nilo kT3 3).e 8 [1,0]))
 refine bG ?_
 obtain ⟨i,ae,g⟩:=bd g
 refine aU ?_
 refine lC 1 nA R (FnOk.lends (A':=[OO kT3 3 u E D]) (A:=[RR kT3 u E D]) (B:=[]) (Z0i_ok ae) ⟨aV,trivial⟩ (fun _=>⟨(bH iM),(bH iM),trivial⟩)) R ?_
 rintro ⟨⟨G,aq,F⟩,⟨m,aw,l⟩⟩
 refine aL 1 aB ?_
 rintro rfl
 refine aL 2 aB ?_
 rintro rfl
 refine bF R R dQ (fun L=>(aK 0 R R bR R R R R R R (lN (aJ L [(sc G i.Dims F),(sc m i.Data l)] 58::_::_::_::_::W1) ?_)))
 refine aP ?_
 refine aZ (A:=((List Int))×(Unit)) (fun a=>Z0u_J1 i a.1=some r) (fun a=>[(6,(pt O 0)),(8,(pt L 0))]) (fun a=>aJ O [(.slice none 0 0),(.slice none 0 0)] 58::aJ L [(sc G i.Dims F),(sc m i.Data l)] 58::OO kT3 3 G F i.Dims::ow kT3 3 (.slice m i.Data.length l) a.1::W1) ?_ ?_
 refine bT ?_
 obtain ⟨e1,am,al⟩:=bd g
 refine bD (A:=Unit) am (fun s a=>[(1,(iv q)),(2,(sc A6 b D6)),(3,(pt b7 0)),(6,(pt O 0)),(7,(sc u D E)),(8,(pt L 0)),(9,(iv s.2))]) (fun s a=>aJ O [(.slice none 0 0),(.slice none 0 0)] 58::OO kT3 3 u E D::aJ L [(sc G i.Dims F),(sc m i.Data l)] 58::OO kT3 3 G F i.Dims::ow kT3 3 (.slice m i.Data.length l) s.1::W1) () (aS R) (tE 5 [4,1,0,2,3]) ?_
 rintro ⟨ag,ai⟩ _ σ1 an g ah
 dsimp only [Z0u_L1] at g
 refine cP ?_
 split at g
 refine bT ?_
 obtain ⟨Z,a3,g⟩:=bd g
 refine aP ?_
 refine lM _ (tE 5 [1,0,2,3,4]) ?_
 refine lC 1 ln R (FnOk.lends (A':=[OO kT3 3 u E D]) (A:=[RR kT3 u E D]) (B:=[]) (Zj_ok a3) ⟨aV,trivial⟩ (fun _=>⟨(bH iM),trivial⟩)) R ?_
 rintro ⟨ar,ay,a7⟩
 refine aL 1 aB ?_
 rintro rfl
 refine aP ?_
 obtain ⟨a8,g⟩:=gd g
 obtain ⟨a1,g⟩:=gd g
 obtain ⟨Y,ab,g⟩:=bd g
 obtain ⟨a6,ac,g⟩:=bd g
 obtain ⟨J,g⟩:=gd g
 refine bB 1 aB (show 0<Z.length by have:=a8; omega) (fun a0 o56 ha=>?_)
 subst ha
 refine bB 9 aA (show 0<b.length by have:=a1; omega) (fun az o59 ha=>?_)
 subst ha
 refine bB 5 aB (show 0<i.Data.length by have:=J; omega) (fun ax o67 ha=>?_)
 subst ha
 refine dF 17 [5] bP fun ht hn=>?_
 refine ml 0 [5] ?_
 refine d1 13 R (lM _ (tE 6 [1,0,2,3,4,5]) ?_)
 refine lC 1 kF R (FnOk.lends (A':=[OO kT3 3 (ad a0 o56) a7 Z]) (A:=[RR kT3 (ad a0 o56) a7 Z]) (B:=[]) (Z0j_ok ab) ⟨aV,trivial⟩ (fun _=>⟨(bH iM),trivial⟩)) R ?_
 rintro ⟨U,au,T⟩
 refine aL 1 aB ?_
 rintro rfl
 refine aC (aG (tE 7 [2,0,3,4,5]) (d1 14 R (lM _ (fun w s=>(((s.d 8 R).d 10 R).e 9 [3,1,0,2,4,5,6,7,8])) ?_)))
 refine lC 3 m' R (FnOk.lends (A':=[OO kT3 3 U T Y]) (A:=[RR kT3 U T Y]) (B:=[RR kT3 A2 D2 t1.Dims,RR kT3 A3 D3 t1.Data]) (FnOk.perm (Z19_ok ac) (Pre':=[RR kT3 U T Y,RR kT3 A2 D2 t1.Dims,RR kT3 A3 D3 t1.Data]) (fun _ _ _ s=>(s.e 3 [1,2,0]))) ⟨aV,trivial⟩ (fun _=>trivial)) R ?_
 rintro _
 refine aC (aG (tE 7 [2,1,3,4,5]) (dR 15 R (eL bI cB R R J) (hS:=(tE 7 [2,1,3,4,5])) (d1 16 R (lM _ (fun w s=>(s.f 7 [6,1,0,6])) ?_))))
 refine eA (K:=kT3) (x':=a6) 0 ai R R cB R R J.1 J.2 ?_ ?_
 exact fun I h s=>(fZ).put I h () a6 s
 refine aC (aG (tE 7 [3,2,4,5,6]) (dD ?_))
 refine dG ?_
 cases g
 exact qA () (tE 7 [4,3,5,6,0])
 refine aP ?_
 cases g
 obtain rfl:=ah _ R
 have g:=al
 refine aU ?_
 exact qI (ag,()) g (tE 5 [0,2,3,4])
 rintro ⟨ak,_⟩ σ1 g
 dsimp only [Z0u_J1] at g
 refine aP ?_
 refine aK 0 R R bR R R R R R R (lN (aJ O [(sc G i.Dims F),(sc m i.Data l)] 58::aJ L [(sc G i.Dims F),(sc m i.Data l)] 58::_::ow kT3 3 (.slice m i.Data.length l) ak::W1) ?_)
 refine aP ?_
 cases g
 exact qS ((G,i.Dims.length,F),(m,i.Data.length,l)) (tE 8 [2,3])
theorem Z0w_ok  {t1:Tensor}{j:Int}{i:(List Int)}{n7:Int}{r:Tensor}(g:Z0w t1 j i n7=some r) :
 FnOk Tryz.prog 89 [(.agg [(.slice A2 N2 D2),(.slice A3 N3 D3)].toArray),(iv j),(.slice A6 N6 D6),(iv n7)] [aN kT3 (.slice A2 N2 D2) t1.Dims,aN kT3 (.slice A3 N3 D3) t1.Data,aN kT3 (.slice A6 N6 D6) i] (fun (h:HH×HH)=>((.agg [(s3 h.1),(s3 h.2)].toArray),[ow kT3 3 (s3 h.1) r.Dims,ow kT3 3 (s3 h.2) r.Data])):=by
 unfold Z0w at g
 refine aQ Tryz.func89 R 80 R R fun C V=>?_
 refine cL 0 aA ?_
 rintro rfl
 refine cL 1 aA ?_
 rintro rfl
 refine cL 2 aA ?_
 rintro rfl
 let W0:=RR kT3 A2 D2 t1.Dims::RR kT3 A3 D3 t1.Data::RR kT3 A6 D6 i::V
 refine cN W0 ?_
 refine aU ?_
 refine eF R fun b8=>?_
 refine bF R R dQ (fun b9=>(aC ?_))
 let W1:=aJ b8 [(sc A2 t1.Dims D2),(sc A3 t1.Data D3)] 58::W0
 refine aP ?_
 obtain ⟨Y,a9,g⟩:=bd g
 obtain ⟨F,g⟩:=gd g
 obtain ⟨ai,ab,g⟩:=bd g
 refine cQ [(1,(iv j)),(2,(sc A6 i D6)),(3,(iv n7)),(4,(pt b8 0)),(8,(pt b9 0)),(33,(.bool (((!Y)||((i.length:Int) != (ix t1.Dims j)))||(!ai))))] (aJ b9 [(.slice none 0 0),(.slice none 0 0)] 58::W1) ?_ ?_
 refine aP ?_
 refine lM _ (fun w s=>(((s.d 2 R).d 4 R).e 3 [1,0,2])) ?_
 refine lC 2 oC R (Z1i_ok a9) R ?_
 rintro _
 refine aU ?_
 rcases bo (!Y) with D | D
 refine wA ?_
 exact qj tI
 refine bZ ?_
 refine bA 2 aA (show 0<t1.Dims.length by have:=(F D); omega) (fun aw o14 Z=>?_)
 subst Z
 refine lW (cA D) (eL bI cB R R (F D)) (lW (cA D) (gO 2 fQ aA R (F D)) ?_)
 refine aP ?_
 rcases bo ((!Y)||((i.length:Int) != (ix t1.Dims j))) with J | J
 refine bT ?_
 exact qj tI
 refine aU ?_
 refine lM _ (fun w s=>(s.d 4 R)) ?_
 refine bX 1 R (cA J) um R (Z0k_ok (bN ab (cT J))) R ?_
 rintro _
 refine aP ?_
 exact qj tI
 rintro σ1
 refine bU ?_
 split at g
 refine aP ?_
 refine lO (vz (.agg [(.slice none 0 0),(.slice none 0 0)].toArray) (aX gN dQ R R)) (aK 0 R R bR R R R R R R (aC (aI (bY (cF ?_)))))
 cases g
 exact qS ((none,0,0),(none,0,0)) (fun w s=>(((s.nilo kT3 3).nilo kT3 3).e 7 [1,0]))
 refine bG ?_
 obtain ⟨U,ag,g⟩:=bd g
 refine bZ ?_
 refine lM _ (fun w s=>(s.d 2 R)) ?_
 refine lC 1 kF R (Z0j_ok ag) R ?_
 rintro ⟨O,aq,T⟩
 refine aL 0 aB ?_
 rintro rfl
 refine bZ ?_
 obtain ⟨ax,a8,g⟩:=bd g
 refine aU ?_
 refine lC 1 kb R (FnOk.lends (A':=[OO kT3 3 O T U]) (A:=[RR kT3 O T U]) (B:=[]) (Zo_ok a8) ⟨aV,trivial⟩ (fun _=>trivial)) R ?_
 rintro _
 refine aP ?_
 split at g
 refine aP ?_
 refine lO (vz (.agg [(.slice none 0 0),(.slice none 0 0)].toArray) (aX gN dQ R R)) (aK 1 R R bR R R R R R R (aC (aI (bY (cF ?_)))))
 cases g
 exact qS ((none,0,0),(none,0,0)) (fun w s=>(((s.nilo kT3 3).nilo kT3 3).e 8 [1,0]))
 refine bG ?_
 obtain ⟨b,a1,g⟩:=bd g
 refine aU ?_
 refine lC 1 nA R (FnOk.lends (A':=[OO kT3 3 O T U]) (A:=[RR kT3 O T U]) (B:=[]) (Z0i_ok a1) ⟨aV,trivial⟩ (fun _=>⟨(bH iM),(bH iM),trivial⟩)) R ?_
 rintro ⟨⟨q,au,m⟩,⟨u,b3,l⟩⟩
 refine aL 1 aB ?_
 rintro rfl
 refine aL 2 aB ?_
 rintro rfl
 refine bF R R dQ (fun G=>(aK 0 R R bR R R R R R R (lN (aJ G [(sc q b.Dims m),(sc u b.Data l)] 58::_::_::_::_::W1) ?_)))
 refine aP ?_
 refine aZ (A:=((List Int))×(Unit)) (fun a=>Z0w_J1 b a.1=some r) (fun a=>[(8,(pt b9 0)),(10,(pt G 0))]) (fun a=>aJ b9 [(.slice none 0 0),(.slice none 0 0)] 58::aJ G [(sc q b.Dims m),(sc u b.Data l)] 58::OO kT3 3 q m b.Dims::ow kT3 3 (.slice u b.Data.length l) a.1::W1) ?_ ?_
 refine bT ?_
 obtain ⟨e1,al,ak⟩:=bd g
 refine bD (A:=Unit) al (fun s a=>[(1,(iv j)),(2,(sc A6 i D6)),(4,(pt b8 0)),(8,(pt b9 0)),(10,(pt G 0)),(11,(iv s.2))]) (fun s a=>aJ b9 [(.slice none 0 0),(.slice none 0 0)] 58::aJ G [(sc q b.Dims m),(sc u b.Data l)] 58::OO kT3 3 q m b.Dims::ow kT3 3 (.slice u b.Data.length l) s.1::W1) () (aS R) (tE 5 [4,0,2,3]) ?_
 rintro ⟨E,b1⟩ _ σ1 an g aj
 dsimp only [Z0w_L1] at g
 refine cP ?_
 split at g
 refine bT ?_
 obtain ⟨a0,ah,g⟩:=bd g
 refine bG ?_
 refine lM _ (fun w s=>(s.d 5 R)) ?_
 refine lC 1 ln R (Zj_ok ah) R ?_
 rintro ⟨b0,ar,a4⟩
 refine aL 0 aB ?_
 rintro rfl
 refine bG ?_
 obtain ⟨aa,g⟩:=gd g
 obtain ⟨a3,g⟩:=gd g
 obtain ⟨I,a6,g⟩:=bd g
 refine bT ?_
 refine bA 0 aB (show 0<a0.length by have:=aa; omega) (fun a5 o61 Z=>?_)
 subst Z
 refine aU ?_
 refine bA 8 aA (show 0<i.length by have:=a3; omega) (fun ay o64 Z=>?_)
 subst Z
 refine aU ?_
 refine lC 1 kF R (FnOk.lends (A':=[OO kT3 3 (ad a5 o61) a4 a0]) (A:=[RR kT3 (ad a5 o61) a4 a0]) (B:=[]) (Z0j_ok a6) ⟨aV,trivial⟩ (fun _=>⟨(bH iM),trivial⟩)) R ?_
 rintro ⟨L,az,M⟩
 refine aL 1 aB ?_
 rintro rfl
 refine aP ?_
 obtain ⟨b2,a2,g⟩:=bd g
 obtain ⟨ac,g⟩:=gd g
 obtain ⟨ao,a7,g⟩:=bd g
 obtain ⟨av,ae,g⟩:=bd g
 refine bB 8 aA (show 0<t1.Data.length by have:=ac; omega) (fun ap o72 Z=>?_)
 subst Z
 refine dF 12 [5] bP fun ht hn=>?_
 refine oq 0 [5] ?_
 refine kk 5 [5] ?_
 refine d1 4 R (lM _ (tE 6 [4,5,1,0,2,3]) ?_)
 refine lC 3 m' R (FnOk.lends (A':=[OO kT3 3 q m b.Dims,ow kT3 3 (.slice u b.Data.length l) E,OO kT3 3 L M I]) (A:=[RR kT3 q m b.Dims,aN kT3 (.slice u b.Data.length l) E,RR kT3 L M I]) (B:=[]) (Z19_ok (t1:=(⟨b.Dims,E⟩:Tensor)) a2) ⟨aV,aV,aV,trivial⟩ (fun _=>trivial)) R ?_
 rintro _
 refine aC (aG (tE 6 [3,2,4,5,0]) (d1 10 R (lC 0 qc R (Z1o_ok a7) R ?_)))
 rintro _
 refine aC (aG (tE 6 [3,2,4,5,0]) (d1 11 R (lM _ (tE 6 [0,2,1,3,4,5]) ?_)))
 refine lC 3 sx R (FnOk.lends (A':=[OO kT3 3 q m b.Dims,OO kT3 3 L M I]) (A:=[RR kT3 q m b.Dims,RR kT3 L M I]) (B:=[ow kT3 3 (.slice u b.Data.length l) E]) (FnOk.perm (Z1w_ok (t1:=(⟨b.Dims,E⟩:Tensor)) ae) (Pre':=[RR kT3 q m b.Dims,RR kT3 L M I,ow kT3 3 (.slice u b.Data.length l) E]) (fun _ _ _ s=>(s.e 3 [0,2,1]))) ⟨aV,aV,trivial⟩ (fun _=>⟨(bH iM),trivial⟩)) R ?_
 rintro _
 refine aC (aG (tE 6 [3,1,4,5,0]) (dD ?_))
 refine dG ?_
 cases g
 exact qA () (tE 6 [4,5,0,2])
 refine aP ?_
 cases g
 obtain rfl:=aj _ R
 have g:=ak
 refine aU ?_
 exact qI (E,()) g tI
 rintro ⟨am,_⟩ σ1 g
 dsimp only [Z0w_J1] at g
 refine aP ?_
 refine aK 0 R R bR R R R R R R (lN (aJ b9 [(sc q b.Dims m),(sc u b.Data l)] 58::_::_::ow kT3 3 (.slice u b.Data.length l) am::W1) ?_)
 refine aP ?_
 cases g
 exact qS ((q,b.Dims.length,m),(u,b.Data.length,l)) (tE 8 [2,3])
end Go.Proofs.YtmpnollfdpdipaaGreat
