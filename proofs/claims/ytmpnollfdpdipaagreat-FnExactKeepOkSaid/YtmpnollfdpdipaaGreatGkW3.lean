import Derived.Test.YtmpnollfdpdipaaGreatGkF
import Derived.Test.YtmpnollfdpdipaaGreatGkW2
set_option linter.unusedVariables false
set_option maxRecDepth 20000
namespace Go.Proofs.YtmpnollfdpdipaaGreat
open Go Go.Pg
variable {A2 A3 A5 A6:Option Addr}{D2 D3 D5 D6 N2 N3 N5 N6:Nat}
theorem Z5_ok  {a4:aM}{i:(List Tensor)}{r:Tensor}(b:Z5 a4 i=some r) :
 FnOk Tryz.prog 81 [(aD a4),(.slice A3 N3 D3)] [aN dS (.slice A3 N3 D3) i] (fun (h:HH×HH)=>((.agg [(s3 h.1),(s3 h.2)].toArray),[ow kT3 3 (s3 h.1) r.Dims,ow kT3 3 (s3 h.2) r.Data])):=by
 unfold Z5 at b
 refine aQ Tryz.func81 R 142 R R fun C V=>?_
 refine cL 0 aA ?_
 rintro rfl
 let W0:=RR dS A3 D3 i::V
 refine cN W0 ?_
 refine aR ?_
 refine bD R R dM (fun U=>(aC (aJ (aO ?_))))
 obtain ⟨l,c3,b⟩:=bd b
 refine aH (lO (vp (aD a4) R) (lC 0 yc R (Z0_ok c3) R ?_))
 rintro ⟨A7,N7,D7⟩
 refine aL 0 aB ?_
 rintro rfl
 refine lO (vT R) (lS R (lO (vp (aD l.2.1) R) (lB R (lS R (lO (vp (aD l.2.1) R) ?_)))))
 refine cB ?_
 refine cQ [(1,(sc A3 i D3)),(4,(pt U 0)),(5,(sc A7 l.1 D7)),(6,(aD l.2.1)),(35,(.bool ((!l.2.2)||((l.1.length:Int) != (i.length:Int)))))] (aI U [(.slice none 0 0),(.slice none 0 0)] 58::OO dK 9 A7 D7 l.1::W0) ?_ ?_
 refine bF ?_
 rcases bo (!l.2.2) with bp | bp
 refine dJ ?_
 exact qj (tE 2 [1,0])
 refine dJ ?_
 exact qj (tE 2 [1,0])
 rintro σ1
 refine bU ?_
 split at b
 refine aP ?_
 refine lO (vz (.agg [(.slice none 0 0),(.slice none 0 0)].toArray) (aW gM dM R R)) (aK 0 R R bR R R R R R R (aC (aJ (bY (cE ?_)))))
 cases b
 exact qS ((none,0,0),(none,0,0)) (fun w s=>(((s.nilo kT3 3).nilo kT3 3).e 5 [1,0]))
 refine cB ?_
 refine bQ (K:=bL) (xs:=([]:List (List Int))) (vs:=[]) 0 R R ke fR me R R R R R R ?_ R (fun A10 D10=>?_)
 exact fun I h s=>(mE).list [] I h s
 refine bF ?_
 refine bA (A:=((List (List Int)))×(HH)) (fun a=>Z5_J1 i l a.1=some r) (fun a=>[(1,(sc A3 i D3)),(4,(pt U 0)),(5,(sc A7 l.1 D7)),(6,(aD l.2.1)),(8,(s3 a.2))]) (fun a=>aI U [(.slice none 0 0),(.slice none 0 0)] 58::OO dK 9 A7 D7 l.1::ow (bL).share 23 (s3 a.2) a.1::W0) ?_ ?_
 refine bT ?_
 obtain ⟨e1,bz,b8⟩:=bd b
 refine bC (A:=HH) bz (fun s a=>[(1,(sc A3 i D3)),(4,(pt U 0)),(5,(sc A7 l.1 D7)),(6,(aD l.2.1)),(8,(s3 a)),(9,(iv s.2))]) (fun s a=>aI U [(.slice none 0 0),(.slice none 0 0)] 58::OO dK 9 A7 D7 l.1::ow (bL).share 23 (s3 a) s.1::W0) (A10,([]:List (List Int)).length,D10) (aS R) (fun w s=>((s.wk 0 R).e 3 [1,2,0])) ?_
 rintro ⟨F,Y⟩ ⟨bh,bl,bj⟩ σ1 ca b b5
 dsimp only [Z5_L1] at b
 refine bJ 2 eV (fun (hn:bl=F.length)=>?_)
 subst hn
 refine cO ?_
 split at b
 refine dJ ?_
 obtain ⟨ag,b⟩:=gd b
 obtain ⟨cu,b9,b⟩:=bd b
 refine aP ?_
 refine bB 3 aA (show 0<i.length by have:=ag; omega) (fun bn o29 ha=>?_)
 subst ha
 refine bU ?_
 refine gB (K:=dS) 3 Y dT58.dec R ag.1 ag.2 ?_
 rintro ⟨⟨ao,ap⟩,⟨bi,bk⟩⟩
 refine lO (vz (.agg [(sc ao ((ix i Y).Dims) ap),(sc bi ((ix i Y).Data) bk)].toArray) (dY (fo:=0) 0 fF bR R R R R)) (lM _ (fun w s=>(((s.d 1 R).d 3 R).f 8 [1,1,0,1,2,6])) ?_)
 refine lC 2 nf R (Zq_ok b9) R ?_
 rintro _
 refine aP ?_
 split at b
 refine aP ?_
 refine lO (vz (.agg [(.slice none 0 0),(.slice none 0 0)].toArray) (aW gM dM R R)) (aK 3 R R bR R R R R R R (aC (aJ (bY (cE (dB (cE ?_)))))))
 cases b
 obtain rfl:=b5 _ R
 have b:=b8
 refine aP ?_
 cases b
 exact qS ((none,0,0),(none,0,0)) (fun w s=>(((s.nilo kT3 3).nilo kT3 3).e 9 [1,0]))
 refine aP ?_
 obtain ⟨b6,b⟩:=gd b
 refine cB ?_
 refine lO (vz (.pointer (some ⟨bn,o29+Y.toNat*2,none⟩)) (kW iP R R)) (lO (eG (fo:=0) 0 cT R R R) (lM _ (fun w s=>(s.d 1 R)) ?_))
 refine bQ (K:=(bL).share) (xs:=([(ix i Y).Dims]:List (List Int))) (vs:=[(sc ao ((ix i Y).Dims) ap)]) 1 R R ke fR me R R R R R R ?_ R (fun ci cm=>?_)
 exact fun I h s=>(rP).list [((sc ao ((ix i Y).Dims) ap),(ix i Y).Dims)] I h s
 refine lM _ (fun w s=>(s.f 7 [6,1,0,6])) ?_
 refine eF (K:=(bL).share) 5864062014805 R R ke fR tT (Zr.zk (Zr.share zT23) me) R R R R R R dP b6 (fun az b2=>(lN (OO (bL).share 23 az b2 (F++([(ix i Y).Dims]:List (List Int)))::_::_::_::_::_::W0) ?_))
 refine cO ?_
 cases b
 exact qA (az,(F++([(ix i Y).Dims]:List (List Int))).length,b2) (tE 6 [4,5,0])
 refine aP ?_
 cases b
 obtain rfl:=b5 _ R
 have b:=b8
 refine aR ?_
 exact qI (F,(bh,F.length,bj)) b tI
 rintro ⟨a1,⟨b0,bm,b3⟩⟩ σ1 b
 dsimp only [Z5_J1] at b
 refine bJ 2 eV (fun (hn:bm=a1.length)=>?_)
 subst hn
 refine bU ?_
 obtain ⟨j,ba,b⟩:=bd b
 refine aR ?_
 refine lO (vp (aD l.2.1) R) (lS R (lM _ (tE 3 [1,2,0]) ?_))
 refine lC 2 yd R (FnOk.lends (A':=[OO dK 9 A7 D7 l.1,OO (bL).share 23 b0 b3 a1]) (A:=[RR dK A7 D7 l.1,RR bL b0 b3 a1]) (B:=[]) (Z2_ok ba) ⟨aX,pE,trivial⟩ (fun _=>⟨(bK j0),trivial⟩)) R ?_
 rintro ⟨M,cp,O⟩
 refine aL 2 aB ?_
 rintro rfl
 refine lO (vT R) (lO (vp (aD j.1) R) (lS R (lB R (lO (vp (aD j.1) R) ?_))))
 refine bT ?_
 obtain ⟨ah,b⟩:=gd b
 obtain ⟨c4,bb,b⟩:=bd b
 refine cQ [(1,(sc A3 i D3)),(4,(pt U 0)),(5,(sc A7 l.1 D7)),(6,(aD l.2.1)),(10,(aD j.1)),(11,(sc M j.2.1 O)),(76,(.bool ((!j.2.2)||(!c4))))] (aI U [(.slice none 0 0),(.slice none 0 0)] 58::OO dK 9 A7 D7 l.1::RR kT3 M O j.2.1::W0) ?_ ?_
 refine bF ?_
 rcases bo (!j.2.2) with G | G
 refine cU ?_
 exact qj (fun w s=>((s.shr 2 R).e 4 [3,1,0]))
 refine bU ?_
 refine lW (bZ G) (vp (aD l.2.1) R) (lW (bZ G) (vz (il l.2.1) (dH fL R)) (iM (fun w s=>s.shr 2 R) (fY (K:=kT3) (0:Int) (l.2.1.length:Int) 0 R (bZ G) bM cC R R R R (ah G).1 (ah G).2.1 (ah G).2.2 (fun cj cn=>(lM _ (fun w s=>(s.d 0 R)) ?_)))))
 refine bS 1 R (bZ G) jW R (Zn_ok (bG bb (cK G))) R ?_
 rintro _
 refine aP ?_
 exact qj (tE 5 [4,2,1])
 rintro σ1
 refine bU ?_
 split at b
 refine aP ?_
 refine lO (vz (.agg [(.slice none 0 0),(.slice none 0 0)].toArray) (aW gM dM R R)) (aK 0 R R bR R R R R R R (lN (_::_::_::W0) ?_))
 refine bF ?_
 cases b
 exact qS ((none,0,0),(none,0,0)) (fun w s=>(((s.nilo kT3 3).nilo kT3 3).e 6 [1,0]))
 refine bF ?_
 obtain ⟨ai,b⟩:=gd b
 obtain ⟨g,bc,b⟩:=bd b
 refine aR ?_
 refine lO (vp (aD l.2.1) R) (lO (vz (il l.2.1) (dH fL R)) (fY (K:=kT3) (0:Int) (l.2.1.length:Int) 2 R R bM cC R R R R ai.1 ai.2.1 ai.2.2 (fun ck co=>(lM _ (fun w s=>(s.d 0 R)) ?_))))
 refine lC 1 ng R (Z0g_ok bc) R ?_
 rintro ⟨⟨m,cq,q⟩,⟨u,cr,D⟩⟩
 refine aL 0 aB ?_
 rintro rfl
 refine aL 1 aB ?_
 rintro rfl
 refine bD R R dM (fun E=>(aK 0 R R bR R R R R R R (lN (aI E [(sc m g.Dims q),(sc u g.Data D)] 58::_::_::_::_::_::_::W0) ?_)))
 refine cU ?_
 refine bA (A:=(Int)×(Unit)) (fun a=>Z5_J2 i l j g a.1=some r) (fun a=>[(1,(sc A3 i D3)),(4,(pt U 0)),(5,(sc A7 l.1 D7)),(6,(aD l.2.1)),(10,(aD j.1)),(11,(sc M j.2.1 O)),(13,(pt E 0)),(14,(iv a.1))]) (fun a=>aI U [(.slice none 0 0),(.slice none 0 0)] 58::OO dK 9 A7 D7 l.1::RR kT3 M O j.2.1::aI E [(sc m g.Dims q),(sc u g.Data D)] 58::OO kT3 3 m q g.Dims::OO kT3 3 u D g.Data::W0) ?_ ?_
 refine bT ?_
 obtain ⟨e2,c0,bu⟩:=bd b
 refine bC (A:=Unit) c0 (fun s a=>[(1,(sc A3 i D3)),(4,(pt U 0)),(5,(sc A7 l.1 D7)),(6,(aD l.2.1)),(10,(aD j.1)),(11,(sc M j.2.1 O)),(13,(pt E 0)),(14,(iv s.1)),(15,(iv s.2))]) (fun s a=>aI U [(.slice none 0 0),(.slice none 0 0)] 58::OO dK 9 A7 D7 l.1::RR kT3 M O j.2.1::aI E [(sc m g.Dims q),(sc u g.Data D)] 58::OO kT3 3 m q g.Dims::OO kT3 3 u D g.Data::W0) () (aS R) (fun w s=>(s.f 7 [4,3,0,3])) ?_
 rintro ⟨am,ct⟩ _ σ1 cb b bq
 dsimp only [Z5_L2] at b
 refine cO ?_
 split at b
 refine cB ?_
 obtain ⟨b7,b⟩:=gd b
 refine bF ?_
 refine bB 2 aA (show 0<j.2.1.length by have:=b7; omega) (fun cs o68 ha=>?_)
 subst ha
 refine iC ?_
 cases b
 exact qA () tI
 refine aP ?_
 cases b
 obtain rfl:=bq _ R
 have b:=bu
 refine aR ?_
 exact qI (am,()) b tI
 rintro ⟨a3,_⟩ σ1 b
 dsimp only [Z5_J2] at b
 refine aO (bA (A:=((List Int))×(Unit)) (fun a=>Z5_J5 g a.1=some r) (fun a=>[(4,(pt U 0)),(13,(pt E 0))]) (fun a=>aI U [(.slice none 0 0),(.slice none 0 0)] 58::aI E [(sc m g.Dims q),(sc u g.Data D)] 58::OO kT3 3 m q g.Dims::ow kT3 3 (.slice u g.Data.length D) a.1::W0) ?_ ?_)
 refine bT ?_
 obtain ⟨e3,c1,bv⟩:=bd b
 refine bC (A:=Unit) c1 (fun s a=>[(1,(sc A3 i D3)),(4,(pt U 0)),(5,(sc A7 l.1 D7)),(6,(aD l.2.1)),(10,(aD j.1)),(11,(sc M j.2.1 O)),(13,(pt E 0)),(14,(iv a3)),(16,(iv s.2))]) (fun s a=>aI U [(.slice none 0 0),(.slice none 0 0)] 58::OO dK 9 A7 D7 l.1::RR kT3 M O j.2.1::aI E [(sc m g.Dims q),(sc u g.Data D)] 58::OO kT3 3 m q g.Dims::ow kT3 3 (.slice u g.Data.length D) s.1::W0) () (aS R) tI ?_
 rintro ⟨T,aj⟩ _ σ1 be b br
 dsimp only [Z5_L3] at b
 refine cU ?_
 split at b
 refine bT ?_
 obtain ⟨L,aq,b⟩:=bd b
 refine aP ?_
 refine lM _ (fun w s=>(s.d 2 R)) ?_
 refine lC 1 ld R (Zi_ok aq) R ?_
 rintro ⟨Z,c5,a0⟩
 refine aL 0 aB ?_
 rintro rfl
 refine cO ?_
 refine bA (A:=(Int)×(Unit)) (fun a=>Z5_J4 l g T aj L a.1=some be) (fun a=>[(1,(sc A3 i D3)),(4,(pt U 0)),(5,(sc A7 l.1 D7)),(6,(aD l.2.1)),(10,(aD j.1)),(11,(sc M j.2.1 O)),(13,(pt E 0)),(14,(iv a3)),(16,(iv aj)),(17,(sc Z L a0)),(18,(iv a.1))]) (fun a=>aI U [(.slice none 0 0),(.slice none 0 0)] 58::OO dK 9 A7 D7 l.1::RR kT3 M O j.2.1::aI E [(sc m g.Dims q),(sc u g.Data D)] 58::OO kT3 3 m q g.Dims::ow kT3 3 (.slice u g.Data.length D) T::OO kT3 3 Z a0 L::W0) ?_ ?_
 refine bT ?_
 obtain ⟨e4,c2,bw⟩:=bd b
 refine bC (A:=Unit) c2 (fun s a=>[(1,(sc A3 i D3)),(4,(pt U 0)),(5,(sc A7 l.1 D7)),(6,(aD l.2.1)),(10,(aD j.1)),(11,(sc M j.2.1 O)),(13,(pt E 0)),(14,(iv a3)),(16,(iv aj)),(17,(sc Z L a0)),(18,(iv s.1)),(19,(iv s.2))]) (fun s a=>aI U [(.slice none 0 0),(.slice none 0 0)] 58::OO dK 9 A7 D7 l.1::RR kT3 M O j.2.1::aI E [(sc m g.Dims q),(sc u g.Data D)] 58::OO kT3 3 m q g.Dims::ow kT3 3 (.slice u g.Data.length D) T::OO kT3 3 Z a0 L::W0) () (aS R) (fun w s=>(s.f 7 [1,6,0,1])) ?_
 rintro ⟨bg,J⟩ _ σ1 cc b bs
 dsimp only [Z5_L4] at b
 refine cO ?_
 split at b
 refine cB ?_
 obtain ⟨a5,b⟩:=gd b
 obtain ⟨a6,b⟩:=gd b
 obtain ⟨ak,ar,b⟩:=bd b
 obtain ⟨cf,au,b⟩:=bd b
 obtain ⟨cg,av,b⟩:=bd b
 refine aY 7 aA (show 0<i.length by have:=a5; omega) (fun c7 o149 ha=>?_)
 subst ha
 refine dE (K:=dS) 7 J dT58.dec R a5.1 a5.2 ?_
 rintro ⟨⟨a8,ab⟩,⟨a9,ac⟩⟩
 refine aY 4 aB (show 0<l.1.length by have:=a6; omega) (fun c8 o154 ha=>?_)
 subst ha
 refine cZ 15 [] bN fun ht hn=>?_
 refine nV 0 [] ?_
 refine dR 4 R (vz (.agg [(sc a8 ((ix i J).Dims) ab),(sc a9 ((ix i J).Data) ac)].toArray) (dY (fo:=0) 0 fF bR R R R R)) ?_
 refine hO 5 [] ?_
 refine dR 8 R (vz (aD (ix l.1 J)) (jz (K:=dK) (fo:=0) (pr:=fun x=>(aD x)) 4 J qo (dT9.leaf fun _ _=>R) aB R a6.1 a6.2)) (dR 9 R (vp (aD j.1) R) (dR 10 R (vS R) (d1 11 R (lM _ (fun w s=>(s.f 10 [9,1,0,9])) ?_))))
 refine lC 1 ye R (FnOk.lends (A':=[OO kT3 3 Z a0 L]) (A:=[RR kT3 Z a0 L]) (B:=[]) (Zg_ok ar) ⟨aX,trivial⟩ (fun _=>⟨(bK j0),trivial⟩)) R ?_
 rintro ⟨aa,c6,ae⟩
 refine aL 1 aB ?_
 rintro rfl
 refine aC (aE (fun w s=>(s.f 11 [2,9,0,1])) (d1 12 R (lM _ (fun w s=>(((s.d 3 R).d 5 R).f 13 [3,1,1,1,0,1,2,1,4,9])) ?_)))
 refine lC 3 mN R (FnOk.lends (A':=[OO kT3 3 aa ae ak]) (A:=[RR kT3 aa ae ak]) (B:=[RR kT3 a8 ab ((ix i J).Dims),RR kT3 a9 ac ((ix i J).Data)]) (FnOk.perm (Z14_ok au) (Pre':=[RR kT3 aa ae ak,RR kT3 a8 ab ((ix i J).Dims),RR kT3 a9 ac ((ix i J).Data)]) (fun _ _ _ s=>(s.e 3 [1,2,0]))) ⟨aX,trivial⟩ (fun _=>trivial)) R ?_
 rintro _
 refine aC (aE (fun w s=>(s.f 11 [2,9,1,1])) (d1 13 R (lC 0 o4 R (Z1c_ok av) R ?_)))
 rintro _
 refine aC (aE (fun w s=>(s.f 11 [2,9,1,1])) (dR 14 R (vI R) (hS:=(fun w s=>(s.f 11 [2,9,1,1]))) (dD ?_)))
 refine dJ ?_
 cases b
 exact qA () (fun w s=>(s.f 11 [5,6,1,1]))
 refine aP ?_
 cases b
 obtain rfl:=bs _ R
 have b:=bw
 refine aR ?_
 exact qI (bg,()) b tI
 rintro ⟨ch,_⟩ σ1 b
 dsimp only [Z5_J4] at b
 refine bU ?_
 obtain ⟨a7,b⟩:=gd b
 obtain ⟨bf,aw,b⟩:=bd b
 refine cZ 8 [6] bN fun ht hn=>?_
 refine hO 0 [6] ?_
 refine dR 3 R (vp (aD l.2.1) R) (hS:=(sL [6])) (dR 4 R (vz (il l.2.1) (dH fL R)) (hS:=(sL [6])) (d1 5 R (iM (fun w s=>s.shr 6 R) (fY (K:=kT3) (0:Int) (l.2.1.length:Int) 0 R R bM cC R R R R a7.1 a7.2.1 a7.2.2 (fun ay b1=>(aC (aE (sL [1,0]) (d1 6 R (lM _ (fun w s=>((s.d 0 R).f 9 [7,1,0,7,8,1])) ?_)))))))))
 refine lC 2 rW R (FnOk.lends (A':=[OO kT3 3 m q g.Dims]) (A:=[RR kT3 m q g.Dims]) (B:=[RR kT3 ay b1 (sub L (0:Int) (l.2.1.length:Int))]) (Z0l_ok aw) ⟨aX,trivial⟩ (fun _=>trivial)) R ?_
 rintro _
 refine aC (aE (tE 8 [3,4,5,6,0,7]) (dR 7 R (vI R) (hS:=(tE 8 [3,4,5,6,0,7])) (dD (aJ ?_))))
 obtain ⟨a2,b⟩:=gd b
 obtain ⟨an,ax,b⟩:=bd b
 refine aY 7 aB (show 0<g.Data.length by have:=a2; omega) (fun c9 o171 ha=>?_)
 subst ha
 refine cZ 12 [7] bN fun ht hn=>?_
 refine qX 0 [7] ?_
 refine mA 8 [7] ?_
 refine d1 7 R (lO (gI 7 fM aB R a2) (aC (aE (sL [7]) (d1 9 R (lC 0 pH R (Z1j_ok ax) R ?_)))))
 rintro _
 refine aC (aE (sL [7]) ?_)
 refine mA 10 [7] ?_
 refine d1 11 R (lM _ (fun w s=>(s.f 8 [7,1,0,7])) ?_)
 refine dZ (K:=kT3) (x':=an) 0 bf R R cC R R a2.1 a2.2 ?_ ?_
 exact fun I h s=>(gL).put I h () an s
 refine aC (aE (sL [0]) (dD ?_))
 refine dJ ?_
 cases b
 exact qA () (tE 8 [4,5,6,7,1,0])
 refine aP ?_
 cases b
 obtain rfl:=br _ R
 have b:=bv
 refine aR ?_
 exact qI (T,()) b (tE 6 [0,3,4,5])
 rintro ⟨al,_⟩ σ1 b
 dsimp only [Z5_J5] at b
 refine aP ?_
 refine aK 0 R R bR R R R R R R (lN (aI U [(sc m g.Dims q),(sc u g.Data D)] 58::aI E [(sc m g.Dims q),(sc u g.Data D)] 58::_::ow kT3 3 (.slice u g.Data.length D) al::W0) ?_)
 refine aP ?_
 cases b
 exact qS ((m,g.Dims.length,q),(u,g.Data.length,D)) (tE 5 [2,3])
theorem Z0f_ok  {v1:View}{r:View}(b:Z0f v1=some r) :
 FnOk Tryz.prog 118 [(.agg [(.slice A2 N2 D2),(.slice A3 N3 D3),(iv v1.Offset),(iv v1.Base)].toArray)] [aN kT3 (.slice A2 N2 D2) v1.Dims,ow kT3 3 (.slice A3 N3 D3) v1.Strides] (fun (h:HH×HH)=>((.agg [(s3 h.1),(s3 h.2),(iv r.Offset),(iv r.Base)].toArray),[aN kT3 (s3 h.1) r.Dims,ow kT3 3 (s3 h.2) r.Strides])):=by
 unfold Z0f at b
 refine aQ Tryz.func118 R 22 R R fun C V=>?_
 refine cM _ (tE 2 [1,0]) ?_
 refine cL 0 aB ?_
 rintro rfl
 refine cL 1 aA ?_
 rintro rfl
 let J:=RR kT3 A2 D2 v1.Dims::V
 refine aR ?_
 refine eA R fun u=>?_
 refine bD R R cX (fun i=>(aC (qM _ (tE 3 [0,2,1]) ?_)))
 let q:=aI u [(sc A2 v1.Dims D2),(sc A3 v1.Strides D3),(iv v1.Offset),(iv v1.Base)] 96::J
 refine aR ?_
 refine bA (A:=((List Int))×(Unit)) (fun a=>Z0f_J3 v1 a.1=some r) (fun a=>[(1,(pt u 0)),(2,(pt i 0))]) (fun a=>aI i [(.slice none 0 0),(.slice none 0 0),(iv 0),(iv 0)] 96::ow kT3 3 (.slice A3 v1.Strides.length D3) a.1::q) ?_ ?_
 refine bT ?_
 obtain ⟨T,F,E⟩:=bd b
 refine bC (A:=Unit) F (fun s a=>[(1,(pt u 0)),(2,(pt i 0)),(3,(iv s.1))]) (fun s a=>aI i [(.slice none 0 0),(.slice none 0 0),(iv 0),(iv 0)] 96::ow kT3 3 (.slice A3 v1.Strides.length D3) s.2::q) () (aS R) tI ?_
 rintro ⟨g,j⟩ _ σ1 m b D
 dsimp only [Z0f_L1] at b
 refine cW ?_
 split at b
 refine bF ?_
 refine bA (A:=((List Int))×(Unit)) (fun a=>Z0f_J2 g a.1=some m) (fun a=>[(1,(pt u 0)),(2,(pt i 0)),(3,(iv g))]) (fun a=>aI i [(.slice none 0 0),(.slice none 0 0),(iv 0),(iv 0)] 96::ow kT3 3 (.slice A3 v1.Strides.length D3) a.1::q) ?_ ?_
 refine aR ?_
 obtain ⟨l,b⟩:=gd b
 refine bF ?_
 refine bB 3 aA (show 0<v1.Dims.length by have:=l; omega) (fun L o20 B=>?_)
 subst B
 refine cB ?_
 split at b
 refine bU ?_
 obtain ⟨e,b⟩:=gd b
 refine bF ?_
 refine bB 1 aB (show 0<v1.Strides.length by have:=e; omega) (fun M o24 B=>?_)
 subst B
 refine bU ?_
 refine lM _ (tE 2 [1,0]) ?_
 refine dZ (K:=kT3) (x':=(0:Int)) 0 g R R cC R R e.1 e.2 ?_ ?_
 exact fun I h s=>(gL).put I h () (0:Int) s
 refine aR ?_
 exact qI ((j.set g.toNat (0:Int)),()) b (tE 2 [1,0])
 refine aP ?_
 exact qI (j,()) b tI
 rintro ⟨O,_⟩ σ1 b
 dsimp only [Z0f_J2] at b
 refine cB ?_
 cases b
 exact qA () tI
 refine aP ?_
 cases b
 obtain rfl:=D _ R
 have b:=E
 refine aR ?_
 exact qI (j,()) b tI
 rintro ⟨G,_⟩ σ1 b
 dsimp only [Z0f_J3] at b
 refine aP ?_
 refine aK 0 R R cD R R R R R R (lN (aI i [(sc A2 v1.Dims D2),(sc A3 v1.Strides D3),(iv v1.Offset),(iv v1.Base)] 96::ow kT3 3 (.slice A3 v1.Strides.length D3) G::q) ?_)
 refine aP ?_
 cases b
 exact qS ((A2,v1.Dims.length,D2),(A3,v1.Strides.length,D3)) (tE 4 [3,1])
theorem Zv_ok  {b:(List Int)}{r:View}(g:Zv b=some r) :
 FnOk Tryz.prog 84 [(.slice A2 N2 D2)] [aN kT3 (.slice A2 N2 D2) b] (fun (h:HH×HH)=>((.agg [(.slice h.1.1 h.1.2.1 h.1.2.2),(.slice h.2.1 h.2.2.1 h.2.2.2),(iv r.Offset),(iv r.Base)].toArray),[aN kT3 (.slice h.1.1 h.1.2.1 h.1.2.2) r.Dims,ow kT3 3 (.slice h.2.1 h.2.2.1 h.2.2.2) r.Strides])):=by
 unfold Zv at g
 refine aQ Tryz.func84 R 32 R R fun C V=>?_
 refine cN (_::V) ?_
 refine cL 0 aA ?_
 rintro rfl
 let l:List HP:=RR kT3 A2 D2 b::V
 refine cN l ?_
 refine aO (aH (bD R R cX (fun b3=>(aC (aJ (aO (aO ?_)))))))
 obtain ⟨r4,al,g⟩:=bd g
 refine aH (lS R (lM (RR kT3 A2 D2 b::_::l) (fun w s=>(s.d 1 R)) ?_))
 refine lC 1 jW R (Zn_ok al) R ?_
 rintro _
 refine lN (_::l) ?_
 refine lO (rE R) (aC (aJ ?_))
 rcases cR g with ⟨a2,g⟩|⟨a2,g⟩
 refine cG R a2 (aO (aH (lO (vz (.agg [(.slice none 0 0),(.slice none 0 0),(iv 0),(iv 0)].toArray) (aW fD cX R R)) (aK 0 R R cD R R R R R R (aC (aJ (bY (cE ?_))))))))
 obtain rfl:=so g
 exact dF (vs:=[(.agg [(.slice none 0 0),(.slice none 0 0),(iv 0),(iv 0)].toArray)]) (.inl R) ((none,0,0),(none,0,0)) R ⟨⟨0,b3,_,_,R,R,.inl ⟨gD,cD,R⟩⟩,trivial⟩ R (fun w s=>(((s.nilr kT3).nilo kT3 3).e 4 [1,0]))
 refine bP R a2 (dL (aJ (aO ?_)))
 obtain ⟨u,am,g⟩:=bd g
 obtain ⟨j,a6,g⟩:=bd g
 refine aH (lS R (lM (RR kT3 A2 D2 b::_::l) (fun w s=>(s.d 1 R)) ?_))
 refine lC 1 jF R (Zt_ok am) R ?_
 rintro ⟨A9,N9,D9⟩
 refine lN (ow kT3 3 (.slice A9 N9 D9) u::_::l) ?_
 refine aL 0 aB ?_
 rintro rfl
 refine lS R (lM (RR kT3 A2 D2 b::_::_::l) (fun w s=>(s.d 2 R)) ?_)
 refine lC 1 ne R (Zu_ok a6) R ?_
 rintro _
 refine lN (_::_::l) ?_
 refine lO (vz (.agg [(sc A9 u D9),(.slice none 0 0),(iv 0),(iv j)].toArray) (aW fD cX R R)) (bD R R cX (fun q=>(aK 0 R R cD R R R R R R (lN (aI q [(sc A9 u D9),(.slice none 0 0),(iv 0),(iv j)] 96::_::_::l) ?_))))
 refine aC (aJ (aO (bA (A:=((List Int))×(HH)) (fun a=>Zv_J1 u j a.1=some r) (fun a=>[(2,(pt b3 0)),(3,(pt q 0))]) (fun a=>aI b3 [(.slice none 0 0),(.slice none 0 0),(iv 0),(iv 0)] 96::aI q [(sc A9 u D9),(.slice a.2.1 a.2.2.1 a.2.2.2),(iv 0),(iv j)] 96::OO kT3 3 A9 D9 u::ow kT3 3 (.slice a.2.1 a.2.2.1 a.2.2.2) a.1::l) ?_ ?_)))
 refine aO (aH (lI R (aC (aJ (eB ?_)))))
 obtain ⟨e1,ak,aj⟩:=bd g
 refine bC (A:=HH) ak (fun s a=>[(0,(sc A2 b D2)),(2,(pt b3 0)),(3,(pt q 0)),(4,(iv s.2))]) (fun s a=>aI b3 [(.slice none 0 0),(.slice none 0 0),(iv 0),(iv 0)] 96::aI q [(sc A9 u D9),(.slice a.1 a.2.1 a.2.2),(iv 0),(iv j)] 96::OO kT3 3 A9 D9 u::ow kT3 3 (.slice a.1 a.2.1 a.2.2) s.1::l) (none,0,0) (aS R) (fun w s=>((s.nilo kT3 3).e 4 [3,1,2,0])) ?_
 rintro ⟨m,O⟩ ⟨T,ac,Z⟩ σ1 a9 g ai
 replace g:Zv_L1 b m O=some a9:=g
 unfold Zv_L1 at g
 refine bJ 3 aB (fun (hn:ac=m.length)=>?_)
 subst hn
 refine aO (aO (aH (lI R (lS R (lO (m0 bM R) (lO (nR R R) (aC (aJ ?_))))))))
 rcases cR g with ⟨E,g⟩|⟨E,g⟩
 refine cG R E (dL (aJ (aO (eB ?_))))
 obtain ⟨F,g⟩:=gd g
 obtain ⟨B,a7,g⟩:=bd g
 obtain ⟨a5,g⟩:=gd g
 refine cZ 8 [] bN (fun ht hn=>(dR 0 R (fV 1 fW R) (dR 1 R (gH 1 cT R R R) (dR 2 R (vS R) (dR 3 R (vI R) (dR 4 R (lF R R) (d1 5 R (fY (K:=kT3) (aG (O+(1:Int))) (b.length:Int) 4 R R bM cC R R R R F.1 F.2.1 F.2.2 (fun a3 a4=>(aC (aE (sL [0]) (d1 6 R (lM (RR kT3 a3 a4 (sub b (aG (O+(1:Int))) (b.length:Int))::RR kT3 a3 a4 (sub b (aG (O+(1:Int))) (b.length:Int))::_::aI q [(sc A9 u D9),(sc T m Z),(iv 0),(iv j)] 96::_::OO kT3 3 T Z m::l) (fun w s=>(s.d 0 R)) ?_)))))))))))))
 refine lC 1 ne R (Zu_ok a7) R ?_
 rintro _
 refine lN (_::_::_::_::_::l) ?_
 refine aC (aE (sL [0]) (d1 7 R (bQ (K:=kT3) (xs:=([B]:List Int)) (vs:=[(iv B)]) 0 R R bM cC gR R R R R R R ?_ R (fun aa ab=>?_))))
 exact fun I h s=>(gL).list [((),B)] I h s
 refine lN (OO kT3 3 aa ab ([B]:List Int)::_::_::_::_::_::l) ?_
 refine aC (aE (sL [1,0]) (d1 8 R (lM (ow _ _ _ _::ow _ _ _ _::aN _ _ _::aI _ _ _::aI _ _ _::ow _ _ _ _::l) (fun w s=>(s.f 6 [5,1,0,5])) ?_)))
 refine eF (K:=kT3) 17592186044416 R R bM cC kc (Zr.zk zT3 gR) R R R R R R dP a5 (fun U a0=>(lN (OO kT3 3 U a0 (m++([B]:List Int))::_::_::_::_::l) ?_))
 refine aC (qE (d1 9 R (lO (fV 1 fW R) (aC (qE (d1 10 R (cP 3 R R fR R R R R R (lN (_::_::_::aI q [(sc A9 u D9),(sc U (m++([B]:List Int)) a0),(iv 0),(iv j)] 96::_::l) ?_))))))))
 refine aC (qE (dD (eJ (aJ (aH (lI R (lO (lF R R) (lI R (aC ?_)))))))))
 obtain rfl:=so g
 exact qA (U,(m++([B]:List Int)).length,a0) (fun w s=>(s.e 5 [2,3,4,0]))
 refine bP R E (j5 (fB ?_))
 obtain rfl:=so g
 obtain rfl:=ai _ R
 have g:=aj
 refine fB (hT ?_)
 exact qI (m,(T,m.length,Z)) g (fun w s=>s)
 rintro ⟨D,⟨Y,ae,a1⟩⟩ σ1 g
 replace g:Zv_J1 u j D=some r:=g
 unfold Zv_J1 at g
 refine bJ 3 aB (fun (hn:ae=D.length)=>?_)
 subst hn
 refine aO ?_
 obtain ⟨i,a8,g⟩:=bd g
 refine aH (lO (vz (.agg [(sc A9 u D9),(sc Y D a1),(iv 0),(iv j)].toArray) (eC 1 gD cD R R R R)) (iM (fun w s=>s.shr 2 R) (lM (RR kT3 A9 D9 u::OO kT3 3 Y a1 D::RR kT3 A9 D9 u::aI _ _ _::aI q [(sc A9 u D9),(sc Y D a1),(iv 0),(iv j)] 96::l) (fun w s=>((s.d 0 R).e 5 [0,4,1,2,3])) ?_)))
 refine lC 2 yf R (Z0f_ok (v1:=(⟨u,D,(0:Int),j⟩:View)) a8) R ?_
 rintro ⟨⟨G,ag,L⟩,⟨J,ah,M⟩⟩
 refine lN (aN kT3 (.slice G ag L) i.Dims::ow kT3 3 (.slice J ah M) i.Strides::_::_::_::l) ?_
 refine aL 0 aA ?_
 rintro rfl
 refine aL 1 aB ?_
 rintro rfl
 refine aK 3 R R cD R R R R R R (lN (_::_::_::aI b3 [(sc G i.Dims L),(sc J i.Strides M),(iv i.Offset),(iv i.Base)] 96::_::l) ?_)
 refine aC (aJ (bY ?_))
 obtain rfl:=so g
 exact dF (vs:=[(.agg [(sc G i.Dims L),(sc J i.Strides M),(iv i.Offset),(iv i.Base)].toArray)]) (.inl R) ((G,i.Dims.length,L),(J,i.Strides.length,M)) R ⟨⟨3,b3,_,_,R,R,.inl ⟨gD,cD,R⟩⟩,trivial⟩ R (fun w s=>(s.e 6 [0,1]))
theorem Z13_ok  {v1:View}{b:(List Int)}{r:Int}(e:Z13 v1 b=some r) :
 FnOk Tryz.prog 144 [(.agg [(.slice A2 N2 D2),(.slice A3 N3 D3),(iv v1.Offset),(iv v1.Base)].toArray),(.slice A5 N5 D5)] [aN kT3 (.slice A2 N2 D2) v1.Dims,aN kT3 (.slice A3 N3 D3) v1.Strides,aN kT3 (.slice A5 N5 D5) b] (fun (h:Unit)=>((iv r),[])):=by
 unfold Z13 at e
 refine aQ Tryz.func144 R 28 R R fun C V=>?_
 refine cL 0 aA ?_
 rintro rfl
 refine cL 1 aA ?_
 rintro rfl
 refine cL 2 aA ?_
 rintro rfl
 let D:=RR kT3 A2 D2 v1.Dims::RR kT3 A3 D3 v1.Strides::RR kT3 A5 D5 b::V
 refine cN D ?_
 refine aR ?_
 refine eA R fun E=>?_
 refine aR ?_
 let j:=aI E [(sc A2 v1.Dims D2),(sc A3 v1.Strides D3),(iv v1.Offset),(iv v1.Base)] 96::D
 refine qN j ?_
 refine cO ?_
 refine bA (A:=(Int)×(Unit)) (fun a=>Z13_J1 a.1=some r) (fun a=>[(5,(iv a.1))]) (fun a=>j) ?_ ?_
 refine bT ?_
 obtain ⟨M,u,q⟩:=bd e
 refine bC (A:=Unit) u (fun s a=>[(1,(sc A5 b D5)),(2,(pt E 0)),(5,(iv s.1)),(6,(iv s.2))]) (fun s a=>j) () (aS R) tI ?_
 rintro ⟨B,J⟩ _ σ1 F e m
 dsimp only [Z13_L1] at e
 refine cO ?_
 split at e
 refine cB ?_
 obtain ⟨g,e⟩:=gd e
 obtain ⟨i,e⟩:=gd e
 refine aY 3 aA (show 0<b.length by have:=g; omega) (fun G o19 l=>?_)
 subst l
 refine aY 2 aA (show 0<v1.Strides.length by have:=i; omega) (fun I o22 l=>?_)
 subst l
 refine cZ 13 [] bN fun T O=>?_
 refine md 0 [] ?_
 refine dD ?_
 refine dJ ?_
 cases e
 exact qA () tI
 refine aP ?_
 cases e
 obtain rfl:=m _ R
 have e:=q
 refine aR ?_
 exact qI (B,()) e tI
 rintro ⟨L,_⟩ σ1 e
 dsimp only [Z13_J1] at e
 refine dJ ?_
 cases e
 exact qF () (tE 4 [])
theorem Z09_ok  {v1:View}{r:(List Int)}(b:Z09 v1=some r) :
 FnOk Tryz.prog 117 [(.agg [(.slice A2 N2 D2),(.slice A3 N3 D3),(iv v1.Offset),(iv v1.Base)].toArray)] [aN kT3 (.slice A2 N2 D2) v1.Dims,aN kT3 (.slice A3 N3 D3) v1.Strides] (fun (h:HH)=>((.slice h.1 h.2.1 h.2.2),[ow kT3 3 (.slice h.1 h.2.1 h.2.2) r])):=by
 unfold Z09 at b
 refine aQ Tryz.func117 R 25 R R fun C V=>?_
 refine cN (_::_::V) ?_
 refine cL 0 aA ?_
 rintro rfl
 refine cL 1 aA ?_
 rintro rfl
 let W0:List HP:=RR kT3 A2 D2 v1.Dims::RR kT3 A3 D3 v1.Strides::V
 refine cN W0 ?_
 refine aO (aH (eA R (fun b4=>(lS R (aC ?_)))))
 let i:List HP:=aI b4 [(sc A2 v1.Dims D2),(sc A3 v1.Strides D3),(iv v1.Offset),(iv v1.Base)] 96::W0
 refine qN i ?_
 refine aJ (aO (aH (bQ (K:=kT3) (xs:=([]:List Int)) (vs:=[]) 0 R R bM cC gR R R R R R R ?_ R (fun A5 D5=>?_))))
 exact fun I h s=>(gL).list [] I h s
 refine lN (OO kT3 3 A5 D5 ([]:List Int)::i) ?_
 refine lS R (aC (aJ (aO ?_)))
 obtain ⟨r6,a8,b⟩:=bd b
 refine aH (lO (fV 0 gE R) (lO (gH 1 cT R R R) (lM (RR kT3 A2 D2 v1.Dims::_::i) (fun w s=>(s.d 2 R)) ?_)))
 refine lC 1 ne R (Zu_ok a8) R ?_
 rintro _
 refine lN (_::i) ?_
 refine lI R (aC (aJ (aO (bA (A:=((List Int))×(HH)) (fun a=>Z09_J1 a.1=some r) (fun a=>[(3,(.slice a.2.1 a.2.2.1 a.2.2.2))]) (fun a=>ow kT3 3 (.slice a.2.1 a.2.2.1 a.2.2.2) a.1::i) ?_ ?_))))
 refine aO (aH (lI R (aC (aJ (eB ?_)))))
 obtain ⟨e1,a7,a6⟩:=bd b
 refine bC (A:=HH) a7 (fun s a=>[(1,(pt b4 0)),(3,(.slice a.1 a.2.1 a.2.2)),(4,(iv r6)),(5,(iv s.2))]) (fun s a=>ow kT3 3 (.slice a.1 a.2.1 a.2.2) s.1::i) (A5,([]:List Int).length,D5) (aS R) (fun w s=>s) ?_
 rintro ⟨g,a9⟩ ⟨E,a2,G⟩ σ1 T b a5
 replace b:Z09_L1 v1 r6 g a9=some T:=b
 unfold Z09_L1 at b
 refine bJ 0 aB (fun (U:a2=g.length)=>?_)
 subst U
 refine aO (aO (aH (lI R (lI R (lO (nR R R) (aC (aJ ?_)))))))
 rcases cR b with ⟨l,b⟩|⟨l,b⟩
 refine cG R l (dL (aJ (aO (eB ?_))))
 obtain ⟨u,M,b⟩:=bd b
 obtain ⟨j,O,b⟩:=bd b
 obtain ⟨L,b⟩:=gd b
 refine cZ 10 [0] bN (fun ht U=>(dR 0 R (vS R) (hS:=(sL [0])) (dR 1 R (vz (.agg [(sc A2 v1.Dims D2),(sc A3 v1.Strides D3),(iv v1.Offset),(iv v1.Base)].toArray) (eC 0 gD cD R R R R)) (hS:=(sL [0])) (dR 2 R (fV 0 gE R) (hS:=(sL [0])) (dR 3 R (gH 0 cT R R R) (hS:=(sL [0])) (dR 4 R (vI R) (hS:=(sL [0])) (d1 5 R (lM (RR kT3 A2 D2 v1.Dims::OO kT3 3 E G g::i) (fun w s=>(s.d 2 R)) ?_))))))))
 refine lC 1 ld R (Zi_ok M) R ?_
 rintro ⟨m,a3,q⟩
 refine lN (ow kT3 3 (.slice m a3 q) u::_::i) ?_
 refine aL 0 aB ?_
 rintro rfl
 refine aC (aE (sL [1,0]) (d1 6 R (lM (ow _ _ _ _::RR kT3 A2 D2 v1.Dims::RR kT3 A3 D3 v1.Strides::ow _ _ _ _::i) (fun w s=>(((s.d 3 R).d 5 R).e 4 [2,1,0,3])) ?_)))
 refine lC 3 yg R (FnOk.lends (A':=[OO kT3 3 m q u]) (A:=[RR kT3 m q u]) (B:=[RR kT3 A2 D2 v1.Dims,RR kT3 A3 D3 v1.Strides]) (FnOk.perm (Z13_ok O) (Pre':=[RR kT3 m q u,RR kT3 A2 D2 v1.Dims,RR kT3 A3 D3 v1.Strides]) (fun _ _ _ s=>(s.e 3 [1,2,0]))) ⟨aX,trivial⟩ (fun _=>trivial)) R ?_
 rintro _
 refine lN (_::_::i) ?_
 refine aC (aE (sL [1,0]) (d1 7 R (bQ (K:=kT3) (xs:=([j]:List Int)) (vs:=[(iv j)]) 0 R R bM cC gR R R R R R R ?_ R (fun Y a0=>?_))))
 exact fun I h s=>(gL).list [((),j)] I h s
 refine lN (OO kT3 3 Y a0 ([j]:List Int)::_::_::i) ?_
 refine aC (aE (sL [2,1,0]) (d1 8 R (lM (ow _ _ _ _::ow _ _ _ _::ow _ _ _ _::i) (fun w s=>(s.e 3 [2,0,1])) ?_)))
 refine eF (K:=kT3) 17592186044416 R R bM cC kc (Zr.zk zT3 gR) R R R R R R dP L (fun F J=>(lN (OO kT3 3 F J (g++([j]:List Int))::_::i) ?_))
 refine aC (aE (sL [1,0]) (dR 9 R (vS R) (hS:=(sL [1,0])) (dD (eJ (aJ (aH (lI R (lO (lF R R) (lI R (aC ?_))))))))))
 obtain rfl:=so b
 exact qA (F,(g++([j]:List Int)).length,J) (fun w s=>(s.e 2 [0]))
 refine bP R l (j5 (fB ?_))
 obtain rfl:=so b
 obtain rfl:=a5 _ R
 have b:=a6
 refine fB (hT ?_)
 exact qI (g,(E,g.length,G)) b (fun w s=>s)
 rintro ⟨D,⟨Z,a4,a1⟩⟩ σ1 b
 replace b:Z09_J1 D=some r:=b
 unfold Z09_J1 at b
 refine bJ 0 aB (fun (U:a4=D.length)=>?_)
 subst U
 refine aO (aH (lS R (lS R (aC (aJ (bY ?_))))))
 obtain rfl:=so b
 exact qF (Z,D.length,a1) (fun w s=>(s.e 4 [0]))
theorem Z8_ok  {v1:View}{r:Bool}(b:Z8 v1=some r) :
 FnOk Tryz.prog 116 [(.agg [(.slice A2 N2 D2),(.slice A3 N3 D3),(iv v1.Offset),(iv v1.Base)].toArray)] [aN kT3 (.slice A2 N2 D2) v1.Dims,aN kT3 (.slice A3 N3 D3) v1.Strides] (fun (h:Unit)=>((.bool r),[])):=by
 unfold Z8 at b
 refine aQ Tryz.func116 R 84 R R fun C V=>?_
 refine cL 0 aA ?_
 rintro rfl
 refine cL 1 aA ?_
 rintro rfl
 let W0:=RR kT3 A2 D2 v1.Dims::RR kT3 A3 D3 v1.Strides::V
 refine cN W0 ?_
 refine aR ?_
 refine eA R fun B=>?_
 refine aR ?_
 let l:=aI B [(sc A2 v1.Dims D2),(sc A3 v1.Strides D3),(iv v1.Offset),(iv v1.Base)] 96::W0
 refine qN l ?_
 refine aP ?_
 obtain ⟨D,a5,b⟩:=bd b
 refine cQ [(1,(pt B 0)),(40,(.bool ((((((!D)||((v1.Strides.length:Int) != (v1.Dims.length:Int)))||(decide (v1.Base<1)))||(decide (v1.Base>4096)))||(decide (v1.Offset<0)))||(decide (v1.Offset≥v1.Base)))))] (l) ?_ ?_
 refine aP ?_
 refine lM _ (fun w s=>(s.d 1 R)) ?_
 refine lC 1 jW R (Zn_ok a5) R ?_
 rintro _
 refine lN l ?_
 refine aR ?_
 rcases bo (!D) with a0 | a0
 refine vV ?_
 exact qj tI
 refine cO ?_
 rcases bo ((!D)||((v1.Strides.length:Int) != (v1.Dims.length:Int))) with a1 | a1
 refine xR ?_
 exact qj tI
 refine cB ?_
 rcases bo (((!D)||((v1.Strides.length:Int) != (v1.Dims.length:Int)))||(decide (v1.Base<1))) with a2 | a2
 refine oM ?_
 exact qj tI
 refine cB ?_
 rcases bo ((((!D)||((v1.Strides.length:Int) != (v1.Dims.length:Int)))||(decide (v1.Base<1)))||(decide (v1.Base>4096))) with F | F
 refine iC ?_
 exact qj tI
 refine cB ?_
 rcases bo (((((!D)||((v1.Strides.length:Int) != (v1.Dims.length:Int)))||(decide (v1.Base<1)))||(decide (v1.Base>4096)))||(decide (v1.Offset<0))) with G | G
 refine dJ ?_
 exact qj tI
 refine dJ ?_
 exact qj tI
 rintro σ1
 refine bU ?_
 split at b
 refine cU ?_
 cases b
 exact qF () (tE 3 [])
 refine bF ?_
 refine bA (A:=(Unit)×(Unit)) (fun a=>Z8_J1 v1=some r) (fun a=>[(1,(pt B 0))]) (fun a=>l) ?_ ?_
 refine bT ?_
 obtain ⟨e1,a3,T⟩:=bd b
 refine bC (A:=Unit) a3 (fun s a=>[(1,(pt B 0)),(3,(iv s))]) (fun s a=>l) () (aS R) tI ?_
 rintro m _ σ1 a6 b L
 dsimp only [Z8_L1] at b
 refine cW ?_
 split at b
 refine bT ?_
 obtain ⟨O,b⟩:=gd b
 refine cQ [(1,(pt B 0)),(3,(iv m)),(61,(.bool ((decide ((ix v1.Strides m)<(-4096:Int)))||(decide ((ix v1.Strides m)>4096)))))] (l) ?_ ?_
 refine bF ?_
 refine bB 2 aA (show 0<v1.Strides.length by have:=O; omega) (fun a9 o23 E=>?_)
 subst E
 refine bF ?_
 rcases bo (decide ((ix v1.Strides m)<(-4096:Int))) with I | I
 refine cU ?_
 exact qj tI
 refine cU ?_
 exact qj tI
 rintro σ1
 refine bU ?_
 split at b
 refine cO ?_
 cases b
 obtain rfl:=L _ R
 have b:=T
 refine aP ?_
 cases b
 exact qF () (tE 3 [])
 refine cO ?_
 cases b
 exact qA () tI
 refine aP ?_
 cases b
 obtain rfl:=L _ R
 have b:=T
 refine aR ?_
 exact qI ((),()) b tI
 rintro ⟨_,_⟩ σ1 b
 dsimp only [Z8_J1] at b
 refine bU ?_
 obtain ⟨g,Y,b⟩:=bd b
 refine aR ?_
 refine lM _ (fun w s=>(((s.d 1 R).d 3 R).e 2 [1,0])) ?_
 refine lC 2 pI R (Z09_ok Y) R ?_
 rintro ⟨i,a8,j⟩
 refine aL 0 aB ?_
 rintro rfl
 refine bF ?_
 refine bA (A:=(Unit)×(Unit)) (fun a=>Z8_J2=some r) (fun a=>[]) (fun a=>l) ?_ ?_
 refine bT ?_
 obtain ⟨e2,a4,U⟩:=bd b
 refine bC (A:=Unit) a4 (fun s a=>[(1,(pt B 0)),(4,(sc i g j)),(5,(iv s))]) (fun s a=>OO kT3 3 i j g::l) () (aS R) tI ?_
 rintro q _ σ1 a7 b M
 dsimp only [Z8_L2] at b
 refine cO ?_
 split at b
 refine bT ?_
 obtain ⟨u,b⟩:=gd b
 refine cQ [(1,(pt B 0)),(4,(sc i g j)),(5,(iv q)),(83,(.bool ((decide ((ix g q)<0))||(decide ((ix g q)≥v1.Base)))))] (OO kT3 3 i j g::l) ?_ ?_
 rcases bo (decide ((ix g q)<0)) with J | J
 refine aY 0 aB (show 0<g.length by have:=u; omega) (fun Z o40 E=>?_)
 subst E
 refine cZ 14 [] bN fun ht hn=>?_
 refine tQ 0 [] ?_
 refine dD ?_
 exact qj tI
 refine aY 0 aB (show 0<g.length by have:=u; omega) (fun Z o40 E=>?_)
 subst E
 refine cZ 14 [] bN fun ht hn=>?_
 refine tQ 0 [] ?_
 refine dD ?_
 exact qj tI
 rintro σ1
 refine bU ?_
 split at b
 refine cO ?_
 cases b
 obtain rfl:=M _ R
 have b:=U
 refine aP ?_
 cases b
 exact qF () (tE 4 [])
 refine cO ?_
 cases b
 exact qA () tI
 refine aP ?_
 cases b
 obtain rfl:=M _ R
 have b:=U
 refine aR ?_
 exact cI ((),()) b trivial (tE 1 [])
 rintro ⟨_,_⟩ σ1 b
 dsimp only [Z8_J2] at b
 refine bT ?_
 cases b
 exact qF () (tE 3 [])
theorem Z02_ok  {v1:View}{b:(List Int)}{r:View}(q:Z02 v1 b=some r) :
 FnOk Tryz.prog 83 [(.agg [(.slice A2 N2 D2),(.slice A3 N3 D3),(iv v1.Offset),(iv v1.Base)].toArray),(.slice A5 N5 D5)] [aN kT3 (.slice A2 N2 D2) v1.Dims,aN kT3 (.slice A3 N3 D3) v1.Strides,aN kT3 (.slice A5 N5 D5) b] (fun (h:HH×HH)=>((.agg [(s3 h.1),(s3 h.2),(iv r.Offset),(iv r.Base)].toArray),[ow kT3 3 (s3 h.1) r.Dims,ow kT3 3 (s3 h.2) r.Strides])):=by
 unfold Z02 at q
 refine aQ Tryz.func83 R 77 R R fun C V=>?_
 refine cL 0 aA ?_
 rintro rfl
 refine cL 1 aA ?_
 rintro rfl
 refine cL 2 aA ?_
 rintro rfl
 let W0:=RR kT3 A2 D2 v1.Dims::RR kT3 A3 D3 v1.Strides::RR kT3 A5 D5 b::V
 refine cN W0 ?_
 refine aR ?_
 refine eA R fun b6=>?_
 refine bD R R cX (fun T=>(aC ?_))
 let L:=aI b6 [(sc A2 v1.Dims D2),(sc A3 v1.Strides D3),(iv v1.Offset),(iv v1.Base)] 96::W0
 refine nd ?_
 obtain ⟨r8,am,q⟩:=bd q
 obtain ⟨ai,ae,q⟩:=bd q
 refine cQ [(1,(sc A5 b D5)),(2,(pt b6 0)),(4,(pt T 0)),(5,(iv (aG ((b.length:Int) - (v1.Dims.length:Int))))),(25,(.bool (((!r8)||(!ai))||(decide ((aG ((b.length:Int) - (v1.Dims.length:Int)))<0)))))] (aI T [(.slice none 0 0),(.slice none 0 0),(iv 0),(iv 0)] 96::L) ?_ ?_
 refine aR ?_
 refine lM (RR kT3 A2 D2 v1.Dims::RR kT3 A3 D3 v1.Strides::aI _ _ _::L) (fun w s=>(((s.d 2 R).d 4 R).e 3 [1,0,2])) ?_
 refine lC 2 li R (Z8_ok am) R ?_
 rintro _
 refine aR ?_
 rcases bo (!r8) with U | U
 refine cO ?_
 exact qj tI
 refine bU ?_
 refine lM (RR kT3 A5 D5 b::_::L) (fun w s=>(s.d 4 R)) ?_
 refine bS 1 R (bZ U) jW R (Zn_ok (bG ae (cK U))) R ?_
 rintro _
 refine aP ?_
 rcases bo ((!r8)||(!ai)) with a7 | a7
 refine bF ?_
 exact qj tI
 refine bF ?_
 exact qj tI
 rintro σ1
 refine bU ?_
 split at q
 refine aP ?_
 refine lO (vz (.agg [(.slice none 0 0),(.slice none 0 0),(iv 0),(iv 0)].toArray) (aW fD cX R R)) (aK 0 R R cD R R R R R R (aC (aJ (bY (cE ?_)))))
 cases q
 exact qS ((none,0,0),(none,0,0)) (fun w s=>(((s.nilo kT3 3).nilo kT3 3).e 7 [1,0]))
 refine bF ?_
 obtain ⟨g,O,q⟩:=bd q
 obtain ⟨l,q⟩:=gd q
 refine iN (A:=(Unit)×(Nat×HH×HH)) (fun _=>True) (fun a=>[(1,(sc A5 b D5)),(2,(pt b6 0)),(4,(pt T 0)),(5,(iv (aG ((b.length:Int) - (v1.Dims.length:Int))))),(6,(pt a.2.1 0))]) (fun a=>aI T [(.slice none 0 0),(.slice none 0 0),(iv 0),(iv 0)] 96::aI a.2.1 [(s3 a.2.2.1),(s3 a.2.2.2),(iv v1.Offset),(iv v1.Base)] 96::ow kT3 3 (s3 a.2.2.1) g::ow kT3 3 (s3 a.2.2.2) (List.replicate (b.length:Int).toNat (0:Int))::L) ?_ ?_
 refine cZ 12 [] bN fun ht hn=>?_
 refine dR 0 R (vS R) ?_
 refine gN 2 [] ?_
 refine nV 5 [] ?_
 refine hL [1,4,10] (by kernel_rfl) R ⟨?_,?_,?_,trivial⟩
 refine lM (RR kT3 A5 D5 b::_::L) (fun w s=>(s.d 4 R)) ?_
 refine lC 1 jF R (Zt_ok O) R ?_
 rintro ⟨u,a1,B⟩
 refine aL 0 aB ?_
 rintro rfl
 refine aC (aE (sL [0]) (hL [4,10] (by kernel_rfl) R ⟨?_,?_,trivial⟩))
 refine fH (K:=kT3) (m:=(b.length:Int)) (z:=(0:Int)) R R bM cC kc (Zr.zk zT3 gR) (by decide) R R l.1 l.2.1 l.2.2 (fun i j=>(aC (aE (sL [1,0]) (dR 9 R (vz (.agg [(sc u g B),(sc i (List.replicate (b.length:Int).toNat (0:Int)) j),(iv v1.Offset),(iv v1.Base)].toArray) (aW fD cX R R)) (hS:=(sL [1,0])) (d1 10 R (bD R R cX (fun D=>(aC (aE (sL [2,1,0]) (d1 11 R (aK 0 R R cD R R R R R R (lN (aI D [(sc u g B),(sc i (List.replicate (b.length:Int).toNat (0:Int)) j),(iv v1.Offset),(iv v1.Base)] 96::OO kT3 3 i j (List.replicate (b.length:Int).toNat (0:Int))::_::_::L) ?_))))))))))))
 refine aC (aE (sL [2,1,0]) (dD ?_))
 exact cI ((),(D,(u,g.length,B),(i,(List.replicate (b.length:Int).toNat (0:Int)).length,j))) trivial (aS R) (tE 4 [3,0,2,1])
 refine bD R R cX (fun D=>(aC (aE (sL [1,0]) (d1 4 R (fH (K:=kT3) (m:=(b.length:Int)) (z:=(0:Int)) R R bM cC kc (Zr.zk zT3 gR) (by decide) R R l.1 l.2.1 l.2.2 (fun i j=>(aC (aE (sL [2,1,0]) (dR 9 R (vz (.agg [(sc u g B),(sc i (List.replicate (b.length:Int).toNat (0:Int)) j),(iv v1.Offset),(iv v1.Base)].toArray) (aW fD cX R R)) (hS:=(sL [2,1,0])) (d1 11 R (aK 1 R R cD R R R R R R (lN (_::_::_::_::L) ?_))))))))))))
 refine aC (aE (sL [2,1,0]) (dD ?_))
 exact cI ((),(D,(u,g.length,B),(i,(List.replicate (b.length:Int).toNat (0:Int)).length,j))) trivial (aS R) (tE 4 [3,1,2,0])
 refine fH (K:=kT3) (m:=(b.length:Int)) (z:=(0:Int)) R R bM cC kc (Zr.zk zT3 gR) (by decide) R R l.1 l.2.1 l.2.2 (fun i j=>(aC (aE (sL [0]) (hL [1,10] (by kernel_rfl) R ⟨?_,?_,trivial⟩))))
 refine lM (RR kT3 A5 D5 b::_::_::L) (fun w s=>(s.d 5 R)) ?_
 refine lC 1 jF R (Zt_ok O) R ?_
 rintro ⟨u,a1,B⟩
 refine aL 0 aB ?_
 rintro rfl
 refine aC (aE (sL [1,0]) (dR 9 R (vz (.agg [(sc u g B),(sc i (List.replicate (b.length:Int).toNat (0:Int)) j),(iv v1.Offset),(iv v1.Base)].toArray) (aW fD cX R R)) (hS:=(sL [1,0])) (d1 10 R (bD R R cX (fun D=>(aC (aE (sL [2,1,0]) (d1 11 R (aK 0 R R cD R R R R R R (lN (aI D [(sc u g B),(sc i (List.replicate (b.length:Int).toNat (0:Int)) j),(iv v1.Offset),(iv v1.Base)] 96::_::_::_::L) ?_))))))))))
 refine aC (aE (sL [2,1,0]) (dD ?_))
 exact cI ((),(D,(u,g.length,B),(i,(List.replicate (b.length:Int).toNat (0:Int)).length,j))) trivial (aS R) (tE 4 [3,0,1,2])
 refine bD R R cX (fun D=>(aC (aE (sL [1,0]) (d1 1 R (lM (RR kT3 A5 D5 b::_::_::_::L) (fun w s=>(s.d 6 R)) ?_)))))
 refine lC 1 jF R (Zt_ok O) R ?_
 rintro ⟨u,a1,B⟩
 refine aL 0 aB ?_
 rintro rfl
 refine aC (aE (sL [2,1,0]) (dR 9 R (vz (.agg [(sc u g B),(sc i (List.replicate (b.length:Int).toNat (0:Int)) j),(iv v1.Offset),(iv v1.Base)].toArray) (aW fD cX R R)) (hS:=(sL [2,1,0])) (d1 11 R (aK 1 R R cD R R R R R R (lN (_::aI D [(sc u g B),(sc i (List.replicate (b.length:Int).toNat (0:Int)) j),(iv v1.Offset),(iv v1.Base)] 96::_::_::L) ?_)))))
 refine aC (aE (sL [2,1,0]) (dD ?_))
 exact cI ((),(D,(u,g.length,B),(i,(List.replicate (b.length:Int).toNat (0:Int)).length,j))) trivial (aS R) (tE 4 [3,1,0,2])
 refine bD R R cX (fun D=>(aC (aE (sL [0]) (hL [1,4] (by kernel_rfl) R ⟨?_,?_,trivial⟩))))
 refine lM (RR kT3 A5 D5 b::_::_::L) (fun w s=>(s.d 5 R)) ?_
 refine lC 1 jF R (Zt_ok O) R ?_
 rintro ⟨u,a1,B⟩
 refine aL 0 aB ?_
 rintro rfl
 refine aC (aE (sL [1,0]) (d1 4 R (fH (K:=kT3) (m:=(b.length:Int)) (z:=(0:Int)) R R bM cC kc (Zr.zk zT3 gR) (by decide) R R l.1 l.2.1 l.2.2 (fun i j=>(aC (aE (sL [2,1,0]) (dR 9 R (vz (.agg [(sc u g B),(sc i (List.replicate (b.length:Int).toNat (0:Int)) j),(iv v1.Offset),(iv v1.Base)].toArray) (aW fD cX R R)) (hS:=(sL [2,1,0])) (d1 11 R (aK 2 R R cD R R R R R R (lN (OO kT3 3 i j (List.replicate (b.length:Int).toNat (0:Int))::_::aI D [(sc u g B),(sc i (List.replicate (b.length:Int).toNat (0:Int)) j),(iv v1.Offset),(iv v1.Base)] 96::_::L) ?_))))))))))
 refine aC (aE (sL [2,1,0]) (dD ?_))
 exact cI ((),(D,(u,g.length,B),(i,(List.replicate (b.length:Int).toNat (0:Int)).length,j))) trivial (aS R) (tE 4 [3,2,1,0])
 refine fH (K:=kT3) (m:=(b.length:Int)) (z:=(0:Int)) R R bM cC kc (Zr.zk zT3 gR) (by decide) R R l.1 l.2.1 l.2.2 (fun i j=>(aC (aE (sL [1,0]) (d1 1 R (lM (RR kT3 A5 D5 b::_::aI D [(.slice none 0 0),(.slice none 0 0),(iv 0),(iv 0)] 96::_::L) (fun w s=>(s.d 6 R)) ?_)))))
 refine lC 1 jF R (Zt_ok O) R ?_
 rintro ⟨u,a1,B⟩
 refine aL 0 aB ?_
 rintro rfl
 refine aC (aE (sL [2,1,0]) (dR 9 R (vz (.agg [(sc u g B),(sc i (List.replicate (b.length:Int).toNat (0:Int)) j),(iv v1.Offset),(iv v1.Base)].toArray) (aW fD cX R R)) (hS:=(sL [2,1,0])) (d1 11 R (aK 2 R R cD R R R R R R (lN (_::_::aI D [(sc u g B),(sc i (List.replicate (b.length:Int).toNat (0:Int)) j),(iv v1.Offset),(iv v1.Base)] 96::_::L) ?_)))))
 refine aC (aE (sL [2,1,0]) (dD ?_))
 exact cI ((),(D,(u,g.length,B),(i,(List.replicate (b.length:Int).toNat (0:Int)).length,j))) trivial (aS R) (tE 4 [3,2,0,1])
 rintro ⟨_,⟨M,⟨F,aj,J⟩,⟨G,ak,E⟩⟩⟩ σ1 -
 refine hM 2 aB (fun (hn:aj=g.length)=>?_)
 subst hn
 refine hM 3 aB (fun (hn:ak=(List.replicate (b.length:Int).toNat (0:Int)).length)=>?_)
 subst hn
 refine aR ?_
 refine bA (A:=((List Int))×(Unit)) (fun a=>Z02_J3 v1 g a.1=some r) (fun a=>[(4,(pt T 0)),(6,(pt M 0))]) (fun a=>aI T [(.slice none 0 0),(.slice none 0 0),(iv 0),(iv 0)] 96::aI M [(sc F g J),(sc G (List.replicate (b.length:Int).toNat (0:Int)) E),(iv v1.Offset),(iv v1.Base)] 96::OO kT3 3 F J g::ow kT3 3 (.slice G (List.replicate (b.length:Int).toNat (0:Int)).length E) a.1::L) ?_ ?_
 refine bT ?_
 obtain ⟨e1,al,ac⟩:=bd q
 refine bC (A:=Unit) al (fun s a=>[(1,(sc A5 b D5)),(2,(pt b6 0)),(4,(pt T 0)),(5,(iv (aG ((b.length:Int) - (v1.Dims.length:Int))))),(6,(pt M 0)),(7,(iv s.2))]) (fun s a=>aI T [(.slice none 0 0),(.slice none 0 0),(iv 0),(iv 0)] 96::aI M [(sc F g J),(sc G (List.replicate (b.length:Int).toNat (0:Int)) E),(iv v1.Offset),(iv v1.Base)] 96::OO kT3 3 F J g::ow kT3 3 (.slice G (List.replicate (b.length:Int).toNat (0:Int)).length E) s.1::L) () (aS R) tI ?_
 rintro ⟨a2,a0⟩ _ σ1 ah q a8
 dsimp only [Z02_L1] at q
 refine cW ?_
 rcases cR q with ⟨a3,q⟩|⟨a3,q⟩
 refine bF ?_
 refine bA (A:=((List Int))×(Unit)) (fun a=>Z02_J2 a0 a.1=some ah) (fun a=>[(1,(sc A5 b D5)),(2,(pt b6 0)),(4,(pt T 0)),(5,(iv (aG ((b.length:Int) - (v1.Dims.length:Int))))),(6,(pt M 0)),(7,(iv a0))]) (fun a=>aI T [(.slice none 0 0),(.slice none 0 0),(iv 0),(iv 0)] 96::aI M [(sc F g J),(sc G (List.replicate (b.length:Int).toNat (0:Int)) E),(iv v1.Offset),(iv v1.Base)] 96::OO kT3 3 F J g::ow kT3 3 (.slice G (List.replicate (b.length:Int).toNat (0:Int)).length E) a.1::L) ?_ ?_
 refine aP ?_
 obtain ⟨a9,q⟩:=gd q
 obtain ⟨aa,q⟩:=gd q
 refine aY 5 aA (show 0<v1.Dims.length by have:=a9; omega) (fun ao o47 ha=>?_)
 subst ha
 refine aY 7 aA (show 0<b.length by have:=aa; omega) (fun ap o50 ha=>?_)
 subst ha
 refine cZ 13 [] bN fun ht hn=>?_
 refine md 0 [] ?_
 refine dD (aJ ?_)
 rcases cR q with ⟨a4,q⟩|⟨a4,q⟩
 refine bU ?_
 obtain ⟨ab,q⟩:=gd q
 obtain ⟨Y,q⟩:=gd q
 refine aY 6 aA (show 0<v1.Strides.length by have:=ab; omega) (fun aq o54 ha=>?_)
 subst ha
 refine aY 3 aB (show 0<(List.replicate (b.length:Int).toNat (0:Int)).length by have:=Y; omega) (fun a6 o57 ha=>?_)
 subst ha
 refine cZ 12 [3] bN fun ht hn=>?_
 refine nX 0 [3] ?_
 refine d1 11 R (lM (ow kT3 3 (.slice (ad a6 o57) (List.replicate (b.length:Int).toNat (0:Int)).length E) a2::aI _ _ _::aI M [(sc F g J),(sc (ad a6 o57) (List.replicate (b.length:Int).toNat (0:Int)) E),(iv v1.Offset),(iv v1.Base)] 96::OO kT3 3 F J g::L) (tE 4 [3,0,1,2]) ?_)
 refine dZ (K:=kT3) (x':=(ix v1.Strides a0)) 0 (aG ((aG ((b.length:Int) - (v1.Dims.length:Int)))+a0)) R R cC R R Y.1 Y.2 ?_ ?_
 exact fun I h s=>(gL).put I h () (ix v1.Strides a0) s
 refine aC (aE (sL [0]) (dD ?_))
 obtain ⟨ag,Z,q⟩:=bd q
 replace Z:=Option.some.inj Z
 refine qM (ow kT3 3 (.slice (ad a6 o57) (List.replicate (b.length:Int).toNat (0:Int)).length E) ag::_::_::_::L) (fun w s=>by rw [← Z]; exact s) ?_
 refine aR ?_
 exact qI (ag,()) q (tE 4 [1,2,3,0])
 refine bP R a4 ?_
 refine hW ?_
 rcases cR q with ⟨a5,q⟩|⟨a5,q⟩
 refine aP ?_
 refine lO (vz (.agg [(.slice none 0 0),(.slice none 0 0),(iv 0),(iv 0)].toArray) (aW fD cX R R)) (aK 0 R R cD R R R R R R (lN (_::aI M [(sc F g J),(sc G (List.replicate (b.length:Int).toNat (0:Int)) E),(iv v1.Offset),(iv v1.Base)] 96::_::ow kT3 3 (.slice G (List.replicate (b.length:Int).toNat (0:Int)).length E) a2::L) ?_))
 refine bT ?_
 cases q
 obtain rfl:=a8 _ R
 have q:=ac
 refine aP ?_
 cases q
 exact qS ((none,0,0),(none,0,0)) (fun w s=>(((s.nilo kT3 3).nilo kT3 3).e 10 [1,0]))
 refine bP R a5 ?_
 refine aP ?_
 exact qI (a2,()) q tI
 rintro ⟨ar,_⟩ σ1 q
 dsimp only [Z02_J2] at q
 refine cB ?_
 cases q
 exact qA () tI
 refine bP R a3 ?_
 refine aR ?_
 cases q
 obtain rfl:=a8 _ R
 have q:=ac
 refine aR ?_
 exact qI (a2,()) q tI
 rintro ⟨an,_⟩ σ1 q
 dsimp only [Z02_J3] at q
 refine aP ?_
 refine aK 0 R R cD R R R R R R (lN (aI T [(sc F g J),(sc G (List.replicate (b.length:Int).toNat (0:Int)) E),(iv v1.Offset),(iv v1.Base)] 96::_::_::ow kT3 3 (.slice G (List.replicate (b.length:Int).toNat (0:Int)).length E) an::L) ?_)
 refine aP ?_
 cases q
 exact qS ((F,g.length,J),(G,(List.replicate (b.length:Int).toNat (0:Int)).length,E)) (tE 8 [2,3])
theorem Z00_ok  {t1:Tensor}{v4:View}{r:Tensor}(i:Z00 t1 v4=some r) :
 FnOk Tryz.prog 82 [(.agg [(.slice A2 N2 D2),(.slice A3 N3 D3)].toArray),(.agg [(.slice A5 N5 D5),(.slice A6 N6 D6),(iv v4.Offset),(iv v4.Base)].toArray)] [aN kT3 (.slice A2 N2 D2) t1.Dims,aN kT3 (.slice A3 N3 D3) t1.Data,aN kT3 (.slice A5 N5 D5) v4.Dims,aN kT3 (.slice A6 N6 D6) v4.Strides] (fun (h:HH×HH)=>((.agg [(s3 h.1),(s3 h.2)].toArray),[ow kT3 3 (s3 h.1) r.Dims,ow kT3 3 (s3 h.2) r.Data])):=by
 unfold Z00 at i
 refine aQ Tryz.func82 R 51 R R fun C V=>?_
 refine cL 0 aA ?_
 rintro rfl
 refine cL 1 aA ?_
 rintro rfl
 refine cL 2 aA ?_
 rintro rfl
 refine cL 3 aA ?_
 rintro rfl
 let W0:=RR kT3 A2 D2 t1.Dims::RR kT3 A3 D3 t1.Data::RR kT3 A5 D5 v4.Dims::RR kT3 A6 D6 v4.Strides::V
 refine cN W0 ?_
 refine aR ?_
 refine eA R fun b7=>?_
 refine eA R fun b8=>?_
 refine bD R R dM (fun T=>(aC ?_))
 let G:=aI b8 [(sc A5 v4.Dims D5),(sc A6 v4.Strides D6),(iv v4.Offset),(iv v4.Base)] 96::aI b7 [(sc A2 t1.Dims D2),(sc A3 t1.Data D3)] 58::W0
 refine aP ?_
 obtain ⟨Z,a3,i⟩:=bd i
 obtain ⟨a7,a4,i⟩:=bd i
 refine cQ [(2,(pt b7 0)),(3,(pt b8 0)),(4,(pt T 0)),(23,(.bool (((!Z)||(!a7))||(v4.Base != (t1.Data.length:Int)))))] (aI T [(.slice none 0 0),(.slice none 0 0)] 58::G) ?_ ?_
 refine aR ?_
 refine lM _ (fun w s=>(((s.d 3 R).d 5 R).e 3 [1,0,2])) ?_
 refine lC 2 nf R (Zq_ok a3) R ?_
 rintro _
 refine aR ?_
 rcases bo (!Z) with E | E
 refine ka ?_
 exact qj tI
 refine bU ?_
 refine lM _ (fun w s=>(((s.d 5 R).d 7 R).e 3 [1,0,2])) ?_
 refine bS 2 R (bZ E) li R (Z8_ok (bG a4 (cK E))) R ?_
 rintro _
 refine aP ?_
 rcases bo ((!Z)||(!a7)) with a0 | a0
 refine cU ?_
 exact qj tI
 refine cU ?_
 exact qj tI
 rintro σ1
 refine bU ?_
 split at i
 refine aP ?_
 refine lO (vz (.agg [(.slice none 0 0),(.slice none 0 0)].toArray) (aW gM dM R R)) (aK 0 R R bR R R R R R R (aC (aJ (bY (cE ?_)))))
 cases i
 exact qS ((none,0,0),(none,0,0)) (fun w s=>(((s.nilo kT3 3).nilo kT3 3).e 9 [1,0]))
 refine bF ?_
 obtain ⟨j,a5,i⟩:=bd i
 refine aP ?_
 refine lM _ (fun w s=>(s.d 5 R)) ?_
 refine lC 1 jF R (Zt_ok a5) R ?_
 rintro ⟨l,an,m⟩
 refine aL 0 aB ?_
 rintro rfl
 refine lO (vz (.agg [(sc l j m),(.slice none 0 0)].toArray) (aW gM dM R R)) (bD R R dM (fun u=>(aK 0 R R bR R R R R R R (lN (aI u [(sc l j m),(.slice none 0 0)] 58::_::_::G) ?_))))
 refine aP ?_
 obtain ⟨b,a6,i⟩:=bd i
 refine aR ?_
 refine lM _ (fun w s=>(((s.d 7 R).d 9 R).e 5 [1,0,2,3,4])) ?_
 refine lC 2 pI R (Z09_ok a6) R ?_
 rintro ⟨J,ao,M⟩
 refine aL 0 aB ?_
 rintro rfl
 refine bF ?_
 refine bA (A:=((List Int))×(HH)) (fun a=>Z00_J1 j a.1=some r) (fun a=>[(4,(pt T 0)),(5,(pt u 0))]) (fun a=>aI T [(.slice none 0 0),(.slice none 0 0)] 58::aI u [(sc l j m),(s3 a.2)] 58::OO kT3 3 l m j::ow kT3 3 (s3 a.2) a.1::G) ?_ ?_
 refine bT ?_
 obtain ⟨e1,al,ak⟩:=bd i
 refine bC (A:=HH) al (fun s a=>[(2,(pt b7 0)),(4,(pt T 0)),(5,(pt u 0)),(6,(sc J b M)),(7,(iv s.2))]) (fun s a=>aI T [(.slice none 0 0),(.slice none 0 0)] 58::aI u [(sc l j m),(s3 a)] 58::OO kT3 3 l m j::ow kT3 3 (s3 a) s.1::OO kT3 3 J M b::G) (none,0,0) (aS R) (fun w s=>((s.nilo kT3 3).e 5 [4,2,3,0,1])) ?_
 rintro ⟨q,g⟩ ⟨a8,ag,ab⟩ σ1 am i aj
 dsimp only [Z00_L1] at i
 refine bJ 3 aB (fun (hn:ag=q.length)=>?_)
 subst hn
 refine cO ?_
 rcases cR i with ⟨U,i⟩|⟨U,i⟩
 refine cB ?_
 obtain ⟨a1,i⟩:=gd i
 obtain ⟨a2,i⟩:=gd i
 obtain ⟨Y,i⟩:=gd i
 refine iN (A:=(Unit)×(HH)) (fun _=>True) (fun a=>[(2,(pt b7 0)),(4,(pt T 0)),(5,(pt u 0)),(6,(sc J b M)),(7,(iv g))]) (fun a=>aI T [(.slice none 0 0),(.slice none 0 0)] 58::aI u [(sc l j m),(s3 a.2)] 58::OO kT3 3 l m j::ow kT3 3 (s3 a.2) (q++([(ix t1.Data (ix b g))]:List Int))::OO kT3 3 J M b::G) ?_ ?_
 refine aY 4 aB (show 0<b.length by have:=a1; omega) (fun ap o41 ha=>?_)
 subst ha
 refine aY 8 aA (show 0<t1.Data.length by have:=a2; omega) (fun aq o44 ha=>?_)
 subst ha
 refine cZ 14 [3,1] bN fun ht hn=>?_
 refine mA 0 [3,1] ?_
 refine tO 2 [3,1] ?_
 refine hL [1,10] (by kernel_rfl) R ⟨?_,?_,trivial⟩
 refine lO (gH 1 cT R R R) (aC (aE (sL [3,1]) (d1 10 R (bQ (K:=kT3) (xs:=([(ix t1.Data (ix b g))]:List Int)) (vs:=[(iv (ix t1.Data (ix b g)))]) 0 R R bM cC gR R R R R R R ?_ R (fun a9 ac=>?_)))))
 exact fun I h s=>(gL).list [((),(ix t1.Data (ix b g)))] I h s
 refine aC (aE (sL [4,2,0]) (d1 11 R (lM _ (tE 6 [4,0,1,2,3,5]) ?_)))
 refine eF (K:=kT3) 17592186044416 R R bM cC kc (Zr.zk zT3 gR) R R R R R R dP Y (fun B D=>(lN (OO kT3 3 B D (q++([(ix t1.Data (ix b g))]:List Int))::_::_::_::_::G) ?_))
 refine aC (aE (sL [2,0]) ?_)
 refine mA 12 [2,0] ?_
 refine d1 13 R (cP 2 R R fR R R R R R (lN (_::_::aI u [(sc l j m),(sc B (q++([(ix t1.Data (ix b g))]:List Int)) D)] 58::_::_::G) ?_))
 refine aC (aE (sL [2,0]) (dD ?_))
 exact cI ((),(B,(q++([(ix t1.Data (ix b g))]:List Int)).length,D)) trivial (aS R) (tE 5 [1,2,3,0,4])
 refine bQ (K:=kT3) (xs:=([(ix t1.Data (ix b g))]:List Int)) (vs:=[(iv (ix t1.Data (ix b g)))]) 0 R R bM cC gR R R R R R R ?_ R (fun a9 ac=>?_)
 exact fun I h s=>(gL).list [((),(ix t1.Data (ix b g)))] I h s
 refine aC (aE (sL [4,2,0]) (d1 1 R (lO (gH 2 cT R R R) (aC (aE (sL [4,2,0]) (d1 11 R (lM _ (tE 6 [4,0,1,2,3,5]) ?_)))))))
 refine eF (K:=kT3) 17592186044416 R R bM cC kc (Zr.zk zT3 gR) R R R R R R dP Y (fun B D=>(lN (OO kT3 3 B D (q++([(ix t1.Data (ix b g))]:List Int))::_::_::_::_::G) ?_))
 refine aC (aE (sL [2,0]) ?_)
 refine mA 12 [2,0] ?_
 refine d1 13 R (cP 2 R R fR R R R R R (lN (_::_::aI u [(sc l j m),(sc B (q++([(ix t1.Data (ix b g))]:List Int)) D)] 58::_::_::G) ?_))
 refine aC (aE (sL [2,0]) (dD ?_))
 exact cI ((),(B,(q++([(ix t1.Data (ix b g))]:List Int)).length,D)) trivial (aS R) (tE 5 [1,2,3,0,4])
 rintro ⟨_,⟨aa,ah,ae⟩⟩ σ1 -
 refine hM 3 aB (fun (hn:ah=(q++([(ix t1.Data (ix b g))]:List Int)).length)=>?_)
 subst hn
 refine dJ ?_
 cases i
 exact qA (aa,(q++([(ix t1.Data (ix b g))]:List Int)).length,ae) tI
 refine bP R U ?_
 refine aR ?_
 cases i
 obtain rfl:=aj _ R
 have i:=ak
 refine aR ?_
 exact qI (q,(a8,q.length,ab)) i (fun w s=>(s.f 5 [0,4]))
 rintro ⟨F,⟨L,ai,O⟩⟩ σ1 i
 dsimp only [Z00_J1] at i
 refine bJ 3 aB (fun (hn:ai=F.length)=>?_)
 subst hn
 refine aP ?_
 refine aK 0 R R bR R R R R R R (lN (aI T [(sc l j m),(sc L F O)] 58::aI u [(sc l j m),(sc L F O)] 58::_::OO kT3 3 L O F::G) ?_)
 refine aP ?_
 cases i
 exact qS ((l,j.length,m),(L,F.length,O)) (tE 10 [2,3])
theorem Z08_ok  {v1:View}{j:(List Int)}{r:View}(g:Z08 v1 j=some r) :
 FnOk Tryz.prog 85 [(.agg [(.slice A2 N2 D2),(.slice A3 N3 D3),(iv v1.Offset),(iv v1.Base)].toArray),(.slice A5 N5 D5)] [aN kT3 (.slice A2 N2 D2) v1.Dims,aN kT3 (.slice A3 N3 D3) v1.Strides,aN kT3 (.slice A5 N5 D5) j] (fun (h:HH×HH)=>((.agg [(s3 h.1),(s3 h.2),(iv r.Offset),(iv r.Base)].toArray),[ow kT3 3 (s3 h.1) r.Dims,ow kT3 3 (s3 h.2) r.Strides])):=by
 unfold Z08 at g
 refine aQ Tryz.func85 R 77 R R fun C V=>?_
 refine cL 0 aA ?_
 rintro rfl
 refine cL 1 aA ?_
 rintro rfl
 refine cL 2 aA ?_
 rintro rfl
 let W0:=RR kT3 A2 D2 v1.Dims::RR kT3 A3 D3 v1.Strides::RR kT3 A5 D5 j::V
 refine cN W0 ?_
 refine aR ?_
 refine eA R fun b6=>?_
 refine bD R R cX (fun Y=>(aC ?_))
 let W1:=aI b6 [(sc A2 v1.Dims D2),(sc A3 v1.Strides D3),(iv v1.Offset),(iv v1.Base)] 96::W0
 refine aP ?_
 obtain ⟨r8,ab,g⟩:=bd g
 obtain ⟨av,a5,g⟩:=bd g
 obtain ⟨b5,al,g⟩:=bd g
 obtain ⟨b8,am,g⟩:=bd g
 refine cQ [(1,(sc A5 j D5)),(2,(pt b6 0)),(4,(pt Y 0)),(24,(.bool (((!r8)||(!av))||(b5 != b8))))] (aI Y [(.slice none 0 0),(.slice none 0 0),(iv 0),(iv 0)] 96::W1) ?_ ?_
 rcases bo (!r8) with M | M
 refine cZ 16 [] bN fun ht hn=>?_
 refine mA 0 [] ?_
 refine d1 1 R (lM _ (fun w s=>(((s.d 2 R).d 4 R).e 3 [1,0,2])) ?_)
 refine lC 2 li R (Z8_ok ab) R ?_
 rintro _
 refine aC (aE (sL []) ?_)
 refine tQ 2 [] ?_
 refine dD ?_
 exact qj tI
 rcases bo ((!r8)||(!av)) with O | O
 refine cZ 16 [] bN fun ht hn=>?_
 refine mA 0 [] ?_
 refine d1 1 R (lM _ (fun w s=>(((s.d 2 R).d 4 R).e 3 [1,0,2])) ?_)
 refine lC 2 li R (Z8_ok ab) R ?_
 rintro _
 refine aC (aE (sL []) ?_)
 refine hO 2 [] ?_
 refine d1 5 R (lM _ (fun w s=>(s.d 4 R)) ?_)
 refine bS 1 R (bZ M) jW R (Zn_ok (bG a5 (cK M))) R ?_
 rintro _
 refine aC (aE (sL []) ?_)
 refine nW 6 [] ?_
 refine dD ?_
 exact qj tI
 refine cZ 16 [] bN fun ht hn=>?_
 refine mA 0 [] ?_
 refine d1 1 R (lM _ (fun w s=>(((s.d 2 R).d 4 R).e 3 [1,0,2])) ?_)
 refine lC 2 li R (Z8_ok ab) R ?_
 rintro _
 refine aC (aE (sL []) ?_)
 refine hO 2 [] ?_
 refine d1 5 R (lM _ (fun w s=>(s.d 4 R)) ?_)
 refine bS 1 R (bZ M) jW R (Zn_ok (bG a5 (cK M))) R ?_
 rintro _
 refine aC (aE (sL []) ?_)
 refine nV 6 [] ?_
 refine gN 11 [] ?_
 refine d1 10 R (lM _ (fun w s=>(s.d 4 R)) ?_)
 refine bS 1 R (bZ O) ne R (Zu_ok (bG al (cK O))) R ?_
 rintro _
 refine aC (aE (sL []) (d1 13 R (lM _ (fun w s=>(s.d 2 R)) ?_)))
 refine bS 1 R (bZ O) ne R (Zu_ok (bG am (cK O))) R ?_
 rintro _
 refine aC (aE (sL []) ?_)
 refine gN 14 [] ?_
 refine dD ?_
 exact qj tI
 rintro σ1
 refine bU ?_
 split at g
 refine aP ?_
 refine lO (vz (.agg [(.slice none 0 0),(.slice none 0 0),(iv 0),(iv 0)].toArray) (aW fD cX R R)) (aK 0 R R cD R R R R R R (aC (aJ (bY (cE ?_)))))
 cases g
 exact qS ((none,0,0),(none,0,0)) (fun w s=>(((s.nilo kT3 3).nilo kT3 3).e 7 [1,0]))
 refine bF ?_
 obtain ⟨b,an,g⟩:=bd g
 refine aR ?_
 refine lM _ (fun w s=>(((s.d 2 R).d 4 R).e 3 [1,0,2])) ?_
 refine lC 2 pI R (Z09_ok an) R ?_
 rintro ⟨u,bg,D⟩
 refine aL 0 aB ?_
 rintro rfl
 refine bF ?_
 obtain ⟨i,a6,g⟩:=bd g
 obtain ⟨ah,g⟩:=gd g
 refine iN (A:=(Unit)×(Nat×HH)) (fun _=>True) (fun a=>[(1,(sc A5 j D5)),(4,(pt Y 0)),(5,(sc u b D)),(6,(pt a.2.1 0))]) (fun a=>aI Y [(.slice none 0 0),(.slice none 0 0),(iv 0),(iv 0)] 96::OO kT3 3 u D b::aI a.2.1 [(s3 a.2.2),(.slice none 0 0),(iv (ix b 0)),(iv v1.Base)] 96::ow kT3 3 (s3 a.2.2) i::W1) ?_ ?_
 refine aY 0 aB (show 0<b.length by have:=ah; omega) (fun bi o27 ha=>?_)
 subst ha
 refine cZ 10 [] bN fun ht hn=>?_
 refine dR 0 R (vS R) ?_
 refine kb 2 [] ?_
 refine hL [1,8] (by kernel_rfl) R ⟨?_,?_,trivial⟩
 refine lM _ (fun w s=>(s.d 5 R)) ?_
 refine lC 1 jF R (Zt_ok a6) R ?_
 rintro ⟨T,ay,U⟩
 refine aL 0 aB ?_
 rintro rfl
 refine aC (aE (sL [0]) (dR 7 R (vz (.agg [(sc T i U),(.slice none 0 0),(iv (ix b 0)),(iv v1.Base)].toArray) (aW fD cX R R)) (hS:=(sL [0])) (d1 8 R (bD R R cX (fun a0=>(aC (aE (sL [1,0]) (d1 9 R (aK 0 R R cD R R R R R R (lN (aI a0 [(sc T i U),(.slice none 0 0),(iv (ix b 0)),(iv v1.Base)] 96::_::_::_::W1) ?_))))))))))
 refine aC (aE (sL [1,0]) (dD ?_))
 exact cI ((),(a0,(T,i.length,U))) trivial (aS R) (tE 4 [3,2,0,1])
 refine bD R R cX (fun a0=>(aC (aE (sL [0]) (d1 1 R (lM _ (fun w s=>(s.d 6 R)) ?_)))))
 refine lC 1 jF R (Zt_ok a6) R ?_
 rintro ⟨T,ay,U⟩
 refine aL 0 aB ?_
 rintro rfl
 refine aC (aE (sL [1,0]) (dR 7 R (vz (.agg [(sc T i U),(.slice none 0 0),(iv (ix b 0)),(iv v1.Base)].toArray) (aW fD cX R R)) (hS:=(sL [1,0])) (d1 9 R (aK 1 R R cD R R R R R R (lN (_::aI a0 [(sc T i U),(.slice none 0 0),(iv (ix b 0)),(iv v1.Base)] 96::_::_::W1) ?_)))))
 refine aC (aE (sL [1,0]) (dD ?_))
 exact cI ((),(a0,(T,i.length,U))) trivial (aS R) (tE 4 [3,2,1,0])
 rintro ⟨_,⟨J,⟨l,az,m⟩⟩⟩ σ1 -
 refine hM 3 aB (fun (hn:az=i.length)=>?_)
 subst hn
 refine aR ?_
 refine bA (A:=((List Int))×(HH)) (fun a=>Z08_J3 v1 b i a.1=some r) (fun a=>[(4,(pt Y 0)),(5,(sc u b D)),(6,(pt J 0))]) (fun a=>aI Y [(.slice none 0 0),(.slice none 0 0),(iv 0),(iv 0)] 96::OO kT3 3 u D b::aI J [(sc l i m),(s3 a.2),(iv (ix b 0)),(iv v1.Base)] 96::OO kT3 3 l m i::ow kT3 3 (s3 a.2) a.1::W1) ?_ ?_
 refine bT ?_
 obtain ⟨e1,b4,b3⟩:=bd g
 refine bC (A:=HH) b4 (fun s a=>[(1,(sc A5 j D5)),(4,(pt Y 0)),(5,(sc u b D)),(6,(pt J 0)),(7,(iv s.2))]) (fun s a=>aI Y [(.slice none 0 0),(.slice none 0 0),(iv 0),(iv 0)] 96::OO kT3 3 u D b::aI J [(sc l i m),(s3 a),(iv (ix b 0)),(iv v1.Base)] 96::OO kT3 3 l m i::ow kT3 3 (s3 a) s.1::W1) (none,0,0) (aS R) (fun w s=>((s.nilo kT3 3).f 5 [1,4,0,1])) ?_
 rintro ⟨L,ac⟩ ⟨a7,b0,a9⟩ σ1 au g b2
 dsimp only [Z08_L1] at g
 refine bJ 4 aB (fun (hn:b0=L.length)=>?_)
 subst hn
 refine cO ?_
 rcases cR g with ⟨a2,g⟩|⟨a2,g⟩
 refine hW ?_
 refine bA (A:=(Int)×(Unit)) (fun a=>Z08_J2 L ac a.1=some au) (fun a=>[(1,(sc A5 j D5)),(4,(pt Y 0)),(5,(sc u b D)),(6,(pt J 0)),(7,(iv ac)),(8,(iv a.1))]) (fun a=>aI Y [(.slice none 0 0),(.slice none 0 0),(iv 0),(iv 0)] 96::OO kT3 3 u D b::aI J [(sc l i m),(sc a7 L a9),(iv (ix b 0)),(iv v1.Base)] 96::OO kT3 3 l m i::OO kT3 3 a7 a9 L::W1) ?_ ?_
 refine bU ?_
 obtain ⟨ai,g⟩:=gd g
 refine aP ?_
 refine bB 8 aA (show 0<j.length by have:=ai; omega) (fun bj o53 ha=>?_)
 subst ha
 refine cB ?_
 rcases cR g with ⟨a3,g⟩|⟨a3,g⟩
 refine bU ?_
 obtain ⟨a1,g⟩:=gd g
 obtain ⟨b9,ao,g⟩:=bd g
 obtain ⟨aj,g⟩:=gd g
 refine aY 1 aB (show 0<b.length by have:=aj; omega) (fun bk o61 ha=>?_)
 subst ha
 refine cZ 13 [] bN fun ht hn=>?_
 refine nV 0 [] ?_
 refine hO 8 [] ?_
 refine d1 4 R (fY (K:=kT3) (aG (ac+1)) (j.length:Int) 8 R R bM cC R R R R a1.1 a1.2.1 a1.2.2 (fun bb be=>(aC (aE (sL [0]) (d1 5 R (lM _ (fun w s=>(s.d 0 R)) ?_))))))
 refine lC 1 ne R (Zu_ok ao) R ?_
 rintro _
 refine aC (aE (sL [0]) ?_)
 refine gN 6 [0] ?_
 refine gN 11 [0] ?_
 refine dD ?_
 exact qI ((aG ((ix b b9) - (ix b 0))),()) g (fun w s=>(s.f 6 [1,5]))
 refine bP R a3 (dL ?_)
 exact qI ((0:Int),()) g tI
 rintro ⟨Z,_⟩ σ1 g
 dsimp only [Z08_J2] at g
 obtain ⟨ak,g⟩:=gd g
 refine bF ?_
 refine bQ (K:=kT3) (xs:=([Z]:List Int)) (vs:=[(iv Z)]) 0 R R bM cC gR R R R R R R ?_ R (fun bc bf=>?_)
 exact fun I h s=>(gL).list [((),Z)] I h s
 refine lM _ (fun w s=>(s.f 6 [5,1,0,5])) ?_
 refine eF (K:=kT3) 17592186044416 R R bM cC kc (Zr.zk zT3 gR) R R R R R R dP ak (fun a8 aa=>(lN (OO kT3 3 a8 aa (L++([Z]:List Int))::_::_::_::_::W1) ?_))
 refine bU ?_
 refine cP 3 R R fR R R R R R (lN (_::_::_::aI J [(sc l i m),(sc a8 (L++([Z]:List Int)) aa),(iv (ix b 0)),(iv v1.Base)] 96::_::W1) ?_)
 refine cU ?_
 cases g
 exact qA (a8,(L++([Z]:List Int)).length,aa) (fun w s=>(s.f 5 [1,4,0,1]))
 refine bP R a2 ?_
 refine aR ?_
 cases g
 obtain rfl:=b2 _ R
 have g:=b3
 refine aR ?_
 exact qI (L,(a7,L.length,a9)) g tI
 rintro ⟨q,⟨F,b1,G⟩⟩ σ1 g
 dsimp only [Z08_J3] at g
 refine bJ 4 aB (fun (hn:b1=q.length)=>?_)
 subst hn
 refine aR ?_
 obtain ⟨aw,ap,g⟩:=bd g
 obtain ⟨ax,aq,g⟩:=bd g
 obtain ⟨ba,ar,g⟩:=bd g
 refine cQ [(4,(pt Y 0)),(6,(pt J 0)),(74,(.bool ((!aw)||(!ba))))] (aI Y [(.slice none 0 0),(.slice none 0 0),(iv 0),(iv 0)] 96::aI J [(sc l i m),(sc F q G),(iv (ix b 0)),(iv v1.Base)] 96::OO kT3 3 l m i::OO kT3 3 F G q::W1) ?_ ?_
 refine aR ?_
 refine lM _ (fun w s=>(s.f 5 [3,2,0,3])) ?_
 refine lC 2 li R (FnOk.lends (A':=[OO kT3 3 l m i,OO kT3 3 F G q]) (A:=[RR kT3 l m i,RR kT3 F G q]) (B:=[]) (Z8_ok (v1:=(⟨i,q,(ix b 0),v1.Base⟩:View)) ap) ⟨aX,aX,trivial⟩ (fun _=>trivial)) R ?_
 rintro _
 refine aR ?_
 rcases bo (!aw) with E | E
 refine dJ ?_
 exact qj (tE 5 [2,4,0,1])
 refine lW (bZ E) (vz (.agg [(sc l i m),(sc F q G),(iv (ix b 0)),(iv v1.Base)].toArray) (eC 4 gD cD R R R R)) (bS 2 R (bZ E) pI R (FnOk.lends (A':=[OO kT3 3 l m i,OO kT3 3 F G q]) (A:=[RR kT3 l m i,RR kT3 F G q]) (B:=[]) (Z09_ok (v1:=(⟨i,q,(ix b 0),v1.Base⟩:View)) (bG aq (cK E))) ⟨aX,aX,trivial⟩ (fun _=>⟨(bK j0),trivial⟩)) R ?_)
 rintro ⟨ae,bh,ag⟩
 refine aL 2 aB ?_
 rintro rfl
 refine bU ?_
 refine lM _ (tE 6 [2,4,0,1,3,5]) ?_
 refine bS 2 R (bZ E) wh R (FnOk.lends (A':=[OO kT3 3 ae ag ax,OO kT3 3 u D b]) (A:=[RR kT3 ae ag ax,RR kT3 u D b]) (B:=[]) (Zz_ok (bG ar (cK E))) ⟨aX,aX,trivial⟩ (fun _=>trivial)) R ?_
 rintro _
 refine aP ?_
 exact qj (tE 6 [4,5,2,3])
 rintro σ1
 refine bU ?_
 rcases cR g with ⟨a4,g⟩|⟨a4,g⟩
 refine aP ?_
 refine lO (vz (.agg [(.slice none 0 0),(.slice none 0 0),(iv 0),(iv 0)].toArray) (aW fD cX R R)) (aK 0 R R cD R R R R R R (lN (_::_::_::_::W1) ?_))
 refine bF ?_
 cases g
 exact qS ((none,0,0),(none,0,0)) (fun w s=>(((s.nilo kT3 3).nilo kT3 3).e 10 [1,0]))
 refine bP R a4 ?_
 refine cB ?_
 refine aK 0 R R cD R R R R R R (lN (aI Y [(sc l i m),(sc F q G),(iv (ix b 0)),(iv v1.Base)] 96::_::_::_::W1) ?_)
 refine aP ?_
 cases g
 exact qS ((l,i.length,m),(F,q.length,G)) (tE 8 [2,3])
theorem Z26_ok  {v1:View}{a:Int}{r:Bool}(b:Z26 v1 a=some r) :
 FnOk Tryz.prog 119 [(.agg [(.slice A2 N2 D2),(.slice A3 N3 D3),(iv v1.Offset),(iv v1.Base)].toArray),(iv a)] [aN kT3 (.slice A2 N2 D2) v1.Dims,aN kT3 (.slice A3 N3 D3) v1.Strides] (fun (h:Unit)=>((.bool r),[])):=by
 unfold Z26 at b
 refine aQ Tryz.func119 R 18 R R fun C V=>?_
 refine cL 0 aA ?_
 rintro rfl
 refine cL 1 aA ?_
 rintro rfl
 let q:=RR kT3 A2 D2 v1.Dims::RR kT3 A3 D3 v1.Strides::V
 refine cN q ?_
 refine aR ?_
 refine eA R fun u=>?_
 refine aR ?_
 let g:=aI u [(sc A2 v1.Dims D2),(sc A3 v1.Strides D3),(iv v1.Offset),(iv v1.Base)] 96::q
 refine qN g ?_
 refine aR ?_
 obtain ⟨m,l,b⟩:=bd b
 refine cQ [(4,(.bool ((m&&(decide (a≥0)))&&(decide (a<(v1.Dims.length:Int))))))] (g) ?_ ?_
 refine aR ?_
 refine lM _ (fun w s=>(((s.d 1 R).d 3 R).e 2 [1,0])) ?_
 refine lC 2 li R (Z8_ok l) R ?_
 rintro _
 refine lN g ?_
 refine bU ?_
 rcases bo m with i | i
 refine bF ?_
 rcases bo (m&&(decide (a≥0))) with j | j
 refine cU ?_
 exact qj tI
 refine cU ?_
 exact qj tI
 refine iC ?_
 exact qj tI
 rintro σ1
 refine aR ?_
 cases b
 exact qF () (tE 3 [])
theorem Z28_ok  {v1:View}{r:View}(a:Z28 v1=some r) :
 FnOk Tryz.prog 120 [(.agg [(.slice A2 N2 D2),(.slice A3 N3 D3),(iv v1.Offset),(iv v1.Base)].toArray)] [aN kT3 (.slice A2 N2 D2) v1.Dims,aN kT3 (.slice A3 N3 D3) v1.Strides] (fun (h:HH×HH)=>((.agg [(s3 h.1),(s3 h.2),(iv r.Offset),(iv r.Base)].toArray),[ow kT3 3 (s3 h.1) r.Dims,ow kT3 3 (s3 h.2) r.Strides])):=by
 unfold Z28 at a
 refine aQ Tryz.func120 R 14 R R fun C V=>?_
 refine cL 0 aA ?_
 rintro rfl
 refine cL 1 aA ?_
 rintro rfl
 let j:=RR kT3 A2 D2 v1.Dims::RR kT3 A3 D3 v1.Strides::V
 refine cN j ?_
 refine aR ?_
 refine eA R fun m=>?_
 refine bD R R cX (fun q=>(aC ?_))
 let l:=aI m [(sc A2 v1.Dims D2),(sc A3 v1.Strides D3),(iv v1.Offset),(iv v1.Base)] 96::j
 refine aR ?_
 obtain ⟨g,e,a⟩:=bd a
 obtain ⟨i,b,a⟩:=bd a
 refine cZ 12 [0] bN fun B u=>?_
 refine gN 0 [0] ?_
 refine gN 3 [0] ?_
 refine nV 6 [0] ?_
 refine d1 2 R (lM _ (fun w s=>(s.d 2 R)) ?_)
 refine lC 1 jF R (Zt_ok e) R ?_
 rintro ⟨A8,N8,D8⟩
 refine aL 0 aB ?_
 rintro rfl
 refine aC (aE (sL [1,0]) (d1 5 R (lM _ (fun w s=>(s.d 4 R)) ?_)))
 refine lC 1 jF R (Zt_ok b) R ?_
 rintro ⟨A11,N11,D11⟩
 refine aL 0 aB ?_
 rintro rfl
 refine aC (aE (sL [2,1,0]) (dR 10 R (vz (.agg [(sc A8 g D8),(sc A11 i D11),(iv v1.Offset),(iv v1.Base)].toArray) (aW fD cX R R)) (hS:=(sL [2,1,0])) (d1 11 R (aK 2 R R cD R R R R R R (lN (_::_::aI q [(sc A8 g D8),(sc A11 i D11),(iv v1.Offset),(iv v1.Base)] 96::l) ?_)))))
 refine aC (aE (sL [2,1,0]) (dD ?_))
 refine aR ?_
 cases a
 exact qS ((A8,g.length,D8),(A11,i.length,D11)) (tE 6 [1,0])
theorem Z29_ok  {v1:View}{r:View}(a:Z29 v1=some r) :
 FnOk Tryz.prog 121 [(.agg [(.slice A2 N2 D2),(.slice A3 N3 D3),(iv v1.Offset),(iv v1.Base)].toArray)] [aN kT3 (.slice A2 N2 D2) v1.Dims,aN kT3 (.slice A3 N3 D3) v1.Strides] (fun (h:HH×HH)=>((.agg [(s3 h.1),(s3 h.2),(iv r.Offset),(iv r.Base)].toArray),[aN kT3 (s3 h.1) r.Dims,aN kT3 (s3 h.2) r.Strides])):=by
 unfold Z29 at a
 refine aQ Tryz.func121 R 8 R R fun C V=>?_
 refine cL 0 aA ?_
 rintro rfl
 refine cL 1 aA ?_
 rintro rfl
 let g:=RR kT3 A2 D2 v1.Dims::RR kT3 A3 D3 v1.Strides::V
 refine cN g ?_
 refine aR ?_
 refine eA R fun j=>?_
 refine bD R R cX (fun l=>(aC ?_))
 let i:=aI j [(sc A2 v1.Dims D2),(sc A3 v1.Strides D3),(iv v1.Offset),(iv v1.Base)] 96::g
 refine aP ?_
 obtain ⟨m,b,a⟩:=bd a
 refine aR ?_
 refine lM _ (fun w s=>(((s.d 2 R).d 4 R).e 3 [1,0,2])) ?_
 refine lC 2 li R (Z8_ok b) R ?_
 rintro _
 refine aP ?_
 split at a
 refine aP ?_
 refine lO (vz (.agg [(.slice none 0 0),(.slice none 0 0),(iv 0),(iv 0)].toArray) (aW fD cX R R)) (aK 0 R R cD R R R R R R (aC (aJ (bY (cE ?_)))))
 cases a
 exact qS ((none,0,0),(none,0,0)) (fun w s=>(((s.nilr kT3).nilr kT3).e 6 [1,0]))
 refine bT ?_
 refine aK 0 R R cD R R R R R R (lN (aI l [(sc A2 v1.Dims D2),(sc A3 v1.Strides D3),(iv v1.Offset),(iv v1.Base)] 96::i) ?_)
 refine aP ?_
 cases a
 exact qS ((A2,v1.Dims.length,D2),(A3,v1.Strides.length,D3)) (tE 4 [2,3])
theorem Z17_ok  {v1:View}{g:Int}{L:Int}{b:Int}{j:Int}{r:View}(J:Z17 v1 g L b j=some r) :
 FnOk Tryz.prog 86 [(.agg [(.slice A2 N2 D2),(.slice A3 N3 D3),(iv v1.Offset),(iv v1.Base)].toArray),(iv g),(iv L),(iv b),(iv j)] [aN kT3 (.slice A2 N2 D2) v1.Dims,aN kT3 (.slice A3 N3 D3) v1.Strides] (fun (h:HH×HH)=>((.agg [(.slice h.1.1 h.1.2.1 h.1.2.2),(.slice h.2.1 h.2.2.1 h.2.2.2),(iv r.Offset),(iv r.Base)].toArray),[aN kT3 (.slice h.1.1 h.1.2.1 h.1.2.2) r.Dims,aN kT3 (.slice h.2.1 h.2.2.1 h.2.2.2) r.Strides])):=by
 unfold Z17 at J
 refine aQ Tryz.func86 R 102 R R fun C V=>?_
 refine cN (_::_::V) ?_
 refine cL 0 aA ?_
 rintro rfl
 refine cL 1 aA ?_
 rintro rfl
 let W0:List HP:=RR kT3 A2 D2 v1.Dims::RR kT3 A3 D3 v1.Strides::V
 refine cN W0 ?_
 refine aO (aH (eA R (fun b8=>(bD R R cX (fun b9=>(aC ?_))))))
 let U:List HP:=aI b8 [(sc A2 v1.Dims D2),(sc A3 v1.Strides D3),(iv v1.Offset),(iv v1.Base)] 96::W0
 refine qN (_::U) ?_
 refine aJ (aO (aO ?_))
 obtain ⟨a0,aj,J⟩:=bd J
 obtain ⟨a7,J⟩:=gd J
 refine cQ [(1,(iv g)),(2,(iv L)),(3,(iv b)),(4,(iv j)),(5,(pt b8 0)),(10,(pt b9 0)),(45,(.bool (((((((!a0)||(decide (b<(1:Int))))||(decide (b>(4096:Int))))||(decide (j<(-4096:Int))))||(decide (j>(4096:Int))))||(decide (L<(0:Int))))||(decide (L≥(ix v1.Dims g))))))] (aI b9 [(.slice none 0 0),(.slice none 0 0),(iv 0),(iv 0)] 96::U) ?_ ?_
 refine aH (lO (vz (.agg [(sc A2 v1.Dims D2),(sc A3 v1.Strides D3),(iv v1.Offset),(iv v1.Base)].toArray) (eC 1 gD cD R R R R)) (lI R (lM (RR kT3 A2 D2 v1.Dims::RR kT3 A3 D3 v1.Strides::aI _ _ _::U) (fun w s=>(((s.d 2 R).d 4 R).e 3 [1,0,2])) ?_)))
 refine lC 2 uW R (Z26_ok aj) R ?_
 rintro _
 refine lN (_::U) ?_
 refine lO (rE R) (lB R ?_)
 rcases bo (!a0) with l | l
 refine lf (dX l) (lf (dX l) (lO (eW (decide (b<(1:Int))) R l) (lB R (lf (dX (oT l)) (lf (dX (oT l)) (lO (eW (decide (b>(4096:Int))) R (oT l)) (lB R (lf (dX (oT (oT l))) (lf (dX (oT (oT l))) (lO (eW (decide (j<(-4096:Int))) R (oT (oT l))) (lB R (lf (dX (oT (oT (oT l)))) (lf (dX (oT (oT (oT l)))) (lO (eW (decide (j>(4096:Int))) R (oT (oT (oT l)))) (lB R (lf (dX (oT (oT (oT (oT l))))) (lf (dX (oT (oT (oT (oT l))))) (lO (eW (decide (L<(0:Int))) R (oT (oT (oT (oT l))))) (lB R (lf (dX (oT (oT (oT (oT (oT l)))))) (lf (dX (oT (oT (oT (oT (oT l)))))) (lf (dX (oT (oT (oT (oT (oT l)))))) (lf (dX (oT (oT (oT (oT (oT l)))))) (lf (dX (oT (oT (oT (oT (oT l)))))) (lf (dX (oT (oT (oT (oT (oT l)))))) (lf (dX (oT (oT (oT (oT (oT l)))))) (lO (eW (decide (L≥(ix v1.Dims g))) R (oT (oT (oT (oT (oT l)))))) (aC ?_))))))))))))))))))))))))))))
 exact qJ (fun w s=>s)
 refine lW (bZ l) (vI R) (lW (bZ l) (nR R R) (lO (fK R l R) (lB R ?_)))
 rcases bo ((!a0)||(decide (b<(1:Int)))) with m | m
 refine lf (dX m) (lf (dX m) (lO (eW (decide (b>(4096:Int))) R m) (lB R (lf (dX (oT m)) (lf (dX (oT m)) (lO (eW (decide (j<(-4096:Int))) R (oT m)) (lB R (lf (dX (oT (oT m))) (lf (dX (oT (oT m))) (lO (eW (decide (j>(4096:Int))) R (oT (oT m))) (lB R (lf (dX (oT (oT (oT m)))) (lf (dX (oT (oT (oT m)))) (lO (eW (decide (L<(0:Int))) R (oT (oT (oT m)))) (lB R (lf (dX (oT (oT (oT (oT m))))) (lf (dX (oT (oT (oT (oT m))))) (lf (dX (oT (oT (oT (oT m))))) (lf (dX (oT (oT (oT (oT m))))) (lf (dX (oT (oT (oT (oT m))))) (lf (dX (oT (oT (oT (oT m))))) (lf (dX (oT (oT (oT (oT m))))) (lO (eW (decide (L≥(ix v1.Dims g))) R (oT (oT (oT (oT m))))) (aC ?_))))))))))))))))))))))))
 exact qJ (fun w s=>s)
 refine lW (bZ m) (vI R) (lW (bZ m) (xJ R R) (lO (fK R m R) (lB R ?_)))
 rcases bo (((!a0)||(decide (b<(1:Int))))||(decide (b>(4096:Int)))) with q | q
 refine lf (dX q) (lf (dX q) (lO (eW (decide (j<(-4096:Int))) R q) (lB R (lf (dX (oT q)) (lf (dX (oT q)) (lO (eW (decide (j>(4096:Int))) R (oT q)) (lB R (lf (dX (oT (oT q))) (lf (dX (oT (oT q))) (lO (eW (decide (L<(0:Int))) R (oT (oT q))) (lB R (lf (dX (oT (oT (oT q)))) (lf (dX (oT (oT (oT q)))) (lf (dX (oT (oT (oT q)))) (lf (dX (oT (oT (oT q)))) (lf (dX (oT (oT (oT q)))) (lf (dX (oT (oT (oT q)))) (lf (dX (oT (oT (oT q)))) (lO (eW (decide (L≥(ix v1.Dims g))) R (oT (oT (oT q)))) (aC ?_))))))))))))))))))))
 exact qJ (fun w s=>s)
 refine lW (bZ q) (vI R) (lW (bZ q) (nR R R) (lO (fK R q R) (lB R ?_)))
 rcases bo ((((!a0)||(decide (b<(1:Int))))||(decide (b>(4096:Int))))||(decide (j<(-4096:Int)))) with D | D
 refine lf (dX D) (lf (dX D) (lO (eW (decide (j>(4096:Int))) R D) (lB R (lf (dX (oT D)) (lf (dX (oT D)) (lO (eW (decide (L<(0:Int))) R (oT D)) (lB R (lf (dX (oT (oT D))) (lf (dX (oT (oT D))) (lf (dX (oT (oT D))) (lf (dX (oT (oT D))) (lf (dX (oT (oT D))) (lf (dX (oT (oT D))) (lf (dX (oT (oT D))) (lO (eW (decide (L≥(ix v1.Dims g))) R (oT (oT D))) (aC ?_))))))))))))))))
 exact qJ (fun w s=>s)
 refine lW (bZ D) (vI R) (lW (bZ D) (xJ R R) (lO (fK R D R) (lB R ?_)))
 rcases bo (((((!a0)||(decide (b<(1:Int))))||(decide (b>(4096:Int))))||(decide (j<(-4096:Int))))||(decide (j>(4096:Int)))) with E | E
 refine lf (dX E) (lf (dX E) (lO (eW (decide (L<(0:Int))) R E) (lB R (lf (dX (oT E)) (lf (dX (oT E)) (lf (dX (oT E)) (lf (dX (oT E)) (lf (dX (oT E)) (lf (dX (oT E)) (lf (dX (oT E)) (lO (eW (decide (L≥(ix v1.Dims g))) R (oT E)) (aC ?_))))))))))))
 exact qJ (fun w s=>s)
 refine lW (bZ E) (vI R) (lW (bZ E) (nR R R) (lO (fK R E R) (lB R ?_)))
 rcases bo ((((((!a0)||(decide (b<(1:Int))))||(decide (b>(4096:Int))))||(decide (j<(-4096:Int))))||(decide (j>(4096:Int))))||(decide (L<(0:Int)))) with u | u
 refine lf (dX u) (lf (dX u) (lf (dX u) (lf (dX u) (lf (dX u) (lf (dX u) (lf (dX u) (lO (eW (decide (L≥(ix v1.Dims g))) R u) (aC ?_))))))))
 exact qJ (fun w s=>s)
 refine lW (bZ u) (vI R) (lW (bZ u) (fV 0 gE R) (lW (bZ u) (gH 1 cT R R R) (lW (bZ u) (vI R) (bB 2 aA (show 0<v1.Dims.length by have:=(a7 u); omega) (fun aq o14 ha=>?_)))))
 subst ha
 refine lW (bZ u) (eI bM cC R R (a7 u)) (lW (bZ u) (gI 2 fM aA R (a7 u)) (lW (bZ u) (zM R R) (lO (fK R u R) (aC ?_))))
 exact qJ (fun w s=>s)
 rintro σ1
 refine aJ ?_
 rcases cR J with ⟨a4,J⟩|⟨a4,J⟩
 refine cG R a4 (aO (aH (lO (vz (.agg [(.slice none 0 0),(.slice none 0 0),(iv 0),(iv 0)].toArray) (aW fD cX R R)) (aK 0 R R cD R R R R R R (aC (aJ (bY (cE ?_))))))))
 obtain rfl:=so J
 exact dF (vs:=[(.agg [(.slice none 0 0),(.slice none 0 0),(iv 0),(iv 0)].toArray)]) (.inl R) ((none,0,0),(none,0,0)) R ⟨⟨0,b9,_,_,R,R,.inl ⟨gD,cD,R⟩⟩,trivial⟩ R (fun w s=>(((s.nilr kT3).nilr kT3).e 6 [1,0]))
 refine bP R a4 (dL (aJ (aO (aH (lI R (lI R (lO (vL R R) (lI R (lO (qW R R) (lO (lF R R) (lI R (aC (aJ (aO (aO ?_)))))))))))))))
 obtain ⟨a8,J⟩:=gd J
 refine cQ [(1,(iv g)),(2,(iv L)),(3,(iv b)),(4,(iv j)),(5,(pt b8 0)),(10,(pt b9 0)),(63,(.bool ((decide ((aG (L+(aG ((aG (b - (1:Int)))*j))))<(0:Int)))||(decide ((aG (L+(aG ((aG (b - (1:Int)))*j))))≥(ix v1.Dims g))))))] (aI b9 [(.slice none 0 0),(.slice none 0 0),(iv 0),(iv 0)] 96::U) ?_ ?_
 refine aH (lI R (lO (nR R R) (lB R ?_)))
 rcases bo (decide ((aG (L+(aG ((aG (b - (1:Int)))*j))))<(0:Int))) with B | B
 refine lf (dX B) (lf (dX B) (lf (dX B) (lf (dX B) (lf (dX B) (lf (dX B) (lf (dX B) (lO (eW (decide ((aG (L+(aG ((aG (b - (1:Int)))*j))))≥(ix v1.Dims g))) R B) (aC ?_))))))))
 exact qJ (fun w s=>s)
 refine lW (bZ B) (vI R) (lW (bZ B) (fV 0 gE R) (lW (bZ B) (gH 1 cT R R R) (lW (bZ B) (vI R) (bB 2 aA (show 0<v1.Dims.length by have:=(a8 B); omega) (fun ar o24 ha=>?_)))))
 subst ha
 refine lW (bZ B) (eI bM cC R R (a8 B)) (lW (bZ B) (gI 2 fM aA R (a8 B)) (lW (bZ B) (zM R R) (lO (fK R B R) (aC ?_))))
 exact qJ (fun w s=>s)
 rintro σ1
 refine aJ ?_
 rcases cR J with ⟨a5,J⟩|⟨a5,J⟩
 refine cG R a5 (aO (aH (lO (vz (.agg [(.slice none 0 0),(.slice none 0 0),(iv 0),(iv 0)].toArray) (aW fD cX R R)) (aK 0 R R cD R R R R R R (aC (aJ (bY (cE ?_))))))))
 obtain rfl:=so J
 exact dF (vs:=[(.agg [(.slice none 0 0),(.slice none 0 0),(iv 0),(iv 0)].toArray)]) (.inl R) ((none,0,0),(none,0,0)) R ⟨⟨0,b9,_,_,R,R,.inl ⟨gD,cD,R⟩⟩,trivial⟩ R (fun w s=>(((s.nilr kT3).nilr kT3).e 6 [1,0]))
 refine bP R a5 (dL (aJ (aO ?_)))
 obtain ⟨i,ak,J⟩:=bd J
 refine aH (lO (vz (.agg [(sc A2 v1.Dims D2),(sc A3 v1.Strides D3),(iv v1.Offset),(iv v1.Base)].toArray) (eC 1 gD cD R R R R)) (lM (RR kT3 A2 D2 v1.Dims::RR kT3 A3 D3 v1.Strides::aI _ _ _::U) (fun w s=>(((s.d 2 R).d 4 R).e 3 [1,0,2])) ?_))
 refine lC 2 uX R (Z28_ok ak) R ?_
 rintro ⟨⟨a3,am,M⟩,⟨a2,an,G⟩⟩
 refine lN (ow kT3 3 (.slice a3 am M) i.Dims::ow kT3 3 (.slice a2 an G) i.Strides::_::U) ?_
 refine aL 0 aB ?_
 rintro rfl
 refine aL 1 aB ?_
 rintro rfl
 refine bD R R cX (fun Z=>(aK 0 R R cD R R R R R R (lN (aI Z [(sc a3 i.Dims M),(sc a2 i.Strides G),(iv i.Offset),(iv i.Base)] 96::_::_::_::U) ?_)))
 refine aC (aJ (aO ?_))
 obtain ⟨F,J⟩:=gd J
 refine cQ [(1,(iv g)),(3,(iv b)),(4,(iv j)),(10,(pt b9 0)),(12,(pt Z 0))] (aI b9 [(.slice none 0 0),(.slice none 0 0),(iv 0),(iv 0)] 96::aI Z [(sc a3 i.Dims M),(sc a2 i.Strides G),(iv (aG (i.Offset+(aG (L*(ix i.Strides g)))))),(iv i.Base)] 96::OO kT3 3 a3 M i.Dims::OO kT3 3 a2 G i.Strides::U) ?_ ?_
 refine aY 2 aB (show 0<i.Strides.length by have:=F; omega) (fun ai o34 ha=>?_)
 subst ha
 refine cZ 12 [0] bN (fun ht hn=>(dR 0 R (fV 2 nh R) (hS:=(sL [0])) (dR 2 R (vI R) (hS:=(sL [0])) (dR 3 R (fV 1 fW R) (hS:=(sL [0])) (dR 5 R (vI R) (hS:=(sL [0])) (hL [1,4] (by kernel_rfl) R ⟨?_,?_,trivial⟩))))))
 refine lO (gH 0 fM R R R) (aC (aE (sL [0]) (d1 4 R (lO (gH 0 cT R R R) (aC (aE (sL [0]) (dR 6 R (eI bM cC R R F) (hS:=(sL [0])) (dR 7 R (gI 1 fM aB R F) (hS:=(sL [0])) (dR 8 R (qW R R) (hS:=(sL [0])) (dR 9 R (lF R R) (hS:=(sL [0])) (dR 10 R (fV 2 nh R) (hS:=(sL [0])) (d1 11 R (cP 0 R R cC R R R R R (lN (aI Z [(sc a3 i.Dims M),(sc (ad ai o34) i.Strides G),(iv (aG (i.Offset+(aG (L*(ix i.Strides g)))))),(iv i.Base)] 96::_::OO kT3 3 (ad ai o34) G i.Strides::_::U) ?_))))))))))))))
 refine aC (aE (sL [0]) (dD ?_))
 exact qJ (fun w s=>(s.e 4 [3,0,1,2]))
 refine lO (gH 0 cT R R R) (aC (aE (sL [0]) (dR 6 R (eI bM cC R R F) (hS:=(sL [0])) (dR 7 R (gI 1 fM aB R F) (hS:=(sL [0])) (dR 8 R (qW R R) (hS:=(sL [0])) (d1 1 R (lO (gH 0 fM R R R) (aC (aE (sL [0]) (dR 9 R (lF R R) (hS:=(sL [0])) (dR 10 R (fV 2 nh R) (hS:=(sL [0])) (d1 11 R (cP 0 R R cC R R R R R (aC (aE (sL [0]) (dD ?_))))))))))))))))
 exact qJ (fun w s=>(s.e 4 [3,0,1,2]))
 rintro σ1
 refine aJ (aO ?_)
 obtain ⟨a1,J⟩:=gd J
 refine aH (lO (fV 0 gE R) (lO (gH 1 cT R R R) (lI R (lI R (bB 2 aB (show 0<i.Dims.length by have:=a1; omega) (fun Y o37 ha=>?_))))))
 subst ha
 refine lO (eI bM cC R R a1) (lM (OO kT3 3 (ad Y o37) M i.Dims::aI _ _ _::aI Z [(sc (ad Y o37) i.Dims M),(sc a2 i.Strides G),(iv (aG (i.Offset+(aG (L*(ix i.Strides g)))))),(iv i.Base)] 96::OO kT3 3 a2 G i.Strides::U) (fun w s=>(s.e 4 [2,0,1,3])) ?_)
 refine dZ (K:=kT3) (x':=b) 0 g R R cC R R a1.1 a1.2 ?_ ?_
 exact fun I h s=>(gL).put I h () b s
 refine lN (ow kT3 3 (.slice (ad Y o37) i.Dims.length M) (i.Dims.set g.toNat b)::_::_::_::U) ?_
 refine aC (aJ (aO (aY 3 aB (show 0<i.Strides.length by have:=F; omega) (fun T o39 ha=>?_))))
 subst ha
 refine cZ 12 [3] bN (fun ht hn=>(dR 0 R (fV 1 fW R) (hS:=(sL [3])) (dR 1 R (gH 2 cT R R R) (hS:=(sL [3])) (dR 2 R (vI R) (hS:=(sL [3])) (dR 3 R (fV 1 fW R) (hS:=(sL [3])) (dR 4 R (gH 2 cT R R R) (hS:=(sL [3])) (dR 5 R (vI R) (hS:=(sL [3])) (dR 6 R (eI bM cC R R F) (hS:=(sL [3])) (dR 8 R (vI R) (hS:=(sL [3])) (d1 7 R (lO (gI 3 fM aB R F) (aC (aE (sL [3]) (dR 9 R (qW R R) (hS:=(sL [3])) (dR 10 R (eI bM cC R R F) (hS:=(sL [3])) (d1 11 R (lM (OO kT3 3 (ad T o39) G i.Strides::ow _ _ _ _::aI _ _ _::aI Z [(sc (ad Y o37) i.Dims M),(sc (ad T o39) i.Strides G),(iv (aG (i.Offset+(aG (L*(ix i.Strides g)))))),(iv i.Base)] 96::U) (fun w s=>(s.e 4 [3,0,1,2])) ?_)))))))))))))))))
 refine dZ (K:=kT3) (x':=(aG ((ix i.Strides g)*j))) 0 g R R cC R R F.1 F.2 ?_ ?_
 exact fun I h s=>(gL).put I h () (aG ((ix i.Strides g)*j)) s
 refine lN (ow kT3 3 (.slice (ad T o39) i.Strides.length G) (i.Strides.set g.toNat (aG ((ix i.Strides g)*j)))::_::_::_::U) ?_
 refine aC (aE (sL [0]) (dD ?_))
 obtain ⟨ag,a9,J⟩:=bd J
 replace a9:=Option.some.inj a9
 refine qM (ow kT3 3 (.slice (ad T o39) i.Strides.length G) ag::_::_::_::U) (fun w s=>by rw [← a9]; exact s) ?_
 refine aJ (aO (bA (A:=((List Int))×(Unit)) (fun a=>Z17_J1 g L b i a.1=some r) (fun a=>[(10,(pt b9 0)),(12,(pt Z 0))]) (fun a=>aI b9 [(.slice none 0 0),(.slice none 0 0),(iv 0),(iv 0)] 96::aI Z [(sc (ad Y o37) i.Dims M),(sc (ad T o39) i.Strides G),(iv (aG (i.Offset+(aG (L*(ix i.Strides g)))))),(iv i.Base)] 96::ow kT3 3 (.slice (ad Y o37) i.Dims.length M) (i.Dims.set g.toNat b)::ow kT3 3 (.slice (ad T o39) i.Strides.length G) a.1::U) ?_ ?_))
 refine aO (aH (lI R (lO (ln R R) (aC (aJ ?_)))))
 rcases cR J with ⟨a6,J⟩|⟨a6,J⟩
 refine cG R a6 (aH (lO (fV 1 fW R) (lO (gH 3 cT R R R) (lI R (lO (eI bM cC R R F) (dZ (K:=kT3) (x':=(0:Int)) 0 g R R cC R R F.1 F.2 ?_ ?_))))))
 exact fun I h s=>(gL).put I h () (0:Int) s
 refine lN (ow kT3 3 (.slice (ad T o39) i.Strides.length G) (ag.set g.toNat (0:Int))::_::_::_::U) ?_
 refine aC ?_
 exact qI ((ag.set g.toNat (0:Int)),()) J (fun w s=>(s.e 4 [2,3,1,0]))
 refine bP R a6 (dL ?_)
 exact qI (ag,()) J (fun w s=>(s.e 4 [2,3,1,0]))
 rintro ⟨ah,_⟩ σ1 J
 replace J:Z17_J1 g L b i ah=some r:=J
 unfold Z17_J1 at J
 refine aO ?_
 obtain ⟨O,al,J⟩:=bd J
 refine aH (lO (vz (.agg [(sc (ad Y o37) i.Dims M),(sc (ad T o39) i.Strides G),(iv (aG (i.Offset+(aG (L*(ix i.Strides g)))))),(iv i.Base)].toArray) (eC 1 gD cD R R R R)) (iM (fun w s=>s.shr 2 R) (iM (fun w s=>s.shr 3 R) (lM (aN kT3 (.slice (ad Y o37) i.Dims.length M) (i.Dims.set g.toNat b)::aN kT3 (.slice (ad T o39) i.Strides.length G) ah::aN kT3 (.slice (ad T o39) i.Strides.length G) ah::aN kT3 (.slice (ad Y o37) i.Dims.length M) (i.Dims.set g.toNat b)::aI _ _ _::aI _ _ _::U) (fun w s=>(((s.d 1 R).d 1 R).e 6 [1,0,2,3,4,5])) ?_))))
 refine lC 2 uY R (Z29_ok (v1:=(⟨(i.Dims.set g.toNat b),ah,(aG (i.Offset+(aG (L*(ix i.Strides g))))),i.Base⟩:View)) al) R ?_
 rintro ⟨⟨aa,ao,ac⟩,⟨ab,ap,ae⟩⟩
 refine lN (aN kT3 (.slice aa ao ac) O.Dims::aN kT3 (.slice ab ap ae) O.Strides::_::_::_::_::U) ?_
 refine aL 0 aA ?_
 rintro rfl
 refine aL 1 aA ?_
 rintro rfl
 refine aK 4 R R cD R R R R R R (lN (_::_::_::_::aI b9 [(sc aa O.Dims ac),(sc ab O.Strides ae),(iv O.Offset),(iv O.Base)] 96::_::U) ?_)
 refine aC (aJ (bY ?_))
 obtain rfl:=so J
 exact dF (vs:=[(.agg [(sc aa O.Dims ac),(sc ab O.Strides ae),(iv O.Offset),(iv O.Base)].toArray)]) (.inl R) ((aa,O.Dims.length,ac),(ab,O.Strides.length,ae)) R ⟨⟨4,b9,_,_,R,R,.inl ⟨gD,cD,R⟩⟩,trivial⟩ R (fun w s=>(s.e 9 [0,1]))
theorem Z1s_ok  {t1:Tensor}{a:(List Int)}{i:Int}{r:(List Int)}(g:Z1s t1 a i=some r) :
 FnOk Tryz.prog 123 [(.agg [(.slice A2 N2 D2),(.slice A3 N3 D3)].toArray),(.slice A5 N5 D5),(iv i)] [aN kT3 (.slice A2 N2 D2) t1.Dims,ow kT3 3 (.slice A3 N3 D3) t1.Data,aN kT3 (.slice A5 N5 D5) a] (fun (h:Unit)=>((.tuple [].toArray),[ow kT3 3 (.slice A3 N3 D3) r])):=by
 unfold Z1s at g
 refine aQ Tryz.func123 R 14 R R fun C V=>?_
 refine cM _ (tE 3 [1,0,2]) ?_
 refine cL 0 aB ?_
 rintro rfl
 refine cL 1 aA ?_
 rintro rfl
 refine cL 2 aA ?_
 rintro rfl
 let l:=RR kT3 A2 D2 t1.Dims::RR kT3 A5 D5 a::V
 refine aR ?_
 refine eA R fun m=>?_
 refine aC (qM _ (tE 2 [1,0]) ?_)
 let D:=aI m [(sc A2 t1.Dims D2),(sc A3 t1.Data D3)] 58::l
 refine bU ?_
 obtain ⟨B,j,g⟩:=bd g
 obtain ⟨b,g⟩:=gd g
 refine aY 0 aB (show 0<t1.Data.length by have:=b; omega) (fun q o12 u=>?_)
 subst u
 refine cZ 9 [0] bN fun F E=>?_
 refine kb 0 [0] ?_
 refine mA 6 [0] ?_
 refine d1 5 R (lM _ (fun w s=>(((s.d 2 R).d 4 R).e 3 [1,0,2])) ?_)
 refine lC 2 rW R (Z0l_ok j) R ?_
 rintro _
 refine aC (aE (sL [0]) ?_)
 refine mA 7 [0] ?_
 refine d1 8 R (dZ (K:=kT3) (x':=i) 0 B R R cC R R b.1 b.2 ?_ ?_)
 exact fun I h s=>(gL).put I h () i s
 refine aC (aE (sL [0]) (dD ?_))
 cases g
 exact zN () (tE 4 [0])
theorem Z0q_ok  {t1:Tensor}{E:Int}{b:Int}{g:Int}{l:Int}{r:Tensor}(j:Z0q t1 E b g l=some r) :
 FnOk Tryz.prog 87 [(.agg [(.slice A2 N2 D2),(.slice A3 N3 D3)].toArray),(iv E),(iv b),(iv g),(iv l)] [aN kT3 (.slice A2 N2 D2) t1.Dims,aN kT3 (.slice A3 N3 D3) t1.Data] (fun (h:HH×HH)=>((.agg [(s3 h.1),(s3 h.2)].toArray),[ow kT3 3 (s3 h.1) r.Dims,ow kT3 3 (s3 h.2) r.Data])):=by
 unfold Z0q at j
 refine aQ Tryz.func87 R 101 R R fun C V=>?_
 refine cL 0 aA ?_
 rintro rfl
 refine cL 1 aA ?_
 rintro rfl
 let W0:=RR kT3 A2 D2 t1.Dims::RR kT3 A3 D3 t1.Data::V
 refine cN W0 ?_
 refine aR ?_
 refine eA R fun b8=>?_
 refine bD R R dM (fun U=>(aC ?_))
 let W1:=aI b8 [(sc A2 t1.Dims D2),(sc A3 t1.Data D3)] 58::W0
 refine aP ?_
 obtain ⟨F,ab,j⟩:=bd j
 refine cQ [(1,(iv E)),(2,(iv b)),(3,(iv g)),(4,(iv l)),(5,(pt b8 0)),(10,(pt U 0)),(43,(.bool (((((((!F)||(decide (b<0)))||(decide (b>4096)))||(decide (g<0)))||(decide (g>4096)))||(decide (l<0)))||(decide (l>4096)))))] (aI U [(.slice none 0 0),(.slice none 0 0)] 58::W1) ?_ ?_
 refine aP ?_
 refine lM _ (fun w s=>(((s.d 2 R).d 4 R).e 3 [1,0,2])) ?_
 refine lC 2 o5 R (Z1d_ok ab) R ?_
 rintro _
 refine aR ?_
 rcases bo (!F) with a2 | a2
 refine Ad ?_
 exact qj tI
 refine bF ?_
 rcases bo ((!F)||(decide (b<0))) with a3 | a3
 refine xQ ?_
 exact qj tI
 refine bF ?_
 rcases bo (((!F)||(decide (b<0)))||(decide (b>4096))) with a4 | a4
 refine vU ?_
 exact qj tI
 refine bF ?_
 rcases bo ((((!F)||(decide (b<0)))||(decide (b>4096)))||(decide (g<0))) with a5 | a5
 refine iC ?_
 exact qj tI
 refine bF ?_
 rcases bo (((((!F)||(decide (b<0)))||(decide (b>4096)))||(decide (g<0)))||(decide (g>4096))) with a6 | a6
 refine cU ?_
 exact qj tI
 refine bF ?_
 rcases bo ((((((!F)||(decide (b<0)))||(decide (b>4096)))||(decide (g<0)))||(decide (g>4096)))||(decide (l<0))) with a7 | a7
 refine bF ?_
 exact qj tI
 refine bF ?_
 exact qj tI
 rintro σ1
 refine bU ?_
 split at j
 refine aP ?_
 refine lO (vz (.agg [(.slice none 0 0),(.slice none 0 0)].toArray) (aW gM dM R R)) (aK 0 R R bR R R R R R R (aC (aJ (bY (cE ?_)))))
 cases j
 exact qS ((none,0,0),(none,0,0)) (fun w s=>(((s.nilo kT3 3).nilo kT3 3).e 6 [1,0]))
 refine bF ?_
 obtain ⟨a8,j⟩:=gd j
 refine bF ?_
 refine bB 2 aA (show 0<t1.Dims.length by have:=a8; omega) (fun ax o21 ha=>?_)
 subst ha
 refine bT ?_
 obtain ⟨L,ac,j⟩:=bd j
 refine nd ?_
 refine lM _ (fun w s=>(s.d 2 R)) ?_
 refine lC 1 kx R (Z0h_ok ac) R ?_
 rintro ⟨I,aq,J⟩
 refine aL 0 aB ?_
 rintro rfl
 refine cB ?_
 obtain ⟨b0,ae,j⟩:=bd j
 refine aR ?_
 refine lC 1 jW R (FnOk.lends (A':=[OO kT3 3 I J L]) (A:=[RR kT3 I J L]) (B:=[]) (Zn_ok ae) ⟨aX,trivial⟩ (fun _=>trivial)) R ?_
 rintro _
 refine aP ?_
 split at j
 refine aP ?_
 refine lO (vz (.agg [(.slice none 0 0),(.slice none 0 0)].toArray) (aW gM dM R R)) (aK 1 R R bR R R R R R R (aC (aJ (bY (cE ?_)))))
 cases j
 exact qS ((none,0,0),(none,0,0)) (fun w s=>(((s.nilo kT3 3).nilo kT3 3).e 7 [1,0]))
 refine bF ?_
 obtain ⟨i,ag,j⟩:=bd j
 refine aR ?_
 refine lC 1 ng R (FnOk.lends (A':=[OO kT3 3 I J L]) (A:=[RR kT3 I J L]) (B:=[]) (Z0g_ok ag) ⟨aX,trivial⟩ (fun _=>⟨(bK j0),(bK j0),trivial⟩)) R ?_
 rintro ⟨⟨m,ar,u⟩,⟨q,au,D⟩⟩
 refine aL 1 aB ?_
 rintro rfl
 refine aL 2 aB ?_
 rintro rfl
 refine bD R R dM (fun G=>(aK 0 R R bR R R R R R R (lN (aI G [(sc m i.Dims u),(sc q i.Data D)] 58::_::_::_::_::W1) ?_)))
 refine aP ?_
 refine bA (A:=((List Int))×(Unit)) (fun a=>Z0q_J1 i a.1=some r) (fun a=>[(10,(pt U 0)),(13,(pt G 0))]) (fun a=>aI U [(.slice none 0 0),(.slice none 0 0)] 58::aI G [(sc m i.Dims u),(sc q i.Data D)] 58::OO kT3 3 m u i.Dims::ow kT3 3 (.slice q i.Data.length D) a.1::W1) ?_ ?_
 refine bT ?_
 obtain ⟨e1,am,al⟩:=bd j
 refine bC (A:=Unit) am (fun s a=>[(1,(iv E)),(2,(iv b)),(4,(iv l)),(5,(pt b8 0)),(10,(pt U 0)),(13,(pt G 0)),(14,(iv s.2))]) (fun s a=>aI U [(.slice none 0 0),(.slice none 0 0)] 58::aI G [(sc m i.Dims u),(sc q i.Data D)] 58::OO kT3 3 m u i.Dims::ow kT3 3 (.slice q i.Data.length D) s.1::W1) () (aS R) (tE 5 [4,0,2,3]) ?_
 rintro ⟨M,az⟩ _ σ1 ao j ak
 dsimp only [Z0q_L1] at j
 refine cW ?_
 split at j
 refine bT ?_
 obtain ⟨Y,ah,j⟩:=bd j
 refine bF ?_
 refine lM _ (fun w s=>(s.d 5 R)) ?_
 refine lC 1 ld R (Zi_ok ah) R ?_
 rintro ⟨ap,av,a0⟩
 refine aL 0 aB ?_
 rintro rfl
 refine aP ?_
 obtain ⟨a9,j⟩:=gd j
 obtain ⟨Z,ai,j⟩:=bd j
 obtain ⟨aa,j⟩:=gd j
 obtain ⟨b1,aj,j⟩:=bd j
 refine aY 0 aB (show 0<Y.length by have:=a9; omega) (fun a1 o56 ha=>?_)
 subst ha
 refine aY 7 aA (show 0<t1.Data.length by have:=aa; omega) (fun ay o62 ha=>?_)
 subst ha
 refine cZ 19 [4] bN fun ht hn=>?_
 refine tP 0 [4] ?_
 refine kb 13 [4] ?_
 refine d1 12 R (lC 1 kx R (FnOk.lends (A':=[OO kT3 3 (ad a1 o56) a0 Y]) (A:=[RR kT3 (ad a1 o56) a0 Y]) (B:=[]) (Z0h_ok ai) ⟨aX,trivial⟩ (fun _=>⟨(bK j0),trivial⟩)) R ?_)
 rintro ⟨O,aw,T⟩
 refine aL 1 aB ?_
 rintro rfl
 refine aC (aE (sL [5,1]) (d1 18 R (lM _ (tE 6 [4,1,5,0,2,3]) ?_)))
 refine lC 3 rX R (FnOk.lends (A':=[OO kT3 3 m u i.Dims,OO kT3 3 O T Z]) (A:=[RR kT3 m u i.Dims,RR kT3 O T Z]) (B:=[ow kT3 3 (.slice q i.Data.length D) M]) (FnOk.perm (Z1s_ok (t1:=(⟨i.Dims,M⟩:Tensor)) aj) (Pre':=[RR kT3 m u i.Dims,RR kT3 O T Z,ow kT3 3 (.slice q i.Data.length D) M]) (fun _ _ _ s=>(s.e 3 [0,2,1]))) ⟨aX,aX,trivial⟩ (fun _=>⟨(bK j0),trivial⟩)) R ?_
 rintro _
 refine aC (aE (tE 6 [3,4,5,0]) (dD ?_))
 refine dJ ?_
 cases j
 exact qA () (tE 6 [4,5,0,2])
 refine aP ?_
 cases j
 obtain rfl:=ak _ R
 have j:=al
 refine aR ?_
 exact qI (M,()) j tI
 rintro ⟨an,_⟩ σ1 j
 dsimp only [Z0q_J1] at j
 refine aP ?_
 refine aK 0 R R bR R R R R R R (lN (aI U [(sc m i.Dims u),(sc q i.Data D)] 58::_::_::ow kT3 3 (.slice q i.Data.length D) an::W1) ?_)
 refine aP ?_
 cases j
 exact qS ((m,i.Dims.length,u),(q,i.Data.length,D)) (tE 7 [2,3])
theorem Z0p_ok  {t1:Tensor}{q:Int}{b:(List Int)}{r:Tensor}(g:Z0p t1 q b=some r) :
 FnOk Tryz.prog 88 [(.agg [(.slice A2 N2 D2),(.slice A3 N3 D3)].toArray),(iv q),(.slice A6 N6 D6)] [aN kT3 (.slice A2 N2 D2) t1.Dims,aN kT3 (.slice A3 N3 D3) t1.Data,aN kT3 (.slice A6 N6 D6) b] (fun (h:HH×HH)=>((.agg [(s3 h.1),(s3 h.2)].toArray),[ow kT3 3 (s3 h.1) r.Dims,ow kT3 3 (s3 h.2) r.Data])):=by
 unfold Z0p at g
 refine aQ Tryz.func88 R 70 R R fun C V=>?_
 refine cL 0 aA ?_
 rintro rfl
 refine cL 1 aA ?_
 rintro rfl
 refine cL 2 aA ?_
 rintro rfl
 let W0:=RR kT3 A2 D2 t1.Dims::RR kT3 A3 D3 t1.Data::RR kT3 A6 D6 b::V
 refine cN W0 ?_
 refine aR ?_
 refine eA R fun b7=>?_
 refine bD R R dM (fun U=>(aC ?_))
 let W1:=aI b7 [(sc A2 t1.Dims D2),(sc A3 t1.Data D3)] 58::W0
 refine aP ?_
 obtain ⟨r9,a6,g⟩:=bd g
 obtain ⟨M,g⟩:=gd g
 obtain ⟨al,a7,g⟩:=bd g
 refine cQ [(1,(iv q)),(2,(sc A6 b D6)),(3,(pt b7 0)),(6,(pt U 0)),(29,(.bool (((!r9)||((b.length:Int)==0))||(!al))))] (aI U [(.slice none 0 0),(.slice none 0 0)] 58::W1) ?_ ?_
 refine aP ?_
 refine lM _ (fun w s=>(((s.d 2 R).d 4 R).e 3 [1,0,2])) ?_
 refine lC 2 o5 R (Z1d_ok a6) R ?_
 rintro _
 refine aR ?_
 rcases bo (!r9) with a3 | a3
 refine nU ?_
 exact qj tI
 refine cB ?_
 rcases bo ((!r9)||((b.length:Int)==0)) with j | j
 refine cW ?_
 exact qj tI
 refine bF ?_
 refine bB 2 aA (show 0<t1.Dims.length by have:=(M j); omega) (fun ax o13 Y=>?_)
 subst Y
 refine lW (bZ j) (eI bM cC R R (M j)) (lW (bZ j) (gI 2 fM aA R (M j)) (lM _ (fun w s=>(s.d 4 R)) ?_))
 refine bS 1 R (bZ j) tS R (Z0i_ok (bG a7 (cK j))) R ?_
 rintro _
 refine aP ?_
 exact qj tI
 rintro σ1
 refine bU ?_
 split at g
 refine aP ?_
 refine lO (vz (.agg [(.slice none 0 0),(.slice none 0 0)].toArray) (aW gM dM R R)) (aK 0 R R bR R R R R R R (aC (aJ (bY (cE ?_)))))
 cases g
 exact qS ((none,0,0),(none,0,0)) (fun w s=>(((s.nilo kT3 3).nilo kT3 3).e 7 [1,0]))
 refine bF ?_
 obtain ⟨G,a8,g⟩:=bd g
 refine bT ?_
 refine lM _ (fun w s=>(s.d 2 R)) ?_
 refine lC 1 kx R (Z0h_ok a8) R ?_
 rintro ⟨u,aq,E⟩
 refine aL 0 aB ?_
 rintro rfl
 refine cB ?_
 obtain ⟨b0,a9,g⟩:=bd g
 refine aR ?_
 refine lC 1 jW R (FnOk.lends (A':=[OO kT3 3 u E G]) (A:=[RR kT3 u E G]) (B:=[]) (Zn_ok a9) ⟨aX,trivial⟩ (fun _=>trivial)) R ?_
 rintro _
 refine aP ?_
 split at g
 refine aP ?_
 refine lO (vz (.agg [(.slice none 0 0),(.slice none 0 0)].toArray) (aW gM dM R R)) (aK 1 R R bR R R R R R R (aC (aJ (bY (cE ?_)))))
 cases g
 exact qS ((none,0,0),(none,0,0)) (fun w s=>(((s.nilo kT3 3).nilo kT3 3).e 8 [1,0]))
 refine bF ?_
 obtain ⟨i,aa,g⟩:=bd g
 refine aR ?_
 refine lC 1 ng R (FnOk.lends (A':=[OO kT3 3 u E G]) (A:=[RR kT3 u E G]) (B:=[]) (Z0g_ok aa) ⟨aX,trivial⟩ (fun _=>⟨(bK j0),(bK j0),trivial⟩)) R ?_
 rintro ⟨⟨D,ar,F⟩,⟨l,au,m⟩⟩
 refine aL 1 aB ?_
 rintro rfl
 refine aL 2 aB ?_
 rintro rfl
 refine bD R R dM (fun L=>(aK 0 R R bR R R R R R R (lN (aI L [(sc D i.Dims F),(sc l i.Data m)] 58::_::_::_::_::W1) ?_)))
 refine aP ?_
 refine bA (A:=((List Int))×(Unit)) (fun a=>Z0p_J1 i a.1=some r) (fun a=>[(6,(pt U 0)),(8,(pt L 0))]) (fun a=>aI U [(.slice none 0 0),(.slice none 0 0)] 58::aI L [(sc D i.Dims F),(sc l i.Data m)] 58::OO kT3 3 D F i.Dims::ow kT3 3 (.slice l i.Data.length m) a.1::W1) ?_ ?_
 refine bT ?_
 obtain ⟨e1,aj,ai⟩:=bd g
 refine bC (A:=Unit) aj (fun s a=>[(1,(iv q)),(2,(sc A6 b D6)),(3,(pt b7 0)),(6,(pt U 0)),(7,(sc u G E)),(8,(pt L 0)),(9,(iv s.2))]) (fun s a=>aI U [(.slice none 0 0),(.slice none 0 0)] 58::OO kT3 3 u E G::aI L [(sc D i.Dims F),(sc l i.Data m)] 58::OO kT3 3 D F i.Dims::ow kT3 3 (.slice l i.Data.length m) s.1::W1) () (aS R) (tE 5 [4,1,0,2,3]) ?_
 rintro ⟨am,ak⟩ _ σ1 ao g ah
 dsimp only [Z0p_L1] at g
 refine cW ?_
 split at g
 refine bT ?_
 obtain ⟨Z,ab,g⟩:=bd g
 refine aP ?_
 refine lM _ (tE 5 [1,0,2,3,4]) ?_
 refine lC 1 ld R (FnOk.lends (A':=[OO kT3 3 u E G]) (A:=[RR kT3 u E G]) (B:=[]) (Zi_ok ab) ⟨aX,trivial⟩ (fun _=>⟨(bK j0),trivial⟩)) R ?_
 rintro ⟨ap,av,a1⟩
 refine aL 1 aB ?_
 rintro rfl
 refine aP ?_
 obtain ⟨a4,g⟩:=gd g
 obtain ⟨a5,g⟩:=gd g
 obtain ⟨a0,ac,g⟩:=bd g
 obtain ⟨ag,ae,g⟩:=bd g
 obtain ⟨J,g⟩:=gd g
 refine aY 1 aB (show 0<Z.length by have:=a4; omega) (fun a2 o56 Y=>?_)
 subst Y
 refine aY 9 aA (show 0<b.length by have:=a5; omega) (fun ay o59 Y=>?_)
 subst Y
 refine aY 5 aB (show 0<i.Data.length by have:=J; omega) (fun az o67 Y=>?_)
 subst Y
 refine cZ 17 [5] bN fun ht hn=>?_
 refine md 0 [5] ?_
 refine d1 13 R (lM _ (tE 6 [1,0,2,3,4,5]) ?_)
 refine lC 1 kx R (FnOk.lends (A':=[OO kT3 3 (ad a2 o56) a1 Z]) (A:=[RR kT3 (ad a2 o56) a1 Z]) (B:=[]) (Z0h_ok ac) ⟨aX,trivial⟩ (fun _=>⟨(bK j0),trivial⟩)) R ?_
 rintro ⟨O,aw,T⟩
 refine aL 1 aB ?_
 rintro rfl
 refine aC (aE (tE 7 [2,0,3,4,5]) (d1 14 R (lM _ (fun w s=>(((s.d 8 R).d 10 R).e 9 [3,1,0,2,4,5,6,7,8])) ?_)))
 refine lC 3 mN R (FnOk.lends (A':=[OO kT3 3 O T a0]) (A:=[RR kT3 O T a0]) (B:=[RR kT3 A2 D2 t1.Dims,RR kT3 A3 D3 t1.Data]) (FnOk.perm (Z14_ok ae) (Pre':=[RR kT3 O T a0,RR kT3 A2 D2 t1.Dims,RR kT3 A3 D3 t1.Data]) (fun _ _ _ s=>(s.e 3 [1,2,0]))) ⟨aX,trivial⟩ (fun _=>trivial)) R ?_
 rintro _
 refine aC (aE (tE 7 [2,1,3,4,5]) (dR 15 R (eI bM cC R R J) (hS:=(tE 7 [2,1,3,4,5])) (d1 16 R (lM _ (fun w s=>(s.f 7 [6,1,0,6])) ?_))))
 refine dZ (K:=kT3) (x':=ag) 0 ak R R cC R R J.1 J.2 ?_ ?_
 exact fun I h s=>(gL).put I h () ag s
 refine aC (aE (tE 7 [3,2,4,5,6]) (dD ?_))
 refine dJ ?_
 cases g
 exact qA () (tE 7 [4,3,5,6,0])
 refine aP ?_
 cases g
 obtain rfl:=ah _ R
 have g:=ai
 refine aR ?_
 exact qI (am,()) g (tE 5 [0,2,3,4])
 rintro ⟨an,_⟩ σ1 g
 dsimp only [Z0p_J1] at g
 refine aP ?_
 refine aK 0 R R bR R R R R R R (lN (aI U [(sc D i.Dims F),(sc l i.Data m)] 58::aI L [(sc D i.Dims F),(sc l i.Data m)] 58::_::ow kT3 3 (.slice l i.Data.length m) an::W1) ?_)
 refine aP ?_
 cases g
 exact qS ((D,i.Dims.length,F),(l,i.Data.length,m)) (tE 8 [2,3])
theorem Z0r_ok  {t1:Tensor}{j:Int}{i:(List Int)}{n7:Int}{r:Tensor}(g:Z0r t1 j i n7=some r) :
 FnOk Tryz.prog 89 [(.agg [(.slice A2 N2 D2),(.slice A3 N3 D3)].toArray),(iv j),(.slice A6 N6 D6),(iv n7)] [aN kT3 (.slice A2 N2 D2) t1.Dims,aN kT3 (.slice A3 N3 D3) t1.Data,aN kT3 (.slice A6 N6 D6) i] (fun (h:HH×HH)=>((.agg [(s3 h.1),(s3 h.2)].toArray),[ow kT3 3 (s3 h.1) r.Dims,ow kT3 3 (s3 h.2) r.Data])):=by
 unfold Z0r at g
 refine aQ Tryz.func89 R 80 R R fun C V=>?_
 refine cL 0 aA ?_
 rintro rfl
 refine cL 1 aA ?_
 rintro rfl
 refine cL 2 aA ?_
 rintro rfl
 let W0:=RR kT3 A2 D2 t1.Dims::RR kT3 A3 D3 t1.Data::RR kT3 A6 D6 i::V
 refine cN W0 ?_
 refine aR ?_
 refine eA R fun b8=>?_
 refine bD R R dM (fun Y=>(aC ?_))
 let W1:=aI b8 [(sc A2 t1.Dims D2),(sc A3 t1.Data D3)] 58::W0
 refine aP ?_
 obtain ⟨a0,a7,g⟩:=bd g
 obtain ⟨L,g⟩:=gd g
 obtain ⟨am,a8,g⟩:=bd g
 refine cQ [(1,(iv j)),(2,(sc A6 i D6)),(3,(iv n7)),(4,(pt b8 0)),(8,(pt Y 0)),(33,(.bool (((!a0)||((i.length:Int) != (ix t1.Dims j)))||(!am))))] (aI Y [(.slice none 0 0),(.slice none 0 0)] 58::W1) ?_ ?_
 refine aP ?_
 refine lM _ (fun w s=>(((s.d 2 R).d 4 R).e 3 [1,0,2])) ?_
 refine lC 2 o5 R (Z1d_ok a7) R ?_
 rintro _
 refine aR ?_
 rcases bo (!a0) with D | D
 refine vU ?_
 exact qj tI
 refine cB ?_
 refine bB 2 aA (show 0<t1.Dims.length by have:=(L D); omega) (fun ax o14 Z=>?_)
 subst Z
 refine lW (bZ D) (eI bM cC R R (L D)) (lW (bZ D) (gI 2 fM aA R (L D)) ?_)
 refine aP ?_
 rcases bo ((!a0)||((i.length:Int) != (ix t1.Dims j))) with J | J
 refine bT ?_
 exact qj tI
 refine aR ?_
 refine lM _ (fun w s=>(s.d 4 R)) ?_
 refine bS 1 R (bZ J) tS R (Z0i_ok (bG a8 (cK J))) R ?_
 rintro _
 refine aP ?_
 exact qj tI
 rintro σ1
 refine bU ?_
 split at g
 refine aP ?_
 refine lO (vz (.agg [(.slice none 0 0),(.slice none 0 0)].toArray) (aW gM dM R R)) (aK 0 R R bR R R R R R R (aC (aJ (bY (cE ?_)))))
 cases g
 exact qS ((none,0,0),(none,0,0)) (fun w s=>(((s.nilo kT3 3).nilo kT3 3).e 7 [1,0]))
 refine bF ?_
 obtain ⟨U,a9,g⟩:=bd g
 refine cB ?_
 refine lM _ (fun w s=>(s.d 2 R)) ?_
 refine lC 1 kx R (Z0h_ok a9) R ?_
 rintro ⟨O,aq,T⟩
 refine aL 0 aB ?_
 rintro rfl
 refine cB ?_
 obtain ⟨b1,aa,g⟩:=bd g
 refine aR ?_
 refine lC 1 jW R (FnOk.lends (A':=[OO kT3 3 O T U]) (A:=[RR kT3 O T U]) (B:=[]) (Zn_ok aa) ⟨aX,trivial⟩ (fun _=>trivial)) R ?_
 rintro _
 refine aP ?_
 split at g
 refine aP ?_
 refine lO (vz (.agg [(.slice none 0 0),(.slice none 0 0)].toArray) (aW gM dM R R)) (aK 1 R R bR R R R R R R (aC (aJ (bY (cE ?_)))))
 cases g
 exact qS ((none,0,0),(none,0,0)) (fun w s=>(((s.nilo kT3 3).nilo kT3 3).e 8 [1,0]))
 refine bF ?_
 obtain ⟨b,ab,g⟩:=bd g
 refine aR ?_
 refine lC 1 ng R (FnOk.lends (A':=[OO kT3 3 O T U]) (A:=[RR kT3 O T U]) (B:=[]) (Z0g_ok ab) ⟨aX,trivial⟩ (fun _=>⟨(bK j0),(bK j0),trivial⟩)) R ?_
 rintro ⟨⟨l,ar,q⟩,⟨m,au,u⟩⟩
 refine aL 1 aB ?_
 rintro rfl
 refine aL 2 aB ?_
 rintro rfl
 refine bD R R dM (fun I=>(aK 0 R R bR R R R R R R (lN (aI I [(sc l b.Dims q),(sc m b.Data u)] 58::_::_::_::_::W1) ?_)))
 refine aP ?_
 refine bA (A:=((List Int))×(Unit)) (fun a=>Z0r_J1 b a.1=some r) (fun a=>[(8,(pt Y 0)),(10,(pt I 0))]) (fun a=>aI Y [(.slice none 0 0),(.slice none 0 0)] 58::aI I [(sc l b.Dims q),(sc m b.Data u)] 58::OO kT3 3 l q b.Dims::ow kT3 3 (.slice m b.Data.length u) a.1::W1) ?_ ?_
 refine bT ?_
 obtain ⟨e1,al,ak⟩:=bd g
 refine bC (A:=Unit) al (fun s a=>[(1,(iv j)),(2,(sc A6 i D6)),(4,(pt b8 0)),(8,(pt Y 0)),(10,(pt I 0)),(11,(iv s.2))]) (fun s a=>aI Y [(.slice none 0 0),(.slice none 0 0)] 58::aI I [(sc l b.Dims q),(sc m b.Data u)] 58::OO kT3 3 l q b.Dims::ow kT3 3 (.slice m b.Data.length u) s.1::W1) () (aS R) (tE 5 [4,0,2,3]) ?_
 rintro ⟨E,b0⟩ _ σ1 ao g aj
 dsimp only [Z0r_L1] at g
 refine cW ?_
 split at g
 refine bT ?_
 obtain ⟨a1,ac,g⟩:=bd g
 refine bF ?_
 refine lM _ (fun w s=>(s.d 5 R)) ?_
 refine lC 1 ld R (Zi_ok ac) R ?_
 rintro ⟨ap,av,a2⟩
 refine aL 0 aB ?_
 rintro rfl
 refine bF ?_
 obtain ⟨a4,g⟩:=gd g
 obtain ⟨a5,g⟩:=gd g
 obtain ⟨M,ae,g⟩:=bd g
 refine bT ?_
 refine bB 0 aB (show 0<a1.length by have:=a4; omega) (fun a3 o61 Z=>?_)
 subst Z
 refine aR ?_
 refine bB 8 aA (show 0<i.length by have:=a5; omega) (fun ay o64 Z=>?_)
 subst Z
 refine aR ?_
 refine lC 1 kx R (FnOk.lends (A':=[OO kT3 3 (ad a3 o61) a2 a1]) (A:=[RR kT3 (ad a3 o61) a2 a1]) (B:=[]) (Z0h_ok ae) ⟨aX,trivial⟩ (fun _=>⟨(bK j0),trivial⟩)) R ?_
 rintro ⟨F,aw,G⟩
 refine aL 1 aB ?_
 rintro rfl
 refine aP ?_
 obtain ⟨b2,ag,g⟩:=bd g
 obtain ⟨a6,g⟩:=gd g
 obtain ⟨b3,ah,g⟩:=bd g
 obtain ⟨b4,ai,g⟩:=bd g
 refine aY 8 aA (show 0<t1.Data.length by have:=a6; omega) (fun az o72 Z=>?_)
 subst Z
 refine cZ 12 [5] bN fun ht hn=>?_
 refine nV 0 [5] ?_
 refine kb 5 [5] ?_
 refine d1 4 R (lM _ (tE 6 [4,5,1,0,2,3]) ?_)
 refine lC 3 mN R (FnOk.lends (A':=[OO kT3 3 l q b.Dims,ow kT3 3 (.slice m b.Data.length u) E,OO kT3 3 F G M]) (A:=[RR kT3 l q b.Dims,aN kT3 (.slice m b.Data.length u) E,RR kT3 F G M]) (B:=[]) (Z14_ok (t1:=(⟨b.Dims,E⟩:Tensor)) ag) ⟨aX,aX,aX,trivial⟩ (fun _=>trivial)) R ?_
 rintro _
 refine aC (aE (tE 6 [3,2,4,5,0]) (d1 10 R (lC 0 pH R (Z1j_ok ah) R ?_)))
 rintro _
 refine aC (aE (tE 6 [3,2,4,5,0]) (d1 11 R (lM _ (tE 6 [0,2,1,3,4,5]) ?_)))
 refine lC 3 rX R (FnOk.lends (A':=[OO kT3 3 l q b.Dims,OO kT3 3 F G M]) (A:=[RR kT3 l q b.Dims,RR kT3 F G M]) (B:=[ow kT3 3 (.slice m b.Data.length u) E]) (FnOk.perm (Z1s_ok (t1:=(⟨b.Dims,E⟩:Tensor)) ai) (Pre':=[RR kT3 l q b.Dims,RR kT3 F G M,ow kT3 3 (.slice m b.Data.length u) E]) (fun _ _ _ s=>(s.e 3 [0,2,1]))) ⟨aX,aX,trivial⟩ (fun _=>⟨(bK j0),trivial⟩)) R ?_
 rintro _
 refine aC (aE (tE 6 [3,1,4,5,0]) (dD ?_))
 refine dJ ?_
 cases g
 exact qA () (tE 6 [4,5,0,2])
 refine aP ?_
 cases g
 obtain rfl:=aj _ R
 have g:=ak
 refine aR ?_
 exact qI (E,()) g tI
 rintro ⟨an,_⟩ σ1 g
 dsimp only [Z0r_J1] at g
 refine aP ?_
 refine aK 0 R R bR R R R R R R (lN (aI Y [(sc l b.Dims q),(sc m b.Data u)] 58::_::_::ow kT3 3 (.slice m b.Data.length u) an::W1) ?_)
 refine aP ?_
 cases g
 exact qS ((l,b.Dims.length,q),(m,b.Data.length,u)) (tE 8 [2,3])
end Go.Proofs.YtmpnollfdpdipaaGreat
