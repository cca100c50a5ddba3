import Derived.Test.YthelanpdjajnbaaGreatKcF
import Derived.Test.YthelanpdjajnbaaGreatKcW2
set_option linter.unusedVariables false
set_option maxRecDepth 20000
namespace Go.Proofs.YthelanpdjajnbaaGreat
open Go Go.Pg
variable {A2 A3 A5 A6:Option Addr}{D2 D3 D5 D6 N2 N3 N5 N6:Nat}
theorem Z5_ok  {a4:aO}{i:(List Tensor)}{r:Tensor}(b:Z5 a4 i=some r) :
 FnOk Tryz.prog 91 [(aE a4),(.slice A3 N3 D3)] [aN dP (.slice A3 N3 D3) i] (fun (h:HH×HH)=>((.agg [(s3 h.1),(s3 h.2)].toArray),[ow kT3 3 (s3 h.1) r.Dims,ow kT3 3 (s3 h.2) r.Data])):=by
 unfold Z5 at b
 refine aP Tryz.func91 R 142 R R fun C V=>?_
 refine cL 0 aA ?_
 rintro rfl
 let W0:=RR dP A3 D3 i::V
 refine cN W0 ?_
 refine aU ?_
 refine bE R R dX (fun U=>(aC (aG (aK ?_))))
 obtain ⟨l,c3,b⟩:=bd b
 refine aD (lO (vp (aE a4) R) (lC 0 yY R (Z0_ok c3) R ?_))
 rintro ⟨A7,N7,D7⟩
 refine aM 0 aB ?_
 rintro rfl
 refine lO (vT R) (lS R (lO (vp (aE l.2.1) R) (lB R (lS R (lO (vp (aE l.2.1) R) ?_)))))
 refine cI ?_
 refine cQ [(1,(sc A3 i D3)),(4,(pt U 0)),(5,(sc A7 l.1 D7)),(6,(aE l.2.1)),(35,(.bool ((!l.2.2)||((l.1.length:Int) != (i.length:Int)))))] (aJ U [(.slice none 0 0),(.slice none 0 0)] 42::OO dV 9 A7 D7 l.1::W0) ?_ ?_
 refine bI ?_
 rcases bo (!l.2.2) with bp | bp
 refine dU ?_
 exact qj (tE 2 [1,0])
 refine dU ?_
 exact qj (tE 2 [1,0])
 rintro σ1
 refine bX ?_
 split at b
 refine aQ ?_
 refine lO (vz (.agg [(.slice none 0 0),(.slice none 0 0)].toArray) (aX gU dX R R)) (aL 0 R R bT R R R R R R (aC (aG (bY (cG ?_)))))
 cases b
 exact qS ((none,0,0),(none,0,0)) (fun w s=>(((s.nilo kT3 3).nilo kT3 3).e 5 [1,0]))
 refine cI ?_
 refine bP (K:=bH) (xs:=([]:List (List Int))) (vs:=[]) 0 R R ja fJ kM R R R R R R ?_ R (fun A10 D10=>?_)
 exact fun I h s=>(mB).list [] I h s
 refine bI ?_
 refine bB (A:=((List (List Int)))×(HH)) (fun a=>Z5_J1 i l a.1=some r) (fun a=>[(1,(sc A3 i D3)),(4,(pt U 0)),(5,(sc A7 l.1 D7)),(6,(aE l.2.1)),(8,(s3 a.2))]) (fun a=>aJ U [(.slice none 0 0),(.slice none 0 0)] 42::OO dV 9 A7 D7 l.1::ow (bH).share 23 (s3 a.2) a.1::W0) ?_ ?_
 refine bW ?_
 obtain ⟨e1,bz,b8⟩:=bd b
 refine bD (A:=HH) bz (fun s a=>[(1,(sc A3 i D3)),(4,(pt U 0)),(5,(sc A7 l.1 D7)),(6,(aE l.2.1)),(8,(s3 a)),(9,(iv s.2))]) (fun s a=>aJ U [(.slice none 0 0),(.slice none 0 0)] 42::OO dV 9 A7 D7 l.1::ow (bH).share 23 (s3 a) s.1::W0) (A10,([]:List (List Int)).length,D10) (aS R) (fun w s=>((s.wk 0 R).e 3 [1,2,0])) ?_
 rintro ⟨F,Y⟩ ⟨bh,bl,bj⟩ σ1 ca b b5
 dsimp only [Z5_L1] at b
 refine bK 2 eG (fun (hn:bl=F.length)=>?_)
 subst hn
 refine dA ?_
 split at b
 refine dU ?_
 obtain ⟨ag,b⟩:=gd b
 obtain ⟨cu,b9,b⟩:=bd b
 refine aQ ?_
 refine bC 3 aA (show 0<i.length by have:=ag; omega) (fun bn o29 ha=>?_)
 subst ha
 refine bX ?_
 refine fN (K:=dP) 3 Y dT42.dec R ag.1 ag.2 ?_
 rintro ⟨⟨ao,ap⟩,⟨bi,bk⟩⟩
 refine lO (vz (.agg [(sc ao ((ix i Y).Dims) ap),(sc bi ((ix i Y).Data) bk)].toArray) (eF (fo:=0) 0 fR bT R R R R)) (lM _ (fun w s=>(((s.d 1 R).d 3 R).f 8 [1,1,0,1,2,6])) ?_)
 refine lC 2 nJ R (Zu_ok b9) R ?_
 rintro _
 refine aQ ?_
 split at b
 refine aQ ?_
 refine lO (vz (.agg [(.slice none 0 0),(.slice none 0 0)].toArray) (aX gU dX R R)) (aL 3 R R bT R R R R R R (aC (aG (bY (cG (dL (cG ?_)))))))
 cases b
 obtain rfl:=b5 _ R
 have b:=b8
 refine aQ ?_
 cases b
 exact qS ((none,0,0),(none,0,0)) (fun w s=>(((s.nilo kT3 3).nilo kT3 3).e 9 [1,0]))
 refine aQ ?_
 obtain ⟨b6,b⟩:=gd b
 refine cI ?_
 refine lO (vz (.pointer (some ⟨bn,o29+Y.toNat*2,none⟩)) (kI iN R R)) (lO (eN (fo:=0) 0 cY R R R) (lM _ (fun w s=>(s.d 1 R)) ?_))
 refine bP (K:=(bH).share) (xs:=([(ix i Y).Dims]:List (List Int))) (vs:=[(sc ao ((ix i Y).Dims) ap)]) 1 R R ja fJ kM R R R R R R ?_ R (fun ci cm=>?_)
 exact fun I h s=>(rn).list [((sc ao ((ix i Y).Dims) ap),(ix i Y).Dims)] I h s
 refine lM _ (fun w s=>(s.f 7 [6,1,0,6])) ?_
 refine eP (K:=(bH).share) 5864062014805 R R ja fJ sT (Zr.zk (Zr.share zT23) kM) R R R R R R dZ b6 (fun az b2=>(lN (OO (bH).share 23 az b2 (F++([(ix i Y).Dims]:List (List Int)))::_::_::_::_::_::W0) ?_))
 refine dA ?_
 cases b
 exact qA (az,(F++([(ix i Y).Dims]:List (List Int))).length,b2) (tE 6 [4,5,0])
 refine aQ ?_
 cases b
 obtain rfl:=b5 _ R
 have b:=b8
 refine aU ?_
 exact qI (F,(bh,F.length,bj)) b tI
 rintro ⟨a1,⟨b0,bm,b3⟩⟩ σ1 b
 dsimp only [Z5_J1] at b
 refine bK 2 eG (fun (hn:bm=a1.length)=>?_)
 subst hn
 refine bX ?_
 obtain ⟨j,ba,b⟩:=bd b
 refine aU ?_
 refine lO (vp (aE l.2.1) R) (lS R (lM _ (tE 3 [1,2,0]) ?_))
 refine lC 2 yZ R (FnOk.lends (A':=[OO dV 9 A7 D7 l.1,OO (bH).share 23 b0 b3 a1]) (A:=[RR dV A7 D7 l.1,RR bH b0 b3 a1]) (B:=[]) (Z2_ok ba) ⟨aZ,m7,trivial⟩ (fun _=>⟨(bN ji),trivial⟩)) R ?_
 rintro ⟨M,cp,O⟩
 refine aM 2 aB ?_
 rintro rfl
 refine lO (vT R) (lO (vp (aE j.1) R) (lS R (lB R (lO (vp (aE j.1) R) ?_))))
 refine bW ?_
 obtain ⟨ah,b⟩:=gd b
 obtain ⟨c4,bb,b⟩:=bd b
 refine cQ [(1,(sc A3 i D3)),(4,(pt U 0)),(5,(sc A7 l.1 D7)),(6,(aE l.2.1)),(10,(aE j.1)),(11,(sc M j.2.1 O)),(76,(.bool ((!j.2.2)||(!c4))))] (aJ U [(.slice none 0 0),(.slice none 0 0)] 42::OO dV 9 A7 D7 l.1::RR kT3 M O j.2.1::W0) ?_ ?_
 refine bI ?_
 rcases bo (!j.2.2) with G | G
 refine dI ?_
 exact qj (fun w s=>((s.shr 2 R).e 4 [3,1,0]))
 refine bX ?_
 refine lW (cC G) (vp (aE l.2.1) R) (lW (cC G) (vz (il l.2.1) (dT fW R)) (iV (fun w s=>s.shr 2 R) (gJ (K:=kT3) (0:Int) (l.2.1.length:Int) 0 R (cC G) bM cJ R R R R (ah G).1 (ah G).2.1 (ah G).2.2 (fun cj cn=>(lM _ (fun w s=>(s.d 0 R)) ?_)))))
 refine bU 1 R (cC G) kj R (Zp_ok (bJ bb (cX G))) R ?_
 rintro _
 refine aQ ?_
 exact qj (tE 5 [4,2,1])
 rintro σ1
 refine bX ?_
 split at b
 refine aQ ?_
 refine lO (vz (.agg [(.slice none 0 0),(.slice none 0 0)].toArray) (aX gU dX R R)) (aL 0 R R bT R R R R R R (lN (_::_::_::W0) ?_))
 refine bI ?_
 cases b
 exact qS ((none,0,0),(none,0,0)) (fun w s=>(((s.nilo kT3 3).nilo kT3 3).e 6 [1,0]))
 refine bI ?_
 obtain ⟨ai,b⟩:=gd b
 obtain ⟨g,bc,b⟩:=bd b
 refine aU ?_
 refine lO (vp (aE l.2.1) R) (lO (vz (il l.2.1) (dT fW R)) (gJ (K:=kT3) (0:Int) (l.2.1.length:Int) 2 R R bM cJ R R R R ai.1 ai.2.1 ai.2.2 (fun ck co=>(lM _ (fun w s=>(s.d 0 R)) ?_))))
 refine lC 1 kK R (Z0i_ok bc) R ?_
 rintro ⟨⟨m,cq,q⟩,⟨u,cr,D⟩⟩
 refine aM 0 aB ?_
 rintro rfl
 refine aM 1 aB ?_
 rintro rfl
 refine bE R R dX (fun E=>(aL 0 R R bT R R R R R R (lN (aJ E [(sc m g.Dims q),(sc u g.Data D)] 42::_::_::_::_::_::_::W0) ?_)))
 refine dI ?_
 refine bB (A:=(Int)×(Unit)) (fun a=>Z5_J2 i l j g a.1=some r) (fun a=>[(1,(sc A3 i D3)),(4,(pt U 0)),(5,(sc A7 l.1 D7)),(6,(aE l.2.1)),(10,(aE j.1)),(11,(sc M j.2.1 O)),(13,(pt E 0)),(14,(iv a.1))]) (fun a=>aJ U [(.slice none 0 0),(.slice none 0 0)] 42::OO dV 9 A7 D7 l.1::RR kT3 M O j.2.1::aJ E [(sc m g.Dims q),(sc u g.Data D)] 42::OO kT3 3 m q g.Dims::OO kT3 3 u D g.Data::W0) ?_ ?_
 refine bW ?_
 obtain ⟨e2,c0,bu⟩:=bd b
 refine bD (A:=Unit) c0 (fun s a=>[(1,(sc A3 i D3)),(4,(pt U 0)),(5,(sc A7 l.1 D7)),(6,(aE l.2.1)),(10,(aE j.1)),(11,(sc M j.2.1 O)),(13,(pt E 0)),(14,(iv s.1)),(15,(iv s.2))]) (fun s a=>aJ U [(.slice none 0 0),(.slice none 0 0)] 42::OO dV 9 A7 D7 l.1::RR kT3 M O j.2.1::aJ E [(sc m g.Dims q),(sc u g.Data D)] 42::OO kT3 3 m q g.Dims::OO kT3 3 u D g.Data::W0) () (aS R) (fun w s=>(s.f 7 [4,3,0,3])) ?_
 rintro ⟨am,ct⟩ _ σ1 cb b bq
 dsimp only [Z5_L2] at b
 refine dA ?_
 split at b
 refine cI ?_
 obtain ⟨b7,b⟩:=gd b
 refine bI ?_
 refine bC 2 aA (show 0<j.2.1.length by have:=b7; omega) (fun cs o68 ha=>?_)
 subst ha
 refine iM ?_
 cases b
 exact qA () tI
 refine aQ ?_
 cases b
 obtain rfl:=bq _ R
 have b:=bu
 refine aU ?_
 exact qI (am,()) b tI
 rintro ⟨a3,_⟩ σ1 b
 dsimp only [Z5_J2] at b
 refine aK (bB (A:=((List Int))×(Unit)) (fun a=>Z5_J5 g a.1=some r) (fun a=>[(4,(pt U 0)),(13,(pt E 0))]) (fun a=>aJ U [(.slice none 0 0),(.slice none 0 0)] 42::aJ E [(sc m g.Dims q),(sc u g.Data D)] 42::OO kT3 3 m q g.Dims::ow kT3 3 (.slice u g.Data.length D) a.1::W0) ?_ ?_)
 refine bW ?_
 obtain ⟨e3,c1,bv⟩:=bd b
 refine bD (A:=Unit) c1 (fun s a=>[(1,(sc A3 i D3)),(4,(pt U 0)),(5,(sc A7 l.1 D7)),(6,(aE l.2.1)),(10,(aE j.1)),(11,(sc M j.2.1 O)),(13,(pt E 0)),(14,(iv a3)),(16,(iv s.2))]) (fun s a=>aJ U [(.slice none 0 0),(.slice none 0 0)] 42::OO dV 9 A7 D7 l.1::RR kT3 M O j.2.1::aJ E [(sc m g.Dims q),(sc u g.Data D)] 42::OO kT3 3 m q g.Dims::ow kT3 3 (.slice u g.Data.length D) s.1::W0) () (aS R) tI ?_
 rintro ⟨T,aj⟩ _ σ1 be b br
 dsimp only [Z5_L3] at b
 refine dI ?_
 split at b
 refine bW ?_
 obtain ⟨L,aq,b⟩:=bd b
 refine aQ ?_
 refine lM _ (fun w s=>(s.d 2 R)) ?_
 refine lC 1 lF R (Zm_ok aq) R ?_
 rintro ⟨Z,c5,a0⟩
 refine aM 0 aB ?_
 rintro rfl
 refine dA ?_
 refine bB (A:=(Int)×(Unit)) (fun a=>Z5_J4 l g T aj L a.1=some be) (fun a=>[(1,(sc A3 i D3)),(4,(pt U 0)),(5,(sc A7 l.1 D7)),(6,(aE l.2.1)),(10,(aE j.1)),(11,(sc M j.2.1 O)),(13,(pt E 0)),(14,(iv a3)),(16,(iv aj)),(17,(sc Z L a0)),(18,(iv a.1))]) (fun a=>aJ U [(.slice none 0 0),(.slice none 0 0)] 42::OO dV 9 A7 D7 l.1::RR kT3 M O j.2.1::aJ E [(sc m g.Dims q),(sc u g.Data D)] 42::OO kT3 3 m q g.Dims::ow kT3 3 (.slice u g.Data.length D) T::OO kT3 3 Z a0 L::W0) ?_ ?_
 refine bW ?_
 obtain ⟨e4,c2,bw⟩:=bd b
 refine bD (A:=Unit) c2 (fun s a=>[(1,(sc A3 i D3)),(4,(pt U 0)),(5,(sc A7 l.1 D7)),(6,(aE l.2.1)),(10,(aE j.1)),(11,(sc M j.2.1 O)),(13,(pt E 0)),(14,(iv a3)),(16,(iv aj)),(17,(sc Z L a0)),(18,(iv s.1)),(19,(iv s.2))]) (fun s a=>aJ U [(.slice none 0 0),(.slice none 0 0)] 42::OO dV 9 A7 D7 l.1::RR kT3 M O j.2.1::aJ E [(sc m g.Dims q),(sc u g.Data D)] 42::OO kT3 3 m q g.Dims::ow kT3 3 (.slice u g.Data.length D) T::OO kT3 3 Z a0 L::W0) () (aS R) (fun w s=>(s.f 7 [1,6,0,1])) ?_
 rintro ⟨bg,J⟩ _ σ1 cc b bs
 dsimp only [Z5_L4] at b
 refine dA ?_
 split at b
 refine cI ?_
 obtain ⟨a5,b⟩:=gd b
 obtain ⟨a6,b⟩:=gd b
 obtain ⟨ak,ar,b⟩:=bd b
 obtain ⟨cf,au,b⟩:=bd b
 obtain ⟨cg,av,b⟩:=bd b
 refine bA 7 aA (show 0<i.length by have:=a5; omega) (fun c7 o149 ha=>?_)
 subst ha
 refine dO (K:=dP) 7 J dT42.dec R a5.1 a5.2 ?_
 rintro ⟨⟨a8,ab⟩,⟨a9,ac⟩⟩
 refine bA 4 aB (show 0<l.1.length by have:=a6; omega) (fun c8 o154 ha=>?_)
 subst ha
 refine dF 15 [] bO fun ht hn=>?_
 refine oy 0 [] ?_
 refine dR 4 R (vz (.agg [(sc a8 ((ix i J).Dims) ab),(sc a9 ((ix i J).Data) ac)].toArray) (eF (fo:=0) 0 fR bT R R R R)) ?_
 refine iz 5 [] ?_
 refine dR 8 R (vz (aE (ix l.1 J)) (jM (K:=dV) (fo:=0) (pr:=fun x=>(aE x)) 4 J rp (dT9.leaf fun _ _=>R) aB R a6.1 a6.2)) (dR 9 R (vp (aE j.1) R) (dR 10 R (vS R) (d1 11 R (lM _ (fun w s=>(s.f 10 [9,1,0,9])) ?_))))
 refine lC 1 y' R (FnOk.lends (A':=[OO kT3 3 Z a0 L]) (A:=[RR kT3 Z a0 L]) (B:=[]) (Zh_ok ar) ⟨aZ,trivial⟩ (fun _=>⟨(bN ji),trivial⟩)) R ?_
 rintro ⟨aa,c6,ae⟩
 refine aM 1 aB ?_
 rintro rfl
 refine aC (aI (fun w s=>(s.f 11 [2,9,0,1])) (d1 12 R (lM _ (fun w s=>(((s.d 3 R).d 5 R).f 13 [3,1,1,1,0,1,2,1,4,9])) ?_)))
 refine lC 3 ni R (FnOk.lends (A':=[OO kT3 3 aa ae ak]) (A:=[RR kT3 aa ae ak]) (B:=[RR kT3 a8 ab ((ix i J).Dims),RR kT3 a9 ac ((ix i J).Data)]) (FnOk.perm (Z18_ok au) (Pre':=[RR kT3 aa ae ak,RR kT3 a8 ab ((ix i J).Dims),RR kT3 a9 ac ((ix i J).Data)]) (fun _ _ _ s=>(s.e 3 [1,2,0]))) ⟨aZ,trivial⟩ (fun _=>trivial)) R ?_
 rintro _
 refine aC (aI (fun w s=>(s.f 11 [2,9,1,1])) (d1 13 R (lC 0 oG R (Z1g_ok av) R ?_)))
 rintro _
 refine aC (aI (fun w s=>(s.f 11 [2,9,1,1])) (dR 14 R (vI R) (hS:=(fun w s=>(s.f 11 [2,9,1,1]))) (dD ?_)))
 refine dU ?_
 cases b
 exact qA () (fun w s=>(s.f 11 [5,6,1,1]))
 refine aQ ?_
 cases b
 obtain rfl:=bs _ R
 have b:=bw
 refine aU ?_
 exact qI (bg,()) b tI
 rintro ⟨ch,_⟩ σ1 b
 dsimp only [Z5_J4] at b
 refine bX ?_
 obtain ⟨a7,b⟩:=gd b
 obtain ⟨bf,aw,b⟩:=bd b
 refine dF 8 [6] bO fun ht hn=>?_
 refine iz 0 [6] ?_
 refine dR 3 R (vp (aE l.2.1) R) (hS:=(sL [6])) (dR 4 R (vz (il l.2.1) (dT fW R)) (hS:=(sL [6])) (d1 5 R (iV (fun w s=>s.shr 6 R) (gJ (K:=kT3) (0:Int) (l.2.1.length:Int) 0 R R bM cJ R R R R a7.1 a7.2.1 a7.2.2 (fun ay b1=>(aC (aI (sL [1,0]) (d1 6 R (lM _ (fun w s=>((s.d 0 R).f 9 [7,1,0,7,8,1])) ?_)))))))))
 refine lC 2 sS R (FnOk.lends (A':=[OO kT3 3 m q g.Dims]) (A:=[RR kT3 m q g.Dims]) (B:=[RR kT3 ay b1 (sub L (0:Int) (l.2.1.length:Int))]) (Z0n_ok aw) ⟨aZ,trivial⟩ (fun _=>trivial)) R ?_
 rintro _
 refine aC (aI (tE 8 [3,4,5,6,0,7]) (dR 7 R (vI R) (hS:=(tE 8 [3,4,5,6,0,7])) (dD (aG ?_))))
 obtain ⟨a2,b⟩:=gd b
 obtain ⟨an,ax,b⟩:=bd b
 refine bA 7 aB (show 0<g.Data.length by have:=a2; omega) (fun c9 o171 ha=>?_)
 subst ha
 refine dF 12 [7] bO fun ht hn=>?_
 refine rP 0 [7] ?_
 refine n6 8 [7] ?_
 refine d1 7 R (lO (gK 7 fP aB R a2) (aC (aI (sL [7]) (d1 9 R (lC 0 qo R (Z1n_ok ax) R ?_)))))
 rintro _
 refine aC (aI (sL [7]) ?_)
 refine n6 10 [7] ?_
 refine d1 11 R (lM _ (fun w s=>(s.f 8 [7,1,0,7])) ?_)
 refine eL (K:=kT3) (x':=an) 0 bf R R cJ R R a2.1 a2.2 ?_ ?_
 exact fun I h s=>(gR).put I h () an s
 refine aC (aI (sL [0]) (dD ?_))
 refine dU ?_
 cases b
 exact qA () (tE 8 [4,5,6,7,1,0])
 refine aQ ?_
 cases b
 obtain rfl:=br _ R
 have b:=bv
 refine aU ?_
 exact qI (T,()) b (tE 6 [0,3,4,5])
 rintro ⟨al,_⟩ σ1 b
 dsimp only [Z5_J5] at b
 refine aQ ?_
 refine aL 0 R R bT R R R R R R (lN (aJ U [(sc m g.Dims q),(sc u g.Data D)] 42::aJ E [(sc m g.Dims q),(sc u g.Data D)] 42::_::ow kT3 3 (.slice u g.Data.length D) al::W0) ?_)
 refine aQ ?_
 cases b
 exact qS ((m,g.Dims.length,q),(u,g.Data.length,D)) (tE 5 [2,3])
theorem Z0h_ok  {v1:View}{r:View}(b:Z0h v1=some r) :
 FnOk Tryz.prog 135 [(.agg [(.slice A2 N2 D2),(.slice A3 N3 D3),(iv v1.Offset),(iv v1.Base)].toArray)] [aN kT3 (.slice A2 N2 D2) v1.Dims,ow kT3 3 (.slice A3 N3 D3) v1.Strides] (fun (h:HH×HH)=>((.agg [(s3 h.1),(s3 h.2),(iv r.Offset),(iv r.Base)].toArray),[aN kT3 (s3 h.1) r.Dims,ow kT3 3 (s3 h.2) r.Strides])):=by
 unfold Z0h at b
 refine aP Tryz.func135 R 22 R R fun C V=>?_
 refine cM _ (tE 2 [1,0]) ?_
 refine cL 0 aB ?_
 rintro rfl
 refine cL 1 aA ?_
 rintro rfl
 let J:=RR kT3 A2 D2 v1.Dims::V
 refine aU ?_
 refine eJ R fun u=>?_
 refine bE R R cB (fun i=>(aC (qM _ (tE 3 [0,2,1]) ?_)))
 let q:=aJ u [(sc A2 v1.Dims D2),(sc A3 v1.Strides D3),(iv v1.Offset),(iv v1.Base)] 111::J
 refine aU ?_
 refine bB (A:=((List Int))×(Unit)) (fun a=>Z0h_J3 v1 a.1=some r) (fun a=>[(1,(pt u 0)),(2,(pt i 0))]) (fun a=>aJ i [(.slice none 0 0),(.slice none 0 0),(iv 0),(iv 0)] 111::ow kT3 3 (.slice A3 v1.Strides.length D3) a.1::q) ?_ ?_
 refine bW ?_
 obtain ⟨T,F,E⟩:=bd b
 refine bD (A:=Unit) F (fun s a=>[(1,(pt u 0)),(2,(pt i 0)),(3,(iv s.1))]) (fun s a=>aJ i [(.slice none 0 0),(.slice none 0 0),(iv 0),(iv 0)] 111::ow kT3 3 (.slice A3 v1.Strides.length D3) s.2::q) () (aS R) tI ?_
 rintro ⟨g,j⟩ _ σ1 m b D
 dsimp only [Z0h_L1] at b
 refine dG ?_
 split at b
 refine bI ?_
 refine bB (A:=((List Int))×(Unit)) (fun a=>Z0h_J2 g a.1=some m) (fun a=>[(1,(pt u 0)),(2,(pt i 0)),(3,(iv g))]) (fun a=>aJ i [(.slice none 0 0),(.slice none 0 0),(iv 0),(iv 0)] 111::ow kT3 3 (.slice A3 v1.Strides.length D3) a.1::q) ?_ ?_
 refine aU ?_
 obtain ⟨l,b⟩:=gd b
 refine bI ?_
 refine bC 3 aA (show 0<v1.Dims.length by have:=l; omega) (fun L o20 B=>?_)
 subst B
 refine cI ?_
 split at b
 refine bX ?_
 obtain ⟨e,b⟩:=gd b
 refine bI ?_
 refine bC 1 aB (show 0<v1.Strides.length by have:=e; omega) (fun M o24 B=>?_)
 subst B
 refine bX ?_
 refine lM _ (tE 2 [1,0]) ?_
 refine eL (K:=kT3) (x':=(0:Int)) 0 g R R cJ R R e.1 e.2 ?_ ?_
 exact fun I h s=>(gR).put I h () (0:Int) s
 refine aU ?_
 exact qI ((j.set g.toNat (0:Int)),()) b (tE 2 [1,0])
 refine aQ ?_
 exact qI (j,()) b tI
 rintro ⟨O,_⟩ σ1 b
 dsimp only [Z0h_J2] at b
 refine cI ?_
 cases b
 exact qA () tI
 refine aQ ?_
 cases b
 obtain rfl:=D _ R
 have b:=E
 refine aU ?_
 exact qI (j,()) b tI
 rintro ⟨G,_⟩ σ1 b
 dsimp only [Z0h_J3] at b
 refine aQ ?_
 refine aL 0 R R bS R R R R R R (lN (aJ i [(sc A2 v1.Dims D2),(sc A3 v1.Strides D3),(iv v1.Offset),(iv v1.Base)] 111::ow kT3 3 (.slice A3 v1.Strides.length D3) G::q) ?_)
 refine aQ ?_
 cases b
 exact qS ((A2,v1.Dims.length,D2),(A3,v1.Strides.length,D3)) (tE 4 [3,1])
theorem Zx_ok  {b:(List Int)}{r:View}(g:Zx b=some r) :
 FnOk Tryz.prog 94 [(.slice A2 N2 D2)] [aN kT3 (.slice A2 N2 D2) b] (fun (h:HH×HH)=>((.agg [(.slice h.1.1 h.1.2.1 h.1.2.2),(.slice h.2.1 h.2.2.1 h.2.2.2),(iv r.Offset),(iv r.Base)].toArray),[aN kT3 (.slice h.1.1 h.1.2.1 h.1.2.2) r.Dims,ow kT3 3 (.slice h.2.1 h.2.2.1 h.2.2.2) r.Strides])):=by
 unfold Zx at g
 refine aP Tryz.func94 R 32 R R fun C V=>?_
 refine cN (_::V) ?_
 refine cL 0 aA ?_
 rintro rfl
 let l:List HP:=RR kT3 A2 D2 b::V
 refine cN l ?_
 refine aK (aD (bE R R cB (fun b3=>(aC (aG (aK (aK ?_)))))))
 obtain ⟨r4,al,g⟩:=bd g
 refine aD (lS R (lM (RR kT3 A2 D2 b::_::l) (fun w s=>(s.d 1 R)) ?_))
 refine lC 1 kj R (Zp_ok al) R ?_
 rintro _
 refine lN (_::l) ?_
 refine lO (pn R) (aC (aG ?_))
 rcases cH g with ⟨a2,g⟩|⟨a2,g⟩
 refine bV R a2 (aK (aD (lO (vz (.agg [(.slice none 0 0),(.slice none 0 0),(iv 0),(iv 0)].toArray) (aX eE cB R R)) (aL 0 R R bS R R R R R R (aC (aG (bY (cG ?_))))))))
 obtain rfl:=so g
 exact dC (vs:=[(.agg [(.slice none 0 0),(.slice none 0 0),(iv 0),(iv 0)].toArray)]) (.inl R) ((none,0,0),(none,0,0)) R ⟨⟨0,b3,_,_,R,R,.inl ⟨eS,bS,R⟩⟩,trivial⟩ R (fun w s=>(((s.nilr kT3).nilo kT3 3).e 4 [1,0]))
 refine bG R a2 (cF (aG (aK ?_)))
 obtain ⟨u,am,g⟩:=bd g
 obtain ⟨j,a6,g⟩:=bd g
 refine aD (lS R (lM (RR kT3 A2 D2 b::_::l) (fun w s=>(s.d 1 R)) ?_))
 refine lC 1 jT R (Zw_ok am) R ?_
 rintro ⟨A9,N9,D9⟩
 refine lN (ow kT3 3 (.slice A9 N9 D9) u::_::l) ?_
 refine aM 0 aB ?_
 rintro rfl
 refine lS R (lM (RR kT3 A2 D2 b::_::_::l) (fun w s=>(s.d 2 R)) ?_)
 refine lC 1 n9 R (Zq_ok a6) R ?_
 rintro _
 refine lN (_::_::l) ?_
 refine lO (vz (.agg [(sc A9 u D9),(.slice none 0 0),(iv 0),(iv j)].toArray) (aX eE cB R R)) (bE R R cB (fun q=>(aL 0 R R bS R R R R R R (lN (aJ q [(sc A9 u D9),(.slice none 0 0),(iv 0),(iv j)] 111::_::_::l) ?_))))
 refine aC (aG (aK (bB (A:=((List Int))×(HH)) (fun a=>Zx_J1 u j a.1=some r) (fun a=>[(2,(pt b3 0)),(3,(pt q 0))]) (fun a=>aJ b3 [(.slice none 0 0),(.slice none 0 0),(iv 0),(iv 0)] 111::aJ q [(sc A9 u D9),(.slice a.2.1 a.2.2.1 a.2.2.2),(iv 0),(iv j)] 111::OO kT3 3 A9 D9 u::ow kT3 3 (.slice a.2.1 a.2.2.1 a.2.2.2) a.1::l) ?_ ?_)))
 refine aK (aD (lI R (aC (aG (dJ ?_)))))
 obtain ⟨e1,ak,aj⟩:=bd g
 refine bD (A:=HH) ak (fun s a=>[(0,(sc A2 b D2)),(2,(pt b3 0)),(3,(pt q 0)),(4,(iv s.2))]) (fun s a=>aJ b3 [(.slice none 0 0),(.slice none 0 0),(iv 0),(iv 0)] 111::aJ q [(sc A9 u D9),(.slice a.1 a.2.1 a.2.2),(iv 0),(iv j)] 111::OO kT3 3 A9 D9 u::ow kT3 3 (.slice a.1 a.2.1 a.2.2) s.1::l) (none,0,0) (aS R) (fun w s=>((s.nilo kT3 3).e 4 [3,1,2,0])) ?_
 rintro ⟨m,O⟩ ⟨T,ac,Z⟩ σ1 a9 g ai
 replace g:Zx_L1 b m O=some a9:=g
 unfold Zx_L1 at g
 refine bK 3 aB (fun (hn:ac=m.length)=>?_)
 subst hn
 refine aK (aK (aD (lI R (lS R (lO (hY bM R) (lO (n0 R R) (aC (aG ?_))))))))
 rcases cH g with ⟨E,g⟩|⟨E,g⟩
 refine bV R E (cF (aG (aK (dJ ?_))))
 obtain ⟨F,g⟩:=gd g
 obtain ⟨B,a7,g⟩:=bd g
 obtain ⟨a5,g⟩:=gd g
 refine dF 8 [] bO (fun ht hn=>(dR 0 R (fX 1 fF R) (dR 1 R (gF 1 cY R R R) (dR 2 R (vS R) (dR 3 R (vI R) (dR 4 R (jt R R) (d1 5 R (gJ (K:=kT3) (aH (O+(1:Int))) (b.length:Int) 4 R R bM cJ R R R R F.1 F.2.1 F.2.2 (fun a3 a4=>(aC (aI (sL [0]) (d1 6 R (lM (RR kT3 a3 a4 (sub b (aH (O+(1:Int))) (b.length:Int))::RR kT3 a3 a4 (sub b (aH (O+(1:Int))) (b.length:Int))::_::aJ q [(sc A9 u D9),(sc T m Z),(iv 0),(iv j)] 111::_::OO kT3 3 T Z m::l) (fun w s=>(s.d 0 R)) ?_)))))))))))))
 refine lC 1 n9 R (Zq_ok a7) R ?_
 rintro _
 refine lN (_::_::_::_::_::l) ?_
 refine aC (aI (sL [0]) (d1 7 R (bP (K:=kT3) (xs:=([B]:List Int)) (vs:=[(iv B)]) 0 R R bM cJ gV R R R R R R ?_ R (fun aa ab=>?_))))
 exact fun I h s=>(gR).list [((),B)] I h s
 refine lN (OO kT3 3 aa ab ([B]:List Int)::_::_::_::_::_::l) ?_
 refine aC (aI (sL [1,0]) (d1 8 R (lM (ow _ _ _ _::ow _ _ _ _::aN _ _ _::aJ _ _ _::aJ _ _ _::ow _ _ _ _::l) (fun w s=>(s.f 6 [5,1,0,5])) ?_)))
 refine eP (K:=kT3) 17592186044416 R R bM cJ kk (Zr.zk zT3 gV) R R R R R R dZ a5 (fun U a0=>(lN (OO kT3 3 U a0 (m++([B]:List Int))::_::_::_::_::l) ?_))
 refine aC (qE (d1 9 R (lO (fX 1 fF R) (aC (qE (d1 10 R (cZ 3 R R fJ R R R R R (lN (_::_::_::aJ q [(sc A9 u D9),(sc U (m++([B]:List Int)) a0),(iv 0),(iv j)] 111::_::l) ?_))))))))
 refine aC (qE (dD (dN (aG (aD (lI R (lO (jt R R) (lI R (aC ?_)))))))))
 obtain rfl:=so g
 exact qA (U,(m++([B]:List Int)).length,a0) (fun w s=>(s.e 5 [2,3,4,0]))
 refine bG R E (gA (dY ?_))
 obtain rfl:=so g
 obtain rfl:=ai _ R
 have g:=aj
 refine dY (eX ?_)
 exact qI (m,(T,m.length,Z)) g (fun w s=>s)
 rintro ⟨D,⟨Y,ae,a1⟩⟩ σ1 g
 replace g:Zx_J1 u j D=some r:=g
 unfold Zx_J1 at g
 refine bK 3 aB (fun (hn:ae=D.length)=>?_)
 subst hn
 refine aK ?_
 obtain ⟨i,a8,g⟩:=bd g
 refine aD (lO (vz (.agg [(sc A9 u D9),(sc Y D a1),(iv 0),(iv j)].toArray) (cO 1 eS bS R R R R)) (iV (fun w s=>s.shr 2 R) (lM (RR kT3 A9 D9 u::OO kT3 3 Y a1 D::RR kT3 A9 D9 u::aJ _ _ _::aJ q [(sc A9 u D9),(sc Y D a1),(iv 0),(iv j)] 111::l) (fun w s=>((s.d 0 R).e 5 [0,4,1,2,3])) ?_)))
 refine lC 2 z6 R (Z0h_ok (v1:=(⟨u,D,(0:Int),j⟩:View)) a8) R ?_
 rintro ⟨⟨G,ag,L⟩,⟨J,ah,M⟩⟩
 refine lN (aN kT3 (.slice G ag L) i.Dims::ow kT3 3 (.slice J ah M) i.Strides::_::_::_::l) ?_
 refine aM 0 aA ?_
 rintro rfl
 refine aM 1 aB ?_
 rintro rfl
 refine aL 3 R R bS R R R R R R (lN (_::_::_::aJ b3 [(sc G i.Dims L),(sc J i.Strides M),(iv i.Offset),(iv i.Base)] 111::_::l) ?_)
 refine aC (aG (bY ?_))
 obtain rfl:=so g
 exact dC (vs:=[(.agg [(sc G i.Dims L),(sc J i.Strides M),(iv i.Offset),(iv i.Base)].toArray)]) (.inl R) ((G,i.Dims.length,L),(J,i.Strides.length,M)) R ⟨⟨3,b3,_,_,R,R,.inl ⟨eS,bS,R⟩⟩,trivial⟩ R (fun w s=>(s.e 6 [0,1]))
theorem Z17_ok  {v1:View}{b:(List Int)}{r:Int}(e:Z17 v1 b=some r) :
 FnOk Tryz.prog 155 [(.agg [(.slice A2 N2 D2),(.slice A3 N3 D3),(iv v1.Offset),(iv v1.Base)].toArray),(.slice A5 N5 D5)] [aN kT3 (.slice A2 N2 D2) v1.Dims,aN kT3 (.slice A3 N3 D3) v1.Strides,aN kT3 (.slice A5 N5 D5) b] (fun (h:Unit)=>((iv r),[])):=by
 unfold Z17 at e
 refine aP Tryz.func155 R 28 R R fun C V=>?_
 refine cL 0 aA ?_
 rintro rfl
 refine cL 1 aA ?_
 rintro rfl
 refine cL 2 aA ?_
 rintro rfl
 let D:=RR kT3 A2 D2 v1.Dims::RR kT3 A3 D3 v1.Strides::RR kT3 A5 D5 b::V
 refine cN D ?_
 refine aU ?_
 refine eJ R fun E=>?_
 refine aU ?_
 let j:=aJ E [(sc A2 v1.Dims D2),(sc A3 v1.Strides D3),(iv v1.Offset),(iv v1.Base)] 111::D
 refine qN j ?_
 refine dA ?_
 refine bB (A:=(Int)×(Unit)) (fun a=>Z17_J1 a.1=some r) (fun a=>[(5,(iv a.1))]) (fun a=>j) ?_ ?_
 refine bW ?_
 obtain ⟨M,u,q⟩:=bd e
 refine bD (A:=Unit) u (fun s a=>[(1,(sc A5 b D5)),(2,(pt E 0)),(5,(iv s.1)),(6,(iv s.2))]) (fun s a=>j) () (aS R) tI ?_
 rintro ⟨B,J⟩ _ σ1 F e m
 dsimp only [Z17_L1] at e
 refine dA ?_
 split at e
 refine cI ?_
 obtain ⟨g,e⟩:=gd e
 obtain ⟨i,e⟩:=gd e
 refine bA 3 aA (show 0<b.length by have:=g; omega) (fun G o19 l=>?_)
 subst l
 refine bA 2 aA (show 0<v1.Strides.length by have:=i; omega) (fun I o22 l=>?_)
 subst l
 refine dF 13 [] bO fun T O=>?_
 refine mA 0 [] ?_
 refine dD ?_
 refine dU ?_
 cases e
 exact qA () tI
 refine aQ ?_
 cases e
 obtain rfl:=m _ R
 have e:=q
 refine aU ?_
 exact qI (B,()) e tI
 rintro ⟨L,_⟩ σ1 e
 dsimp only [Z17_J1] at e
 refine dU ?_
 cases e
 exact qF () (tE 4 [])
theorem Z0d_ok  {v1:View}{r:(List Int)}(b:Z0d v1=some r) :
 FnOk Tryz.prog 134 [(.agg [(.slice A2 N2 D2),(.slice A3 N3 D3),(iv v1.Offset),(iv v1.Base)].toArray)] [aN kT3 (.slice A2 N2 D2) v1.Dims,aN kT3 (.slice A3 N3 D3) v1.Strides] (fun (h:HH)=>((.slice h.1 h.2.1 h.2.2),[ow kT3 3 (.slice h.1 h.2.1 h.2.2) r])):=by
 unfold Z0d at b
 refine aP Tryz.func134 R 25 R R fun C V=>?_
 refine cN (_::_::V) ?_
 refine cL 0 aA ?_
 rintro rfl
 refine cL 1 aA ?_
 rintro rfl
 let W0:List HP:=RR kT3 A2 D2 v1.Dims::RR kT3 A3 D3 v1.Strides::V
 refine cN W0 ?_
 refine aK (aD (eJ R (fun b4=>(lS R (aC ?_)))))
 let i:List HP:=aJ b4 [(sc A2 v1.Dims D2),(sc A3 v1.Strides D3),(iv v1.Offset),(iv v1.Base)] 111::W0
 refine qN i ?_
 refine aG (aK (aD (bP (K:=kT3) (xs:=([]:List Int)) (vs:=[]) 0 R R bM cJ gV R R R R R R ?_ R (fun A5 D5=>?_))))
 exact fun I h s=>(gR).list [] I h s
 refine lN (OO kT3 3 A5 D5 ([]:List Int)::i) ?_
 refine lS R (aC (aG (aK ?_)))
 obtain ⟨r6,a8,b⟩:=bd b
 refine aD (lO (fX 0 fQ R) (lO (gF 1 cY R R R) (lM (RR kT3 A2 D2 v1.Dims::_::i) (fun w s=>(s.d 2 R)) ?_)))
 refine lC 1 n9 R (Zq_ok a8) R ?_
 rintro _
 refine lN (_::i) ?_
 refine lI R (aC (aG (aK (bB (A:=((List Int))×(HH)) (fun a=>Z0d_J1 a.1=some r) (fun a=>[(3,(.slice a.2.1 a.2.2.1 a.2.2.2))]) (fun a=>ow kT3 3 (.slice a.2.1 a.2.2.1 a.2.2.2) a.1::i) ?_ ?_))))
 refine aK (aD (lI R (aC (aG (dJ ?_)))))
 obtain ⟨e1,a7,a6⟩:=bd b
 refine bD (A:=HH) a7 (fun s a=>[(1,(pt b4 0)),(3,(.slice a.1 a.2.1 a.2.2)),(4,(iv r6)),(5,(iv s.2))]) (fun s a=>ow kT3 3 (.slice a.1 a.2.1 a.2.2) s.1::i) (A5,([]:List Int).length,D5) (aS R) (fun w s=>s) ?_
 rintro ⟨g,a9⟩ ⟨E,a2,G⟩ σ1 T b a5
 replace b:Z0d_L1 v1 r6 g a9=some T:=b
 unfold Z0d_L1 at b
 refine bK 0 aB (fun (U:a2=g.length)=>?_)
 subst U
 refine aK (aK (aD (lI R (lI R (lO (n0 R R) (aC (aG ?_)))))))
 rcases cH b with ⟨l,b⟩|⟨l,b⟩
 refine bV R l (cF (aG (aK (dJ ?_))))
 obtain ⟨u,M,b⟩:=bd b
 obtain ⟨j,O,b⟩:=bd b
 obtain ⟨L,b⟩:=gd b
 refine dF 10 [0] bO (fun ht U=>(dR 0 R (vS R) (hS:=(sL [0])) (dR 1 R (vz (.agg [(sc A2 v1.Dims D2),(sc A3 v1.Strides D3),(iv v1.Offset),(iv v1.Base)].toArray) (cO 0 eS bS R R R R)) (hS:=(sL [0])) (dR 2 R (fX 0 fQ R) (hS:=(sL [0])) (dR 3 R (gF 0 cY R R R) (hS:=(sL [0])) (dR 4 R (vI R) (hS:=(sL [0])) (d1 5 R (lM (RR kT3 A2 D2 v1.Dims::OO kT3 3 E G g::i) (fun w s=>(s.d 2 R)) ?_))))))))
 refine lC 1 lF R (Zm_ok M) R ?_
 rintro ⟨m,a3,q⟩
 refine lN (ow kT3 3 (.slice m a3 q) u::_::i) ?_
 refine aM 0 aB ?_
 rintro rfl
 refine aC (aI (sL [1,0]) (d1 6 R (lM (ow _ _ _ _::RR kT3 A2 D2 v1.Dims::RR kT3 A3 D3 v1.Strides::ow _ _ _ _::i) (fun w s=>(((s.d 3 R).d 5 R).e 4 [2,1,0,3])) ?_)))
 refine lC 3 z7 R (FnOk.lends (A':=[OO kT3 3 m q u]) (A:=[RR kT3 m q u]) (B:=[RR kT3 A2 D2 v1.Dims,RR kT3 A3 D3 v1.Strides]) (FnOk.perm (Z17_ok O) (Pre':=[RR kT3 m q u,RR kT3 A2 D2 v1.Dims,RR kT3 A3 D3 v1.Strides]) (fun _ _ _ s=>(s.e 3 [1,2,0]))) ⟨aZ,trivial⟩ (fun _=>trivial)) R ?_
 rintro _
 refine lN (_::_::i) ?_
 refine aC (aI (sL [1,0]) (d1 7 R (bP (K:=kT3) (xs:=([j]:List Int)) (vs:=[(iv j)]) 0 R R bM cJ gV R R R R R R ?_ R (fun Y a0=>?_))))
 exact fun I h s=>(gR).list [((),j)] I h s
 refine lN (OO kT3 3 Y a0 ([j]:List Int)::_::_::i) ?_
 refine aC (aI (sL [2,1,0]) (d1 8 R (lM (ow _ _ _ _::ow _ _ _ _::ow _ _ _ _::i) (fun w s=>(s.e 3 [2,0,1])) ?_)))
 refine eP (K:=kT3) 17592186044416 R R bM cJ kk (Zr.zk zT3 gV) R R R R R R dZ L (fun F J=>(lN (OO kT3 3 F J (g++([j]:List Int))::_::i) ?_))
 refine aC (aI (sL [1,0]) (dR 9 R (vS R) (hS:=(sL [1,0])) (dD (dN (aG (aD (lI R (lO (jt R R) (lI R (aC ?_))))))))))
 obtain rfl:=so b
 exact qA (F,(g++([j]:List Int)).length,J) (fun w s=>(s.e 2 [0]))
 refine bG R l (gA (dY ?_))
 obtain rfl:=so b
 obtain rfl:=a5 _ R
 have b:=a6
 refine dY (eX ?_)
 exact qI (g,(E,g.length,G)) b (fun w s=>s)
 rintro ⟨D,⟨Z,a4,a1⟩⟩ σ1 b
 replace b:Z0d_J1 D=some r:=b
 unfold Z0d_J1 at b
 refine bK 0 aB (fun (U:a4=D.length)=>?_)
 subst U
 refine aK (aD (lS R (lS R (aC (aG (bY ?_))))))
 obtain rfl:=so b
 exact qF (Z,D.length,a1) (fun w s=>(s.e 4 [0]))
theorem Za_ok  {v1:View}{r:Bool}(b:Za v1=some r) :
 FnOk Tryz.prog 133 [(.agg [(.slice A2 N2 D2),(.slice A3 N3 D3),(iv v1.Offset),(iv v1.Base)].toArray)] [aN kT3 (.slice A2 N2 D2) v1.Dims,aN kT3 (.slice A3 N3 D3) v1.Strides] (fun (h:Unit)=>((.bool r),[])):=by
 unfold Za at b
 refine aP Tryz.func133 R 84 R R fun C V=>?_
 refine cL 0 aA ?_
 rintro rfl
 refine cL 1 aA ?_
 rintro rfl
 let W0:=RR kT3 A2 D2 v1.Dims::RR kT3 A3 D3 v1.Strides::V
 refine cN W0 ?_
 refine aU ?_
 refine eJ R fun B=>?_
 refine aU ?_
 let l:=aJ B [(sc A2 v1.Dims D2),(sc A3 v1.Strides D3),(iv v1.Offset),(iv v1.Base)] 111::W0
 refine qN l ?_
 refine aQ ?_
 obtain ⟨D,a5,b⟩:=bd b
 refine cQ [(1,(pt B 0)),(40,(.bool ((((((!D)||((v1.Strides.length:Int) != (v1.Dims.length:Int)))||(decide (v1.Base<1)))||(decide (v1.Base>4096)))||(decide (v1.Offset<0)))||(decide (v1.Offset≥v1.Base)))))] (l) ?_ ?_
 refine aQ ?_
 refine lM _ (fun w s=>(s.d 1 R)) ?_
 refine lC 1 kj R (Zp_ok a5) R ?_
 rintro _
 refine lN l ?_
 refine aU ?_
 rcases bo (!D) with a0 | a0
 refine wW ?_
 exact qj tI
 refine dA ?_
 rcases bo ((!D)||((v1.Strides.length:Int) != (v1.Dims.length:Int))) with a1 | a1
 refine yJ ?_
 exact qj tI
 refine cI ?_
 rcases bo (((!D)||((v1.Strides.length:Int) != (v1.Dims.length:Int)))||(decide (v1.Base<1))) with a2 | a2
 refine pq ?_
 exact qj tI
 refine cI ?_
 rcases bo ((((!D)||((v1.Strides.length:Int) != (v1.Dims.length:Int)))||(decide (v1.Base<1)))||(decide (v1.Base>4096))) with F | F
 refine iM ?_
 exact qj tI
 refine cI ?_
 rcases bo (((((!D)||((v1.Strides.length:Int) != (v1.Dims.length:Int)))||(decide (v1.Base<1)))||(decide (v1.Base>4096)))||(decide (v1.Offset<0))) with G | G
 refine dU ?_
 exact qj tI
 refine dU ?_
 exact qj tI
 rintro σ1
 refine bX ?_
 split at b
 refine dI ?_
 cases b
 exact qF () (tE 3 [])
 refine bI ?_
 refine bB (A:=(Unit)×(Unit)) (fun a=>Za_J1 v1=some r) (fun a=>[(1,(pt B 0))]) (fun a=>l) ?_ ?_
 refine bW ?_
 obtain ⟨e1,a3,T⟩:=bd b
 refine bD (A:=Unit) a3 (fun s a=>[(1,(pt B 0)),(3,(iv s))]) (fun s a=>l) () (aS R) tI ?_
 rintro m _ σ1 a6 b L
 dsimp only [Za_L1] at b
 refine dG ?_
 split at b
 refine bW ?_
 obtain ⟨O,b⟩:=gd b
 refine cQ [(1,(pt B 0)),(3,(iv m)),(61,(.bool ((decide ((ix v1.Strides m)<(-4096:Int)))||(decide ((ix v1.Strides m)>4096)))))] (l) ?_ ?_
 refine bI ?_
 refine bC 2 aA (show 0<v1.Strides.length by have:=O; omega) (fun a9 o23 E=>?_)
 subst E
 refine bI ?_
 rcases bo (decide ((ix v1.Strides m)<(-4096:Int))) with I | I
 refine dI ?_
 exact qj tI
 refine dI ?_
 exact qj tI
 rintro σ1
 refine bX ?_
 split at b
 refine dA ?_
 cases b
 obtain rfl:=L _ R
 have b:=T
 refine aQ ?_
 cases b
 exact qF () (tE 3 [])
 refine dA ?_
 cases b
 exact qA () tI
 refine aQ ?_
 cases b
 obtain rfl:=L _ R
 have b:=T
 refine aU ?_
 exact qI ((),()) b tI
 rintro ⟨_,_⟩ σ1 b
 dsimp only [Za_J1] at b
 refine bX ?_
 obtain ⟨g,Y,b⟩:=bd b
 refine aU ?_
 refine lM _ (fun w s=>(((s.d 1 R).d 3 R).e 2 [1,0])) ?_
 refine lC 2 qp R (Z0d_ok Y) R ?_
 rintro ⟨i,a8,j⟩
 refine aM 0 aB ?_
 rintro rfl
 refine bI ?_
 refine bB (A:=(Unit)×(Unit)) (fun a=>Za_J2=some r) (fun a=>[]) (fun a=>l) ?_ ?_
 refine bW ?_
 obtain ⟨e2,a4,U⟩:=bd b
 refine bD (A:=Unit) a4 (fun s a=>[(1,(pt B 0)),(4,(sc i g j)),(5,(iv s))]) (fun s a=>OO kT3 3 i j g::l) () (aS R) tI ?_
 rintro q _ σ1 a7 b M
 dsimp only [Za_L2] at b
 refine dA ?_
 split at b
 refine bW ?_
 obtain ⟨u,b⟩:=gd b
 refine cQ [(1,(pt B 0)),(4,(sc i g j)),(5,(iv q)),(83,(.bool ((decide ((ix g q)<0))||(decide ((ix g q)≥v1.Base)))))] (OO kT3 3 i j g::l) ?_ ?_
 rcases bo (decide ((ix g q)<0)) with J | J
 refine bA 0 aB (show 0<g.length by have:=u; omega) (fun Z o40 E=>?_)
 subst E
 refine dF 14 [] bO fun ht hn=>?_
 refine uC 0 [] ?_
 refine dD ?_
 exact qj tI
 refine bA 0 aB (show 0<g.length by have:=u; omega) (fun Z o40 E=>?_)
 subst E
 refine dF 14 [] bO fun ht hn=>?_
 refine uC 0 [] ?_
 refine dD ?_
 exact qj tI
 rintro σ1
 refine bX ?_
 split at b
 refine dA ?_
 cases b
 obtain rfl:=M _ R
 have b:=U
 refine aQ ?_
 cases b
 exact qF () (tE 4 [])
 refine dA ?_
 cases b
 exact qA () tI
 refine aQ ?_
 cases b
 obtain rfl:=M _ R
 have b:=U
 refine aU ?_
 exact cU ((),()) b trivial (tE 1 [])
 rintro ⟨_,_⟩ σ1 b
 dsimp only [Za_J2] at b
 refine bW ?_
 cases b
 exact qF () (tE 3 [])
theorem Z05_ok  {v1:View}{b:(List Int)}{r:View}(q:Z05 v1 b=some r) :
 FnOk Tryz.prog 93 [(.agg [(.slice A2 N2 D2),(.slice A3 N3 D3),(iv v1.Offset),(iv v1.Base)].toArray),(.slice A5 N5 D5)] [aN kT3 (.slice A2 N2 D2) v1.Dims,aN kT3 (.slice A3 N3 D3) v1.Strides,aN kT3 (.slice A5 N5 D5) b] (fun (h:HH×HH)=>((.agg [(s3 h.1),(s3 h.2),(iv r.Offset),(iv r.Base)].toArray),[ow kT3 3 (s3 h.1) r.Dims,ow kT3 3 (s3 h.2) r.Strides])):=by
 unfold Z05 at q
 refine aP Tryz.func93 R 77 R R fun C V=>?_
 refine cL 0 aA ?_
 rintro rfl
 refine cL 1 aA ?_
 rintro rfl
 refine cL 2 aA ?_
 rintro rfl
 let W0:=RR kT3 A2 D2 v1.Dims::RR kT3 A3 D3 v1.Strides::RR kT3 A5 D5 b::V
 refine cN W0 ?_
 refine aU ?_
 refine eJ R fun b6=>?_
 refine bE R R cB (fun T=>(aC ?_))
 let L:=aJ b6 [(sc A2 v1.Dims D2),(sc A3 v1.Strides D3),(iv v1.Offset),(iv v1.Base)] 111::W0
 refine nI ?_
 obtain ⟨r8,am,q⟩:=bd q
 obtain ⟨ai,ae,q⟩:=bd q
 refine cQ [(1,(sc A5 b D5)),(2,(pt b6 0)),(4,(pt T 0)),(5,(iv (aH ((b.length:Int) - (v1.Dims.length:Int))))),(25,(.bool (((!r8)||(!ai))||(decide ((aH ((b.length:Int) - (v1.Dims.length:Int)))<0)))))] (aJ T [(.slice none 0 0),(.slice none 0 0),(iv 0),(iv 0)] 111::L) ?_ ?_
 refine aU ?_
 refine lM (RR kT3 A2 D2 v1.Dims::RR kT3 A3 D3 v1.Strides::aJ _ _ _::L) (fun w s=>(((s.d 2 R).d 4 R).e 3 [1,0,2])) ?_
 refine lC 2 lH R (Za_ok am) R ?_
 rintro _
 refine aU ?_
 rcases bo (!r8) with U | U
 refine dA ?_
 exact qj tI
 refine bX ?_
 refine lM (RR kT3 A5 D5 b::_::L) (fun w s=>(s.d 4 R)) ?_
 refine bU 1 R (cC U) kj R (Zp_ok (bJ ae (cX U))) R ?_
 rintro _
 refine aQ ?_
 rcases bo ((!r8)||(!ai)) with a7 | a7
 refine bI ?_
 exact qj tI
 refine bI ?_
 exact qj tI
 rintro σ1
 refine bX ?_
 split at q
 refine aQ ?_
 refine lO (vz (.agg [(.slice none 0 0),(.slice none 0 0),(iv 0),(iv 0)].toArray) (aX eE cB R R)) (aL 0 R R bS R R R R R R (aC (aG (bY (cG ?_)))))
 cases q
 exact qS ((none,0,0),(none,0,0)) (fun w s=>(((s.nilo kT3 3).nilo kT3 3).e 7 [1,0]))
 refine bI ?_
 obtain ⟨g,O,q⟩:=bd q
 obtain ⟨l,q⟩:=gd q
 refine iZ (A:=(Unit)×(Nat×HH×HH)) (fun _=>True) (fun a=>[(1,(sc A5 b D5)),(2,(pt b6 0)),(4,(pt T 0)),(5,(iv (aH ((b.length:Int) - (v1.Dims.length:Int))))),(6,(pt a.2.1 0))]) (fun a=>aJ T [(.slice none 0 0),(.slice none 0 0),(iv 0),(iv 0)] 111::aJ a.2.1 [(s3 a.2.2.1),(s3 a.2.2.2),(iv v1.Offset),(iv v1.Base)] 111::ow kT3 3 (s3 a.2.2.1) g::ow kT3 3 (s3 a.2.2.2) (List.replicate (b.length:Int).toNat (0:Int))::L) ?_ ?_
 refine dF 12 [] bO fun ht hn=>?_
 refine dR 0 R (vS R) ?_
 refine gZ 2 [] ?_
 refine oy 5 [] ?_
 refine iu [1,4,10] (by kernel_rfl) R ⟨?_,?_,?_,trivial⟩
 refine lM (RR kT3 A5 D5 b::_::L) (fun w s=>(s.d 4 R)) ?_
 refine lC 1 jT R (Zw_ok O) R ?_
 rintro ⟨u,a1,B⟩
 refine aM 0 aB ?_
 rintro rfl
 refine aC (aI (sL [0]) (iu [4,10] (by kernel_rfl) R ⟨?_,?_,trivial⟩))
 refine fO (K:=kT3) (m:=(b.length:Int)) (z:=(0:Int)) R R bM cJ kk (Zr.zk zT3 gV) (by decide) R R l.1 l.2.1 l.2.2 (fun i j=>(aC (aI (sL [1,0]) (dR 9 R (vz (.agg [(sc u g B),(sc i (List.replicate (b.length:Int).toNat (0:Int)) j),(iv v1.Offset),(iv v1.Base)].toArray) (aX eE cB R R)) (hS:=(sL [1,0])) (d1 10 R (bE R R cB (fun D=>(aC (aI (sL [2,1,0]) (d1 11 R (aL 0 R R bS R R R R R R (lN (aJ D [(sc u g B),(sc i (List.replicate (b.length:Int).toNat (0:Int)) j),(iv v1.Offset),(iv v1.Base)] 111::OO kT3 3 i j (List.replicate (b.length:Int).toNat (0:Int))::_::_::L) ?_))))))))))))
 refine aC (aI (sL [2,1,0]) (dD ?_))
 exact cU ((),(D,(u,g.length,B),(i,(List.replicate (b.length:Int).toNat (0:Int)).length,j))) trivial (aS R) (tE 4 [3,0,2,1])
 refine bE R R cB (fun D=>(aC (aI (sL [1,0]) (d1 4 R (fO (K:=kT3) (m:=(b.length:Int)) (z:=(0:Int)) R R bM cJ kk (Zr.zk zT3 gV) (by decide) R R l.1 l.2.1 l.2.2 (fun i j=>(aC (aI (sL [2,1,0]) (dR 9 R (vz (.agg [(sc u g B),(sc i (List.replicate (b.length:Int).toNat (0:Int)) j),(iv v1.Offset),(iv v1.Base)].toArray) (aX eE cB R R)) (hS:=(sL [2,1,0])) (d1 11 R (aL 1 R R bS R R R R R R (lN (_::_::_::_::L) ?_))))))))))))
 refine aC (aI (sL [2,1,0]) (dD ?_))
 exact cU ((),(D,(u,g.length,B),(i,(List.replicate (b.length:Int).toNat (0:Int)).length,j))) trivial (aS R) (tE 4 [3,1,2,0])
 refine fO (K:=kT3) (m:=(b.length:Int)) (z:=(0:Int)) R R bM cJ kk (Zr.zk zT3 gV) (by decide) R R l.1 l.2.1 l.2.2 (fun i j=>(aC (aI (sL [0]) (iu [1,10] (by kernel_rfl) R ⟨?_,?_,trivial⟩))))
 refine lM (RR kT3 A5 D5 b::_::_::L) (fun w s=>(s.d 5 R)) ?_
 refine lC 1 jT R (Zw_ok O) R ?_
 rintro ⟨u,a1,B⟩
 refine aM 0 aB ?_
 rintro rfl
 refine aC (aI (sL [1,0]) (dR 9 R (vz (.agg [(sc u g B),(sc i (List.replicate (b.length:Int).toNat (0:Int)) j),(iv v1.Offset),(iv v1.Base)].toArray) (aX eE cB R R)) (hS:=(sL [1,0])) (d1 10 R (bE R R cB (fun D=>(aC (aI (sL [2,1,0]) (d1 11 R (aL 0 R R bS R R R R R R (lN (aJ D [(sc u g B),(sc i (List.replicate (b.length:Int).toNat (0:Int)) j),(iv v1.Offset),(iv v1.Base)] 111::_::_::_::L) ?_))))))))))
 refine aC (aI (sL [2,1,0]) (dD ?_))
 exact cU ((),(D,(u,g.length,B),(i,(List.replicate (b.length:Int).toNat (0:Int)).length,j))) trivial (aS R) (tE 4 [3,0,1,2])
 refine bE R R cB (fun D=>(aC (aI (sL [1,0]) (d1 1 R (lM (RR kT3 A5 D5 b::_::_::_::L) (fun w s=>(s.d 6 R)) ?_)))))
 refine lC 1 jT R (Zw_ok O) R ?_
 rintro ⟨u,a1,B⟩
 refine aM 0 aB ?_
 rintro rfl
 refine aC (aI (sL [2,1,0]) (dR 9 R (vz (.agg [(sc u g B),(sc i (List.replicate (b.length:Int).toNat (0:Int)) j),(iv v1.Offset),(iv v1.Base)].toArray) (aX eE cB R R)) (hS:=(sL [2,1,0])) (d1 11 R (aL 1 R R bS R R R R R R (lN (_::aJ D [(sc u g B),(sc i (List.replicate (b.length:Int).toNat (0:Int)) j),(iv v1.Offset),(iv v1.Base)] 111::_::_::L) ?_)))))
 refine aC (aI (sL [2,1,0]) (dD ?_))
 exact cU ((),(D,(u,g.length,B),(i,(List.replicate (b.length:Int).toNat (0:Int)).length,j))) trivial (aS R) (tE 4 [3,1,0,2])
 refine bE R R cB (fun D=>(aC (aI (sL [0]) (iu [1,4] (by kernel_rfl) R ⟨?_,?_,trivial⟩))))
 refine lM (RR kT3 A5 D5 b::_::_::L) (fun w s=>(s.d 5 R)) ?_
 refine lC 1 jT R (Zw_ok O) R ?_
 rintro ⟨u,a1,B⟩
 refine aM 0 aB ?_
 rintro rfl
 refine aC (aI (sL [1,0]) (d1 4 R (fO (K:=kT3) (m:=(b.length:Int)) (z:=(0:Int)) R R bM cJ kk (Zr.zk zT3 gV) (by decide) R R l.1 l.2.1 l.2.2 (fun i j=>(aC (aI (sL [2,1,0]) (dR 9 R (vz (.agg [(sc u g B),(sc i (List.replicate (b.length:Int).toNat (0:Int)) j),(iv v1.Offset),(iv v1.Base)].toArray) (aX eE cB R R)) (hS:=(sL [2,1,0])) (d1 11 R (aL 2 R R bS R R R R R R (lN (OO kT3 3 i j (List.replicate (b.length:Int).toNat (0:Int))::_::aJ D [(sc u g B),(sc i (List.replicate (b.length:Int).toNat (0:Int)) j),(iv v1.Offset),(iv v1.Base)] 111::_::L) ?_))))))))))
 refine aC (aI (sL [2,1,0]) (dD ?_))
 exact cU ((),(D,(u,g.length,B),(i,(List.replicate (b.length:Int).toNat (0:Int)).length,j))) trivial (aS R) (tE 4 [3,2,1,0])
 refine fO (K:=kT3) (m:=(b.length:Int)) (z:=(0:Int)) R R bM cJ kk (Zr.zk zT3 gV) (by decide) R R l.1 l.2.1 l.2.2 (fun i j=>(aC (aI (sL [1,0]) (d1 1 R (lM (RR kT3 A5 D5 b::_::aJ D [(.slice none 0 0),(.slice none 0 0),(iv 0),(iv 0)] 111::_::L) (fun w s=>(s.d 6 R)) ?_)))))
 refine lC 1 jT R (Zw_ok O) R ?_
 rintro ⟨u,a1,B⟩
 refine aM 0 aB ?_
 rintro rfl
 refine aC (aI (sL [2,1,0]) (dR 9 R (vz (.agg [(sc u g B),(sc i (List.replicate (b.length:Int).toNat (0:Int)) j),(iv v1.Offset),(iv v1.Base)].toArray) (aX eE cB R R)) (hS:=(sL [2,1,0])) (d1 11 R (aL 2 R R bS R R R R R R (lN (_::_::aJ D [(sc u g B),(sc i (List.replicate (b.length:Int).toNat (0:Int)) j),(iv v1.Offset),(iv v1.Base)] 111::_::L) ?_)))))
 refine aC (aI (sL [2,1,0]) (dD ?_))
 exact cU ((),(D,(u,g.length,B),(i,(List.replicate (b.length:Int).toNat (0:Int)).length,j))) trivial (aS R) (tE 4 [3,2,0,1])
 rintro ⟨_,⟨M,⟨F,aj,J⟩,⟨G,ak,E⟩⟩⟩ σ1 -
 refine iw 2 aB (fun (hn:aj=g.length)=>?_)
 subst hn
 refine iw 3 aB (fun (hn:ak=(List.replicate (b.length:Int).toNat (0:Int)).length)=>?_)
 subst hn
 refine aU ?_
 refine bB (A:=((List Int))×(Unit)) (fun a=>Z05_J3 v1 g a.1=some r) (fun a=>[(4,(pt T 0)),(6,(pt M 0))]) (fun a=>aJ T [(.slice none 0 0),(.slice none 0 0),(iv 0),(iv 0)] 111::aJ M [(sc F g J),(sc G (List.replicate (b.length:Int).toNat (0:Int)) E),(iv v1.Offset),(iv v1.Base)] 111::OO kT3 3 F J g::ow kT3 3 (.slice G (List.replicate (b.length:Int).toNat (0:Int)).length E) a.1::L) ?_ ?_
 refine bW ?_
 obtain ⟨e1,al,ac⟩:=bd q
 refine bD (A:=Unit) al (fun s a=>[(1,(sc A5 b D5)),(2,(pt b6 0)),(4,(pt T 0)),(5,(iv (aH ((b.length:Int) - (v1.Dims.length:Int))))),(6,(pt M 0)),(7,(iv s.2))]) (fun s a=>aJ T [(.slice none 0 0),(.slice none 0 0),(iv 0),(iv 0)] 111::aJ M [(sc F g J),(sc G (List.replicate (b.length:Int).toNat (0:Int)) E),(iv v1.Offset),(iv v1.Base)] 111::OO kT3 3 F J g::ow kT3 3 (.slice G (List.replicate (b.length:Int).toNat (0:Int)).length E) s.1::L) () (aS R) tI ?_
 rintro ⟨a2,a0⟩ _ σ1 ah q a8
 dsimp only [Z05_L1] at q
 refine dG ?_
 rcases cH q with ⟨a3,q⟩|⟨a3,q⟩
 refine bI ?_
 refine bB (A:=((List Int))×(Unit)) (fun a=>Z05_J2 a0 a.1=some ah) (fun a=>[(1,(sc A5 b D5)),(2,(pt b6 0)),(4,(pt T 0)),(5,(iv (aH ((b.length:Int) - (v1.Dims.length:Int))))),(6,(pt M 0)),(7,(iv a0))]) (fun a=>aJ T [(.slice none 0 0),(.slice none 0 0),(iv 0),(iv 0)] 111::aJ M [(sc F g J),(sc G (List.replicate (b.length:Int).toNat (0:Int)) E),(iv v1.Offset),(iv v1.Base)] 111::OO kT3 3 F J g::ow kT3 3 (.slice G (List.replicate (b.length:Int).toNat (0:Int)).length E) a.1::L) ?_ ?_
 refine aQ ?_
 obtain ⟨a9,q⟩:=gd q
 obtain ⟨aa,q⟩:=gd q
 refine bA 5 aA (show 0<v1.Dims.length by have:=a9; omega) (fun ao o47 ha=>?_)
 subst ha
 refine bA 7 aA (show 0<b.length by have:=aa; omega) (fun ap o50 ha=>?_)
 subst ha
 refine dF 13 [] bO fun ht hn=>?_
 refine mA 0 [] ?_
 refine dD (aG ?_)
 rcases cH q with ⟨a4,q⟩|⟨a4,q⟩
 refine bX ?_
 obtain ⟨ab,q⟩:=gd q
 obtain ⟨Y,q⟩:=gd q
 refine bA 6 aA (show 0<v1.Strides.length by have:=ab; omega) (fun aq o54 ha=>?_)
 subst ha
 refine bA 3 aB (show 0<(List.replicate (b.length:Int).toNat (0:Int)).length by have:=Y; omega) (fun a6 o57 ha=>?_)
 subst ha
 refine dF 12 [3] bO fun ht hn=>?_
 refine oA 0 [3] ?_
 refine d1 11 R (lM (ow kT3 3 (.slice (ad a6 o57) (List.replicate (b.length:Int).toNat (0:Int)).length E) a2::aJ _ _ _::aJ M [(sc F g J),(sc (ad a6 o57) (List.replicate (b.length:Int).toNat (0:Int)) E),(iv v1.Offset),(iv v1.Base)] 111::OO kT3 3 F J g::L) (tE 4 [3,0,1,2]) ?_)
 refine eL (K:=kT3) (x':=(ix v1.Strides a0)) 0 (aH ((aH ((b.length:Int) - (v1.Dims.length:Int)))+a0)) R R cJ R R Y.1 Y.2 ?_ ?_
 exact fun I h s=>(gR).put I h () (ix v1.Strides a0) s
 refine aC (aI (sL [0]) (dD ?_))
 obtain ⟨ag,Z,q⟩:=bd q
 replace Z:=Option.some.inj Z
 refine qM (ow kT3 3 (.slice (ad a6 o57) (List.replicate (b.length:Int).toNat (0:Int)).length E) ag::_::_::_::L) (fun w s=>by rw [← Z]; exact s) ?_
 refine aU ?_
 exact qI (ag,()) q (tE 4 [1,2,3,0])
 refine bG R a4 ?_
 refine iD ?_
 rcases cH q with ⟨a5,q⟩|⟨a5,q⟩
 refine aQ ?_
 refine lO (vz (.agg [(.slice none 0 0),(.slice none 0 0),(iv 0),(iv 0)].toArray) (aX eE cB R R)) (aL 0 R R bS R R R R R R (lN (_::aJ M [(sc F g J),(sc G (List.replicate (b.length:Int).toNat (0:Int)) E),(iv v1.Offset),(iv v1.Base)] 111::_::ow kT3 3 (.slice G (List.replicate (b.length:Int).toNat (0:Int)).length E) a2::L) ?_))
 refine bW ?_
 cases q
 obtain rfl:=a8 _ R
 have q:=ac
 refine aQ ?_
 cases q
 exact qS ((none,0,0),(none,0,0)) (fun w s=>(((s.nilo kT3 3).nilo kT3 3).e 10 [1,0]))
 refine bG R a5 ?_
 refine aQ ?_
 exact qI (a2,()) q tI
 rintro ⟨ar,_⟩ σ1 q
 dsimp only [Z05_J2] at q
 refine cI ?_
 cases q
 exact qA () tI
 refine bG R a3 ?_
 refine aU ?_
 cases q
 obtain rfl:=a8 _ R
 have q:=ac
 refine aU ?_
 exact qI (a2,()) q tI
 rintro ⟨an,_⟩ σ1 q
 dsimp only [Z05_J3] at q
 refine aQ ?_
 refine aL 0 R R bS R R R R R R (lN (aJ T [(sc F g J),(sc G (List.replicate (b.length:Int).toNat (0:Int)) E),(iv v1.Offset),(iv v1.Base)] 111::_::_::ow kT3 3 (.slice G (List.replicate (b.length:Int).toNat (0:Int)).length E) an::L) ?_)
 refine aQ ?_
 cases q
 exact qS ((F,g.length,J),(G,(List.replicate (b.length:Int).toNat (0:Int)).length,E)) (tE 8 [2,3])
theorem Z02_ok  {t1:Tensor}{v4:View}{r:Tensor}(i:Z02 t1 v4=some r) :
 FnOk Tryz.prog 92 [(.agg [(.slice A2 N2 D2),(.slice A3 N3 D3)].toArray),(.agg [(.slice A5 N5 D5),(.slice A6 N6 D6),(iv v4.Offset),(iv v4.Base)].toArray)] [aN kT3 (.slice A2 N2 D2) t1.Dims,aN kT3 (.slice A3 N3 D3) t1.Data,aN kT3 (.slice A5 N5 D5) v4.Dims,aN kT3 (.slice A6 N6 D6) v4.Strides] (fun (h:HH×HH)=>((.agg [(s3 h.1),(s3 h.2)].toArray),[ow kT3 3 (s3 h.1) r.Dims,ow kT3 3 (s3 h.2) r.Data])):=by
 unfold Z02 at i
 refine aP Tryz.func92 R 51 R R fun C V=>?_
 refine cL 0 aA ?_
 rintro rfl
 refine cL 1 aA ?_
 rintro rfl
 refine cL 2 aA ?_
 rintro rfl
 refine cL 3 aA ?_
 rintro rfl
 let W0:=RR kT3 A2 D2 t1.Dims::RR kT3 A3 D3 t1.Data::RR kT3 A5 D5 v4.Dims::RR kT3 A6 D6 v4.Strides::V
 refine cN W0 ?_
 refine aU ?_
 refine eJ R fun b7=>?_
 refine eJ R fun b8=>?_
 refine bE R R dX (fun T=>(aC ?_))
 let G:=aJ b8 [(sc A5 v4.Dims D5),(sc A6 v4.Strides D6),(iv v4.Offset),(iv v4.Base)] 111::aJ b7 [(sc A2 t1.Dims D2),(sc A3 t1.Data D3)] 42::W0
 refine aQ ?_
 obtain ⟨Z,a3,i⟩:=bd i
 obtain ⟨a7,a4,i⟩:=bd i
 refine cQ [(2,(pt b7 0)),(3,(pt b8 0)),(4,(pt T 0)),(23,(.bool (((!Z)||(!a7))||(v4.Base != (t1.Data.length:Int)))))] (aJ T [(.slice none 0 0),(.slice none 0 0)] 42::G) ?_ ?_
 refine aU ?_
 refine lM _ (fun w s=>(((s.d 3 R).d 5 R).e 3 [1,0,2])) ?_
 refine lC 2 nJ R (Zu_ok a3) R ?_
 rintro _
 refine aU ?_
 rcases bo (!Z) with E | E
 refine kh ?_
 exact qj tI
 refine bX ?_
 refine lM _ (fun w s=>(((s.d 5 R).d 7 R).e 3 [1,0,2])) ?_
 refine bU 2 R (cC E) lH R (Za_ok (bJ a4 (cX E))) R ?_
 rintro _
 refine aQ ?_
 rcases bo ((!Z)||(!a7)) with a0 | a0
 refine dI ?_
 exact qj tI
 refine dI ?_
 exact qj tI
 rintro σ1
 refine bX ?_
 split at i
 refine aQ ?_
 refine lO (vz (.agg [(.slice none 0 0),(.slice none 0 0)].toArray) (aX gU dX R R)) (aL 0 R R bT R R R R R R (aC (aG (bY (cG ?_)))))
 cases i
 exact qS ((none,0,0),(none,0,0)) (fun w s=>(((s.nilo kT3 3).nilo kT3 3).e 9 [1,0]))
 refine bI ?_
 obtain ⟨j,a5,i⟩:=bd i
 refine aQ ?_
 refine lM _ (fun w s=>(s.d 5 R)) ?_
 refine lC 1 jT R (Zw_ok a5) R ?_
 rintro ⟨l,an,m⟩
 refine aM 0 aB ?_
 rintro rfl
 refine lO (vz (.agg [(sc l j m),(.slice none 0 0)].toArray) (aX gU dX R R)) (bE R R dX (fun u=>(aL 0 R R bT R R R R R R (lN (aJ u [(sc l j m),(.slice none 0 0)] 42::_::_::G) ?_))))
 refine aQ ?_
 obtain ⟨b,a6,i⟩:=bd i
 refine aU ?_
 refine lM _ (fun w s=>(((s.d 7 R).d 9 R).e 5 [1,0,2,3,4])) ?_
 refine lC 2 qp R (Z0d_ok a6) R ?_
 rintro ⟨J,ao,M⟩
 refine aM 0 aB ?_
 rintro rfl
 refine bI ?_
 refine bB (A:=((List Int))×(HH)) (fun a=>Z02_J1 j a.1=some r) (fun a=>[(4,(pt T 0)),(5,(pt u 0))]) (fun a=>aJ T [(.slice none 0 0),(.slice none 0 0)] 42::aJ u [(sc l j m),(s3 a.2)] 42::OO kT3 3 l m j::ow kT3 3 (s3 a.2) a.1::G) ?_ ?_
 refine bW ?_
 obtain ⟨e1,al,ak⟩:=bd i
 refine bD (A:=HH) al (fun s a=>[(2,(pt b7 0)),(4,(pt T 0)),(5,(pt u 0)),(6,(sc J b M)),(7,(iv s.2))]) (fun s a=>aJ T [(.slice none 0 0),(.slice none 0 0)] 42::aJ u [(sc l j m),(s3 a)] 42::OO kT3 3 l m j::ow kT3 3 (s3 a) s.1::OO kT3 3 J M b::G) (none,0,0) (aS R) (fun w s=>((s.nilo kT3 3).e 5 [4,2,3,0,1])) ?_
 rintro ⟨q,g⟩ ⟨a8,ag,ab⟩ σ1 am i aj
 dsimp only [Z02_L1] at i
 refine bK 3 aB (fun (hn:ag=q.length)=>?_)
 subst hn
 refine dA ?_
 rcases cH i with ⟨U,i⟩|⟨U,i⟩
 refine cI ?_
 obtain ⟨a1,i⟩:=gd i
 obtain ⟨a2,i⟩:=gd i
 obtain ⟨Y,i⟩:=gd i
 refine iZ (A:=(Unit)×(HH)) (fun _=>True) (fun a=>[(2,(pt b7 0)),(4,(pt T 0)),(5,(pt u 0)),(6,(sc J b M)),(7,(iv g))]) (fun a=>aJ T [(.slice none 0 0),(.slice none 0 0)] 42::aJ u [(sc l j m),(s3 a.2)] 42::OO kT3 3 l m j::ow kT3 3 (s3 a.2) (q++([(ix t1.Data (ix b g))]:List Int))::OO kT3 3 J M b::G) ?_ ?_
 refine bA 4 aB (show 0<b.length by have:=a1; omega) (fun ap o41 ha=>?_)
 subst ha
 refine bA 8 aA (show 0<t1.Data.length by have:=a2; omega) (fun aq o44 ha=>?_)
 subst ha
 refine dF 14 [3,1] bO fun ht hn=>?_
 refine n6 0 [3,1] ?_
 refine uA 2 [3,1] ?_
 refine iu [1,10] (by kernel_rfl) R ⟨?_,?_,trivial⟩
 refine lO (gF 1 cY R R R) (aC (aI (sL [3,1]) (d1 10 R (bP (K:=kT3) (xs:=([(ix t1.Data (ix b g))]:List Int)) (vs:=[(iv (ix t1.Data (ix b g)))]) 0 R R bM cJ gV R R R R R R ?_ R (fun a9 ac=>?_)))))
 exact fun I h s=>(gR).list [((),(ix t1.Data (ix b g)))] I h s
 refine aC (aI (sL [4,2,0]) (d1 11 R (lM _ (tE 6 [4,0,1,2,3,5]) ?_)))
 refine eP (K:=kT3) 17592186044416 R R bM cJ kk (Zr.zk zT3 gV) R R R R R R dZ Y (fun B D=>(lN (OO kT3 3 B D (q++([(ix t1.Data (ix b g))]:List Int))::_::_::_::_::G) ?_))
 refine aC (aI (sL [2,0]) ?_)
 refine n6 12 [2,0] ?_
 refine d1 13 R (cZ 2 R R fJ R R R R R (lN (_::_::aJ u [(sc l j m),(sc B (q++([(ix t1.Data (ix b g))]:List Int)) D)] 42::_::_::G) ?_))
 refine aC (aI (sL [2,0]) (dD ?_))
 exact cU ((),(B,(q++([(ix t1.Data (ix b g))]:List Int)).length,D)) trivial (aS R) (tE 5 [1,2,3,0,4])
 refine bP (K:=kT3) (xs:=([(ix t1.Data (ix b g))]:List Int)) (vs:=[(iv (ix t1.Data (ix b g)))]) 0 R R bM cJ gV R R R R R R ?_ R (fun a9 ac=>?_)
 exact fun I h s=>(gR).list [((),(ix t1.Data (ix b g)))] I h s
 refine aC (aI (sL [4,2,0]) (d1 1 R (lO (gF 2 cY R R R) (aC (aI (sL [4,2,0]) (d1 11 R (lM _ (tE 6 [4,0,1,2,3,5]) ?_)))))))
 refine eP (K:=kT3) 17592186044416 R R bM cJ kk (Zr.zk zT3 gV) R R R R R R dZ Y (fun B D=>(lN (OO kT3 3 B D (q++([(ix t1.Data (ix b g))]:List Int))::_::_::_::_::G) ?_))
 refine aC (aI (sL [2,0]) ?_)
 refine n6 12 [2,0] ?_
 refine d1 13 R (cZ 2 R R fJ R R R R R (lN (_::_::aJ u [(sc l j m),(sc B (q++([(ix t1.Data (ix b g))]:List Int)) D)] 42::_::_::G) ?_))
 refine aC (aI (sL [2,0]) (dD ?_))
 exact cU ((),(B,(q++([(ix t1.Data (ix b g))]:List Int)).length,D)) trivial (aS R) (tE 5 [1,2,3,0,4])
 rintro ⟨_,⟨aa,ah,ae⟩⟩ σ1 -
 refine iw 3 aB (fun (hn:ah=(q++([(ix t1.Data (ix b g))]:List Int)).length)=>?_)
 subst hn
 refine dU ?_
 cases i
 exact qA (aa,(q++([(ix t1.Data (ix b g))]:List Int)).length,ae) tI
 refine bG R U ?_
 refine aU ?_
 cases i
 obtain rfl:=aj _ R
 have i:=ak
 refine aU ?_
 exact qI (q,(a8,q.length,ab)) i (fun w s=>(s.f 5 [0,4]))
 rintro ⟨F,⟨L,ai,O⟩⟩ σ1 i
 dsimp only [Z02_J1] at i
 refine bK 3 aB (fun (hn:ai=F.length)=>?_)
 subst hn
 refine aQ ?_
 refine aL 0 R R bT R R R R R R (lN (aJ T [(sc l j m),(sc L F O)] 42::aJ u [(sc l j m),(sc L F O)] 42::_::OO kT3 3 L O F::G) ?_)
 refine aQ ?_
 cases i
 exact qS ((l,j.length,m),(L,F.length,O)) (tE 10 [2,3])
theorem Z0c_ok  {v1:View}{j:(List Int)}{r:View}(g:Z0c v1 j=some r) :
 FnOk Tryz.prog 95 [(.agg [(.slice A2 N2 D2),(.slice A3 N3 D3),(iv v1.Offset),(iv v1.Base)].toArray),(.slice A5 N5 D5)] [aN kT3 (.slice A2 N2 D2) v1.Dims,aN kT3 (.slice A3 N3 D3) v1.Strides,aN kT3 (.slice A5 N5 D5) j] (fun (h:HH×HH)=>((.agg [(s3 h.1),(s3 h.2),(iv r.Offset),(iv r.Base)].toArray),[ow kT3 3 (s3 h.1) r.Dims,ow kT3 3 (s3 h.2) r.Strides])):=by
 unfold Z0c at g
 refine aP Tryz.func95 R 77 R R fun C V=>?_
 refine cL 0 aA ?_
 rintro rfl
 refine cL 1 aA ?_
 rintro rfl
 refine cL 2 aA ?_
 rintro rfl
 let W0:=RR kT3 A2 D2 v1.Dims::RR kT3 A3 D3 v1.Strides::RR kT3 A5 D5 j::V
 refine cN W0 ?_
 refine aU ?_
 refine eJ R fun b6=>?_
 refine bE R R cB (fun Y=>(aC ?_))
 let W1:=aJ b6 [(sc A2 v1.Dims D2),(sc A3 v1.Strides D3),(iv v1.Offset),(iv v1.Base)] 111::W0
 refine aQ ?_
 obtain ⟨r8,ab,g⟩:=bd g
 obtain ⟨av,a5,g⟩:=bd g
 obtain ⟨b5,al,g⟩:=bd g
 obtain ⟨b8,am,g⟩:=bd g
 refine cQ [(1,(sc A5 j D5)),(2,(pt b6 0)),(4,(pt Y 0)),(24,(.bool (((!r8)||(!av))||(b5 != b8))))] (aJ Y [(.slice none 0 0),(.slice none 0 0),(iv 0),(iv 0)] 111::W1) ?_ ?_
 rcases bo (!r8) with M | M
 refine dF 16 [] bO fun ht hn=>?_
 refine n6 0 [] ?_
 refine d1 1 R (lM _ (fun w s=>(((s.d 2 R).d 4 R).e 3 [1,0,2])) ?_)
 refine lC 2 lH R (Za_ok ab) R ?_
 rintro _
 refine aC (aI (sL []) ?_)
 refine uC 2 [] ?_
 refine dD ?_
 exact qj tI
 rcases bo ((!r8)||(!av)) with O | O
 refine dF 16 [] bO fun ht hn=>?_
 refine n6 0 [] ?_
 refine d1 1 R (lM _ (fun w s=>(((s.d 2 R).d 4 R).e 3 [1,0,2])) ?_)
 refine lC 2 lH R (Za_ok ab) R ?_
 rintro _
 refine aC (aI (sL []) ?_)
 refine iz 2 [] ?_
 refine d1 5 R (lM _ (fun w s=>(s.d 4 R)) ?_)
 refine bU 1 R (cC M) kj R (Zp_ok (bJ a5 (cX M))) R ?_
 rintro _
 refine aC (aI (sL []) ?_)
 refine oz 6 [] ?_
 refine dD ?_
 exact qj tI
 refine dF 16 [] bO fun ht hn=>?_
 refine n6 0 [] ?_
 refine d1 1 R (lM _ (fun w s=>(((s.d 2 R).d 4 R).e 3 [1,0,2])) ?_)
 refine lC 2 lH R (Za_ok ab) R ?_
 rintro _
 refine aC (aI (sL []) ?_)
 refine iz 2 [] ?_
 refine d1 5 R (lM _ (fun w s=>(s.d 4 R)) ?_)
 refine bU 1 R (cC M) kj R (Zp_ok (bJ a5 (cX M))) R ?_
 rintro _
 refine aC (aI (sL []) ?_)
 refine oy 6 [] ?_
 refine gZ 11 [] ?_
 refine d1 10 R (lM _ (fun w s=>(s.d 4 R)) ?_)
 refine bU 1 R (cC O) n9 R (Zq_ok (bJ al (cX O))) R ?_
 rintro _
 refine aC (aI (sL []) (d1 13 R (lM _ (fun w s=>(s.d 2 R)) ?_)))
 refine bU 1 R (cC O) n9 R (Zq_ok (bJ am (cX O))) R ?_
 rintro _
 refine aC (aI (sL []) ?_)
 refine gZ 14 [] ?_
 refine dD ?_
 exact qj tI
 rintro σ1
 refine bX ?_
 split at g
 refine aQ ?_
 refine lO (vz (.agg [(.slice none 0 0),(.slice none 0 0),(iv 0),(iv 0)].toArray) (aX eE cB R R)) (aL 0 R R bS R R R R R R (aC (aG (bY (cG ?_)))))
 cases g
 exact qS ((none,0,0),(none,0,0)) (fun w s=>(((s.nilo kT3 3).nilo kT3 3).e 7 [1,0]))
 refine bI ?_
 obtain ⟨b,an,g⟩:=bd g
 refine aU ?_
 refine lM _ (fun w s=>(((s.d 2 R).d 4 R).e 3 [1,0,2])) ?_
 refine lC 2 qp R (Z0d_ok an) R ?_
 rintro ⟨u,bg,D⟩
 refine aM 0 aB ?_
 rintro rfl
 refine bI ?_
 obtain ⟨i,a6,g⟩:=bd g
 obtain ⟨ah,g⟩:=gd g
 refine iZ (A:=(Unit)×(Nat×HH)) (fun _=>True) (fun a=>[(1,(sc A5 j D5)),(4,(pt Y 0)),(5,(sc u b D)),(6,(pt a.2.1 0))]) (fun a=>aJ Y [(.slice none 0 0),(.slice none 0 0),(iv 0),(iv 0)] 111::OO kT3 3 u D b::aJ a.2.1 [(s3 a.2.2),(.slice none 0 0),(iv (ix b 0)),(iv v1.Base)] 111::ow kT3 3 (s3 a.2.2) i::W1) ?_ ?_
 refine bA 0 aB (show 0<b.length by have:=ah; omega) (fun bi o27 ha=>?_)
 subst ha
 refine dF 10 [] bO fun ht hn=>?_
 refine dR 0 R (vS R) ?_
 refine ko 2 [] ?_
 refine iu [1,8] (by kernel_rfl) R ⟨?_,?_,trivial⟩
 refine lM _ (fun w s=>(s.d 5 R)) ?_
 refine lC 1 jT R (Zw_ok a6) R ?_
 rintro ⟨T,ay,U⟩
 refine aM 0 aB ?_
 rintro rfl
 refine aC (aI (sL [0]) (dR 7 R (vz (.agg [(sc T i U),(.slice none 0 0),(iv (ix b 0)),(iv v1.Base)].toArray) (aX eE cB R R)) (hS:=(sL [0])) (d1 8 R (bE R R cB (fun a0=>(aC (aI (sL [1,0]) (d1 9 R (aL 0 R R bS R R R R R R (lN (aJ a0 [(sc T i U),(.slice none 0 0),(iv (ix b 0)),(iv v1.Base)] 111::_::_::_::W1) ?_))))))))))
 refine aC (aI (sL [1,0]) (dD ?_))
 exact cU ((),(a0,(T,i.length,U))) trivial (aS R) (tE 4 [3,2,0,1])
 refine bE R R cB (fun a0=>(aC (aI (sL [0]) (d1 1 R (lM _ (fun w s=>(s.d 6 R)) ?_)))))
 refine lC 1 jT R (Zw_ok a6) R ?_
 rintro ⟨T,ay,U⟩
 refine aM 0 aB ?_
 rintro rfl
 refine aC (aI (sL [1,0]) (dR 7 R (vz (.agg [(sc T i U),(.slice none 0 0),(iv (ix b 0)),(iv v1.Base)].toArray) (aX eE cB R R)) (hS:=(sL [1,0])) (d1 9 R (aL 1 R R bS R R R R R R (lN (_::aJ a0 [(sc T i U),(.slice none 0 0),(iv (ix b 0)),(iv v1.Base)] 111::_::_::W1) ?_)))))
 refine aC (aI (sL [1,0]) (dD ?_))
 exact cU ((),(a0,(T,i.length,U))) trivial (aS R) (tE 4 [3,2,1,0])
 rintro ⟨_,⟨J,⟨l,az,m⟩⟩⟩ σ1 -
 refine iw 3 aB (fun (hn:az=i.length)=>?_)
 subst hn
 refine aU ?_
 refine bB (A:=((List Int))×(HH)) (fun a=>Z0c_J3 v1 b i a.1=some r) (fun a=>[(4,(pt Y 0)),(5,(sc u b D)),(6,(pt J 0))]) (fun a=>aJ Y [(.slice none 0 0),(.slice none 0 0),(iv 0),(iv 0)] 111::OO kT3 3 u D b::aJ J [(sc l i m),(s3 a.2),(iv (ix b 0)),(iv v1.Base)] 111::OO kT3 3 l m i::ow kT3 3 (s3 a.2) a.1::W1) ?_ ?_
 refine bW ?_
 obtain ⟨e1,b4,b3⟩:=bd g
 refine bD (A:=HH) b4 (fun s a=>[(1,(sc A5 j D5)),(4,(pt Y 0)),(5,(sc u b D)),(6,(pt J 0)),(7,(iv s.2))]) (fun s a=>aJ Y [(.slice none 0 0),(.slice none 0 0),(iv 0),(iv 0)] 111::OO kT3 3 u D b::aJ J [(sc l i m),(s3 a),(iv (ix b 0)),(iv v1.Base)] 111::OO kT3 3 l m i::ow kT3 3 (s3 a) s.1::W1) (none,0,0) (aS R) (fun w s=>((s.nilo kT3 3).f 5 [1,4,0,1])) ?_
 rintro ⟨L,ac⟩ ⟨a7,b0,a9⟩ σ1 au g b2
 dsimp only [Z0c_L1] at g
 refine bK 4 aB (fun (hn:b0=L.length)=>?_)
 subst hn
 refine dA ?_
 rcases cH g with ⟨a2,g⟩|⟨a2,g⟩
 refine iD ?_
 refine bB (A:=(Int)×(Unit)) (fun a=>Z0c_J2 L ac a.1=some au) (fun a=>[(1,(sc A5 j D5)),(4,(pt Y 0)),(5,(sc u b D)),(6,(pt J 0)),(7,(iv ac)),(8,(iv a.1))]) (fun a=>aJ Y [(.slice none 0 0),(.slice none 0 0),(iv 0),(iv 0)] 111::OO kT3 3 u D b::aJ J [(sc l i m),(sc a7 L a9),(iv (ix b 0)),(iv v1.Base)] 111::OO kT3 3 l m i::OO kT3 3 a7 a9 L::W1) ?_ ?_
 refine bX ?_
 obtain ⟨ai,g⟩:=gd g
 refine aQ ?_
 refine bC 8 aA (show 0<j.length by have:=ai; omega) (fun bj o53 ha=>?_)
 subst ha
 refine cI ?_
 rcases cH g with ⟨a3,g⟩|⟨a3,g⟩
 refine bX ?_
 obtain ⟨a1,g⟩:=gd g
 obtain ⟨b9,ao,g⟩:=bd g
 obtain ⟨aj,g⟩:=gd g
 refine bA 1 aB (show 0<b.length by have:=aj; omega) (fun bk o61 ha=>?_)
 subst ha
 refine dF 13 [] bO fun ht hn=>?_
 refine oy 0 [] ?_
 refine iz 8 [] ?_
 refine d1 4 R (gJ (K:=kT3) (aH (ac+1)) (j.length:Int) 8 R R bM cJ R R R R a1.1 a1.2.1 a1.2.2 (fun bb be=>(aC (aI (sL [0]) (d1 5 R (lM _ (fun w s=>(s.d 0 R)) ?_))))))
 refine lC 1 n9 R (Zq_ok ao) R ?_
 rintro _
 refine aC (aI (sL [0]) ?_)
 refine gZ 6 [0] ?_
 refine gZ 11 [0] ?_
 refine dD ?_
 exact qI ((aH ((ix b b9) - (ix b 0))),()) g (fun w s=>(s.f 6 [1,5]))
 refine bG R a3 (cF ?_)
 exact qI ((0:Int),()) g tI
 rintro ⟨Z,_⟩ σ1 g
 dsimp only [Z0c_J2] at g
 obtain ⟨ak,g⟩:=gd g
 refine bI ?_
 refine bP (K:=kT3) (xs:=([Z]:List Int)) (vs:=[(iv Z)]) 0 R R bM cJ gV R R R R R R ?_ R (fun bc bf=>?_)
 exact fun I h s=>(gR).list [((),Z)] I h s
 refine lM _ (fun w s=>(s.f 6 [5,1,0,5])) ?_
 refine eP (K:=kT3) 17592186044416 R R bM cJ kk (Zr.zk zT3 gV) R R R R R R dZ ak (fun a8 aa=>(lN (OO kT3 3 a8 aa (L++([Z]:List Int))::_::_::_::_::W1) ?_))
 refine bX ?_
 refine cZ 3 R R fJ R R R R R (lN (_::_::_::aJ J [(sc l i m),(sc a8 (L++([Z]:List Int)) aa),(iv (ix b 0)),(iv v1.Base)] 111::_::W1) ?_)
 refine dI ?_
 cases g
 exact qA (a8,(L++([Z]:List Int)).length,aa) (fun w s=>(s.f 5 [1,4,0,1]))
 refine bG R a2 ?_
 refine aU ?_
 cases g
 obtain rfl:=b2 _ R
 have g:=b3
 refine aU ?_
 exact qI (L,(a7,L.length,a9)) g tI
 rintro ⟨q,⟨F,b1,G⟩⟩ σ1 g
 dsimp only [Z0c_J3] at g
 refine bK 4 aB (fun (hn:b1=q.length)=>?_)
 subst hn
 refine aU ?_
 obtain ⟨aw,ap,g⟩:=bd g
 obtain ⟨ax,aq,g⟩:=bd g
 obtain ⟨ba,ar,g⟩:=bd g
 refine cQ [(4,(pt Y 0)),(6,(pt J 0)),(74,(.bool ((!aw)||(!ba))))] (aJ Y [(.slice none 0 0),(.slice none 0 0),(iv 0),(iv 0)] 111::aJ J [(sc l i m),(sc F q G),(iv (ix b 0)),(iv v1.Base)] 111::OO kT3 3 l m i::OO kT3 3 F G q::W1) ?_ ?_
 refine aU ?_
 refine lM _ (fun w s=>(s.f 5 [3,2,0,3])) ?_
 refine lC 2 lH R (FnOk.lends (A':=[OO kT3 3 l m i,OO kT3 3 F G q]) (A:=[RR kT3 l m i,RR kT3 F G q]) (B:=[]) (Za_ok (v1:=(⟨i,q,(ix b 0),v1.Base⟩:View)) ap) ⟨aZ,aZ,trivial⟩ (fun _=>trivial)) R ?_
 rintro _
 refine aU ?_
 rcases bo (!aw) with E | E
 refine dU ?_
 exact qj (tE 5 [2,4,0,1])
 refine lW (cC E) (vz (.agg [(sc l i m),(sc F q G),(iv (ix b 0)),(iv v1.Base)].toArray) (cO 4 eS bS R R R R)) (bU 2 R (cC E) qp R (FnOk.lends (A':=[OO kT3 3 l m i,OO kT3 3 F G q]) (A:=[RR kT3 l m i,RR kT3 F G q]) (B:=[]) (Z0d_ok (v1:=(⟨i,q,(ix b 0),v1.Base⟩:View)) (bJ aq (cX E))) ⟨aZ,aZ,trivial⟩ (fun _=>⟨(bN ji),trivial⟩)) R ?_)
 rintro ⟨ae,bh,ag⟩
 refine aM 2 aB ?_
 rintro rfl
 refine bX ?_
 refine lM _ (tE 6 [2,4,0,1,3,5]) ?_
 refine bU 2 R (cC E) xf R (FnOk.lends (A':=[OO kT3 3 ae ag ax,OO kT3 3 u D b]) (A:=[RR kT3 ae ag ax,RR kT3 u D b]) (B:=[]) (Z01_ok (bJ ar (cX E))) ⟨aZ,aZ,trivial⟩ (fun _=>trivial)) R ?_
 rintro _
 refine aQ ?_
 exact qj (tE 6 [4,5,2,3])
 rintro σ1
 refine bX ?_
 rcases cH g with ⟨a4,g⟩|⟨a4,g⟩
 refine aQ ?_
 refine lO (vz (.agg [(.slice none 0 0),(.slice none 0 0),(iv 0),(iv 0)].toArray) (aX eE cB R R)) (aL 0 R R bS R R R R R R (lN (_::_::_::_::W1) ?_))
 refine bI ?_
 cases g
 exact qS ((none,0,0),(none,0,0)) (fun w s=>(((s.nilo kT3 3).nilo kT3 3).e 10 [1,0]))
 refine bG R a4 ?_
 refine cI ?_
 refine aL 0 R R bS R R R R R R (lN (aJ Y [(sc l i m),(sc F q G),(iv (ix b 0)),(iv v1.Base)] 111::_::_::_::W1) ?_)
 refine aQ ?_
 cases g
 exact qS ((l,i.length,m),(F,q.length,G)) (tE 8 [2,3])
theorem Z2d_ok  {v1:View}{a:Int}{r:Bool}(b:Z2d v1 a=some r) :
 FnOk Tryz.prog 136 [(.agg [(.slice A2 N2 D2),(.slice A3 N3 D3),(iv v1.Offset),(iv v1.Base)].toArray),(iv a)] [aN kT3 (.slice A2 N2 D2) v1.Dims,aN kT3 (.slice A3 N3 D3) v1.Strides] (fun (h:Unit)=>((.bool r),[])):=by
 unfold Z2d at b
 refine aP Tryz.func136 R 18 R R fun C V=>?_
 refine cL 0 aA ?_
 rintro rfl
 refine cL 1 aA ?_
 rintro rfl
 let q:=RR kT3 A2 D2 v1.Dims::RR kT3 A3 D3 v1.Strides::V
 refine cN q ?_
 refine aU ?_
 refine eJ R fun u=>?_
 refine aU ?_
 let g:=aJ u [(sc A2 v1.Dims D2),(sc A3 v1.Strides D3),(iv v1.Offset),(iv v1.Base)] 111::q
 refine qN g ?_
 refine aU ?_
 obtain ⟨m,l,b⟩:=bd b
 refine cQ [(4,(.bool ((m&&(decide (a≥0)))&&(decide (a<(v1.Dims.length:Int))))))] (g) ?_ ?_
 refine aU ?_
 refine lM _ (fun w s=>(((s.d 1 R).d 3 R).e 2 [1,0])) ?_
 refine lC 2 lH R (Za_ok l) R ?_
 rintro _
 refine lN g ?_
 refine bX ?_
 rcases bo m with i | i
 refine bI ?_
 rcases bo (m&&(decide (a≥0))) with j | j
 refine dI ?_
 exact qj tI
 refine dI ?_
 exact qj tI
 refine iM ?_
 exact qj tI
 rintro σ1
 refine aU ?_
 cases b
 exact qF () (tE 3 [])
theorem Z2f_ok  {v1:View}{r:View}(a:Z2f v1=some r) :
 FnOk Tryz.prog 137 [(.agg [(.slice A2 N2 D2),(.slice A3 N3 D3),(iv v1.Offset),(iv v1.Base)].toArray)] [aN kT3 (.slice A2 N2 D2) v1.Dims,aN kT3 (.slice A3 N3 D3) v1.Strides] (fun (h:HH×HH)=>((.agg [(s3 h.1),(s3 h.2),(iv r.Offset),(iv r.Base)].toArray),[ow kT3 3 (s3 h.1) r.Dims,ow kT3 3 (s3 h.2) r.Strides])):=by
 unfold Z2f at a
 refine aP Tryz.func137 R 14 R R fun C V=>?_
 refine cL 0 aA ?_
 rintro rfl
 refine cL 1 aA ?_
 rintro rfl
 let j:=RR kT3 A2 D2 v1.Dims::RR kT3 A3 D3 v1.Strides::V
 refine cN j ?_
 refine aU ?_
 refine eJ R fun m=>?_
 refine bE R R cB (fun q=>(aC ?_))
 let l:=aJ m [(sc A2 v1.Dims D2),(sc A3 v1.Strides D3),(iv v1.Offset),(iv v1.Base)] 111::j
 refine aU ?_
 obtain ⟨g,e,a⟩:=bd a
 obtain ⟨i,b,a⟩:=bd a
 refine dF 12 [0] bO fun B u=>?_
 refine gZ 0 [0] ?_
 refine gZ 3 [0] ?_
 refine oy 6 [0] ?_
 refine d1 2 R (lM _ (fun w s=>(s.d 2 R)) ?_)
 refine lC 1 jT R (Zw_ok e) R ?_
 rintro ⟨A8,N8,D8⟩
 refine aM 0 aB ?_
 rintro rfl
 refine aC (aI (sL [1,0]) (d1 5 R (lM _ (fun w s=>(s.d 4 R)) ?_)))
 refine lC 1 jT R (Zw_ok b) R ?_
 rintro ⟨A11,N11,D11⟩
 refine aM 0 aB ?_
 rintro rfl
 refine aC (aI (sL [2,1,0]) (dR 10 R (vz (.agg [(sc A8 g D8),(sc A11 i D11),(iv v1.Offset),(iv v1.Base)].toArray) (aX eE cB R R)) (hS:=(sL [2,1,0])) (d1 11 R (aL 2 R R bS R R R R R R (lN (_::_::aJ q [(sc A8 g D8),(sc A11 i D11),(iv v1.Offset),(iv v1.Base)] 111::l) ?_)))))
 refine aC (aI (sL [2,1,0]) (dD ?_))
 refine aU ?_
 cases a
 exact qS ((A8,g.length,D8),(A11,i.length,D11)) (tE 6 [1,0])
theorem Z2g_ok  {v1:View}{r:View}(a:Z2g v1=some r) :
 FnOk Tryz.prog 138 [(.agg [(.slice A2 N2 D2),(.slice A3 N3 D3),(iv v1.Offset),(iv v1.Base)].toArray)] [aN kT3 (.slice A2 N2 D2) v1.Dims,aN kT3 (.slice A3 N3 D3) v1.Strides] (fun (h:HH×HH)=>((.agg [(s3 h.1),(s3 h.2),(iv r.Offset),(iv r.Base)].toArray),[aN kT3 (s3 h.1) r.Dims,aN kT3 (s3 h.2) r.Strides])):=by
 unfold Z2g at a
 refine aP Tryz.func138 R 8 R R fun C V=>?_
 refine cL 0 aA ?_
 rintro rfl
 refine cL 1 aA ?_
 rintro rfl
 let g:=RR kT3 A2 D2 v1.Dims::RR kT3 A3 D3 v1.Strides::V
 refine cN g ?_
 refine aU ?_
 refine eJ R fun j=>?_
 refine bE R R cB (fun l=>(aC ?_))
 let i:=aJ j [(sc A2 v1.Dims D2),(sc A3 v1.Strides D3),(iv v1.Offset),(iv v1.Base)] 111::g
 refine aQ ?_
 obtain ⟨m,b,a⟩:=bd a
 refine aU ?_
 refine lM _ (fun w s=>(((s.d 2 R).d 4 R).e 3 [1,0,2])) ?_
 refine lC 2 lH R (Za_ok b) R ?_
 rintro _
 refine aQ ?_
 split at a
 refine aQ ?_
 refine lO (vz (.agg [(.slice none 0 0),(.slice none 0 0),(iv 0),(iv 0)].toArray) (aX eE cB R R)) (aL 0 R R bS R R R R R R (aC (aG (bY (cG ?_)))))
 cases a
 exact qS ((none,0,0),(none,0,0)) (fun w s=>(((s.nilr kT3).nilr kT3).e 6 [1,0]))
 refine bW ?_
 refine aL 0 R R bS R R R R R R (lN (aJ l [(sc A2 v1.Dims D2),(sc A3 v1.Strides D3),(iv v1.Offset),(iv v1.Base)] 111::i) ?_)
 refine aQ ?_
 cases a
 exact qS ((A2,v1.Dims.length,D2),(A3,v1.Strides.length,D3)) (tE 4 [2,3])
theorem Z1b_ok  {v1:View}{g:Int}{L:Int}{b:Int}{j:Int}{r:View}(J:Z1b v1 g L b j=some r) :
 FnOk Tryz.prog 96 [(.agg [(.slice A2 N2 D2),(.slice A3 N3 D3),(iv v1.Offset),(iv v1.Base)].toArray),(iv g),(iv L),(iv b),(iv j)] [aN kT3 (.slice A2 N2 D2) v1.Dims,aN kT3 (.slice A3 N3 D3) v1.Strides] (fun (h:HH×HH)=>((.agg [(.slice h.1.1 h.1.2.1 h.1.2.2),(.slice h.2.1 h.2.2.1 h.2.2.2),(iv r.Offset),(iv r.Base)].toArray),[aN kT3 (.slice h.1.1 h.1.2.1 h.1.2.2) r.Dims,aN kT3 (.slice h.2.1 h.2.2.1 h.2.2.2) r.Strides])):=by
 unfold Z1b at J
 refine aP Tryz.func96 R 102 R R fun C V=>?_
 refine cN (_::_::V) ?_
 refine cL 0 aA ?_
 rintro rfl
 refine cL 1 aA ?_
 rintro rfl
 let W0:List HP:=RR kT3 A2 D2 v1.Dims::RR kT3 A3 D3 v1.Strides::V
 refine cN W0 ?_
 refine aK (aD (eJ R (fun b8=>(bE R R cB (fun b9=>(aC ?_))))))
 let U:List HP:=aJ b8 [(sc A2 v1.Dims D2),(sc A3 v1.Strides D3),(iv v1.Offset),(iv v1.Base)] 111::W0
 refine qN (_::U) ?_
 refine aG (aK (aK ?_))
 obtain ⟨a0,aj,J⟩:=bd J
 obtain ⟨a7,J⟩:=gd J
 refine cQ [(1,(iv g)),(2,(iv L)),(3,(iv b)),(4,(iv j)),(5,(pt b8 0)),(10,(pt b9 0)),(45,(.bool (((((((!a0)||(decide (b<(1:Int))))||(decide (b>(4096:Int))))||(decide (j<(-4096:Int))))||(decide (j>(4096:Int))))||(decide (L<(0:Int))))||(decide (L≥(ix v1.Dims g))))))] (aJ b9 [(.slice none 0 0),(.slice none 0 0),(iv 0),(iv 0)] 111::U) ?_ ?_
 refine aD (lO (vz (.agg [(sc A2 v1.Dims D2),(sc A3 v1.Strides D3),(iv v1.Offset),(iv v1.Base)].toArray) (cO 1 eS bS R R R R)) (lI R (lM (RR kT3 A2 D2 v1.Dims::RR kT3 A3 D3 v1.Strides::aJ _ _ _::U) (fun w s=>(((s.d 2 R).d 4 R).e 3 [1,0,2])) ?_)))
 refine lC 2 v' R (Z2d_ok aj) R ?_
 rintro _
 refine lN (_::U) ?_
 refine lO (pn R) (lB R ?_)
 rcases bo (!a0) with l | l
 refine lf (eC l) (lf (eC l) (lO (fD (decide (b<(1:Int))) R l) (lB R (lf (eC (oT l)) (lf (eC (oT l)) (lO (fD (decide (b>(4096:Int))) R (oT l)) (lB R (lf (eC (oT (oT l))) (lf (eC (oT (oT l))) (lO (fD (decide (j<(-4096:Int))) R (oT (oT l))) (lB R (lf (eC (oT (oT (oT l)))) (lf (eC (oT (oT (oT l)))) (lO (fD (decide (j>(4096:Int))) R (oT (oT (oT l)))) (lB R (lf (eC (oT (oT (oT (oT l))))) (lf (eC (oT (oT (oT (oT l))))) (lO (fD (decide (L<(0:Int))) R (oT (oT (oT (oT l))))) (lB R (lf (eC (oT (oT (oT (oT (oT l)))))) (lf (eC (oT (oT (oT (oT (oT l)))))) (lf (eC (oT (oT (oT (oT (oT l)))))) (lf (eC (oT (oT (oT (oT (oT l)))))) (lf (eC (oT (oT (oT (oT (oT l)))))) (lf (eC (oT (oT (oT (oT (oT l)))))) (lf (eC (oT (oT (oT (oT (oT l)))))) (lO (fD (decide (L≥(ix v1.Dims g))) R (oT (oT (oT (oT (oT l)))))) (aC ?_))))))))))))))))))))))))))))
 exact qJ (fun w s=>s)
 refine lW (cC l) (vI R) (lW (cC l) (n0 R R) (lO (fS R l R) (lB R ?_)))
 rcases bo ((!a0)||(decide (b<(1:Int)))) with m | m
 refine lf (eC m) (lf (eC m) (lO (fD (decide (b>(4096:Int))) R m) (lB R (lf (eC (oT m)) (lf (eC (oT m)) (lO (fD (decide (j<(-4096:Int))) R (oT m)) (lB R (lf (eC (oT (oT m))) (lf (eC (oT (oT m))) (lO (fD (decide (j>(4096:Int))) R (oT (oT m))) (lB R (lf (eC (oT (oT (oT m)))) (lf (eC (oT (oT (oT m)))) (lO (fD (decide (L<(0:Int))) R (oT (oT (oT m)))) (lB R (lf (eC (oT (oT (oT (oT m))))) (lf (eC (oT (oT (oT (oT m))))) (lf (eC (oT (oT (oT (oT m))))) (lf (eC (oT (oT (oT (oT m))))) (lf (eC (oT (oT (oT (oT m))))) (lf (eC (oT (oT (oT (oT m))))) (lf (eC (oT (oT (oT (oT m))))) (lO (fD (decide (L≥(ix v1.Dims g))) R (oT (oT (oT (oT m))))) (aC ?_))))))))))))))))))))))))
 exact qJ (fun w s=>s)
 refine lW (cC m) (vI R) (lW (cC m) (wO R R) (lO (fS R m R) (lB R ?_)))
 rcases bo (((!a0)||(decide (b<(1:Int))))||(decide (b>(4096:Int)))) with q | q
 refine lf (eC q) (lf (eC q) (lO (fD (decide (j<(-4096:Int))) R q) (lB R (lf (eC (oT q)) (lf (eC (oT q)) (lO (fD (decide (j>(4096:Int))) R (oT q)) (lB R (lf (eC (oT (oT q))) (lf (eC (oT (oT q))) (lO (fD (decide (L<(0:Int))) R (oT (oT q))) (lB R (lf (eC (oT (oT (oT q)))) (lf (eC (oT (oT (oT q)))) (lf (eC (oT (oT (oT q)))) (lf (eC (oT (oT (oT q)))) (lf (eC (oT (oT (oT q)))) (lf (eC (oT (oT (oT q)))) (lf (eC (oT (oT (oT q)))) (lO (fD (decide (L≥(ix v1.Dims g))) R (oT (oT (oT q)))) (aC ?_))))))))))))))))))))
 exact qJ (fun w s=>s)
 refine lW (cC q) (vI R) (lW (cC q) (n0 R R) (lO (fS R q R) (lB R ?_)))
 rcases bo ((((!a0)||(decide (b<(1:Int))))||(decide (b>(4096:Int))))||(decide (j<(-4096:Int)))) with D | D
 refine lf (eC D) (lf (eC D) (lO (fD (decide (j>(4096:Int))) R D) (lB R (lf (eC (oT D)) (lf (eC (oT D)) (lO (fD (decide (L<(0:Int))) R (oT D)) (lB R (lf (eC (oT (oT D))) (lf (eC (oT (oT D))) (lf (eC (oT (oT D))) (lf (eC (oT (oT D))) (lf (eC (oT (oT D))) (lf (eC (oT (oT D))) (lf (eC (oT (oT D))) (lO (fD (decide (L≥(ix v1.Dims g))) R (oT (oT D))) (aC ?_))))))))))))))))
 exact qJ (fun w s=>s)
 refine lW (cC D) (vI R) (lW (cC D) (wO R R) (lO (fS R D R) (lB R ?_)))
 rcases bo (((((!a0)||(decide (b<(1:Int))))||(decide (b>(4096:Int))))||(decide (j<(-4096:Int))))||(decide (j>(4096:Int)))) with E | E
 refine lf (eC E) (lf (eC E) (lO (fD (decide (L<(0:Int))) R E) (lB R (lf (eC (oT E)) (lf (eC (oT E)) (lf (eC (oT E)) (lf (eC (oT E)) (lf (eC (oT E)) (lf (eC (oT E)) (lf (eC (oT E)) (lO (fD (decide (L≥(ix v1.Dims g))) R (oT E)) (aC ?_))))))))))))
 exact qJ (fun w s=>s)
 refine lW (cC E) (vI R) (lW (cC E) (n0 R R) (lO (fS R E R) (lB R ?_)))
 rcases bo ((((((!a0)||(decide (b<(1:Int))))||(decide (b>(4096:Int))))||(decide (j<(-4096:Int))))||(decide (j>(4096:Int))))||(decide (L<(0:Int)))) with u | u
 refine lf (eC u) (lf (eC u) (lf (eC u) (lf (eC u) (lf (eC u) (lf (eC u) (lf (eC u) (lO (fD (decide (L≥(ix v1.Dims g))) R u) (aC ?_))))))))
 exact qJ (fun w s=>s)
 refine lW (cC u) (vI R) (lW (cC u) (fX 0 fQ R) (lW (cC u) (gF 1 cY R R R) (lW (cC u) (vI R) (bC 2 aA (show 0<v1.Dims.length by have:=(a7 u); omega) (fun aq o14 ha=>?_)))))
 subst ha
 refine lW (cC u) (eM bM cJ R R (a7 u)) (lW (cC u) (gK 2 fP aA R (a7 u)) (lW (cC u) (AG R R) (lO (fS R u R) (aC ?_))))
 exact qJ (fun w s=>s)
 rintro σ1
 refine aG ?_
 rcases cH J with ⟨a4,J⟩|⟨a4,J⟩
 refine bV R a4 (aK (aD (lO (vz (.agg [(.slice none 0 0),(.slice none 0 0),(iv 0),(iv 0)].toArray) (aX eE cB R R)) (aL 0 R R bS R R R R R R (aC (aG (bY (cG ?_))))))))
 obtain rfl:=so J
 exact dC (vs:=[(.agg [(.slice none 0 0),(.slice none 0 0),(iv 0),(iv 0)].toArray)]) (.inl R) ((none,0,0),(none,0,0)) R ⟨⟨0,b9,_,_,R,R,.inl ⟨eS,bS,R⟩⟩,trivial⟩ R (fun w s=>(((s.nilr kT3).nilr kT3).e 6 [1,0]))
 refine bG R a4 (cF (aG (aK (aD (lI R (lI R (lO (uv R R) (lI R (lO (rO R R) (lO (jt R R) (lI R (aC (aG (aK (aK ?_)))))))))))))))
 obtain ⟨a8,J⟩:=gd J
 refine cQ [(1,(iv g)),(2,(iv L)),(3,(iv b)),(4,(iv j)),(5,(pt b8 0)),(10,(pt b9 0)),(63,(.bool ((decide ((aH (L+(aH ((aH (b - (1:Int)))*j))))<(0:Int)))||(decide ((aH (L+(aH ((aH (b - (1:Int)))*j))))≥(ix v1.Dims g))))))] (aJ b9 [(.slice none 0 0),(.slice none 0 0),(iv 0),(iv 0)] 111::U) ?_ ?_
 refine aD (lI R (lO (n0 R R) (lB R ?_)))
 rcases bo (decide ((aH (L+(aH ((aH (b - (1:Int)))*j))))<(0:Int))) with B | B
 refine lf (eC B) (lf (eC B) (lf (eC B) (lf (eC B) (lf (eC B) (lf (eC B) (lf (eC B) (lO (fD (decide ((aH (L+(aH ((aH (b - (1:Int)))*j))))≥(ix v1.Dims g))) R B) (aC ?_))))))))
 exact qJ (fun w s=>s)
 refine lW (cC B) (vI R) (lW (cC B) (fX 0 fQ R) (lW (cC B) (gF 1 cY R R R) (lW (cC B) (vI R) (bC 2 aA (show 0<v1.Dims.length by have:=(a8 B); omega) (fun ar o24 ha=>?_)))))
 subst ha
 refine lW (cC B) (eM bM cJ R R (a8 B)) (lW (cC B) (gK 2 fP aA R (a8 B)) (lW (cC B) (AG R R) (lO (fS R B R) (aC ?_))))
 exact qJ (fun w s=>s)
 rintro σ1
 refine aG ?_
 rcases cH J with ⟨a5,J⟩|⟨a5,J⟩
 refine bV R a5 (aK (aD (lO (vz (.agg [(.slice none 0 0),(.slice none 0 0),(iv 0),(iv 0)].toArray) (aX eE cB R R)) (aL 0 R R bS R R R R R R (aC (aG (bY (cG ?_))))))))
 obtain rfl:=so J
 exact dC (vs:=[(.agg [(.slice none 0 0),(.slice none 0 0),(iv 0),(iv 0)].toArray)]) (.inl R) ((none,0,0),(none,0,0)) R ⟨⟨0,b9,_,_,R,R,.inl ⟨eS,bS,R⟩⟩,trivial⟩ R (fun w s=>(((s.nilr kT3).nilr kT3).e 6 [1,0]))
 refine bG R a5 (cF (aG (aK ?_)))
 obtain ⟨i,ak,J⟩:=bd J
 refine aD (lO (vz (.agg [(sc A2 v1.Dims D2),(sc A3 v1.Strides D3),(iv v1.Offset),(iv v1.Base)].toArray) (cO 1 eS bS R R R R)) (lM (RR kT3 A2 D2 v1.Dims::RR kT3 A3 D3 v1.Strides::aJ _ _ _::U) (fun w s=>(((s.d 2 R).d 4 R).e 3 [1,0,2])) ?_))
 refine lC 2 w0 R (Z2f_ok ak) R ?_
 rintro ⟨⟨a3,am,M⟩,⟨a2,an,G⟩⟩
 refine lN (ow kT3 3 (.slice a3 am M) i.Dims::ow kT3 3 (.slice a2 an G) i.Strides::_::U) ?_
 refine aM 0 aB ?_
 rintro rfl
 refine aM 1 aB ?_
 rintro rfl
 refine bE R R cB (fun Z=>(aL 0 R R bS R R R R R R (lN (aJ Z [(sc a3 i.Dims M),(sc a2 i.Strides G),(iv i.Offset),(iv i.Base)] 111::_::_::_::U) ?_)))
 refine aC (aG (aK ?_))
 obtain ⟨F,J⟩:=gd J
 refine cQ [(1,(iv g)),(3,(iv b)),(4,(iv j)),(10,(pt b9 0)),(12,(pt Z 0))] (aJ b9 [(.slice none 0 0),(.slice none 0 0),(iv 0),(iv 0)] 111::aJ Z [(sc a3 i.Dims M),(sc a2 i.Strides G),(iv (aH (i.Offset+(aH (L*(ix i.Strides g)))))),(iv i.Base)] 111::OO kT3 3 a3 M i.Dims::OO kT3 3 a2 G i.Strides::U) ?_ ?_
 refine bA 2 aB (show 0<i.Strides.length by have:=F; omega) (fun ai o34 ha=>?_)
 subst ha
 refine dF 12 [0] bO (fun ht hn=>(dR 0 R (fX 2 m8 R) (hS:=(sL [0])) (dR 2 R (vI R) (hS:=(sL [0])) (dR 3 R (fX 1 fF R) (hS:=(sL [0])) (dR 5 R (vI R) (hS:=(sL [0])) (iu [1,4] (by kernel_rfl) R ⟨?_,?_,trivial⟩))))))
 refine lO (gF 0 fP R R R) (aC (aI (sL [0]) (d1 4 R (lO (gF 0 cY R R R) (aC (aI (sL [0]) (dR 6 R (eM bM cJ R R F) (hS:=(sL [0])) (dR 7 R (gK 1 fP aB R F) (hS:=(sL [0])) (dR 8 R (rO R R) (hS:=(sL [0])) (dR 9 R (jt R R) (hS:=(sL [0])) (dR 10 R (fX 2 m8 R) (hS:=(sL [0])) (d1 11 R (cZ 0 R R cJ R R R R R (lN (aJ Z [(sc a3 i.Dims M),(sc (ad ai o34) i.Strides G),(iv (aH (i.Offset+(aH (L*(ix i.Strides g)))))),(iv i.Base)] 111::_::OO kT3 3 (ad ai o34) G i.Strides::_::U) ?_))))))))))))))
 refine aC (aI (sL [0]) (dD ?_))
 exact qJ (fun w s=>(s.e 4 [3,0,1,2]))
 refine lO (gF 0 cY R R R) (aC (aI (sL [0]) (dR 6 R (eM bM cJ R R F) (hS:=(sL [0])) (dR 7 R (gK 1 fP aB R F) (hS:=(sL [0])) (dR 8 R (rO R R) (hS:=(sL [0])) (d1 1 R (lO (gF 0 fP R R R) (aC (aI (sL [0]) (dR 9 R (jt R R) (hS:=(sL [0])) (dR 10 R (fX 2 m8 R) (hS:=(sL [0])) (d1 11 R (cZ 0 R R cJ R R R R R (aC (aI (sL [0]) (dD ?_))))))))))))))))
 exact qJ (fun w s=>(s.e 4 [3,0,1,2]))
 rintro σ1
 refine aG (aK ?_)
 obtain ⟨a1,J⟩:=gd J
 refine aD (lO (fX 0 fQ R) (lO (gF 1 cY R R R) (lI R (lI R (bC 2 aB (show 0<i.Dims.length by have:=a1; omega) (fun Y o37 ha=>?_))))))
 subst ha
 refine lO (eM bM cJ R R a1) (lM (OO kT3 3 (ad Y o37) M i.Dims::aJ _ _ _::aJ Z [(sc (ad Y o37) i.Dims M),(sc a2 i.Strides G),(iv (aH (i.Offset+(aH (L*(ix i.Strides g)))))),(iv i.Base)] 111::OO kT3 3 a2 G i.Strides::U) (fun w s=>(s.e 4 [2,0,1,3])) ?_)
 refine eL (K:=kT3) (x':=b) 0 g R R cJ R R a1.1 a1.2 ?_ ?_
 exact fun I h s=>(gR).put I h () b s
 refine lN (ow kT3 3 (.slice (ad Y o37) i.Dims.length M) (i.Dims.set g.toNat b)::_::_::_::U) ?_
 refine aC (aG (aK (bA 3 aB (show 0<i.Strides.length by have:=F; omega) (fun T o39 ha=>?_))))
 subst ha
 refine dF 12 [3] bO (fun ht hn=>(dR 0 R (fX 1 fF R) (hS:=(sL [3])) (dR 1 R (gF 2 cY R R R) (hS:=(sL [3])) (dR 2 R (vI R) (hS:=(sL [3])) (dR 3 R (fX 1 fF R) (hS:=(sL [3])) (dR 4 R (gF 2 cY R R R) (hS:=(sL [3])) (dR 5 R (vI R) (hS:=(sL [3])) (dR 6 R (eM bM cJ R R F) (hS:=(sL [3])) (dR 8 R (vI R) (hS:=(sL [3])) (d1 7 R (lO (gK 3 fP aB R F) (aC (aI (sL [3]) (dR 9 R (rO R R) (hS:=(sL [3])) (dR 10 R (eM bM cJ R R F) (hS:=(sL [3])) (d1 11 R (lM (OO kT3 3 (ad T o39) G i.Strides::ow _ _ _ _::aJ _ _ _::aJ Z [(sc (ad Y o37) i.Dims M),(sc (ad T o39) i.Strides G),(iv (aH (i.Offset+(aH (L*(ix i.Strides g)))))),(iv i.Base)] 111::U) (fun w s=>(s.e 4 [3,0,1,2])) ?_)))))))))))))))))
 refine eL (K:=kT3) (x':=(aH ((ix i.Strides g)*j))) 0 g R R cJ R R F.1 F.2 ?_ ?_
 exact fun I h s=>(gR).put I h () (aH ((ix i.Strides g)*j)) s
 refine lN (ow kT3 3 (.slice (ad T o39) i.Strides.length G) (i.Strides.set g.toNat (aH ((ix i.Strides g)*j)))::_::_::_::U) ?_
 refine aC (aI (sL [0]) (dD ?_))
 obtain ⟨ag,a9,J⟩:=bd J
 replace a9:=Option.some.inj a9
 refine qM (ow kT3 3 (.slice (ad T o39) i.Strides.length G) ag::_::_::_::U) (fun w s=>by rw [← a9]; exact s) ?_
 refine aG (aK (bB (A:=((List Int))×(Unit)) (fun a=>Z1b_J1 g L b i a.1=some r) (fun a=>[(10,(pt b9 0)),(12,(pt Z 0))]) (fun a=>aJ b9 [(.slice none 0 0),(.slice none 0 0),(iv 0),(iv 0)] 111::aJ Z [(sc (ad Y o37) i.Dims M),(sc (ad T o39) i.Strides G),(iv (aH (i.Offset+(aH (L*(ix i.Strides g)))))),(iv i.Base)] 111::ow kT3 3 (.slice (ad Y o37) i.Dims.length M) (i.Dims.set g.toNat b)::ow kT3 3 (.slice (ad T o39) i.Strides.length G) a.1::U) ?_ ?_))
 refine aK (aD (lI R (lO (lR R R) (aC (aG ?_)))))
 rcases cH J with ⟨a6,J⟩|⟨a6,J⟩
 refine bV R a6 (aD (lO (fX 1 fF R) (lO (gF 3 cY R R R) (lI R (lO (eM bM cJ R R F) (eL (K:=kT3) (x':=(0:Int)) 0 g R R cJ R R F.1 F.2 ?_ ?_))))))
 exact fun I h s=>(gR).put I h () (0:Int) s
 refine lN (ow kT3 3 (.slice (ad T o39) i.Strides.length G) (ag.set g.toNat (0:Int))::_::_::_::U) ?_
 refine aC ?_
 exact qI ((ag.set g.toNat (0:Int)),()) J (fun w s=>(s.e 4 [2,3,1,0]))
 refine bG R a6 (cF ?_)
 exact qI (ag,()) J (fun w s=>(s.e 4 [2,3,1,0]))
 rintro ⟨ah,_⟩ σ1 J
 replace J:Z1b_J1 g L b i ah=some r:=J
 unfold Z1b_J1 at J
 refine aK ?_
 obtain ⟨O,al,J⟩:=bd J
 refine aD (lO (vz (.agg [(sc (ad Y o37) i.Dims M),(sc (ad T o39) i.Strides G),(iv (aH (i.Offset+(aH (L*(ix i.Strides g)))))),(iv i.Base)].toArray) (cO 1 eS bS R R R R)) (iV (fun w s=>s.shr 2 R) (iV (fun w s=>s.shr 3 R) (lM (aN kT3 (.slice (ad Y o37) i.Dims.length M) (i.Dims.set g.toNat b)::aN kT3 (.slice (ad T o39) i.Strides.length G) ah::aN kT3 (.slice (ad T o39) i.Strides.length G) ah::aN kT3 (.slice (ad Y o37) i.Dims.length M) (i.Dims.set g.toNat b)::aJ _ _ _::aJ _ _ _::U) (fun w s=>(((s.d 1 R).d 1 R).e 6 [1,0,2,3,4,5])) ?_))))
 refine lC 2 w4 R (Z2g_ok (v1:=(⟨(i.Dims.set g.toNat b),ah,(aH (i.Offset+(aH (L*(ix i.Strides g))))),i.Base⟩:View)) al) R ?_
 rintro ⟨⟨aa,ao,ac⟩,⟨ab,ap,ae⟩⟩
 refine lN (aN kT3 (.slice aa ao ac) O.Dims::aN kT3 (.slice ab ap ae) O.Strides::_::_::_::_::U) ?_
 refine aM 0 aA ?_
 rintro rfl
 refine aM 1 aA ?_
 rintro rfl
 refine aL 4 R R bS R R R R R R (lN (_::_::_::_::aJ b9 [(sc aa O.Dims ac),(sc ab O.Strides ae),(iv O.Offset),(iv O.Base)] 111::_::U) ?_)
 refine aC (aG (bY ?_))
 obtain rfl:=so J
 exact dC (vs:=[(.agg [(sc aa O.Dims ac),(sc ab O.Strides ae),(iv O.Offset),(iv O.Base)].toArray)]) (.inl R) ((aa,O.Dims.length,ac),(ab,O.Strides.length,ae)) R ⟨⟨4,b9,_,_,R,R,.inl ⟨eS,bS,R⟩⟩,trivial⟩ R (fun w s=>(s.e 9 [0,1]))
theorem Z1x_ok  {t1:Tensor}{a:(List Int)}{i:Int}{r:(List Int)}(g:Z1x t1 a i=some r) :
 FnOk Tryz.prog 140 [(.agg [(.slice A2 N2 D2),(.slice A3 N3 D3)].toArray),(.slice A5 N5 D5),(iv i)] [aN kT3 (.slice A2 N2 D2) t1.Dims,ow kT3 3 (.slice A3 N3 D3) t1.Data,aN kT3 (.slice A5 N5 D5) a] (fun (h:Unit)=>((.tuple [].toArray),[ow kT3 3 (.slice A3 N3 D3) r])):=by
 unfold Z1x at g
 refine aP Tryz.func140 R 14 R R fun C V=>?_
 refine cM _ (tE 3 [1,0,2]) ?_
 refine cL 0 aB ?_
 rintro rfl
 refine cL 1 aA ?_
 rintro rfl
 refine cL 2 aA ?_
 rintro rfl
 let l:=RR kT3 A2 D2 t1.Dims::RR kT3 A5 D5 a::V
 refine aU ?_
 refine eJ R fun m=>?_
 refine aC (qM _ (tE 2 [1,0]) ?_)
 let D:=aJ m [(sc A2 t1.Dims D2),(sc A3 t1.Data D3)] 42::l
 refine bX ?_
 obtain ⟨B,j,g⟩:=bd g
 obtain ⟨b,g⟩:=gd g
 refine bA 0 aB (show 0<t1.Data.length by have:=b; omega) (fun q o12 u=>?_)
 subst u
 refine dF 9 [0] bO fun F E=>?_
 refine ko 0 [0] ?_
 refine n6 6 [0] ?_
 refine d1 5 R (lM _ (fun w s=>(((s.d 2 R).d 4 R).e 3 [1,0,2])) ?_)
 refine lC 2 sS R (Z0n_ok j) R ?_
 rintro _
 refine aC (aI (sL [0]) ?_)
 refine n6 7 [0] ?_
 refine d1 8 R (eL (K:=kT3) (x':=i) 0 B R R cJ R R b.1 b.2 ?_ ?_)
 exact fun I h s=>(gR).put I h () i s
 refine aC (aI (sL [0]) (dD ?_))
 cases g
 exact AH () (tE 4 [0])
theorem Z0t_ok  {t1:Tensor}{E:Int}{b:Int}{g:Int}{l:Int}{r:Tensor}(j:Z0t t1 E b g l=some r) :
 FnOk Tryz.prog 97 [(.agg [(.slice A2 N2 D2),(.slice A3 N3 D3)].toArray),(iv E),(iv b),(iv g),(iv l)] [aN kT3 (.slice A2 N2 D2) t1.Dims,aN kT3 (.slice A3 N3 D3) t1.Data] (fun (h:HH×HH)=>((.agg [(s3 h.1),(s3 h.2)].toArray),[ow kT3 3 (s3 h.1) r.Dims,ow kT3 3 (s3 h.2) r.Data])):=by
 unfold Z0t at j
 refine aP Tryz.func97 R 101 R R fun C V=>?_
 refine cL 0 aA ?_
 rintro rfl
 refine cL 1 aA ?_
 rintro rfl
 let W0:=RR kT3 A2 D2 t1.Dims::RR kT3 A3 D3 t1.Data::V
 refine cN W0 ?_
 refine aU ?_
 refine eJ R fun b8=>?_
 refine bE R R dX (fun U=>(aC ?_))
 let W1:=aJ b8 [(sc A2 t1.Dims D2),(sc A3 t1.Data D3)] 42::W0
 refine aQ ?_
 obtain ⟨F,ab,j⟩:=bd j
 refine cQ [(1,(iv E)),(2,(iv b)),(3,(iv g)),(4,(iv l)),(5,(pt b8 0)),(10,(pt U 0)),(43,(.bool (((((((!F)||(decide (b<0)))||(decide (b>4096)))||(decide (g<0)))||(decide (g>4096)))||(decide (l<0)))||(decide (l>4096)))))] (aJ U [(.slice none 0 0),(.slice none 0 0)] 42::W1) ?_ ?_
 refine aQ ?_
 refine lM _ (fun w s=>(((s.d 2 R).d 4 R).e 3 [1,0,2])) ?_
 refine lC 2 oH R (Z1h_ok ab) R ?_
 rintro _
 refine aU ?_
 rcases bo (!F) with a2 | a2
 refine B1 ?_
 exact qj tI
 refine bI ?_
 rcases bo ((!F)||(decide (b<0))) with a3 | a3
 refine yI ?_
 exact qj tI
 refine bI ?_
 rcases bo (((!F)||(decide (b<0)))||(decide (b>4096))) with a4 | a4
 refine wV ?_
 exact qj tI
 refine bI ?_
 rcases bo ((((!F)||(decide (b<0)))||(decide (b>4096)))||(decide (g<0))) with a5 | a5
 refine iM ?_
 exact qj tI
 refine bI ?_
 rcases bo (((((!F)||(decide (b<0)))||(decide (b>4096)))||(decide (g<0)))||(decide (g>4096))) with a6 | a6
 refine dI ?_
 exact qj tI
 refine bI ?_
 rcases bo ((((((!F)||(decide (b<0)))||(decide (b>4096)))||(decide (g<0)))||(decide (g>4096)))||(decide (l<0))) with a7 | a7
 refine bI ?_
 exact qj tI
 refine bI ?_
 exact qj tI
 rintro σ1
 refine bX ?_
 split at j
 refine aQ ?_
 refine lO (vz (.agg [(.slice none 0 0),(.slice none 0 0)].toArray) (aX gU dX R R)) (aL 0 R R bT R R R R R R (aC (aG (bY (cG ?_)))))
 cases j
 exact qS ((none,0,0),(none,0,0)) (fun w s=>(((s.nilo kT3 3).nilo kT3 3).e 6 [1,0]))
 refine bI ?_
 obtain ⟨a8,j⟩:=gd j
 refine bI ?_
 refine bC 2 aA (show 0<t1.Dims.length by have:=a8; omega) (fun ax o21 ha=>?_)
 subst ha
 refine bW ?_
 obtain ⟨L,ac,j⟩:=bd j
 refine nI ?_
 refine lM _ (fun w s=>(s.d 2 R)) ?_
 refine lC 1 kL R (Z0j_ok ac) R ?_
 rintro ⟨I,aq,J⟩
 refine aM 0 aB ?_
 rintro rfl
 refine cI ?_
 obtain ⟨b0,ae,j⟩:=bd j
 refine aU ?_
 refine lC 1 kj R (FnOk.lends (A':=[OO kT3 3 I J L]) (A:=[RR kT3 I J L]) (B:=[]) (Zp_ok ae) ⟨aZ,trivial⟩ (fun _=>trivial)) R ?_
 rintro _
 refine aQ ?_
 split at j
 refine aQ ?_
 refine lO (vz (.agg [(.slice none 0 0),(.slice none 0 0)].toArray) (aX gU dX R R)) (aL 1 R R bT R R R R R R (aC (aG (bY (cG ?_)))))
 cases j
 exact qS ((none,0,0),(none,0,0)) (fun w s=>(((s.nilo kT3 3).nilo kT3 3).e 7 [1,0]))
 refine bI ?_
 obtain ⟨i,ag,j⟩:=bd j
 refine aU ?_
 refine lC 1 kK R (FnOk.lends (A':=[OO kT3 3 I J L]) (A:=[RR kT3 I J L]) (B:=[]) (Z0i_ok ag) ⟨aZ,trivial⟩ (fun _=>⟨(bN ji),(bN ji),trivial⟩)) R ?_
 rintro ⟨⟨m,ar,u⟩,⟨q,au,D⟩⟩
 refine aM 1 aB ?_
 rintro rfl
 refine aM 2 aB ?_
 rintro rfl
 refine bE R R dX (fun G=>(aL 0 R R bT R R R R R R (lN (aJ G [(sc m i.Dims u),(sc q i.Data D)] 42::_::_::_::_::W1) ?_)))
 refine aQ ?_
 refine bB (A:=((List Int))×(Unit)) (fun a=>Z0t_J1 i a.1=some r) (fun a=>[(10,(pt U 0)),(13,(pt G 0))]) (fun a=>aJ U [(.slice none 0 0),(.slice none 0 0)] 42::aJ G [(sc m i.Dims u),(sc q i.Data D)] 42::OO kT3 3 m u i.Dims::ow kT3 3 (.slice q i.Data.length D) a.1::W1) ?_ ?_
 refine bW ?_
 obtain ⟨e1,am,al⟩:=bd j
 refine bD (A:=Unit) am (fun s a=>[(1,(iv E)),(2,(iv b)),(4,(iv l)),(5,(pt b8 0)),(10,(pt U 0)),(13,(pt G 0)),(14,(iv s.2))]) (fun s a=>aJ U [(.slice none 0 0),(.slice none 0 0)] 42::aJ G [(sc m i.Dims u),(sc q i.Data D)] 42::OO kT3 3 m u i.Dims::ow kT3 3 (.slice q i.Data.length D) s.1::W1) () (aS R) (tE 5 [4,0,2,3]) ?_
 rintro ⟨M,az⟩ _ σ1 ao j ak
 dsimp only [Z0t_L1] at j
 refine dG ?_
 split at j
 refine bW ?_
 obtain ⟨Y,ah,j⟩:=bd j
 refine bI ?_
 refine lM _ (fun w s=>(s.d 5 R)) ?_
 refine lC 1 lF R (Zm_ok ah) R ?_
 rintro ⟨ap,av,a0⟩
 refine aM 0 aB ?_
 rintro rfl
 refine aQ ?_
 obtain ⟨a9,j⟩:=gd j
 obtain ⟨Z,ai,j⟩:=bd j
 obtain ⟨aa,j⟩:=gd j
 obtain ⟨b1,aj,j⟩:=bd j
 refine bA 0 aB (show 0<Y.length by have:=a9; omega) (fun a1 o56 ha=>?_)
 subst ha
 refine bA 7 aA (show 0<t1.Data.length by have:=aa; omega) (fun ay o62 ha=>?_)
 subst ha
 refine dF 19 [4] bO fun ht hn=>?_
 refine uB 0 [4] ?_
 refine ko 13 [4] ?_
 refine d1 12 R (lC 1 kL R (FnOk.lends (A':=[OO kT3 3 (ad a1 o56) a0 Y]) (A:=[RR kT3 (ad a1 o56) a0 Y]) (B:=[]) (Z0j_ok ai) ⟨aZ,trivial⟩ (fun _=>⟨(bN ji),trivial⟩)) R ?_)
 rintro ⟨O,aw,T⟩
 refine aM 1 aB ?_
 rintro rfl
 refine aC (aI (sL [5,1]) (d1 18 R (lM _ (tE 6 [4,1,5,0,2,3]) ?_)))
 refine lC 3 sU R (FnOk.lends (A':=[OO kT3 3 m u i.Dims,OO kT3 3 O T Z]) (A:=[RR kT3 m u i.Dims,RR kT3 O T Z]) (B:=[ow kT3 3 (.slice q i.Data.length D) M]) (FnOk.perm (Z1x_ok (t1:=(⟨i.Dims,M⟩:Tensor)) aj) (Pre':=[RR kT3 m u i.Dims,RR kT3 O T Z,ow kT3 3 (.slice q i.Data.length D) M]) (fun _ _ _ s=>(s.e 3 [0,2,1]))) ⟨aZ,aZ,trivial⟩ (fun _=>⟨(bN ji),trivial⟩)) R ?_
 rintro _
 refine aC (aI (tE 6 [3,4,5,0]) (dD ?_))
 refine dU ?_
 cases j
 exact qA () (tE 6 [4,5,0,2])
 refine aQ ?_
 cases j
 obtain rfl:=ak _ R
 have j:=al
 refine aU ?_
 exact qI (M,()) j tI
 rintro ⟨an,_⟩ σ1 j
 dsimp only [Z0t_J1] at j
 refine aQ ?_
 refine aL 0 R R bT R R R R R R (lN (aJ U [(sc m i.Dims u),(sc q i.Data D)] 42::_::_::ow kT3 3 (.slice q i.Data.length D) an::W1) ?_)
 refine aQ ?_
 cases j
 exact qS ((m,i.Dims.length,u),(q,i.Data.length,D)) (tE 7 [2,3])
theorem Z0s_ok  {t1:Tensor}{q:Int}{b:(List Int)}{r:Tensor}(g:Z0s t1 q b=some r) :
 FnOk Tryz.prog 98 [(.agg [(.slice A2 N2 D2),(.slice A3 N3 D3)].toArray),(iv q),(.slice A6 N6 D6)] [aN kT3 (.slice A2 N2 D2) t1.Dims,aN kT3 (.slice A3 N3 D3) t1.Data,aN kT3 (.slice A6 N6 D6) b] (fun (h:HH×HH)=>((.agg [(s3 h.1),(s3 h.2)].toArray),[ow kT3 3 (s3 h.1) r.Dims,ow kT3 3 (s3 h.2) r.Data])):=by
 unfold Z0s at g
 refine aP Tryz.func98 R 70 R R fun C V=>?_
 refine cL 0 aA ?_
 rintro rfl
 refine cL 1 aA ?_
 rintro rfl
 refine cL 2 aA ?_
 rintro rfl
 let W0:=RR kT3 A2 D2 t1.Dims::RR kT3 A3 D3 t1.Data::RR kT3 A6 D6 b::V
 refine cN W0 ?_
 refine aU ?_
 refine eJ R fun b7=>?_
 refine bE R R dX (fun U=>(aC ?_))
 let W1:=aJ b7 [(sc A2 t1.Dims D2),(sc A3 t1.Data D3)] 42::W0
 refine aQ ?_
 obtain ⟨r9,a6,g⟩:=bd g
 obtain ⟨M,g⟩:=gd g
 obtain ⟨al,a7,g⟩:=bd g
 refine cQ [(1,(iv q)),(2,(sc A6 b D6)),(3,(pt b7 0)),(6,(pt U 0)),(29,(.bool (((!r9)||((b.length:Int)==0))||(!al))))] (aJ U [(.slice none 0 0),(.slice none 0 0)] 42::W1) ?_ ?_
 refine aQ ?_
 refine lM _ (fun w s=>(((s.d 2 R).d 4 R).e 3 [1,0,2])) ?_
 refine lC 2 oH R (Z1h_ok a6) R ?_
 rintro _
 refine aU ?_
 rcases bo (!r9) with a3 | a3
 refine ov ?_
 exact qj tI
 refine cI ?_
 rcases bo ((!r9)||((b.length:Int)==0)) with j | j
 refine dG ?_
 exact qj tI
 refine bI ?_
 refine bC 2 aA (show 0<t1.Dims.length by have:=(M j); omega) (fun ax o13 Y=>?_)
 subst Y
 refine lW (cC j) (eM bM cJ R R (M j)) (lW (cC j) (gK 2 fP aA R (M j)) (lM _ (fun w s=>(s.d 4 R)) ?_))
 refine bU 1 R (cC j) uE R (Z0k_ok (bJ a7 (cX j))) R ?_
 rintro _
 refine aQ ?_
 exact qj tI
 rintro σ1
 refine bX ?_
 split at g
 refine aQ ?_
 refine lO (vz (.agg [(.slice none 0 0),(.slice none 0 0)].toArray) (aX gU dX R R)) (aL 0 R R bT R R R R R R (aC (aG (bY (cG ?_)))))
 cases g
 exact qS ((none,0,0),(none,0,0)) (fun w s=>(((s.nilo kT3 3).nilo kT3 3).e 7 [1,0]))
 refine bI ?_
 obtain ⟨G,a8,g⟩:=bd g
 refine bW ?_
 refine lM _ (fun w s=>(s.d 2 R)) ?_
 refine lC 1 kL R (Z0j_ok a8) R ?_
 rintro ⟨u,aq,E⟩
 refine aM 0 aB ?_
 rintro rfl
 refine cI ?_
 obtain ⟨b0,a9,g⟩:=bd g
 refine aU ?_
 refine lC 1 kj R (FnOk.lends (A':=[OO kT3 3 u E G]) (A:=[RR kT3 u E G]) (B:=[]) (Zp_ok a9) ⟨aZ,trivial⟩ (fun _=>trivial)) R ?_
 rintro _
 refine aQ ?_
 split at g
 refine aQ ?_
 refine lO (vz (.agg [(.slice none 0 0),(.slice none 0 0)].toArray) (aX gU dX R R)) (aL 1 R R bT R R R R R R (aC (aG (bY (cG ?_)))))
 cases g
 exact qS ((none,0,0),(none,0,0)) (fun w s=>(((s.nilo kT3 3).nilo kT3 3).e 8 [1,0]))
 refine bI ?_
 obtain ⟨i,aa,g⟩:=bd g
 refine aU ?_
 refine lC 1 kK R (FnOk.lends (A':=[OO kT3 3 u E G]) (A:=[RR kT3 u E G]) (B:=[]) (Z0i_ok aa) ⟨aZ,trivial⟩ (fun _=>⟨(bN ji),(bN ji),trivial⟩)) R ?_
 rintro ⟨⟨D,ar,F⟩,⟨l,au,m⟩⟩
 refine aM 1 aB ?_
 rintro rfl
 refine aM 2 aB ?_
 rintro rfl
 refine bE R R dX (fun L=>(aL 0 R R bT R R R R R R (lN (aJ L [(sc D i.Dims F),(sc l i.Data m)] 42::_::_::_::_::W1) ?_)))
 refine aQ ?_
 refine bB (A:=((List Int))×(Unit)) (fun a=>Z0s_J1 i a.1=some r) (fun a=>[(6,(pt U 0)),(8,(pt L 0))]) (fun a=>aJ U [(.slice none 0 0),(.slice none 0 0)] 42::aJ L [(sc D i.Dims F),(sc l i.Data m)] 42::OO kT3 3 D F i.Dims::ow kT3 3 (.slice l i.Data.length m) a.1::W1) ?_ ?_
 refine bW ?_
 obtain ⟨e1,aj,ai⟩:=bd g
 refine bD (A:=Unit) aj (fun s a=>[(1,(iv q)),(2,(sc A6 b D6)),(3,(pt b7 0)),(6,(pt U 0)),(7,(sc u G E)),(8,(pt L 0)),(9,(iv s.2))]) (fun s a=>aJ U [(.slice none 0 0),(.slice none 0 0)] 42::OO kT3 3 u E G::aJ L [(sc D i.Dims F),(sc l i.Data m)] 42::OO kT3 3 D F i.Dims::ow kT3 3 (.slice l i.Data.length m) s.1::W1) () (aS R) (tE 5 [4,1,0,2,3]) ?_
 rintro ⟨am,ak⟩ _ σ1 ao g ah
 dsimp only [Z0s_L1] at g
 refine dG ?_
 split at g
 refine bW ?_
 obtain ⟨Z,ab,g⟩:=bd g
 refine aQ ?_
 refine lM _ (tE 5 [1,0,2,3,4]) ?_
 refine lC 1 lF R (FnOk.lends (A':=[OO kT3 3 u E G]) (A:=[RR kT3 u E G]) (B:=[]) (Zm_ok ab) ⟨aZ,trivial⟩ (fun _=>⟨(bN ji),trivial⟩)) R ?_
 rintro ⟨ap,av,a1⟩
 refine aM 1 aB ?_
 rintro rfl
 refine aQ ?_
 obtain ⟨a4,g⟩:=gd g
 obtain ⟨a5,g⟩:=gd g
 obtain ⟨a0,ac,g⟩:=bd g
 obtain ⟨ag,ae,g⟩:=bd g
 obtain ⟨J,g⟩:=gd g
 refine bA 1 aB (show 0<Z.length by have:=a4; omega) (fun a2 o56 Y=>?_)
 subst Y
 refine bA 9 aA (show 0<b.length by have:=a5; omega) (fun ay o59 Y=>?_)
 subst Y
 refine bA 5 aB (show 0<i.Data.length by have:=J; omega) (fun az o67 Y=>?_)
 subst Y
 refine dF 17 [5] bO fun ht hn=>?_
 refine mA 0 [5] ?_
 refine d1 13 R (lM _ (tE 6 [1,0,2,3,4,5]) ?_)
 refine lC 1 kL R (FnOk.lends (A':=[OO kT3 3 (ad a2 o56) a1 Z]) (A:=[RR kT3 (ad a2 o56) a1 Z]) (B:=[]) (Z0j_ok ac) ⟨aZ,trivial⟩ (fun _=>⟨(bN ji),trivial⟩)) R ?_
 rintro ⟨O,aw,T⟩
 refine aM 1 aB ?_
 rintro rfl
 refine aC (aI (tE 7 [2,0,3,4,5]) (d1 14 R (lM _ (fun w s=>(((s.d 8 R).d 10 R).e 9 [3,1,0,2,4,5,6,7,8])) ?_)))
 refine lC 3 ni R (FnOk.lends (A':=[OO kT3 3 O T a0]) (A:=[RR kT3 O T a0]) (B:=[RR kT3 A2 D2 t1.Dims,RR kT3 A3 D3 t1.Data]) (FnOk.perm (Z18_ok ae) (Pre':=[RR kT3 O T a0,RR kT3 A2 D2 t1.Dims,RR kT3 A3 D3 t1.Data]) (fun _ _ _ s=>(s.e 3 [1,2,0]))) ⟨aZ,trivial⟩ (fun _=>trivial)) R ?_
 rintro _
 refine aC (aI (tE 7 [2,1,3,4,5]) (dR 15 R (eM bM cJ R R J) (hS:=(tE 7 [2,1,3,4,5])) (d1 16 R (lM _ (fun w s=>(s.f 7 [6,1,0,6])) ?_))))
 refine eL (K:=kT3) (x':=ag) 0 ak R R cJ R R J.1 J.2 ?_ ?_
 exact fun I h s=>(gR).put I h () ag s
 refine aC (aI (tE 7 [3,2,4,5,6]) (dD ?_))
 refine dU ?_
 cases g
 exact qA () (tE 7 [4,3,5,6,0])
 refine aQ ?_
 cases g
 obtain rfl:=ah _ R
 have g:=ai
 refine aU ?_
 exact qI (am,()) g (tE 5 [0,2,3,4])
 rintro ⟨an,_⟩ σ1 g
 dsimp only [Z0s_J1] at g
 refine aQ ?_
 refine aL 0 R R bT R R R R R R (lN (aJ U [(sc D i.Dims F),(sc l i.Data m)] 42::aJ L [(sc D i.Dims F),(sc l i.Data m)] 42::_::ow kT3 3 (.slice l i.Data.length m) an::W1) ?_)
 refine aQ ?_
 cases g
 exact qS ((D,i.Dims.length,F),(l,i.Data.length,m)) (tE 8 [2,3])
theorem Z0u_ok  {t1:Tensor}{j:Int}{i:(List Int)}{n7:Int}{r:Tensor}(g:Z0u t1 j i n7=some r) :
 FnOk Tryz.prog 99 [(.agg [(.slice A2 N2 D2),(.slice A3 N3 D3)].toArray),(iv j),(.slice A6 N6 D6),(iv n7)] [aN kT3 (.slice A2 N2 D2) t1.Dims,aN kT3 (.slice A3 N3 D3) t1.Data,aN kT3 (.slice A6 N6 D6) i] (fun (h:HH×HH)=>((.agg [(s3 h.1),(s3 h.2)].toArray),[ow kT3 3 (s3 h.1) r.Dims,ow kT3 3 (s3 h.2) r.Data])):=by
 unfold Z0u at g
 refine aP Tryz.func99 R 80 R R fun C V=>?_
 refine cL 0 aA ?_
 rintro rfl
 refine cL 1 aA ?_
 rintro rfl
 refine cL 2 aA ?_
 rintro rfl
 let W0:=RR kT3 A2 D2 t1.Dims::RR kT3 A3 D3 t1.Data::RR kT3 A6 D6 i::V
 refine cN W0 ?_
 refine aU ?_
 refine eJ R fun b8=>?_
 refine bE R R dX (fun Y=>(aC ?_))
 let W1:=aJ b8 [(sc A2 t1.Dims D2),(sc A3 t1.Data D3)] 42::W0
 refine aQ ?_
 obtain ⟨a0,a7,g⟩:=bd g
 obtain ⟨L,g⟩:=gd g
 obtain ⟨am,a8,g⟩:=bd g
 refine cQ [(1,(iv j)),(2,(sc A6 i D6)),(3,(iv n7)),(4,(pt b8 0)),(8,(pt Y 0)),(33,(.bool (((!a0)||((i.length:Int) != (ix t1.Dims j)))||(!am))))] (aJ Y [(.slice none 0 0),(.slice none 0 0)] 42::W1) ?_ ?_
 refine aQ ?_
 refine lM _ (fun w s=>(((s.d 2 R).d 4 R).e 3 [1,0,2])) ?_
 refine lC 2 oH R (Z1h_ok a7) R ?_
 rintro _
 refine aU ?_
 rcases bo (!a0) with D | D
 refine wV ?_
 exact qj tI
 refine cI ?_
 refine bC 2 aA (show 0<t1.Dims.length by have:=(L D); omega) (fun ax o14 Z=>?_)
 subst Z
 refine lW (cC D) (eM bM cJ R R (L D)) (lW (cC D) (gK 2 fP aA R (L D)) ?_)
 refine aQ ?_
 rcases bo ((!a0)||((i.length:Int) != (ix t1.Dims j))) with J | J
 refine bW ?_
 exact qj tI
 refine aU ?_
 refine lM _ (fun w s=>(s.d 4 R)) ?_
 refine bU 1 R (cC J) uE R (Z0k_ok (bJ a8 (cX J))) R ?_
 rintro _
 refine aQ ?_
 exact qj tI
 rintro σ1
 refine bX ?_
 split at g
 refine aQ ?_
 refine lO (vz (.agg [(.slice none 0 0),(.slice none 0 0)].toArray) (aX gU dX R R)) (aL 0 R R bT R R R R R R (aC (aG (bY (cG ?_)))))
 cases g
 exact qS ((none,0,0),(none,0,0)) (fun w s=>(((s.nilo kT3 3).nilo kT3 3).e 7 [1,0]))
 refine bI ?_
 obtain ⟨U,a9,g⟩:=bd g
 refine cI ?_
 refine lM _ (fun w s=>(s.d 2 R)) ?_
 refine lC 1 kL R (Z0j_ok a9) R ?_
 rintro ⟨O,aq,T⟩
 refine aM 0 aB ?_
 rintro rfl
 refine cI ?_
 obtain ⟨b1,aa,g⟩:=bd g
 refine aU ?_
 refine lC 1 kj R (FnOk.lends (A':=[OO kT3 3 O T U]) (A:=[RR kT3 O T U]) (B:=[]) (Zp_ok aa) ⟨aZ,trivial⟩ (fun _=>trivial)) R ?_
 rintro _
 refine aQ ?_
 split at g
 refine aQ ?_
 refine lO (vz (.agg [(.slice none 0 0),(.slice none 0 0)].toArray) (aX gU dX R R)) (aL 1 R R bT R R R R R R (aC (aG (bY (cG ?_)))))
 cases g
 exact qS ((none,0,0),(none,0,0)) (fun w s=>(((s.nilo kT3 3).nilo kT3 3).e 8 [1,0]))
 refine bI ?_
 obtain ⟨b,ab,g⟩:=bd g
 refine aU ?_
 refine lC 1 kK R (FnOk.lends (A':=[OO kT3 3 O T U]) (A:=[RR kT3 O T U]) (B:=[]) (Z0i_ok ab) ⟨aZ,trivial⟩ (fun _=>⟨(bN ji),(bN ji),trivial⟩)) R ?_
 rintro ⟨⟨l,ar,q⟩,⟨m,au,u⟩⟩
 refine aM 1 aB ?_
 rintro rfl
 refine aM 2 aB ?_
 rintro rfl
 refine bE R R dX (fun I=>(aL 0 R R bT R R R R R R (lN (aJ I [(sc l b.Dims q),(sc m b.Data u)] 42::_::_::_::_::W1) ?_)))
 refine aQ ?_
 refine bB (A:=((List Int))×(Unit)) (fun a=>Z0u_J1 b a.1=some r) (fun a=>[(8,(pt Y 0)),(10,(pt I 0))]) (fun a=>aJ Y [(.slice none 0 0),(.slice none 0 0)] 42::aJ I [(sc l b.Dims q),(sc m b.Data u)] 42::OO kT3 3 l q b.Dims::ow kT3 3 (.slice m b.Data.length u) a.1::W1) ?_ ?_
 refine bW ?_
 obtain ⟨e1,al,ak⟩:=bd g
 refine bD (A:=Unit) al (fun s a=>[(1,(iv j)),(2,(sc A6 i D6)),(4,(pt b8 0)),(8,(pt Y 0)),(10,(pt I 0)),(11,(iv s.2))]) (fun s a=>aJ Y [(.slice none 0 0),(.slice none 0 0)] 42::aJ I [(sc l b.Dims q),(sc m b.Data u)] 42::OO kT3 3 l q b.Dims::ow kT3 3 (.slice m b.Data.length u) s.1::W1) () (aS R) (tE 5 [4,0,2,3]) ?_
 rintro ⟨E,b0⟩ _ σ1 ao g aj
 dsimp only [Z0u_L1] at g
 refine dG ?_
 split at g
 refine bW ?_
 obtain ⟨a1,ac,g⟩:=bd g
 refine bI ?_
 refine lM _ (fun w s=>(s.d 5 R)) ?_
 refine lC 1 lF R (Zm_ok ac) R ?_
 rintro ⟨ap,av,a2⟩
 refine aM 0 aB ?_
 rintro rfl
 refine bI ?_
 obtain ⟨a4,g⟩:=gd g
 obtain ⟨a5,g⟩:=gd g
 obtain ⟨M,ae,g⟩:=bd g
 refine bW ?_
 refine bC 0 aB (show 0<a1.length by have:=a4; omega) (fun a3 o61 Z=>?_)
 subst Z
 refine aU ?_
 refine bC 8 aA (show 0<i.length by have:=a5; omega) (fun ay o64 Z=>?_)
 subst Z
 refine aU ?_
 refine lC 1 kL R (FnOk.lends (A':=[OO kT3 3 (ad a3 o61) a2 a1]) (A:=[RR kT3 (ad a3 o61) a2 a1]) (B:=[]) (Z0j_ok ae) ⟨aZ,trivial⟩ (fun _=>⟨(bN ji),trivial⟩)) R ?_
 rintro ⟨F,aw,G⟩
 refine aM 1 aB ?_
 rintro rfl
 refine aQ ?_
 obtain ⟨b2,ag,g⟩:=bd g
 obtain ⟨a6,g⟩:=gd g
 obtain ⟨b3,ah,g⟩:=bd g
 obtain ⟨b4,ai,g⟩:=bd g
 refine bA 8 aA (show 0<t1.Data.length by have:=a6; omega) (fun az o72 Z=>?_)
 subst Z
 refine dF 12 [5] bO fun ht hn=>?_
 refine oy 0 [5] ?_
 refine ko 5 [5] ?_
 refine d1 4 R (lM _ (tE 6 [4,5,1,0,2,3]) ?_)
 refine lC 3 ni R (FnOk.lends (A':=[OO kT3 3 l q b.Dims,ow kT3 3 (.slice m b.Data.length u) E,OO kT3 3 F G M]) (A:=[RR kT3 l q b.Dims,aN kT3 (.slice m b.Data.length u) E,RR kT3 F G M]) (B:=[]) (Z18_ok (t1:=(⟨b.Dims,E⟩:Tensor)) ag) ⟨aZ,aZ,aZ,trivial⟩ (fun _=>trivial)) R ?_
 rintro _
 refine aC (aI (tE 6 [3,2,4,5,0]) (d1 10 R (lC 0 qo R (Z1n_ok ah) R ?_)))
 rintro _
 refine aC (aI (tE 6 [3,2,4,5,0]) (d1 11 R (lM _ (tE 6 [0,2,1,3,4,5]) ?_)))
 refine lC 3 sU R (FnOk.lends (A':=[OO kT3 3 l q b.Dims,OO kT3 3 F G M]) (A:=[RR kT3 l q b.Dims,RR kT3 F G M]) (B:=[ow kT3 3 (.slice m b.Data.length u) E]) (FnOk.perm (Z1x_ok (t1:=(⟨b.Dims,E⟩:Tensor)) ai) (Pre':=[RR kT3 l q b.Dims,RR kT3 F G M,ow kT3 3 (.slice m b.Data.length u) E]) (fun _ _ _ s=>(s.e 3 [0,2,1]))) ⟨aZ,aZ,trivial⟩ (fun _=>⟨(bN ji),trivial⟩)) R ?_
 rintro _
 refine aC (aI (tE 6 [3,1,4,5,0]) (dD ?_))
 refine dU ?_
 cases g
 exact qA () (tE 6 [4,5,0,2])
 refine aQ ?_
 cases g
 obtain rfl:=aj _ R
 have g:=ak
 refine aU ?_
 exact qI (E,()) g tI
 rintro ⟨an,_⟩ σ1 g
 dsimp only [Z0u_J1] at g
 refine aQ ?_
 refine aL 0 R R bT R R R R R R (lN (aJ Y [(sc l b.Dims q),(sc m b.Data u)] 42::_::_::ow kT3 3 (.slice m b.Data.length u) an::W1) ?_)
 refine aQ ?_
 cases g
 exact qS ((l,b.Dims.length,q),(m,b.Data.length,u)) (tE 8 [2,3])
end Go.Proofs.YthelanpdjajnbaaGreat
