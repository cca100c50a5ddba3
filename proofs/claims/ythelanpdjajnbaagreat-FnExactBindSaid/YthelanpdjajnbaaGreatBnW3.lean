import Derived.Test.YthelanpdjajnbaaGreatBnF
import Derived.Test.YthelanpdjajnbaaGreatBnW2
set_option linter.unusedVariables false
set_option maxRecDepth 20000
namespace Go.Proofs.YthelanpdjajnbaaGreat
open Go Go.Pg
variable {A2 A3 A5 A6:Option Addr}{D2 D3 D5 D6 N2 N3 N5 N6:Nat}
theorem Z5_ok  {a4:aO}{i:(List Tensor)}{r:Tensor}(b:Z5 a4 i=some r) :
 FnOk Tryz.prog 91 [(aH a4),(.slice A3 N3 D3)] [aQ dY (.slice A3 N3 D3) i] (fun (h:HH×HH)=>((.agg [(s3 h.1),(s3 h.2)].toArray),[ow kT3 3 (s3 h.1) r.Dims,ow kT3 3 (s3 h.2) r.Data])):=by
 unfold Z5 at b
 refine aR Tryz.func91 R 142 R R fun C V=>?_
 refine cL 0 aA ?_
 rintro rfl
 let W0:=RR dY A3 D3 i::V
 refine cN W0 ?_
 refine aZ ?_
 refine aY R R dN (fun U=>(aC (aE (aI ?_))))
 obtain ⟨l,c3,b⟩:=bd b
 refine aD (lO (vp (aH a4) R) (lC 0 zf R (Z0_ok c3) R ?_))
 rintro ⟨A7,N7,D7⟩
 refine aM 0 aB ?_
 rintro rfl
 refine lO (vT R) (lS R (lO (vp (aH l.2.1) R) (lB R (lS R (lO (vp (aH l.2.1) R) ?_)))))
 refine cR ?_
 refine cQ [(1,(sc A3 i D3)),(4,(pt U 0)),(5,(sc A7 l.1 D7)),(6,(aH l.2.1)),(35,(.bool ((!l.2.2)||((l.1.length:Int) != (i.length:Int)))))] (aJ U [(.slice none 0 0),(.slice none 0 0)] 42::OO kT9 9 A7 D7 l.1::W0) ?_ ?_
 refine bI ?_
 rcases bo (!l.2.2) with bp | bp
 refine dO ?_
 exact qj (tE 2 [1,0])
 refine dO ?_
 exact qj (tE 2 [1,0])
 rintro σ1
 refine cA ?_
 split at b
 refine aU ?_
 refine lO (vz (.agg [(.slice none 0 0),(.slice none 0 0)].toArray) (aV hG dN R R)) (aL 0 R R bW R R R R R R (aC (aE (bO (bP ?_)))))
 cases b
 exact qS ((none,0,0),(none,0,0)) (fun w s=>(((s.nilo kT3 3).nilo kT3 3).e 5 [1,0]))
 refine cR ?_
 refine bU (K:=kT23) (xs:=([]:List (List Int))) (vs:=[]) 0 R R kC gB mM R R R R R R ?_ R (fun A10 D10=>?_)
 exact fun I h s=>(nh).list [] I h s
 refine bI ?_
 refine bE (A:=((List (List Int)))×(HH)) (fun a=>Z5_J1 i l a.1=some r) (fun a=>[(1,(sc A3 i D3)),(4,(pt U 0)),(5,(sc A7 l.1 D7)),(6,(aH l.2.1)),(8,(s3 a.2))]) (fun a=>aJ U [(.slice none 0 0),(.slice none 0 0)] 42::OO kT9 9 A7 D7 l.1::ow (kT23).share 23 (s3 a.2) a.1::W0) ?_ ?_
 refine cE ?_
 obtain ⟨e1,bz,b8⟩:=bd b
 refine bF (A:=HH) bz (fun s a=>[(1,(sc A3 i D3)),(4,(pt U 0)),(5,(sc A7 l.1 D7)),(6,(aH l.2.1)),(8,(s3 a)),(9,(iv s.2))]) (fun s a=>aJ U [(.slice none 0 0),(.slice none 0 0)] 42::OO kT9 9 A7 D7 l.1::ow (kT23).share 23 (s3 a) s.1::W0) (A10,([]:List (List Int)).length,D10) (aS R) (fun w s=>((s.wk 0 R).e 3 [1,2,0])) ?_
 rintro ⟨F,Y⟩ ⟨bh,bl,bj⟩ σ1 ca b b5
 dsimp only [Z5_L1] at b
 refine bQ 2 fI (fun (hn:bl=F.length)=>?_)
 subst hn
 refine dC ?_
 split at b
 refine dO ?_
 obtain ⟨ag,b⟩:=gd b
 obtain ⟨cu,b9,b⟩:=bd b
 refine aU ?_
 refine bG 3 aA (show 0<i.length by have:=ag; omega) (fun bn o29 ha=>?_)
 subst ha
 refine cA ?_
 refine hK (K:=dY) 3 Y dT42.dec R ag.1 ag.2 ?_
 rintro ⟨⟨ao,ap⟩,⟨bi,bk⟩⟩
 refine lO (vz (.agg [(sc ao ((ix i Y).Dims) ap),(sc bi ((ix i Y).Data) bk)].toArray) (eJ (fo:=0) 0 eR bW R R R R)) (lM _ (fun w s=>(((s.d 1 R).d 3 R).f 8 [1,1,0,1,2,6])) ?_)
 refine lC 2 mL R (Zi_ok b9) R ?_
 rintro _
 refine aU ?_
 split at b
 refine aU ?_
 refine lO (vz (.agg [(.slice none 0 0),(.slice none 0 0)].toArray) (aV hG dN R R)) (aL 3 R R bW R R R R R R (aC (aE (bO (bP (cF (bP ?_)))))))
 cases b
 obtain rfl:=b5 _ R
 have b:=b8
 refine aU ?_
 cases b
 exact qS ((none,0,0),(none,0,0)) (fun w s=>(((s.nilo kT3 3).nilo kT3 3).e 9 [1,0]))
 refine aU ?_
 obtain ⟨b6,b⟩:=gd b
 refine cR ?_
 refine lO (vz (.pointer (some ⟨bn,o29+Y.toNat*2,none⟩)) (gN fT R R)) (lO (eD (fo:=0) 0 cB R R R) (lM _ (fun w s=>(s.d 1 R)) ?_))
 refine bU (K:=(kT23).share) (xs:=([(ix i Y).Dims]:List (List Int))) (vs:=[(sc ao ((ix i Y).Dims) ap)]) 1 R R kC gB mM R R R R R R ?_ R (fun ci cm=>?_)
 exact fun I h s=>(sX).list [((sc ao ((ix i Y).Dims) ap),(ix i Y).Dims)] I h s
 refine lM _ (fun w s=>(s.f 7 [6,1,0,6])) ?_
 refine eO (K:=(kT23).share) 5864062014805 R R kC gB uQ (Zr.zk (Zr.share zT23) mM) R R R R R R dQ b6 (fun az b2=>(lN (OO (kT23).share 23 az b2 (F++([(ix i Y).Dims]:List (List Int)))::_::_::_::_::_::W0) ?_))
 refine dC ?_
 cases b
 exact qA (az,(F++([(ix i Y).Dims]:List (List Int))).length,b2) (tE 6 [4,5,0])
 refine aU ?_
 cases b
 obtain rfl:=b5 _ R
 have b:=b8
 refine aZ ?_
 exact qI (F,(bh,F.length,bj)) b tI
 rintro ⟨a1,⟨b0,bm,b3⟩⟩ σ1 b
 dsimp only [Z5_J1] at b
 refine bQ 2 fI (fun (hn:bm=a1.length)=>?_)
 subst hn
 refine cA ?_
 obtain ⟨j,ba,b⟩:=bd b
 refine aZ ?_
 refine lO (vp (aH l.2.1) R) (lS R (lM _ (tE 3 [1,2,0]) ?_))
 refine lC 2 zg R (FnOk.lends (A':=[OO kT9 9 A7 D7 l.1,OO (kT23).share 23 b0 b3 a1]) (A:=[RR kT9 A7 D7 l.1,RR kT23 b0 b3 a1]) (B:=[]) (Z2_ok ba) ⟨aP,qw,trivial⟩ (fun _=>⟨(bB iF),trivial⟩)) R ?_
 rintro ⟨M,cp,O⟩
 refine aM 2 aB ?_
 rintro rfl
 refine lO (vT R) (lO (vp (aH j.1) R) (lS R (lB R (lO (vp (aH j.1) R) ?_))))
 refine cE ?_
 obtain ⟨ah,b⟩:=gd b
 obtain ⟨c4,bb,b⟩:=bd b
 refine cQ [(1,(sc A3 i D3)),(4,(pt U 0)),(5,(sc A7 l.1 D7)),(6,(aH l.2.1)),(10,(aH j.1)),(11,(sc M j.2.1 O)),(76,(.bool ((!j.2.2)||(!c4))))] (aJ U [(.slice none 0 0),(.slice none 0 0)] 42::OO kT9 9 A7 D7 l.1::RR kT3 M O j.2.1::W0) ?_ ?_
 refine bI ?_
 rcases bo (!j.2.2) with G | G
 refine dI ?_
 exact qj (fun w s=>((s.shr 2 R).e 4 [3,1,0]))
 refine cA ?_
 refine lW (bJ G) (vp (aH l.2.1) R) (lW (bJ G) (vz (il l.2.1) (dM gA R)) (je (fun w s=>s.shr 2 R) (gQ (K:=kT3) (0:Int) (l.2.1.length:Int) 0 R (bJ G) bT cS R R R R (ah G).1 (ah G).2.1 (ah G).2.2 (fun cj cn=>(lM _ (fun w s=>(s.d 0 R)) ?_)))))
 refine bY 1 R (bJ G) kr R (Zo_ok (bL bb (cP G))) R ?_
 rintro _
 refine aU ?_
 exact qj (tE 5 [4,2,1])
 rintro σ1
 refine cA ?_
 split at b
 refine aU ?_
 refine lO (vz (.agg [(.slice none 0 0),(.slice none 0 0)].toArray) (aV hG dN R R)) (aL 0 R R bW R R R R R R (lN (_::_::_::W0) ?_))
 refine bI ?_
 cases b
 exact qS ((none,0,0),(none,0,0)) (fun w s=>(((s.nilo kT3 3).nilo kT3 3).e 6 [1,0]))
 refine bI ?_
 obtain ⟨ai,b⟩:=gd b
 obtain ⟨g,bc,b⟩:=bd b
 refine aZ ?_
 refine lO (vp (aH l.2.1) R) (lO (vz (il l.2.1) (dM gA R)) (gQ (K:=kT3) (0:Int) (l.2.1.length:Int) 2 R R bT cS R R R R ai.1 ai.2.1 ai.2.2 (fun ck co=>(lM _ (fun w s=>(s.d 0 R)) ?_))))
 refine lC 1 kX R (Z0g_ok bc) R ?_
 rintro ⟨⟨m,cq,q⟩,⟨u,cr,D⟩⟩
 refine aM 0 aB ?_
 rintro rfl
 refine aM 1 aB ?_
 rintro rfl
 refine aY R R dN (fun E=>(aL 0 R R bW R R R R R R (lN (aJ E [(sc m g.Dims q),(sc u g.Data D)] 42::_::_::_::_::_::_::W0) ?_)))
 refine dI ?_
 refine bE (A:=(Int)×(Unit)) (fun a=>Z5_J2 i l j g a.1=some r) (fun a=>[(1,(sc A3 i D3)),(4,(pt U 0)),(5,(sc A7 l.1 D7)),(6,(aH l.2.1)),(10,(aH j.1)),(11,(sc M j.2.1 O)),(13,(pt E 0)),(14,(iv a.1))]) (fun a=>aJ U [(.slice none 0 0),(.slice none 0 0)] 42::OO kT9 9 A7 D7 l.1::RR kT3 M O j.2.1::aJ E [(sc m g.Dims q),(sc u g.Data D)] 42::OO kT3 3 m q g.Dims::OO kT3 3 u D g.Data::W0) ?_ ?_
 refine cE ?_
 obtain ⟨e2,c0,bu⟩:=bd b
 refine bF (A:=Unit) c0 (fun s a=>[(1,(sc A3 i D3)),(4,(pt U 0)),(5,(sc A7 l.1 D7)),(6,(aH l.2.1)),(10,(aH j.1)),(11,(sc M j.2.1 O)),(13,(pt E 0)),(14,(iv s.1)),(15,(iv s.2))]) (fun s a=>aJ U [(.slice none 0 0),(.slice none 0 0)] 42::OO kT9 9 A7 D7 l.1::RR kT3 M O j.2.1::aJ E [(sc m g.Dims q),(sc u g.Data D)] 42::OO kT3 3 m q g.Dims::OO kT3 3 u D g.Data::W0) () (aS R) (fun w s=>(s.f 7 [4,3,0,3])) ?_
 rintro ⟨am,ct⟩ _ σ1 cb b bq
 dsimp only [Z5_L2] at b
 refine dC ?_
 split at b
 refine cR ?_
 obtain ⟨b7,b⟩:=gd b
 refine bI ?_
 refine bG 2 aA (show 0<j.2.1.length by have:=b7; omega) (fun cs o68 ha=>?_)
 subst ha
 refine iY ?_
 cases b
 exact qA () tI
 refine aU ?_
 cases b
 obtain rfl:=bq _ R
 have b:=bu
 refine aZ ?_
 exact qI (am,()) b tI
 rintro ⟨a3,_⟩ σ1 b
 dsimp only [Z5_J2] at b
 refine aI (bE (A:=((List Int))×(Unit)) (fun a=>Z5_J5 g a.1=some r) (fun a=>[(4,(pt U 0)),(13,(pt E 0))]) (fun a=>aJ U [(.slice none 0 0),(.slice none 0 0)] 42::aJ E [(sc m g.Dims q),(sc u g.Data D)] 42::OO kT3 3 m q g.Dims::ow kT3 3 (.slice u g.Data.length D) a.1::W0) ?_ ?_)
 refine cE ?_
 obtain ⟨e3,c1,bv⟩:=bd b
 refine bF (A:=Unit) c1 (fun s a=>[(1,(sc A3 i D3)),(4,(pt U 0)),(5,(sc A7 l.1 D7)),(6,(aH l.2.1)),(10,(aH j.1)),(11,(sc M j.2.1 O)),(13,(pt E 0)),(14,(iv a3)),(16,(iv s.2))]) (fun s a=>aJ U [(.slice none 0 0),(.slice none 0 0)] 42::OO kT9 9 A7 D7 l.1::RR kT3 M O j.2.1::aJ E [(sc m g.Dims q),(sc u g.Data D)] 42::OO kT3 3 m q g.Dims::ow kT3 3 (.slice u g.Data.length D) s.1::W0) () (aS R) tI ?_
 rintro ⟨T,aj⟩ _ σ1 be b br
 dsimp only [Z5_L3] at b
 refine dI ?_
 split at b
 refine cE ?_
 obtain ⟨L,aq,b⟩:=bd b
 refine aU ?_
 refine lM _ (fun w s=>(s.d 2 R)) ?_
 refine lC 1 lU R (Zj_ok aq) R ?_
 rintro ⟨Z,c5,a0⟩
 refine aM 0 aB ?_
 rintro rfl
 refine dC ?_
 refine bE (A:=(Int)×(Unit)) (fun a=>Z5_J4 l g T aj L a.1=some be) (fun a=>[(1,(sc A3 i D3)),(4,(pt U 0)),(5,(sc A7 l.1 D7)),(6,(aH l.2.1)),(10,(aH j.1)),(11,(sc M j.2.1 O)),(13,(pt E 0)),(14,(iv a3)),(16,(iv aj)),(17,(sc Z L a0)),(18,(iv a.1))]) (fun a=>aJ U [(.slice none 0 0),(.slice none 0 0)] 42::OO kT9 9 A7 D7 l.1::RR kT3 M O j.2.1::aJ E [(sc m g.Dims q),(sc u g.Data D)] 42::OO kT3 3 m q g.Dims::ow kT3 3 (.slice u g.Data.length D) T::OO kT3 3 Z a0 L::W0) ?_ ?_
 refine cE ?_
 obtain ⟨e4,c2,bw⟩:=bd b
 refine bF (A:=Unit) c2 (fun s a=>[(1,(sc A3 i D3)),(4,(pt U 0)),(5,(sc A7 l.1 D7)),(6,(aH l.2.1)),(10,(aH j.1)),(11,(sc M j.2.1 O)),(13,(pt E 0)),(14,(iv a3)),(16,(iv aj)),(17,(sc Z L a0)),(18,(iv s.1)),(19,(iv s.2))]) (fun s a=>aJ U [(.slice none 0 0),(.slice none 0 0)] 42::OO kT9 9 A7 D7 l.1::RR kT3 M O j.2.1::aJ E [(sc m g.Dims q),(sc u g.Data D)] 42::OO kT3 3 m q g.Dims::ow kT3 3 (.slice u g.Data.length D) T::OO kT3 3 Z a0 L::W0) () (aS R) (fun w s=>(s.f 7 [1,6,0,1])) ?_
 rintro ⟨bg,J⟩ _ σ1 cc b bs
 dsimp only [Z5_L4] at b
 refine dC ?_
 split at b
 refine cR ?_
 obtain ⟨a5,b⟩:=gd b
 obtain ⟨a6,b⟩:=gd b
 obtain ⟨ak,ar,b⟩:=bd b
 obtain ⟨cf,au,b⟩:=bd b
 obtain ⟨cg,av,b⟩:=bd b
 refine bA 7 aA (show 0<i.length by have:=a5; omega) (fun c7 o149 ha=>?_)
 subst ha
 refine dG (K:=dY) 7 J dT42.dec R a5.1 a5.2 ?_
 rintro ⟨⟨a8,ab⟩,⟨a9,ac⟩⟩
 refine bA 4 aB (show 0<l.1.length by have:=a6; omega) (fun c8 o154 ha=>?_)
 subst ha
 refine cX 15 [] bM fun ht hn=>?_
 refine oK 0 [] ?_
 refine dR 4 R (vz (.agg [(sc a8 ((ix i J).Dims) ab),(sc a9 ((ix i J).Data) ac)].toArray) (eJ (fo:=0) 0 eR bW R R R R)) ?_
 refine iJ 5 [] ?_
 refine dR 8 R (vz (aH (ix l.1 J)) (gW (K:=kT9) (fo:=0) (pr:=fun x=>(aH x)) 4 J pl (dT9.leaf fun _ _=>R) aB R a6.1 a6.2)) (dR 9 R (vp (aH j.1) R) (dR 10 R (vS R) (d1 11 R (lM _ (fun w s=>(s.f 10 [9,1,0,9])) ?_))))
 refine lC 1 zh R (FnOk.lends (A':=[OO kT3 3 Z a0 L]) (A:=[RR kT3 Z a0 L]) (B:=[]) (Zg_ok ar) ⟨aP,trivial⟩ (fun _=>⟨(bB iF),trivial⟩)) R ?_
 rintro ⟨aa,c6,ae⟩
 refine aM 1 aB ?_
 rintro rfl
 refine aC (aG (fun w s=>(s.f 11 [2,9,0,1])) (d1 12 R (lM _ (fun w s=>(((s.d 3 R).d 5 R).f 13 [3,1,1,1,0,1,2,1,4,9])) ?_)))
 refine lC 3 nr R (FnOk.lends (A':=[OO kT3 3 aa ae ak]) (A:=[RR kT3 aa ae ak]) (B:=[RR kT3 a8 ab ((ix i J).Dims),RR kT3 a9 ac ((ix i J).Data)]) (FnOk.perm (Z16_ok au) (Pre':=[RR kT3 aa ae ak,RR kT3 a8 ab ((ix i J).Dims),RR kT3 a9 ac ((ix i J).Data)]) (fun _ _ _ s=>(s.e 3 [1,2,0]))) ⟨aP,trivial⟩ (fun _=>trivial)) R ?_
 rintro _
 refine aC (aG (fun w s=>(s.f 11 [2,9,1,1])) (d1 13 R (lC 0 oO R (Z1f_ok av) R ?_)))
 rintro _
 refine aC (aG (fun w s=>(s.f 11 [2,9,1,1])) (dR 14 R (vI R) (hS:=(fun w s=>(s.f 11 [2,9,1,1]))) (dD ?_)))
 refine dO ?_
 cases b
 exact qA () (fun w s=>(s.f 11 [5,6,1,1]))
 refine aU ?_
 cases b
 obtain rfl:=bs _ R
 have b:=bw
 refine aZ ?_
 exact qI (bg,()) b tI
 rintro ⟨ch,_⟩ σ1 b
 dsimp only [Z5_J4] at b
 refine cA ?_
 obtain ⟨a7,b⟩:=gd b
 obtain ⟨bf,aw,b⟩:=bd b
 refine cX 8 [6] bM fun ht hn=>?_
 refine iJ 0 [6] ?_
 refine dR 3 R (vp (aH l.2.1) R) (hS:=(sL [6])) (dR 4 R (vz (il l.2.1) (dM gA R)) (hS:=(sL [6])) (d1 5 R (je (fun w s=>s.shr 6 R) (gQ (K:=kT3) (0:Int) (l.2.1.length:Int) 0 R R bT cS R R R R a7.1 a7.2.1 a7.2.2 (fun ay b1=>(aC (aG (sL [1,0]) (d1 6 R (lM _ (fun w s=>((s.d 0 R).f 9 [7,1,0,7,8,1])) ?_)))))))))
 refine lC 2 t2 R (FnOk.lends (A':=[OO kT3 3 m q g.Dims]) (A:=[RR kT3 m q g.Dims]) (B:=[RR kT3 ay b1 (sub L (0:Int) (l.2.1.length:Int))]) (Z0n_ok aw) ⟨aP,trivial⟩ (fun _=>trivial)) R ?_
 rintro _
 refine aC (aG (tE 8 [3,4,5,6,0,7]) (dR 7 R (vI R) (hS:=(tE 8 [3,4,5,6,0,7])) (dD (aE ?_))))
 obtain ⟨a2,b⟩:=gd b
 obtain ⟨an,ax,b⟩:=bd b
 refine bA 7 aB (show 0<g.Data.length by have:=a2; omega) (fun c9 o171 ha=>?_)
 subst ha
 refine cX 12 [7] bM fun ht hn=>?_
 refine sU 0 [7] ?_
 refine oJ 8 [7] ?_
 refine d1 7 R (lO (hX 7 fR aB R a2) (aC (aG (sL [7]) (d1 9 R (lC 0 qz R (Z1m_ok ax) R ?_)))))
 rintro _
 refine aC (aG (sL [7]) ?_)
 refine oJ 10 [7] ?_
 refine d1 11 R (lM _ (fun w s=>(s.f 8 [7,1,0,7])) ?_)
 refine dZ (K:=kT3) (x':=an) 0 bf R R cS R R a2.1 a2.2 ?_ ?_
 exact fun I h s=>(hD).put I h () an s
 refine aC (aG (sL [0]) (dD ?_))
 refine dO ?_
 cases b
 exact qA () (tE 8 [4,5,6,7,1,0])
 refine aU ?_
 cases b
 obtain rfl:=br _ R
 have b:=bv
 refine aZ ?_
 exact qI (T,()) b (tE 6 [0,3,4,5])
 rintro ⟨al,_⟩ σ1 b
 dsimp only [Z5_J5] at b
 refine aU ?_
 refine aL 0 R R bW R R R R R R (lN (aJ U [(sc m g.Dims q),(sc u g.Data D)] 42::aJ E [(sc m g.Dims q),(sc u g.Data D)] 42::_::ow kT3 3 (.slice u g.Data.length D) al::W0) ?_)
 refine aU ?_
 cases b
 exact qS ((m,g.Dims.length,q),(u,g.Data.length,D)) (tE 5 [2,3])
theorem Z0f_ok  {v1:View}{r:View}(b:Z0f v1=some r) :
 FnOk Tryz.prog 135 [(.agg [(.slice A2 N2 D2),(.slice A3 N3 D3),(iv v1.Offset),(iv v1.Base)].toArray)] [aQ kT3 (.slice A2 N2 D2) v1.Dims,ow kT3 3 (.slice A3 N3 D3) v1.Strides] (fun (h:HH×HH)=>((.agg [(s3 h.1),(s3 h.2),(iv r.Offset),(iv r.Base)].toArray),[aQ kT3 (s3 h.1) r.Dims,ow kT3 3 (s3 h.2) r.Strides])):=by
 unfold Z0f at b
 refine aR Tryz.func135 R 22 R R fun C V=>?_
 refine cM _ (tE 2 [1,0]) ?_
 refine cL 0 aB ?_
 rintro rfl
 refine cL 1 aA ?_
 rintro rfl
 let J:=RR kT3 A2 D2 v1.Dims::V
 refine aZ ?_
 refine eA R fun u=>?_
 refine aY R R cC (fun i=>(aC (qM _ (tE 3 [0,2,1]) ?_)))
 let q:=aJ u [(sc A2 v1.Dims D2),(sc A3 v1.Strides D3),(iv v1.Offset),(iv v1.Base)] 111::J
 refine aZ ?_
 refine bE (A:=((List Int))×(Unit)) (fun a=>Z0f_J3 v1 a.1=some r) (fun a=>[(1,(pt u 0)),(2,(pt i 0))]) (fun a=>aJ i [(.slice none 0 0),(.slice none 0 0),(iv 0),(iv 0)] 111::ow kT3 3 (.slice A3 v1.Strides.length D3) a.1::q) ?_ ?_
 refine cE ?_
 obtain ⟨T,F,E⟩:=bd b
 refine bF (A:=Unit) F (fun s a=>[(1,(pt u 0)),(2,(pt i 0)),(3,(iv s.1))]) (fun s a=>aJ i [(.slice none 0 0),(.slice none 0 0),(iv 0),(iv 0)] 111::ow kT3 3 (.slice A3 v1.Strides.length D3) s.2::q) () (aS R) tI ?_
 rintro ⟨g,j⟩ _ σ1 m b D
 dsimp only [Z0f_L1] at b
 refine dA ?_
 split at b
 refine bI ?_
 refine bE (A:=((List Int))×(Unit)) (fun a=>Z0f_J2 g a.1=some m) (fun a=>[(1,(pt u 0)),(2,(pt i 0)),(3,(iv g))]) (fun a=>aJ i [(.slice none 0 0),(.slice none 0 0),(iv 0),(iv 0)] 111::ow kT3 3 (.slice A3 v1.Strides.length D3) a.1::q) ?_ ?_
 refine aZ ?_
 obtain ⟨l,b⟩:=gd b
 refine bI ?_
 refine bG 3 aA (show 0<v1.Dims.length by have:=l; omega) (fun L o20 B=>?_)
 subst B
 refine cR ?_
 split at b
 refine cA ?_
 obtain ⟨e,b⟩:=gd b
 refine bI ?_
 refine bG 1 aB (show 0<v1.Strides.length by have:=e; omega) (fun M o24 B=>?_)
 subst B
 refine cA ?_
 refine lM _ (tE 2 [1,0]) ?_
 refine dZ (K:=kT3) (x':=(0:Int)) 0 g R R cS R R e.1 e.2 ?_ ?_
 exact fun I h s=>(hD).put I h () (0:Int) s
 refine aZ ?_
 exact qI ((j.set g.toNat (0:Int)),()) b (tE 2 [1,0])
 refine aU ?_
 exact qI (j,()) b tI
 rintro ⟨O,_⟩ σ1 b
 dsimp only [Z0f_J2] at b
 refine cR ?_
 cases b
 exact qA () tI
 refine aU ?_
 cases b
 obtain rfl:=D _ R
 have b:=E
 refine aZ ?_
 exact qI (j,()) b tI
 rintro ⟨G,_⟩ σ1 b
 dsimp only [Z0f_J3] at b
 refine aU ?_
 refine aL 0 R R bX R R R R R R (lN (aJ i [(sc A2 v1.Dims D2),(sc A3 v1.Strides D3),(iv v1.Offset),(iv v1.Base)] 111::ow kT3 3 (.slice A3 v1.Strides.length D3) G::q) ?_)
 refine aU ?_
 cases b
 exact qS ((A2,v1.Dims.length,D2),(A3,v1.Strides.length,D3)) (tE 4 [3,1])
theorem Zu_ok  {b:(List Int)}{r:View}(g:Zu b=some r) :
 FnOk Tryz.prog 94 [(.slice A2 N2 D2)] [aQ kT3 (.slice A2 N2 D2) b] (fun (h:HH×HH)=>((.agg [(.slice h.1.1 h.1.2.1 h.1.2.2),(.slice h.2.1 h.2.2.1 h.2.2.2),(iv r.Offset),(iv r.Base)].toArray),[aQ kT3 (.slice h.1.1 h.1.2.1 h.1.2.2) r.Dims,ow kT3 3 (.slice h.2.1 h.2.2.1 h.2.2.2) r.Strides])):=by
 unfold Zu at g
 refine aR Tryz.func94 R 32 R R fun C V=>?_
 refine cN (_::V) ?_
 refine cL 0 aA ?_
 rintro rfl
 let l:List HP:=RR kT3 A2 D2 b::V
 refine cN l ?_
 refine aI (aD (aY R R cC (fun b3=>(aC (aE (aI (aI ?_)))))))
 obtain ⟨r4,al,g⟩:=bd g
 refine aD (lS R (lM (RR kT3 A2 D2 b::_::l) (fun w s=>(s.d 1 R)) ?_))
 refine lC 1 kr R (Zo_ok al) R ?_
 rintro _
 refine lN (_::l) ?_
 refine lO (ki R) (aC (aE ?_))
 rcases cG g with ⟨a2,g⟩|⟨a2,g⟩
 refine bS R a2 (aI (aD (lO (vz (.agg [(.slice none 0 0),(.slice none 0 0),(iv 0),(iv 0)].toArray) (aV dU cC R R)) (aL 0 R R bX R R R R R R (aC (aE (bO (bP ?_))))))))
 obtain rfl:=so g
 exact cY (vs:=[(.agg [(.slice none 0 0),(.slice none 0 0),(iv 0),(iv 0)].toArray)]) (.inl R) ((none,0,0),(none,0,0)) R ⟨⟨0,b3,_,_,R,R,.inl ⟨eU,bX,R⟩⟩,trivial⟩ R (fun w s=>(((s.nilr kT3).nilo kT3 3).e 4 [1,0]))
 refine bC R a2 (bZ (aE (aI ?_)))
 obtain ⟨u,am,g⟩:=bd g
 obtain ⟨j,a6,g⟩:=bd g
 refine aD (lS R (lM (RR kT3 A2 D2 b::_::l) (fun w s=>(s.d 1 R)) ?_))
 refine lC 1 iP R (Z9_ok am) R ?_
 rintro ⟨A9,N9,D9⟩
 refine lN (ow kT3 3 (.slice A9 N9 D9) u::_::l) ?_
 refine aM 0 aB ?_
 rintro rfl
 refine lS R (lM (RR kT3 A2 D2 b::_::_::l) (fun w s=>(s.d 2 R)) ?_)
 refine lC 1 nR R (Zt_ok a6) R ?_
 rintro _
 refine lN (_::_::l) ?_
 refine lO (vz (.agg [(sc A9 u D9),(.slice none 0 0),(iv 0),(iv j)].toArray) (aV dU cC R R)) (aY R R cC (fun q=>(aL 0 R R bX R R R R R R (lN (aJ q [(sc A9 u D9),(.slice none 0 0),(iv 0),(iv j)] 111::_::_::l) ?_))))
 refine aC (aE (aI (bE (A:=((List Int))×(HH)) (fun a=>Zu_J1 u j a.1=some r) (fun a=>[(2,(pt b3 0)),(3,(pt q 0))]) (fun a=>aJ b3 [(.slice none 0 0),(.slice none 0 0),(iv 0),(iv 0)] 111::aJ q [(sc A9 u D9),(.slice a.2.1 a.2.2.1 a.2.2.2),(iv 0),(iv j)] 111::OO kT3 3 A9 D9 u::ow kT3 3 (.slice a.2.1 a.2.2.1 a.2.2.2) a.1::l) ?_ ?_)))
 refine aI (aD (lI R (aC (aE (dK ?_)))))
 obtain ⟨e1,ak,aj⟩:=bd g
 refine bF (A:=HH) ak (fun s a=>[(0,(sc A2 b D2)),(2,(pt b3 0)),(3,(pt q 0)),(4,(iv s.2))]) (fun s a=>aJ b3 [(.slice none 0 0),(.slice none 0 0),(iv 0),(iv 0)] 111::aJ q [(sc A9 u D9),(.slice a.1 a.2.1 a.2.2),(iv 0),(iv j)] 111::OO kT3 3 A9 D9 u::ow kT3 3 (.slice a.1 a.2.1 a.2.2) s.1::l) (none,0,0) (aS R) (fun w s=>((s.nilo kT3 3).e 4 [3,1,2,0])) ?_
 rintro ⟨m,O⟩ ⟨T,ac,Z⟩ σ1 a9 g ai
 replace g:Zu_L1 b m O=some a9:=g
 unfold Zu_L1 at g
 refine bQ 3 aB (fun (hn:ac=m.length)=>?_)
 subst hn
 refine aI (aI (aD (lI R (lS R (lO (gV bT R) (lO (jh R R) (aC (aE ?_))))))))
 rcases cG g with ⟨E,g⟩|⟨E,g⟩
 refine bS R E (bZ (aE (aI (dK ?_))))
 obtain ⟨F,g⟩:=gd g
 obtain ⟨B,a7,g⟩:=bd g
 obtain ⟨a5,g⟩:=gd g
 refine cX 8 [] bM (fun ht hn=>(dR 0 R (dS 1 fK R) (dR 1 R (dV 1 cB R R R) (dR 2 R (vS R) (dR 3 R (vI R) (dR 4 R (kM R R) (d1 5 R (gQ (K:=kT3) (aK (O+(1:Int))) (b.length:Int) 4 R R bT cS R R R R F.1 F.2.1 F.2.2 (fun a3 a4=>(aC (aG (sL [0]) (d1 6 R (lM (RR kT3 a3 a4 (sub b (aK (O+(1:Int))) (b.length:Int))::RR kT3 a3 a4 (sub b (aK (O+(1:Int))) (b.length:Int))::_::aJ q [(sc A9 u D9),(sc T m Z),(iv 0),(iv j)] 111::_::OO kT3 3 T Z m::l) (fun w s=>(s.d 0 R)) ?_)))))))))))))
 refine lC 1 nR R (Zt_ok a7) R ?_
 rintro _
 refine lN (_::_::_::_::_::l) ?_
 refine aC (aG (sL [0]) (d1 7 R (bU (K:=kT3) (xs:=([B]:List Int)) (vs:=[(iv B)]) 0 R R bT cS iu R R R R R R ?_ R (fun aa ab=>?_))))
 exact fun I h s=>(hD).list [((),B)] I h s
 refine lN (OO kT3 3 aa ab ([B]:List Int)::_::_::_::_::_::l) ?_
 refine aC (aG (sL [1,0]) (d1 8 R (lM (ow _ _ _ _::ow _ _ _ _::aQ _ _ _::aJ _ _ _::aJ _ _ _::ow _ _ _ _::l) (fun w s=>(s.f 6 [5,1,0,5])) ?_)))
 refine eO (K:=kT3) 17592186044416 R R bT cS kN (Zr.zk zT3 iu) R R R R R R dQ a5 (fun U a0=>(lN (OO kT3 3 U a0 (m++([B]:List Int))::_::_::_::_::l) ?_))
 refine aC (qE (d1 9 R (lO (dS 1 fK R) (aC (qE (d1 10 R (cT 3 R R gB R R R R R (lN (_::_::_::aJ q [(sc A9 u D9),(sc U (m++([B]:List Int)) a0),(iv 0),(iv j)] 111::_::l) ?_))))))))
 refine aC (qE (dD (eC (aE (aD (lI R (lO (kM R R) (lI R (aC ?_)))))))))
 obtain rfl:=so g
 exact qA (U,(m++([B]:List Int)).length,a0) (fun w s=>(s.e 5 [2,3,4,0]))
 refine bC R E (iB (eI ?_))
 obtain rfl:=so g
 obtain rfl:=ai _ R
 have g:=aj
 refine eI (gM ?_)
 exact qI (m,(T,m.length,Z)) g (fun w s=>s)
 rintro ⟨D,⟨Y,ae,a1⟩⟩ σ1 g
 replace g:Zu_J1 u j D=some r:=g
 unfold Zu_J1 at g
 refine bQ 3 aB (fun (hn:ae=D.length)=>?_)
 subst hn
 refine aI ?_
 obtain ⟨i,a8,g⟩:=bd g
 refine aD (lO (vz (.agg [(sc A9 u D9),(sc Y D a1),(iv 0),(iv j)].toArray) (bK 1 eU bX R R R R)) (je (fun w s=>s.shr 2 R) (lM (RR kT3 A9 D9 u::OO kT3 3 Y a1 D::RR kT3 A9 D9 u::aJ _ _ _::aJ q [(sc A9 u D9),(sc Y D a1),(iv 0),(iv j)] 111::l) (fun w s=>((s.d 0 R).e 5 [0,4,1,2,3])) ?_)))
 refine lC 2 zi R (Z0f_ok (v1:=(⟨u,D,(0:Int),j⟩:View)) a8) R ?_
 rintro ⟨⟨G,ag,L⟩,⟨J,ah,M⟩⟩
 refine lN (aQ kT3 (.slice G ag L) i.Dims::ow kT3 3 (.slice J ah M) i.Strides::_::_::_::l) ?_
 refine aM 0 aA ?_
 rintro rfl
 refine aM 1 aB ?_
 rintro rfl
 refine aL 3 R R bX R R R R R R (lN (_::_::_::aJ b3 [(sc G i.Dims L),(sc J i.Strides M),(iv i.Offset),(iv i.Base)] 111::_::l) ?_)
 refine aC (aE (bO ?_))
 obtain rfl:=so g
 exact cY (vs:=[(.agg [(sc G i.Dims L),(sc J i.Strides M),(iv i.Offset),(iv i.Base)].toArray)]) (.inl R) ((G,i.Dims.length,L),(J,i.Strides.length,M)) R ⟨⟨3,b3,_,_,R,R,.inl ⟨eU,bX,R⟩⟩,trivial⟩ R (fun w s=>(s.e 6 [0,1]))
theorem Z15_ok  {v1:View}{b:(List Int)}{r:Int}(e:Z15 v1 b=some r) :
 FnOk Tryz.prog 155 [(.agg [(.slice A2 N2 D2),(.slice A3 N3 D3),(iv v1.Offset),(iv v1.Base)].toArray),(.slice A5 N5 D5)] [aQ kT3 (.slice A2 N2 D2) v1.Dims,aQ kT3 (.slice A3 N3 D3) v1.Strides,aQ kT3 (.slice A5 N5 D5) b] (fun (h:Unit)=>((iv r),[])):=by
 unfold Z15 at e
 refine aR Tryz.func155 R 28 R R fun C V=>?_
 refine cL 0 aA ?_
 rintro rfl
 refine cL 1 aA ?_
 rintro rfl
 refine cL 2 aA ?_
 rintro rfl
 let D:=RR kT3 A2 D2 v1.Dims::RR kT3 A3 D3 v1.Strides::RR kT3 A5 D5 b::V
 refine cN D ?_
 refine aZ ?_
 refine eA R fun E=>?_
 refine aZ ?_
 let j:=aJ E [(sc A2 v1.Dims D2),(sc A3 v1.Strides D3),(iv v1.Offset),(iv v1.Base)] 111::D
 refine qN j ?_
 refine dC ?_
 refine bE (A:=(Int)×(Unit)) (fun a=>Z15_J1 a.1=some r) (fun a=>[(5,(iv a.1))]) (fun a=>j) ?_ ?_
 refine cE ?_
 obtain ⟨M,u,q⟩:=bd e
 refine bF (A:=Unit) u (fun s a=>[(1,(sc A5 b D5)),(2,(pt E 0)),(5,(iv s.1)),(6,(iv s.2))]) (fun s a=>j) () (aS R) tI ?_
 rintro ⟨B,J⟩ _ σ1 F e m
 dsimp only [Z15_L1] at e
 refine dC ?_
 split at e
 refine cR ?_
 obtain ⟨g,e⟩:=gd e
 obtain ⟨i,e⟩:=gd e
 refine bA 3 aA (show 0<b.length by have:=g; omega) (fun G o19 l=>?_)
 subst l
 refine bA 2 aA (show 0<v1.Strides.length by have:=i; omega) (fun I o22 l=>?_)
 subst l
 refine cX 13 [] bM fun T O=>?_
 refine mI 0 [] ?_
 refine dD ?_
 refine dO ?_
 cases e
 exact qA () tI
 refine aU ?_
 cases e
 obtain rfl:=m _ R
 have e:=q
 refine aZ ?_
 exact qI (B,()) e tI
 rintro ⟨L,_⟩ σ1 e
 dsimp only [Z15_J1] at e
 refine dO ?_
 cases e
 exact qF () (tE 4 [])
theorem Z0a_ok  {v1:View}{r:(List Int)}(b:Z0a v1=some r) :
 FnOk Tryz.prog 134 [(.agg [(.slice A2 N2 D2),(.slice A3 N3 D3),(iv v1.Offset),(iv v1.Base)].toArray)] [aQ kT3 (.slice A2 N2 D2) v1.Dims,aQ kT3 (.slice A3 N3 D3) v1.Strides] (fun (h:HH)=>((.slice h.1 h.2.1 h.2.2),[ow kT3 3 (.slice h.1 h.2.1 h.2.2) r])):=by
 unfold Z0a at b
 refine aR Tryz.func134 R 25 R R fun C V=>?_
 refine cN (_::_::V) ?_
 refine cL 0 aA ?_
 rintro rfl
 refine cL 1 aA ?_
 rintro rfl
 let W0:List HP:=RR kT3 A2 D2 v1.Dims::RR kT3 A3 D3 v1.Strides::V
 refine cN W0 ?_
 refine aI (aD (eA R (fun b4=>(lS R (aC ?_)))))
 let i:List HP:=aJ b4 [(sc A2 v1.Dims D2),(sc A3 v1.Strides D3),(iv v1.Offset),(iv v1.Base)] 111::W0
 refine qN i ?_
 refine aE (aI (aD (bU (K:=kT3) (xs:=([]:List Int)) (vs:=[]) 0 R R bT cS iu R R R R R R ?_ R (fun A5 D5=>?_))))
 exact fun I h s=>(hD).list [] I h s
 refine lN (OO kT3 3 A5 D5 ([]:List Int)::i) ?_
 refine lS R (aC (aE (aI ?_)))
 obtain ⟨r6,a8,b⟩:=bd b
 refine aD (lO (dS 0 fW R) (lO (dV 1 cB R R R) (lM (RR kT3 A2 D2 v1.Dims::_::i) (fun w s=>(s.d 2 R)) ?_)))
 refine lC 1 nR R (Zt_ok a8) R ?_
 rintro _
 refine lN (_::i) ?_
 refine lI R (aC (aE (aI (bE (A:=((List Int))×(HH)) (fun a=>Z0a_J1 a.1=some r) (fun a=>[(3,(.slice a.2.1 a.2.2.1 a.2.2.2))]) (fun a=>ow kT3 3 (.slice a.2.1 a.2.2.1 a.2.2.2) a.1::i) ?_ ?_))))
 refine aI (aD (lI R (aC (aE (dK ?_)))))
 obtain ⟨e1,a7,a6⟩:=bd b
 refine bF (A:=HH) a7 (fun s a=>[(1,(pt b4 0)),(3,(.slice a.1 a.2.1 a.2.2)),(4,(iv r6)),(5,(iv s.2))]) (fun s a=>ow kT3 3 (.slice a.1 a.2.1 a.2.2) s.1::i) (A5,([]:List Int).length,D5) (aS R) (fun w s=>s) ?_
 rintro ⟨g,a9⟩ ⟨E,a2,G⟩ σ1 T b a5
 replace b:Z0a_L1 v1 r6 g a9=some T:=b
 unfold Z0a_L1 at b
 refine bQ 0 aB (fun (U:a2=g.length)=>?_)
 subst U
 refine aI (aI (aD (lI R (lI R (lO (jh R R) (aC (aE ?_)))))))
 rcases cG b with ⟨l,b⟩|⟨l,b⟩
 refine bS R l (bZ (aE (aI (dK ?_))))
 obtain ⟨u,M,b⟩:=bd b
 obtain ⟨j,O,b⟩:=bd b
 obtain ⟨L,b⟩:=gd b
 refine cX 10 [0] bM (fun ht U=>(dR 0 R (vS R) (hS:=(sL [0])) (dR 1 R (vz (.agg [(sc A2 v1.Dims D2),(sc A3 v1.Strides D3),(iv v1.Offset),(iv v1.Base)].toArray) (bK 0 eU bX R R R R)) (hS:=(sL [0])) (dR 2 R (dS 0 fW R) (hS:=(sL [0])) (dR 3 R (dV 0 cB R R R) (hS:=(sL [0])) (dR 4 R (vI R) (hS:=(sL [0])) (d1 5 R (lM (RR kT3 A2 D2 v1.Dims::OO kT3 3 E G g::i) (fun w s=>(s.d 2 R)) ?_))))))))
 refine lC 1 lU R (Zj_ok M) R ?_
 rintro ⟨m,a3,q⟩
 refine lN (ow kT3 3 (.slice m a3 q) u::_::i) ?_
 refine aM 0 aB ?_
 rintro rfl
 refine aC (aG (sL [1,0]) (d1 6 R (lM (ow _ _ _ _::RR kT3 A2 D2 v1.Dims::RR kT3 A3 D3 v1.Strides::ow _ _ _ _::i) (fun w s=>(((s.d 3 R).d 5 R).e 4 [2,1,0,3])) ?_)))
 refine lC 3 zj R (FnOk.lends (A':=[OO kT3 3 m q u]) (A:=[RR kT3 m q u]) (B:=[RR kT3 A2 D2 v1.Dims,RR kT3 A3 D3 v1.Strides]) (FnOk.perm (Z15_ok O) (Pre':=[RR kT3 m q u,RR kT3 A2 D2 v1.Dims,RR kT3 A3 D3 v1.Strides]) (fun _ _ _ s=>(s.e 3 [1,2,0]))) ⟨aP,trivial⟩ (fun _=>trivial)) R ?_
 rintro _
 refine lN (_::_::i) ?_
 refine aC (aG (sL [1,0]) (d1 7 R (bU (K:=kT3) (xs:=([j]:List Int)) (vs:=[(iv j)]) 0 R R bT cS iu R R R R R R ?_ R (fun Y a0=>?_))))
 exact fun I h s=>(hD).list [((),j)] I h s
 refine lN (OO kT3 3 Y a0 ([j]:List Int)::_::_::i) ?_
 refine aC (aG (sL [2,1,0]) (d1 8 R (lM (ow _ _ _ _::ow _ _ _ _::ow _ _ _ _::i) (fun w s=>(s.e 3 [2,0,1])) ?_)))
 refine eO (K:=kT3) 17592186044416 R R bT cS kN (Zr.zk zT3 iu) R R R R R R dQ L (fun F J=>(lN (OO kT3 3 F J (g++([j]:List Int))::_::i) ?_))
 refine aC (aG (sL [1,0]) (dR 9 R (vS R) (hS:=(sL [1,0])) (dD (eC (aE (aD (lI R (lO (kM R R) (lI R (aC ?_))))))))))
 obtain rfl:=so b
 exact qA (F,(g++([j]:List Int)).length,J) (fun w s=>(s.e 2 [0]))
 refine bC R l (iB (eI ?_))
 obtain rfl:=so b
 obtain rfl:=a5 _ R
 have b:=a6
 refine eI (gM ?_)
 exact qI (g,(E,g.length,G)) b (fun w s=>s)
 rintro ⟨D,⟨Z,a4,a1⟩⟩ σ1 b
 replace b:Z0a_J1 D=some r:=b
 unfold Z0a_J1 at b
 refine bQ 0 aB (fun (U:a4=D.length)=>?_)
 subst U
 refine aI (aD (lS R (lS R (aC (aE (bO ?_))))))
 obtain rfl:=so b
 exact qF (Z,D.length,a1) (fun w s=>(s.e 4 [0]))
theorem Za_ok  {v1:View}{r:Bool}(b:Za v1=some r) :
 FnOk Tryz.prog 133 [(.agg [(.slice A2 N2 D2),(.slice A3 N3 D3),(iv v1.Offset),(iv v1.Base)].toArray)] [aQ kT3 (.slice A2 N2 D2) v1.Dims,aQ kT3 (.slice A3 N3 D3) v1.Strides] (fun (h:Unit)=>((.bool r),[])):=by
 unfold Za at b
 refine aR Tryz.func133 R 84 R R fun C V=>?_
 refine cL 0 aA ?_
 rintro rfl
 refine cL 1 aA ?_
 rintro rfl
 let W0:=RR kT3 A2 D2 v1.Dims::RR kT3 A3 D3 v1.Strides::V
 refine cN W0 ?_
 refine aZ ?_
 refine eA R fun B=>?_
 refine aZ ?_
 let l:=aJ B [(sc A2 v1.Dims D2),(sc A3 v1.Strides D3),(iv v1.Offset),(iv v1.Base)] 111::W0
 refine qN l ?_
 refine aU ?_
 obtain ⟨D,a5,b⟩:=bd b
 refine cQ [(1,(pt B 0)),(40,(.bool ((((((!D)||((v1.Strides.length:Int) != (v1.Dims.length:Int)))||(decide (v1.Base<1)))||(decide (v1.Base>4096)))||(decide (v1.Offset<0)))||(decide (v1.Offset≥v1.Base)))))] (l) ?_ ?_
 refine aU ?_
 refine lM _ (fun w s=>(s.d 1 R)) ?_
 refine lC 1 kr R (Zo_ok a5) R ?_
 rintro _
 refine lN l ?_
 refine aZ ?_
 rcases bo (!D) with a0 | a0
 refine xc ?_
 exact qj tI
 refine dC ?_
 rcases bo ((!D)||((v1.Strides.length:Int) != (v1.Dims.length:Int))) with a1 | a1
 refine yU ?_
 exact qj tI
 refine cR ?_
 rcases bo (((!D)||((v1.Strides.length:Int) != (v1.Dims.length:Int)))||(decide (v1.Base<1))) with a2 | a2
 refine rv ?_
 exact qj tI
 refine cR ?_
 rcases bo ((((!D)||((v1.Strides.length:Int) != (v1.Dims.length:Int)))||(decide (v1.Base<1)))||(decide (v1.Base>4096))) with F | F
 refine iY ?_
 exact qj tI
 refine cR ?_
 rcases bo (((((!D)||((v1.Strides.length:Int) != (v1.Dims.length:Int)))||(decide (v1.Base<1)))||(decide (v1.Base>4096)))||(decide (v1.Offset<0))) with G | G
 refine dO ?_
 exact qj tI
 refine dO ?_
 exact qj tI
 rintro σ1
 refine cA ?_
 split at b
 refine dI ?_
 cases b
 exact qF () (tE 3 [])
 refine bI ?_
 refine bE (A:=(Unit)×(Unit)) (fun a=>Za_J1 v1=some r) (fun a=>[(1,(pt B 0))]) (fun a=>l) ?_ ?_
 refine cE ?_
 obtain ⟨e1,a3,T⟩:=bd b
 refine bF (A:=Unit) a3 (fun s a=>[(1,(pt B 0)),(3,(iv s))]) (fun s a=>l) () (aS R) tI ?_
 rintro m _ σ1 a6 b L
 dsimp only [Za_L1] at b
 refine dA ?_
 split at b
 refine cE ?_
 obtain ⟨O,b⟩:=gd b
 refine cQ [(1,(pt B 0)),(3,(iv m)),(61,(.bool ((decide ((ix v1.Strides m)<(-4096:Int)))||(decide ((ix v1.Strides m)>4096)))))] (l) ?_ ?_
 refine bI ?_
 refine bG 2 aA (show 0<v1.Strides.length by have:=O; omega) (fun a9 o23 E=>?_)
 subst E
 refine bI ?_
 rcases bo (decide ((ix v1.Strides m)<(-4096:Int))) with I | I
 refine dI ?_
 exact qj tI
 refine dI ?_
 exact qj tI
 rintro σ1
 refine cA ?_
 split at b
 refine dC ?_
 cases b
 obtain rfl:=L _ R
 have b:=T
 refine aU ?_
 cases b
 exact qF () (tE 3 [])
 refine dC ?_
 cases b
 exact qA () tI
 refine aU ?_
 cases b
 obtain rfl:=L _ R
 have b:=T
 refine aZ ?_
 exact qI ((),()) b tI
 rintro ⟨_,_⟩ σ1 b
 dsimp only [Za_J1] at b
 refine cA ?_
 obtain ⟨g,Y,b⟩:=bd b
 refine aZ ?_
 refine lM _ (fun w s=>(((s.d 1 R).d 3 R).e 2 [1,0])) ?_
 refine lC 2 qB R (Z0a_ok Y) R ?_
 rintro ⟨i,a8,j⟩
 refine aM 0 aB ?_
 rintro rfl
 refine bI ?_
 refine bE (A:=(Unit)×(Unit)) (fun a=>Za_J2=some r) (fun a=>[]) (fun a=>l) ?_ ?_
 refine cE ?_
 obtain ⟨e2,a4,U⟩:=bd b
 refine bF (A:=Unit) a4 (fun s a=>[(1,(pt B 0)),(4,(sc i g j)),(5,(iv s))]) (fun s a=>OO kT3 3 i j g::l) () (aS R) tI ?_
 rintro q _ σ1 a7 b M
 dsimp only [Za_L2] at b
 refine dC ?_
 split at b
 refine cE ?_
 obtain ⟨u,b⟩:=gd b
 refine cQ [(1,(pt B 0)),(4,(sc i g j)),(5,(iv q)),(83,(.bool ((decide ((ix g q)<0))||(decide ((ix g q)≥v1.Base)))))] (OO kT3 3 i j g::l) ?_ ?_
 rcases bo (decide ((ix g q)<0)) with J | J
 refine bA 0 aB (show 0<g.length by have:=u; omega) (fun Z o40 E=>?_)
 subst E
 refine cX 14 [] bM fun ht hn=>?_
 refine uL 0 [] ?_
 refine dD ?_
 exact qj tI
 refine bA 0 aB (show 0<g.length by have:=u; omega) (fun Z o40 E=>?_)
 subst E
 refine cX 14 [] bM fun ht hn=>?_
 refine uL 0 [] ?_
 refine dD ?_
 exact qj tI
 rintro σ1
 refine cA ?_
 split at b
 refine dC ?_
 cases b
 obtain rfl:=M _ R
 have b:=U
 refine aU ?_
 cases b
 exact qF () (tE 4 [])
 refine dC ?_
 cases b
 exact qA () tI
 refine aU ?_
 cases b
 obtain rfl:=M _ R
 have b:=U
 refine aZ ?_
 exact cJ ((),()) b trivial (tE 1 [])
 rintro ⟨_,_⟩ σ1 b
 dsimp only [Za_J2] at b
 refine cE ?_
 cases b
 exact qF () (tE 3 [])
theorem Z03_ok  {v1:View}{b:(List Int)}{r:View}(q:Z03 v1 b=some r) :
 FnOk Tryz.prog 93 [(.agg [(.slice A2 N2 D2),(.slice A3 N3 D3),(iv v1.Offset),(iv v1.Base)].toArray),(.slice A5 N5 D5)] [aQ kT3 (.slice A2 N2 D2) v1.Dims,aQ kT3 (.slice A3 N3 D3) v1.Strides,aQ kT3 (.slice A5 N5 D5) b] (fun (h:HH×HH)=>((.agg [(s3 h.1),(s3 h.2),(iv r.Offset),(iv r.Base)].toArray),[ow kT3 3 (s3 h.1) r.Dims,ow kT3 3 (s3 h.2) r.Strides])):=by
 unfold Z03 at q
 refine aR Tryz.func93 R 77 R R fun C V=>?_
 refine cL 0 aA ?_
 rintro rfl
 refine cL 1 aA ?_
 rintro rfl
 refine cL 2 aA ?_
 rintro rfl
 let W0:=RR kT3 A2 D2 v1.Dims::RR kT3 A3 D3 v1.Strides::RR kT3 A5 D5 b::V
 refine cN W0 ?_
 refine aZ ?_
 refine eA R fun b6=>?_
 refine aY R R cC (fun T=>(aC ?_))
 let L:=aJ b6 [(sc A2 v1.Dims D2),(sc A3 v1.Strides D3),(iv v1.Offset),(iv v1.Base)] 111::W0
 refine oH ?_
 obtain ⟨r8,am,q⟩:=bd q
 obtain ⟨ai,ae,q⟩:=bd q
 refine cQ [(1,(sc A5 b D5)),(2,(pt b6 0)),(4,(pt T 0)),(5,(iv (aK ((b.length:Int) - (v1.Dims.length:Int))))),(25,(.bool (((!r8)||(!ai))||(decide ((aK ((b.length:Int) - (v1.Dims.length:Int)))<0)))))] (aJ T [(.slice none 0 0),(.slice none 0 0),(iv 0),(iv 0)] 111::L) ?_ ?_
 refine aZ ?_
 refine lM (RR kT3 A2 D2 v1.Dims::RR kT3 A3 D3 v1.Strides::aJ _ _ _::L) (fun w s=>(((s.d 2 R).d 4 R).e 3 [1,0,2])) ?_
 refine lC 2 lX R (Za_ok am) R ?_
 rintro _
 refine aZ ?_
 rcases bo (!r8) with U | U
 refine dC ?_
 exact qj tI
 refine cA ?_
 refine lM (RR kT3 A5 D5 b::_::L) (fun w s=>(s.d 4 R)) ?_
 refine bY 1 R (bJ U) kr R (Zo_ok (bL ae (cP U))) R ?_
 rintro _
 refine aU ?_
 rcases bo ((!r8)||(!ai)) with a7 | a7
 refine bI ?_
 exact qj tI
 refine bI ?_
 exact qj tI
 rintro σ1
 refine cA ?_
 split at q
 refine aU ?_
 refine lO (vz (.agg [(.slice none 0 0),(.slice none 0 0),(iv 0),(iv 0)].toArray) (aV dU cC R R)) (aL 0 R R bX R R R R R R (aC (aE (bO (bP ?_)))))
 cases q
 exact qS ((none,0,0),(none,0,0)) (fun w s=>(((s.nilo kT3 3).nilo kT3 3).e 7 [1,0]))
 refine bI ?_
 obtain ⟨g,O,q⟩:=bd q
 obtain ⟨l,q⟩:=gd q
 refine iE (A:=(Unit)×(Nat×HH×HH)) (fun _=>True) (fun a=>[(1,(sc A5 b D5)),(2,(pt b6 0)),(4,(pt T 0)),(5,(iv (aK ((b.length:Int) - (v1.Dims.length:Int))))),(6,(pt a.2.1 0))]) (fun a=>aJ T [(.slice none 0 0),(.slice none 0 0),(iv 0),(iv 0)] 111::aJ a.2.1 [(s3 a.2.2.1),(s3 a.2.2.2),(iv v1.Offset),(iv v1.Base)] 111::ow kT3 3 (s3 a.2.2.1) g::ow kT3 3 (s3 a.2.2.2) (List.replicate (b.length:Int).toNat (0:Int))::L) ?_ ?_
 refine cX 12 [] bM fun ht hn=>?_
 refine dR 0 R (vS R) ?_
 refine hY 2 [] ?_
 refine oK 5 [] ?_
 refine gG [1,4,10] (by kernel_rfl) R ⟨?_,?_,?_,trivial⟩
 refine lM (RR kT3 A5 D5 b::_::L) (fun w s=>(s.d 4 R)) ?_
 refine lC 1 iP R (Z9_ok O) R ?_
 rintro ⟨u,a1,B⟩
 refine aM 0 aB ?_
 rintro rfl
 refine aC (aG (sL [0]) (gG [4,10] (by kernel_rfl) R ⟨?_,?_,trivial⟩))
 refine f' (K:=kT3) (m:=(b.length:Int)) (z:=(0:Int)) R R bT cS kN (Zr.zk zT3 iu) (by decide) R R l.1 l.2.1 l.2.2 (fun i j=>(aC (aG (sL [1,0]) (dR 9 R (vz (.agg [(sc u g B),(sc i (List.replicate (b.length:Int).toNat (0:Int)) j),(iv v1.Offset),(iv v1.Base)].toArray) (aV dU cC R R)) (hS:=(sL [1,0])) (d1 10 R (aY R R cC (fun D=>(aC (aG (sL [2,1,0]) (d1 11 R (aL 0 R R bX R R R R R R (lN (aJ D [(sc u g B),(sc i (List.replicate (b.length:Int).toNat (0:Int)) j),(iv v1.Offset),(iv v1.Base)] 111::OO kT3 3 i j (List.replicate (b.length:Int).toNat (0:Int))::_::_::L) ?_))))))))))))
 refine aC (aG (sL [2,1,0]) (dD ?_))
 exact cJ ((),(D,(u,g.length,B),(i,(List.replicate (b.length:Int).toNat (0:Int)).length,j))) trivial (aS R) (tE 4 [3,0,2,1])
 refine aY R R cC (fun D=>(aC (aG (sL [1,0]) (d1 4 R (f' (K:=kT3) (m:=(b.length:Int)) (z:=(0:Int)) R R bT cS kN (Zr.zk zT3 iu) (by decide) R R l.1 l.2.1 l.2.2 (fun i j=>(aC (aG (sL [2,1,0]) (dR 9 R (vz (.agg [(sc u g B),(sc i (List.replicate (b.length:Int).toNat (0:Int)) j),(iv v1.Offset),(iv v1.Base)].toArray) (aV dU cC R R)) (hS:=(sL [2,1,0])) (d1 11 R (aL 1 R R bX R R R R R R (lN (_::_::_::_::L) ?_))))))))))))
 refine aC (aG (sL [2,1,0]) (dD ?_))
 exact cJ ((),(D,(u,g.length,B),(i,(List.replicate (b.length:Int).toNat (0:Int)).length,j))) trivial (aS R) (tE 4 [3,1,2,0])
 refine f' (K:=kT3) (m:=(b.length:Int)) (z:=(0:Int)) R R bT cS kN (Zr.zk zT3 iu) (by decide) R R l.1 l.2.1 l.2.2 (fun i j=>(aC (aG (sL [0]) (gG [1,10] (by kernel_rfl) R ⟨?_,?_,trivial⟩))))
 refine lM (RR kT3 A5 D5 b::_::_::L) (fun w s=>(s.d 5 R)) ?_
 refine lC 1 iP R (Z9_ok O) R ?_
 rintro ⟨u,a1,B⟩
 refine aM 0 aB ?_
 rintro rfl
 refine aC (aG (sL [1,0]) (dR 9 R (vz (.agg [(sc u g B),(sc i (List.replicate (b.length:Int).toNat (0:Int)) j),(iv v1.Offset),(iv v1.Base)].toArray) (aV dU cC R R)) (hS:=(sL [1,0])) (d1 10 R (aY R R cC (fun D=>(aC (aG (sL [2,1,0]) (d1 11 R (aL 0 R R bX R R R R R R (lN (aJ D [(sc u g B),(sc i (List.replicate (b.length:Int).toNat (0:Int)) j),(iv v1.Offset),(iv v1.Base)] 111::_::_::_::L) ?_))))))))))
 refine aC (aG (sL [2,1,0]) (dD ?_))
 exact cJ ((),(D,(u,g.length,B),(i,(List.replicate (b.length:Int).toNat (0:Int)).length,j))) trivial (aS R) (tE 4 [3,0,1,2])
 refine aY R R cC (fun D=>(aC (aG (sL [1,0]) (d1 1 R (lM (RR kT3 A5 D5 b::_::_::_::L) (fun w s=>(s.d 6 R)) ?_)))))
 refine lC 1 iP R (Z9_ok O) R ?_
 rintro ⟨u,a1,B⟩
 refine aM 0 aB ?_
 rintro rfl
 refine aC (aG (sL [2,1,0]) (dR 9 R (vz (.agg [(sc u g B),(sc i (List.replicate (b.length:Int).toNat (0:Int)) j),(iv v1.Offset),(iv v1.Base)].toArray) (aV dU cC R R)) (hS:=(sL [2,1,0])) (d1 11 R (aL 1 R R bX R R R R R R (lN (_::aJ D [(sc u g B),(sc i (List.replicate (b.length:Int).toNat (0:Int)) j),(iv v1.Offset),(iv v1.Base)] 111::_::_::L) ?_)))))
 refine aC (aG (sL [2,1,0]) (dD ?_))
 exact cJ ((),(D,(u,g.length,B),(i,(List.replicate (b.length:Int).toNat (0:Int)).length,j))) trivial (aS R) (tE 4 [3,1,0,2])
 refine aY R R cC (fun D=>(aC (aG (sL [0]) (gG [1,4] (by kernel_rfl) R ⟨?_,?_,trivial⟩))))
 refine lM (RR kT3 A5 D5 b::_::_::L) (fun w s=>(s.d 5 R)) ?_
 refine lC 1 iP R (Z9_ok O) R ?_
 rintro ⟨u,a1,B⟩
 refine aM 0 aB ?_
 rintro rfl
 refine aC (aG (sL [1,0]) (d1 4 R (f' (K:=kT3) (m:=(b.length:Int)) (z:=(0:Int)) R R bT cS kN (Zr.zk zT3 iu) (by decide) R R l.1 l.2.1 l.2.2 (fun i j=>(aC (aG (sL [2,1,0]) (dR 9 R (vz (.agg [(sc u g B),(sc i (List.replicate (b.length:Int).toNat (0:Int)) j),(iv v1.Offset),(iv v1.Base)].toArray) (aV dU cC R R)) (hS:=(sL [2,1,0])) (d1 11 R (aL 2 R R bX R R R R R R (lN (OO kT3 3 i j (List.replicate (b.length:Int).toNat (0:Int))::_::aJ D [(sc u g B),(sc i (List.replicate (b.length:Int).toNat (0:Int)) j),(iv v1.Offset),(iv v1.Base)] 111::_::L) ?_))))))))))
 refine aC (aG (sL [2,1,0]) (dD ?_))
 exact cJ ((),(D,(u,g.length,B),(i,(List.replicate (b.length:Int).toNat (0:Int)).length,j))) trivial (aS R) (tE 4 [3,2,1,0])
 refine f' (K:=kT3) (m:=(b.length:Int)) (z:=(0:Int)) R R bT cS kN (Zr.zk zT3 iu) (by decide) R R l.1 l.2.1 l.2.2 (fun i j=>(aC (aG (sL [1,0]) (d1 1 R (lM (RR kT3 A5 D5 b::_::aJ D [(.slice none 0 0),(.slice none 0 0),(iv 0),(iv 0)] 111::_::L) (fun w s=>(s.d 6 R)) ?_)))))
 refine lC 1 iP R (Z9_ok O) R ?_
 rintro ⟨u,a1,B⟩
 refine aM 0 aB ?_
 rintro rfl
 refine aC (aG (sL [2,1,0]) (dR 9 R (vz (.agg [(sc u g B),(sc i (List.replicate (b.length:Int).toNat (0:Int)) j),(iv v1.Offset),(iv v1.Base)].toArray) (aV dU cC R R)) (hS:=(sL [2,1,0])) (d1 11 R (aL 2 R R bX R R R R R R (lN (_::_::aJ D [(sc u g B),(sc i (List.replicate (b.length:Int).toNat (0:Int)) j),(iv v1.Offset),(iv v1.Base)] 111::_::L) ?_)))))
 refine aC (aG (sL [2,1,0]) (dD ?_))
 exact cJ ((),(D,(u,g.length,B),(i,(List.replicate (b.length:Int).toNat (0:Int)).length,j))) trivial (aS R) (tE 4 [3,2,0,1])
 rintro ⟨_,⟨M,⟨F,aj,J⟩,⟨G,ak,E⟩⟩⟩ σ1 -
 refine gR 2 aB (fun (hn:aj=g.length)=>?_)
 subst hn
 refine gR 3 aB (fun (hn:ak=(List.replicate (b.length:Int).toNat (0:Int)).length)=>?_)
 subst hn
 refine aZ ?_
 refine bE (A:=((List Int))×(Unit)) (fun a=>Z03_J3 v1 g a.1=some r) (fun a=>[(4,(pt T 0)),(6,(pt M 0))]) (fun a=>aJ T [(.slice none 0 0),(.slice none 0 0),(iv 0),(iv 0)] 111::aJ M [(sc F g J),(sc G (List.replicate (b.length:Int).toNat (0:Int)) E),(iv v1.Offset),(iv v1.Base)] 111::OO kT3 3 F J g::ow kT3 3 (.slice G (List.replicate (b.length:Int).toNat (0:Int)).length E) a.1::L) ?_ ?_
 refine cE ?_
 obtain ⟨e1,al,ac⟩:=bd q
 refine bF (A:=Unit) al (fun s a=>[(1,(sc A5 b D5)),(2,(pt b6 0)),(4,(pt T 0)),(5,(iv (aK ((b.length:Int) - (v1.Dims.length:Int))))),(6,(pt M 0)),(7,(iv s.2))]) (fun s a=>aJ T [(.slice none 0 0),(.slice none 0 0),(iv 0),(iv 0)] 111::aJ M [(sc F g J),(sc G (List.replicate (b.length:Int).toNat (0:Int)) E),(iv v1.Offset),(iv v1.Base)] 111::OO kT3 3 F J g::ow kT3 3 (.slice G (List.replicate (b.length:Int).toNat (0:Int)).length E) s.1::L) () (aS R) tI ?_
 rintro ⟨a2,a0⟩ _ σ1 ah q a8
 dsimp only [Z03_L1] at q
 refine dA ?_
 rcases cG q with ⟨a3,q⟩|⟨a3,q⟩
 refine bI ?_
 refine bE (A:=((List Int))×(Unit)) (fun a=>Z03_J2 a0 a.1=some ah) (fun a=>[(1,(sc A5 b D5)),(2,(pt b6 0)),(4,(pt T 0)),(5,(iv (aK ((b.length:Int) - (v1.Dims.length:Int))))),(6,(pt M 0)),(7,(iv a0))]) (fun a=>aJ T [(.slice none 0 0),(.slice none 0 0),(iv 0),(iv 0)] 111::aJ M [(sc F g J),(sc G (List.replicate (b.length:Int).toNat (0:Int)) E),(iv v1.Offset),(iv v1.Base)] 111::OO kT3 3 F J g::ow kT3 3 (.slice G (List.replicate (b.length:Int).toNat (0:Int)).length E) a.1::L) ?_ ?_
 refine aU ?_
 obtain ⟨a9,q⟩:=gd q
 obtain ⟨aa,q⟩:=gd q
 refine bA 5 aA (show 0<v1.Dims.length by have:=a9; omega) (fun ao o47 ha=>?_)
 subst ha
 refine bA 7 aA (show 0<b.length by have:=aa; omega) (fun ap o50 ha=>?_)
 subst ha
 refine cX 13 [] bM fun ht hn=>?_
 refine mI 0 [] ?_
 refine dD (aE ?_)
 rcases cG q with ⟨a4,q⟩|⟨a4,q⟩
 refine cA ?_
 obtain ⟨ab,q⟩:=gd q
 obtain ⟨Y,q⟩:=gd q
 refine bA 6 aA (show 0<v1.Strides.length by have:=ab; omega) (fun aq o54 ha=>?_)
 subst ha
 refine bA 3 aB (show 0<(List.replicate (b.length:Int).toNat (0:Int)).length by have:=Y; omega) (fun a6 o57 ha=>?_)
 subst ha
 refine cX 12 [3] bM fun ht hn=>?_
 refine pA 0 [3] ?_
 refine d1 11 R (lM (ow kT3 3 (.slice (ad a6 o57) (List.replicate (b.length:Int).toNat (0:Int)).length E) a2::aJ _ _ _::aJ M [(sc F g J),(sc (ad a6 o57) (List.replicate (b.length:Int).toNat (0:Int)) E),(iv v1.Offset),(iv v1.Base)] 111::OO kT3 3 F J g::L) (tE 4 [3,0,1,2]) ?_)
 refine dZ (K:=kT3) (x':=(ix v1.Strides a0)) 0 (aK ((aK ((b.length:Int) - (v1.Dims.length:Int)))+a0)) R R cS R R Y.1 Y.2 ?_ ?_
 exact fun I h s=>(hD).put I h () (ix v1.Strides a0) s
 refine aC (aG (sL [0]) (dD ?_))
 obtain ⟨ag,Z,q⟩:=bd q
 replace Z:=Option.some.inj Z
 refine qM (ow kT3 3 (.slice (ad a6 o57) (List.replicate (b.length:Int).toNat (0:Int)).length E) ag::_::_::_::L) (fun w s=>by rw [← Z]; exact s) ?_
 refine aZ ?_
 exact qI (ag,()) q (tE 4 [1,2,3,0])
 refine bC R a4 ?_
 refine j7 ?_
 rcases cG q with ⟨a5,q⟩|⟨a5,q⟩
 refine aU ?_
 refine lO (vz (.agg [(.slice none 0 0),(.slice none 0 0),(iv 0),(iv 0)].toArray) (aV dU cC R R)) (aL 0 R R bX R R R R R R (lN (_::aJ M [(sc F g J),(sc G (List.replicate (b.length:Int).toNat (0:Int)) E),(iv v1.Offset),(iv v1.Base)] 111::_::ow kT3 3 (.slice G (List.replicate (b.length:Int).toNat (0:Int)).length E) a2::L) ?_))
 refine cE ?_
 cases q
 obtain rfl:=a8 _ R
 have q:=ac
 refine aU ?_
 cases q
 exact qS ((none,0,0),(none,0,0)) (fun w s=>(((s.nilo kT3 3).nilo kT3 3).e 10 [1,0]))
 refine bC R a5 ?_
 refine aU ?_
 exact qI (a2,()) q tI
 rintro ⟨ar,_⟩ σ1 q
 dsimp only [Z03_J2] at q
 refine cR ?_
 cases q
 exact qA () tI
 refine bC R a3 ?_
 refine aZ ?_
 cases q
 obtain rfl:=a8 _ R
 have q:=ac
 refine aZ ?_
 exact qI (a2,()) q tI
 rintro ⟨an,_⟩ σ1 q
 dsimp only [Z03_J3] at q
 refine aU ?_
 refine aL 0 R R bX R R R R R R (lN (aJ T [(sc F g J),(sc G (List.replicate (b.length:Int).toNat (0:Int)) E),(iv v1.Offset),(iv v1.Base)] 111::_::_::ow kT3 3 (.slice G (List.replicate (b.length:Int).toNat (0:Int)).length E) an::L) ?_)
 refine aU ?_
 cases q
 exact qS ((F,g.length,J),(G,(List.replicate (b.length:Int).toNat (0:Int)).length,E)) (tE 8 [2,3])
theorem Z00_ok  {t1:Tensor}{v4:View}{r:Tensor}(i:Z00 t1 v4=some r) :
 FnOk Tryz.prog 92 [(.agg [(.slice A2 N2 D2),(.slice A3 N3 D3)].toArray),(.agg [(.slice A5 N5 D5),(.slice A6 N6 D6),(iv v4.Offset),(iv v4.Base)].toArray)] [aQ kT3 (.slice A2 N2 D2) t1.Dims,aQ kT3 (.slice A3 N3 D3) t1.Data,aQ kT3 (.slice A5 N5 D5) v4.Dims,aQ kT3 (.slice A6 N6 D6) v4.Strides] (fun (h:HH×HH)=>((.agg [(s3 h.1),(s3 h.2)].toArray),[ow kT3 3 (s3 h.1) r.Dims,ow kT3 3 (s3 h.2) r.Data])):=by
 unfold Z00 at i
 refine aR Tryz.func92 R 51 R R fun C V=>?_
 refine cL 0 aA ?_
 rintro rfl
 refine cL 1 aA ?_
 rintro rfl
 refine cL 2 aA ?_
 rintro rfl
 refine cL 3 aA ?_
 rintro rfl
 let W0:=RR kT3 A2 D2 t1.Dims::RR kT3 A3 D3 t1.Data::RR kT3 A5 D5 v4.Dims::RR kT3 A6 D6 v4.Strides::V
 refine cN W0 ?_
 refine aZ ?_
 refine eA R fun b7=>?_
 refine eA R fun b8=>?_
 refine aY R R dN (fun T=>(aC ?_))
 let G:=aJ b8 [(sc A5 v4.Dims D5),(sc A6 v4.Strides D6),(iv v4.Offset),(iv v4.Base)] 111::aJ b7 [(sc A2 t1.Dims D2),(sc A3 t1.Data D3)] 42::W0
 refine aU ?_
 obtain ⟨Z,a3,i⟩:=bd i
 obtain ⟨a7,a4,i⟩:=bd i
 refine cQ [(2,(pt b7 0)),(3,(pt b8 0)),(4,(pt T 0)),(23,(.bool (((!Z)||(!a7))||(v4.Base != (t1.Data.length:Int)))))] (aJ T [(.slice none 0 0),(.slice none 0 0)] 42::G) ?_ ?_
 refine aZ ?_
 refine lM _ (fun w s=>(((s.d 3 R).d 5 R).e 3 [1,0,2])) ?_
 refine lC 2 mL R (Zi_ok a3) R ?_
 rintro _
 refine aZ ?_
 rcases bo (!Z) with E | E
 refine lv ?_
 exact qj tI
 refine cA ?_
 refine lM _ (fun w s=>(((s.d 5 R).d 7 R).e 3 [1,0,2])) ?_
 refine bY 2 R (bJ E) lX R (Za_ok (bL a4 (cP E))) R ?_
 rintro _
 refine aU ?_
 rcases bo ((!Z)||(!a7)) with a0 | a0
 refine dI ?_
 exact qj tI
 refine dI ?_
 exact qj tI
 rintro σ1
 refine cA ?_
 split at i
 refine aU ?_
 refine lO (vz (.agg [(.slice none 0 0),(.slice none 0 0)].toArray) (aV hG dN R R)) (aL 0 R R bW R R R R R R (aC (aE (bO (bP ?_)))))
 cases i
 exact qS ((none,0,0),(none,0,0)) (fun w s=>(((s.nilo kT3 3).nilo kT3 3).e 9 [1,0]))
 refine bI ?_
 obtain ⟨j,a5,i⟩:=bd i
 refine aU ?_
 refine lM _ (fun w s=>(s.d 5 R)) ?_
 refine lC 1 iP R (Z9_ok a5) R ?_
 rintro ⟨l,an,m⟩
 refine aM 0 aB ?_
 rintro rfl
 refine lO (vz (.agg [(sc l j m),(.slice none 0 0)].toArray) (aV hG dN R R)) (aY R R dN (fun u=>(aL 0 R R bW R R R R R R (lN (aJ u [(sc l j m),(.slice none 0 0)] 42::_::_::G) ?_))))
 refine aU ?_
 obtain ⟨b,a6,i⟩:=bd i
 refine aZ ?_
 refine lM _ (fun w s=>(((s.d 7 R).d 9 R).e 5 [1,0,2,3,4])) ?_
 refine lC 2 qB R (Z0a_ok a6) R ?_
 rintro ⟨J,ao,M⟩
 refine aM 0 aB ?_
 rintro rfl
 refine bI ?_
 refine bE (A:=((List Int))×(HH)) (fun a=>Z00_J1 j a.1=some r) (fun a=>[(4,(pt T 0)),(5,(pt u 0))]) (fun a=>aJ T [(.slice none 0 0),(.slice none 0 0)] 42::aJ u [(sc l j m),(s3 a.2)] 42::OO kT3 3 l m j::ow kT3 3 (s3 a.2) a.1::G) ?_ ?_
 refine cE ?_
 obtain ⟨e1,al,ak⟩:=bd i
 refine bF (A:=HH) al (fun s a=>[(2,(pt b7 0)),(4,(pt T 0)),(5,(pt u 0)),(6,(sc J b M)),(7,(iv s.2))]) (fun s a=>aJ T [(.slice none 0 0),(.slice none 0 0)] 42::aJ u [(sc l j m),(s3 a)] 42::OO kT3 3 l m j::ow kT3 3 (s3 a) s.1::OO kT3 3 J M b::G) (none,0,0) (aS R) (fun w s=>((s.nilo kT3 3).e 5 [4,2,3,0,1])) ?_
 rintro ⟨q,g⟩ ⟨a8,ag,ab⟩ σ1 am i aj
 dsimp only [Z00_L1] at i
 refine bQ 3 aB (fun (hn:ag=q.length)=>?_)
 subst hn
 refine dC ?_
 rcases cG i with ⟨U,i⟩|⟨U,i⟩
 refine cR ?_
 obtain ⟨a1,i⟩:=gd i
 obtain ⟨a2,i⟩:=gd i
 obtain ⟨Y,i⟩:=gd i
 refine iE (A:=(Unit)×(HH)) (fun _=>True) (fun a=>[(2,(pt b7 0)),(4,(pt T 0)),(5,(pt u 0)),(6,(sc J b M)),(7,(iv g))]) (fun a=>aJ T [(.slice none 0 0),(.slice none 0 0)] 42::aJ u [(sc l j m),(s3 a.2)] 42::OO kT3 3 l m j::ow kT3 3 (s3 a.2) (q++([(ix t1.Data (ix b g))]:List Int))::OO kT3 3 J M b::G) ?_ ?_
 refine bA 4 aB (show 0<b.length by have:=a1; omega) (fun ap o41 ha=>?_)
 subst ha
 refine bA 8 aA (show 0<t1.Data.length by have:=a2; omega) (fun aq o44 ha=>?_)
 subst ha
 refine cX 14 [3,1] bM fun ht hn=>?_
 refine oJ 0 [3,1] ?_
 refine uJ 2 [3,1] ?_
 refine gG [1,10] (by kernel_rfl) R ⟨?_,?_,trivial⟩
 refine lO (dV 1 cB R R R) (aC (aG (sL [3,1]) (d1 10 R (bU (K:=kT3) (xs:=([(ix t1.Data (ix b g))]:List Int)) (vs:=[(iv (ix t1.Data (ix b g)))]) 0 R R bT cS iu R R R R R R ?_ R (fun a9 ac=>?_)))))
 exact fun I h s=>(hD).list [((),(ix t1.Data (ix b g)))] I h s
 refine aC (aG (sL [4,2,0]) (d1 11 R (lM _ (tE 6 [4,0,1,2,3,5]) ?_)))
 refine eO (K:=kT3) 17592186044416 R R bT cS kN (Zr.zk zT3 iu) R R R R R R dQ Y (fun B D=>(lN (OO kT3 3 B D (q++([(ix t1.Data (ix b g))]:List Int))::_::_::_::_::G) ?_))
 refine aC (aG (sL [2,0]) ?_)
 refine oJ 12 [2,0] ?_
 refine d1 13 R (cT 2 R R gB R R R R R (lN (_::_::aJ u [(sc l j m),(sc B (q++([(ix t1.Data (ix b g))]:List Int)) D)] 42::_::_::G) ?_))
 refine aC (aG (sL [2,0]) (dD ?_))
 exact cJ ((),(B,(q++([(ix t1.Data (ix b g))]:List Int)).length,D)) trivial (aS R) (tE 5 [1,2,3,0,4])
 refine bU (K:=kT3) (xs:=([(ix t1.Data (ix b g))]:List Int)) (vs:=[(iv (ix t1.Data (ix b g)))]) 0 R R bT cS iu R R R R R R ?_ R (fun a9 ac=>?_)
 exact fun I h s=>(hD).list [((),(ix t1.Data (ix b g)))] I h s
 refine aC (aG (sL [4,2,0]) (d1 1 R (lO (dV 2 cB R R R) (aC (aG (sL [4,2,0]) (d1 11 R (lM _ (tE 6 [4,0,1,2,3,5]) ?_)))))))
 refine eO (K:=kT3) 17592186044416 R R bT cS kN (Zr.zk zT3 iu) R R R R R R dQ Y (fun B D=>(lN (OO kT3 3 B D (q++([(ix t1.Data (ix b g))]:List Int))::_::_::_::_::G) ?_))
 refine aC (aG (sL [2,0]) ?_)
 refine oJ 12 [2,0] ?_
 refine d1 13 R (cT 2 R R gB R R R R R (lN (_::_::aJ u [(sc l j m),(sc B (q++([(ix t1.Data (ix b g))]:List Int)) D)] 42::_::_::G) ?_))
 refine aC (aG (sL [2,0]) (dD ?_))
 exact cJ ((),(B,(q++([(ix t1.Data (ix b g))]:List Int)).length,D)) trivial (aS R) (tE 5 [1,2,3,0,4])
 rintro ⟨_,⟨aa,ah,ae⟩⟩ σ1 -
 refine gR 3 aB (fun (hn:ah=(q++([(ix t1.Data (ix b g))]:List Int)).length)=>?_)
 subst hn
 refine dO ?_
 cases i
 exact qA (aa,(q++([(ix t1.Data (ix b g))]:List Int)).length,ae) tI
 refine bC R U ?_
 refine aZ ?_
 cases i
 obtain rfl:=aj _ R
 have i:=ak
 refine aZ ?_
 exact qI (q,(a8,q.length,ab)) i (fun w s=>(s.f 5 [0,4]))
 rintro ⟨F,⟨L,ai,O⟩⟩ σ1 i
 dsimp only [Z00_J1] at i
 refine bQ 3 aB (fun (hn:ai=F.length)=>?_)
 subst hn
 refine aU ?_
 refine aL 0 R R bW R R R R R R (lN (aJ T [(sc l j m),(sc L F O)] 42::aJ u [(sc l j m),(sc L F O)] 42::_::OO kT3 3 L O F::G) ?_)
 refine aU ?_
 cases i
 exact qS ((l,j.length,m),(L,F.length,O)) (tE 10 [2,3])
theorem Z09_ok  {v1:View}{j:(List Int)}{r:View}(g:Z09 v1 j=some r) :
 FnOk Tryz.prog 95 [(.agg [(.slice A2 N2 D2),(.slice A3 N3 D3),(iv v1.Offset),(iv v1.Base)].toArray),(.slice A5 N5 D5)] [aQ kT3 (.slice A2 N2 D2) v1.Dims,aQ kT3 (.slice A3 N3 D3) v1.Strides,aQ kT3 (.slice A5 N5 D5) j] (fun (h:HH×HH)=>((.agg [(s3 h.1),(s3 h.2),(iv r.Offset),(iv r.Base)].toArray),[ow kT3 3 (s3 h.1) r.Dims,ow kT3 3 (s3 h.2) r.Strides])):=by
 unfold Z09 at g
 refine aR Tryz.func95 R 77 R R fun C V=>?_
 refine cL 0 aA ?_
 rintro rfl
 refine cL 1 aA ?_
 rintro rfl
 refine cL 2 aA ?_
 rintro rfl
 let W0:=RR kT3 A2 D2 v1.Dims::RR kT3 A3 D3 v1.Strides::RR kT3 A5 D5 j::V
 refine cN W0 ?_
 refine aZ ?_
 refine eA R fun b6=>?_
 refine aY R R cC (fun Y=>(aC ?_))
 let W1:=aJ b6 [(sc A2 v1.Dims D2),(sc A3 v1.Strides D3),(iv v1.Offset),(iv v1.Base)] 111::W0
 refine aU ?_
 obtain ⟨r8,ab,g⟩:=bd g
 obtain ⟨av,a5,g⟩:=bd g
 obtain ⟨b5,al,g⟩:=bd g
 obtain ⟨b8,am,g⟩:=bd g
 refine cQ [(1,(sc A5 j D5)),(2,(pt b6 0)),(4,(pt Y 0)),(24,(.bool (((!r8)||(!av))||(b5 != b8))))] (aJ Y [(.slice none 0 0),(.slice none 0 0),(iv 0),(iv 0)] 111::W1) ?_ ?_
 rcases bo (!r8) with M | M
 refine cX 16 [] bM fun ht hn=>?_
 refine oJ 0 [] ?_
 refine d1 1 R (lM _ (fun w s=>(((s.d 2 R).d 4 R).e 3 [1,0,2])) ?_)
 refine lC 2 lX R (Za_ok ab) R ?_
 rintro _
 refine aC (aG (sL []) ?_)
 refine uL 2 [] ?_
 refine dD ?_
 exact qj tI
 rcases bo ((!r8)||(!av)) with O | O
 refine cX 16 [] bM fun ht hn=>?_
 refine oJ 0 [] ?_
 refine d1 1 R (lM _ (fun w s=>(((s.d 2 R).d 4 R).e 3 [1,0,2])) ?_)
 refine lC 2 lX R (Za_ok ab) R ?_
 rintro _
 refine aC (aG (sL []) ?_)
 refine iJ 2 [] ?_
 refine d1 5 R (lM _ (fun w s=>(s.d 4 R)) ?_)
 refine bY 1 R (bJ M) kr R (Zo_ok (bL a5 (cP M))) R ?_
 rintro _
 refine aC (aG (sL []) ?_)
 refine rx 6 [] ?_
 refine dD ?_
 exact qj tI
 refine cX 16 [] bM fun ht hn=>?_
 refine oJ 0 [] ?_
 refine d1 1 R (lM _ (fun w s=>(((s.d 2 R).d 4 R).e 3 [1,0,2])) ?_)
 refine lC 2 lX R (Za_ok ab) R ?_
 rintro _
 refine aC (aG (sL []) ?_)
 refine iJ 2 [] ?_
 refine d1 5 R (lM _ (fun w s=>(s.d 4 R)) ?_)
 refine bY 1 R (bJ M) kr R (Zo_ok (bL a5 (cP M))) R ?_
 rintro _
 refine aC (aG (sL []) ?_)
 refine oK 6 [] ?_
 refine hY 11 [] ?_
 refine d1 10 R (lM _ (fun w s=>(s.d 4 R)) ?_)
 refine bY 1 R (bJ O) nR R (Zt_ok (bL al (cP O))) R ?_
 rintro _
 refine aC (aG (sL []) (d1 13 R (lM _ (fun w s=>(s.d 2 R)) ?_)))
 refine bY 1 R (bJ O) nR R (Zt_ok (bL am (cP O))) R ?_
 rintro _
 refine aC (aG (sL []) ?_)
 refine hY 14 [] ?_
 refine dD ?_
 exact qj tI
 rintro σ1
 refine cA ?_
 split at g
 refine aU ?_
 refine lO (vz (.agg [(.slice none 0 0),(.slice none 0 0),(iv 0),(iv 0)].toArray) (aV dU cC R R)) (aL 0 R R bX R R R R R R (aC (aE (bO (bP ?_)))))
 cases g
 exact qS ((none,0,0),(none,0,0)) (fun w s=>(((s.nilo kT3 3).nilo kT3 3).e 7 [1,0]))
 refine bI ?_
 obtain ⟨b,an,g⟩:=bd g
 refine aZ ?_
 refine lM _ (fun w s=>(((s.d 2 R).d 4 R).e 3 [1,0,2])) ?_
 refine lC 2 qB R (Z0a_ok an) R ?_
 rintro ⟨u,bg,D⟩
 refine aM 0 aB ?_
 rintro rfl
 refine bI ?_
 obtain ⟨i,a6,g⟩:=bd g
 obtain ⟨ah,g⟩:=gd g
 refine iE (A:=(Unit)×(Nat×HH)) (fun _=>True) (fun a=>[(1,(sc A5 j D5)),(4,(pt Y 0)),(5,(sc u b D)),(6,(pt a.2.1 0))]) (fun a=>aJ Y [(.slice none 0 0),(.slice none 0 0),(iv 0),(iv 0)] 111::OO kT3 3 u D b::aJ a.2.1 [(s3 a.2.2),(.slice none 0 0),(iv (ix b 0)),(iv v1.Base)] 111::ow kT3 3 (s3 a.2.2) i::W1) ?_ ?_
 refine bA 0 aB (show 0<b.length by have:=ah; omega) (fun bi o27 ha=>?_)
 subst ha
 refine cX 10 [] bM fun ht hn=>?_
 refine dR 0 R (vS R) ?_
 refine kz 2 [] ?_
 refine gG [1,8] (by kernel_rfl) R ⟨?_,?_,trivial⟩
 refine lM _ (fun w s=>(s.d 5 R)) ?_
 refine lC 1 iP R (Z9_ok a6) R ?_
 rintro ⟨T,ay,U⟩
 refine aM 0 aB ?_
 rintro rfl
 refine aC (aG (sL [0]) (dR 7 R (vz (.agg [(sc T i U),(.slice none 0 0),(iv (ix b 0)),(iv v1.Base)].toArray) (aV dU cC R R)) (hS:=(sL [0])) (d1 8 R (aY R R cC (fun a0=>(aC (aG (sL [1,0]) (d1 9 R (aL 0 R R bX R R R R R R (lN (aJ a0 [(sc T i U),(.slice none 0 0),(iv (ix b 0)),(iv v1.Base)] 111::_::_::_::W1) ?_))))))))))
 refine aC (aG (sL [1,0]) (dD ?_))
 exact cJ ((),(a0,(T,i.length,U))) trivial (aS R) (tE 4 [3,2,0,1])
 refine aY R R cC (fun a0=>(aC (aG (sL [0]) (d1 1 R (lM _ (fun w s=>(s.d 6 R)) ?_)))))
 refine lC 1 iP R (Z9_ok a6) R ?_
 rintro ⟨T,ay,U⟩
 refine aM 0 aB ?_
 rintro rfl
 refine aC (aG (sL [1,0]) (dR 7 R (vz (.agg [(sc T i U),(.slice none 0 0),(iv (ix b 0)),(iv v1.Base)].toArray) (aV dU cC R R)) (hS:=(sL [1,0])) (d1 9 R (aL 1 R R bX R R R R R R (lN (_::aJ a0 [(sc T i U),(.slice none 0 0),(iv (ix b 0)),(iv v1.Base)] 111::_::_::W1) ?_)))))
 refine aC (aG (sL [1,0]) (dD ?_))
 exact cJ ((),(a0,(T,i.length,U))) trivial (aS R) (tE 4 [3,2,1,0])
 rintro ⟨_,⟨J,⟨l,az,m⟩⟩⟩ σ1 -
 refine gR 3 aB (fun (hn:az=i.length)=>?_)
 subst hn
 refine aZ ?_
 refine bE (A:=((List Int))×(HH)) (fun a=>Z09_J3 v1 b i a.1=some r) (fun a=>[(4,(pt Y 0)),(5,(sc u b D)),(6,(pt J 0))]) (fun a=>aJ Y [(.slice none 0 0),(.slice none 0 0),(iv 0),(iv 0)] 111::OO kT3 3 u D b::aJ J [(sc l i m),(s3 a.2),(iv (ix b 0)),(iv v1.Base)] 111::OO kT3 3 l m i::ow kT3 3 (s3 a.2) a.1::W1) ?_ ?_
 refine cE ?_
 obtain ⟨e1,b4,b3⟩:=bd g
 refine bF (A:=HH) b4 (fun s a=>[(1,(sc A5 j D5)),(4,(pt Y 0)),(5,(sc u b D)),(6,(pt J 0)),(7,(iv s.2))]) (fun s a=>aJ Y [(.slice none 0 0),(.slice none 0 0),(iv 0),(iv 0)] 111::OO kT3 3 u D b::aJ J [(sc l i m),(s3 a),(iv (ix b 0)),(iv v1.Base)] 111::OO kT3 3 l m i::ow kT3 3 (s3 a) s.1::W1) (none,0,0) (aS R) (fun w s=>((s.nilo kT3 3).f 5 [1,4,0,1])) ?_
 rintro ⟨L,ac⟩ ⟨a7,b0,a9⟩ σ1 au g b2
 dsimp only [Z09_L1] at g
 refine bQ 4 aB (fun (hn:b0=L.length)=>?_)
 subst hn
 refine dC ?_
 rcases cG g with ⟨a2,g⟩|⟨a2,g⟩
 refine j7 ?_
 refine bE (A:=(Int)×(Unit)) (fun a=>Z09_J2 L ac a.1=some au) (fun a=>[(1,(sc A5 j D5)),(4,(pt Y 0)),(5,(sc u b D)),(6,(pt J 0)),(7,(iv ac)),(8,(iv a.1))]) (fun a=>aJ Y [(.slice none 0 0),(.slice none 0 0),(iv 0),(iv 0)] 111::OO kT3 3 u D b::aJ J [(sc l i m),(sc a7 L a9),(iv (ix b 0)),(iv v1.Base)] 111::OO kT3 3 l m i::OO kT3 3 a7 a9 L::W1) ?_ ?_
 refine cA ?_
 obtain ⟨ai,g⟩:=gd g
 refine aU ?_
 refine bG 8 aA (show 0<j.length by have:=ai; omega) (fun bj o53 ha=>?_)
 subst ha
 refine cR ?_
 rcases cG g with ⟨a3,g⟩|⟨a3,g⟩
 refine cA ?_
 obtain ⟨a1,g⟩:=gd g
 obtain ⟨b9,ao,g⟩:=bd g
 obtain ⟨aj,g⟩:=gd g
 refine bA 1 aB (show 0<b.length by have:=aj; omega) (fun bk o61 ha=>?_)
 subst ha
 refine cX 13 [] bM fun ht hn=>?_
 refine oK 0 [] ?_
 refine iJ 8 [] ?_
 refine d1 4 R (gQ (K:=kT3) (aK (ac+1)) (j.length:Int) 8 R R bT cS R R R R a1.1 a1.2.1 a1.2.2 (fun bb be=>(aC (aG (sL [0]) (d1 5 R (lM _ (fun w s=>(s.d 0 R)) ?_))))))
 refine lC 1 nR R (Zt_ok ao) R ?_
 rintro _
 refine aC (aG (sL [0]) ?_)
 refine hY 6 [0] ?_
 refine hY 11 [0] ?_
 refine dD ?_
 exact qI ((aK ((ix b b9) - (ix b 0))),()) g (fun w s=>(s.f 6 [1,5]))
 refine bC R a3 (bZ ?_)
 exact qI ((0:Int),()) g tI
 rintro ⟨Z,_⟩ σ1 g
 dsimp only [Z09_J2] at g
 obtain ⟨ak,g⟩:=gd g
 refine bI ?_
 refine bU (K:=kT3) (xs:=([Z]:List Int)) (vs:=[(iv Z)]) 0 R R bT cS iu R R R R R R ?_ R (fun bc bf=>?_)
 exact fun I h s=>(hD).list [((),Z)] I h s
 refine lM _ (fun w s=>(s.f 6 [5,1,0,5])) ?_
 refine eO (K:=kT3) 17592186044416 R R bT cS kN (Zr.zk zT3 iu) R R R R R R dQ ak (fun a8 aa=>(lN (OO kT3 3 a8 aa (L++([Z]:List Int))::_::_::_::_::W1) ?_))
 refine cA ?_
 refine cT 3 R R gB R R R R R (lN (_::_::_::aJ J [(sc l i m),(sc a8 (L++([Z]:List Int)) aa),(iv (ix b 0)),(iv v1.Base)] 111::_::W1) ?_)
 refine dI ?_
 cases g
 exact qA (a8,(L++([Z]:List Int)).length,aa) (fun w s=>(s.f 5 [1,4,0,1]))
 refine bC R a2 ?_
 refine aZ ?_
 cases g
 obtain rfl:=b2 _ R
 have g:=b3
 refine aZ ?_
 exact qI (L,(a7,L.length,a9)) g tI
 rintro ⟨q,⟨F,b1,G⟩⟩ σ1 g
 dsimp only [Z09_J3] at g
 refine bQ 4 aB (fun (hn:b1=q.length)=>?_)
 subst hn
 refine aZ ?_
 obtain ⟨aw,ap,g⟩:=bd g
 obtain ⟨ax,aq,g⟩:=bd g
 obtain ⟨ba,ar,g⟩:=bd g
 refine cQ [(4,(pt Y 0)),(6,(pt J 0)),(74,(.bool ((!aw)||(!ba))))] (aJ Y [(.slice none 0 0),(.slice none 0 0),(iv 0),(iv 0)] 111::aJ J [(sc l i m),(sc F q G),(iv (ix b 0)),(iv v1.Base)] 111::OO kT3 3 l m i::OO kT3 3 F G q::W1) ?_ ?_
 refine aZ ?_
 refine lM _ (fun w s=>(s.f 5 [3,2,0,3])) ?_
 refine lC 2 lX R (FnOk.lends (A':=[OO kT3 3 l m i,OO kT3 3 F G q]) (A:=[RR kT3 l m i,RR kT3 F G q]) (B:=[]) (Za_ok (v1:=(⟨i,q,(ix b 0),v1.Base⟩:View)) ap) ⟨aP,aP,trivial⟩ (fun _=>trivial)) R ?_
 rintro _
 refine aZ ?_
 rcases bo (!aw) with E | E
 refine dO ?_
 exact qj (tE 5 [2,4,0,1])
 refine lW (bJ E) (vz (.agg [(sc l i m),(sc F q G),(iv (ix b 0)),(iv v1.Base)].toArray) (bK 4 eU bX R R R R)) (bY 2 R (bJ E) qB R (FnOk.lends (A':=[OO kT3 3 l m i,OO kT3 3 F G q]) (A:=[RR kT3 l m i,RR kT3 F G q]) (B:=[]) (Z0a_ok (v1:=(⟨i,q,(ix b 0),v1.Base⟩:View)) (bL aq (cP E))) ⟨aP,aP,trivial⟩ (fun _=>⟨(bB iF),trivial⟩)) R ?_)
 rintro ⟨ae,bh,ag⟩
 refine aM 2 aB ?_
 rintro rfl
 refine cA ?_
 refine lM _ (tE 6 [2,4,0,1,3,5]) ?_
 refine bY 2 R (bJ E) uP R (FnOk.lends (A':=[OO kT3 3 ae ag ax,OO kT3 3 u D b]) (A:=[RR kT3 ae ag ax,RR kT3 u D b]) (B:=[]) (Zv_ok (bL ar (cP E))) ⟨aP,aP,trivial⟩ (fun _=>trivial)) R ?_
 rintro _
 refine aU ?_
 exact qj (tE 6 [4,5,2,3])
 rintro σ1
 refine cA ?_
 rcases cG g with ⟨a4,g⟩|⟨a4,g⟩
 refine aU ?_
 refine lO (vz (.agg [(.slice none 0 0),(.slice none 0 0),(iv 0),(iv 0)].toArray) (aV dU cC R R)) (aL 0 R R bX R R R R R R (lN (_::_::_::_::W1) ?_))
 refine bI ?_
 cases g
 exact qS ((none,0,0),(none,0,0)) (fun w s=>(((s.nilo kT3 3).nilo kT3 3).e 10 [1,0]))
 refine bC R a4 ?_
 refine cR ?_
 refine aL 0 R R bX R R R R R R (lN (aJ Y [(sc l i m),(sc F q G),(iv (ix b 0)),(iv v1.Base)] 111::_::_::_::W1) ?_)
 refine aU ?_
 cases g
 exact qS ((l,i.length,m),(F,q.length,G)) (tE 8 [2,3])
theorem Z2c_ok  {v1:View}{a:Int}{r:Bool}(b:Z2c v1 a=some r) :
 FnOk Tryz.prog 136 [(.agg [(.slice A2 N2 D2),(.slice A3 N3 D3),(iv v1.Offset),(iv v1.Base)].toArray),(iv a)] [aQ kT3 (.slice A2 N2 D2) v1.Dims,aQ kT3 (.slice A3 N3 D3) v1.Strides] (fun (h:Unit)=>((.bool r),[])):=by
 unfold Z2c at b
 refine aR Tryz.func136 R 18 R R fun C V=>?_
 refine cL 0 aA ?_
 rintro rfl
 refine cL 1 aA ?_
 rintro rfl
 let q:=RR kT3 A2 D2 v1.Dims::RR kT3 A3 D3 v1.Strides::V
 refine cN q ?_
 refine aZ ?_
 refine eA R fun u=>?_
 refine aZ ?_
 let g:=aJ u [(sc A2 v1.Dims D2),(sc A3 v1.Strides D3),(iv v1.Offset),(iv v1.Base)] 111::q
 refine qN g ?_
 refine aZ ?_
 obtain ⟨m,l,b⟩:=bd b
 refine cQ [(4,(.bool ((m&&(decide (a≥0)))&&(decide (a<(v1.Dims.length:Int))))))] (g) ?_ ?_
 refine aZ ?_
 refine lM _ (fun w s=>(((s.d 1 R).d 3 R).e 2 [1,0])) ?_
 refine lC 2 lX R (Za_ok l) R ?_
 rintro _
 refine lN g ?_
 refine cA ?_
 rcases bo m with i | i
 refine bI ?_
 rcases bo (m&&(decide (a≥0))) with j | j
 refine dI ?_
 exact qj tI
 refine dI ?_
 exact qj tI
 refine iY ?_
 exact qj tI
 rintro σ1
 refine aZ ?_
 cases b
 exact qF () (tE 3 [])
theorem Z2e_ok  {v1:View}{r:View}(a:Z2e v1=some r) :
 FnOk Tryz.prog 137 [(.agg [(.slice A2 N2 D2),(.slice A3 N3 D3),(iv v1.Offset),(iv v1.Base)].toArray)] [aQ kT3 (.slice A2 N2 D2) v1.Dims,aQ kT3 (.slice A3 N3 D3) v1.Strides] (fun (h:HH×HH)=>((.agg [(s3 h.1),(s3 h.2),(iv r.Offset),(iv r.Base)].toArray),[ow kT3 3 (s3 h.1) r.Dims,ow kT3 3 (s3 h.2) r.Strides])):=by
 unfold Z2e at a
 refine aR Tryz.func137 R 14 R R fun C V=>?_
 refine cL 0 aA ?_
 rintro rfl
 refine cL 1 aA ?_
 rintro rfl
 let j:=RR kT3 A2 D2 v1.Dims::RR kT3 A3 D3 v1.Strides::V
 refine cN j ?_
 refine aZ ?_
 refine eA R fun m=>?_
 refine aY R R cC (fun q=>(aC ?_))
 let l:=aJ m [(sc A2 v1.Dims D2),(sc A3 v1.Strides D3),(iv v1.Offset),(iv v1.Base)] 111::j
 refine aZ ?_
 obtain ⟨g,e,a⟩:=bd a
 obtain ⟨i,b,a⟩:=bd a
 refine cX 12 [0] bM fun B u=>?_
 refine hY 0 [0] ?_
 refine hY 3 [0] ?_
 refine oK 6 [0] ?_
 refine d1 2 R (lM _ (fun w s=>(s.d 2 R)) ?_)
 refine lC 1 iP R (Z9_ok e) R ?_
 rintro ⟨A8,N8,D8⟩
 refine aM 0 aB ?_
 rintro rfl
 refine aC (aG (sL [1,0]) (d1 5 R (lM _ (fun w s=>(s.d 4 R)) ?_)))
 refine lC 1 iP R (Z9_ok b) R ?_
 rintro ⟨A11,N11,D11⟩
 refine aM 0 aB ?_
 rintro rfl
 refine aC (aG (sL [2,1,0]) (dR 10 R (vz (.agg [(sc A8 g D8),(sc A11 i D11),(iv v1.Offset),(iv v1.Base)].toArray) (aV dU cC R R)) (hS:=(sL [2,1,0])) (d1 11 R (aL 2 R R bX R R R R R R (lN (_::_::aJ q [(sc A8 g D8),(sc A11 i D11),(iv v1.Offset),(iv v1.Base)] 111::l) ?_)))))
 refine aC (aG (sL [2,1,0]) (dD ?_))
 refine aZ ?_
 cases a
 exact qS ((A8,g.length,D8),(A11,i.length,D11)) (tE 6 [1,0])
theorem Z2f_ok  {v1:View}{r:View}(a:Z2f v1=some r) :
 FnOk Tryz.prog 138 [(.agg [(.slice A2 N2 D2),(.slice A3 N3 D3),(iv v1.Offset),(iv v1.Base)].toArray)] [aQ kT3 (.slice A2 N2 D2) v1.Dims,aQ kT3 (.slice A3 N3 D3) v1.Strides] (fun (h:HH×HH)=>((.agg [(s3 h.1),(s3 h.2),(iv r.Offset),(iv r.Base)].toArray),[aQ kT3 (s3 h.1) r.Dims,aQ kT3 (s3 h.2) r.Strides])):=by
 unfold Z2f at a
 refine aR Tryz.func138 R 8 R R fun C V=>?_
 refine cL 0 aA ?_
 rintro rfl
 refine cL 1 aA ?_
 rintro rfl
 let g:=RR kT3 A2 D2 v1.Dims::RR kT3 A3 D3 v1.Strides::V
 refine cN g ?_
 refine aZ ?_
 refine eA R fun j=>?_
 refine aY R R cC (fun l=>(aC ?_))
 let i:=aJ j [(sc A2 v1.Dims D2),(sc A3 v1.Strides D3),(iv v1.Offset),(iv v1.Base)] 111::g
 refine aU ?_
 obtain ⟨m,b,a⟩:=bd a
 refine aZ ?_
 refine lM _ (fun w s=>(((s.d 2 R).d 4 R).e 3 [1,0,2])) ?_
 refine lC 2 lX R (Za_ok b) R ?_
 rintro _
 refine aU ?_
 split at a
 refine aU ?_
 refine lO (vz (.agg [(.slice none 0 0),(.slice none 0 0),(iv 0),(iv 0)].toArray) (aV dU cC R R)) (aL 0 R R bX R R R R R R (aC (aE (bO (bP ?_)))))
 cases a
 exact qS ((none,0,0),(none,0,0)) (fun w s=>(((s.nilr kT3).nilr kT3).e 6 [1,0]))
 refine cE ?_
 refine aL 0 R R bX R R R R R R (lN (aJ l [(sc A2 v1.Dims D2),(sc A3 v1.Strides D3),(iv v1.Offset),(iv v1.Base)] 111::i) ?_)
 refine aU ?_
 cases a
 exact qS ((A2,v1.Dims.length,D2),(A3,v1.Strides.length,D3)) (tE 4 [2,3])
theorem Z19_ok  {v1:View}{g:Int}{L:Int}{b:Int}{j:Int}{r:View}(J:Z19 v1 g L b j=some r) :
 FnOk Tryz.prog 96 [(.agg [(.slice A2 N2 D2),(.slice A3 N3 D3),(iv v1.Offset),(iv v1.Base)].toArray),(iv g),(iv L),(iv b),(iv j)] [aQ kT3 (.slice A2 N2 D2) v1.Dims,aQ kT3 (.slice A3 N3 D3) v1.Strides] (fun (h:HH×HH)=>((.agg [(.slice h.1.1 h.1.2.1 h.1.2.2),(.slice h.2.1 h.2.2.1 h.2.2.2),(iv r.Offset),(iv r.Base)].toArray),[aQ kT3 (.slice h.1.1 h.1.2.1 h.1.2.2) r.Dims,aQ kT3 (.slice h.2.1 h.2.2.1 h.2.2.2) r.Strides])):=by
 unfold Z19 at J
 refine aR Tryz.func96 R 102 R R fun C V=>?_
 refine cN (_::_::V) ?_
 refine cL 0 aA ?_
 rintro rfl
 refine cL 1 aA ?_
 rintro rfl
 let W0:List HP:=RR kT3 A2 D2 v1.Dims::RR kT3 A3 D3 v1.Strides::V
 refine cN W0 ?_
 refine aI (aD (eA R (fun b8=>(aY R R cC (fun b9=>(aC ?_))))))
 let U:List HP:=aJ b8 [(sc A2 v1.Dims D2),(sc A3 v1.Strides D3),(iv v1.Offset),(iv v1.Base)] 111::W0
 refine qN (_::U) ?_
 refine aE (aI (aI ?_))
 obtain ⟨a0,aj,J⟩:=bd J
 obtain ⟨a7,J⟩:=gd J
 refine cQ [(1,(iv g)),(2,(iv L)),(3,(iv b)),(4,(iv j)),(5,(pt b8 0)),(10,(pt b9 0)),(45,(.bool (((((((!a0)||(decide (b<(1:Int))))||(decide (b>(4096:Int))))||(decide (j<(-4096:Int))))||(decide (j>(4096:Int))))||(decide (L<(0:Int))))||(decide (L≥(ix v1.Dims g))))))] (aJ b9 [(.slice none 0 0),(.slice none 0 0),(iv 0),(iv 0)] 111::U) ?_ ?_
 refine aD (lO (vz (.agg [(sc A2 v1.Dims D2),(sc A3 v1.Strides D3),(iv v1.Offset),(iv v1.Base)].toArray) (bK 1 eU bX R R R R)) (lI R (lM (RR kT3 A2 D2 v1.Dims::RR kT3 A3 D3 v1.Strides::aJ _ _ _::U) (fun w s=>(((s.d 2 R).d 4 R).e 3 [1,0,2])) ?_)))
 refine lC 2 wl R (Z2c_ok aj) R ?_
 rintro _
 refine lN (_::U) ?_
 refine lO (ki R) (lB R ?_)
 rcases bo (!a0) with l | l
 refine lf (bN l) (lf (bN l) (lO (dX (decide (b<(1:Int))) R l) (lB R (lf (bN (oT l)) (lf (bN (oT l)) (lO (dX (decide (b>(4096:Int))) R (oT l)) (lB R (lf (bN (oT (oT l))) (lf (bN (oT (oT l))) (lO (dX (decide (j<(-4096:Int))) R (oT (oT l))) (lB R (lf (bN (oT (oT (oT l)))) (lf (bN (oT (oT (oT l)))) (lO (dX (decide (j>(4096:Int))) R (oT (oT (oT l)))) (lB R (lf (bN (oT (oT (oT (oT l))))) (lf (bN (oT (oT (oT (oT l))))) (lO (dX (decide (L<(0:Int))) R (oT (oT (oT (oT l))))) (lB R (lf (bN (oT (oT (oT (oT (oT l)))))) (lf (bN (oT (oT (oT (oT (oT l)))))) (lf (bN (oT (oT (oT (oT (oT l)))))) (lf (bN (oT (oT (oT (oT (oT l)))))) (lf (bN (oT (oT (oT (oT (oT l)))))) (lf (bN (oT (oT (oT (oT (oT l)))))) (lf (bN (oT (oT (oT (oT (oT l)))))) (lO (dX (decide (L≥(ix v1.Dims g))) R (oT (oT (oT (oT (oT l)))))) (aC ?_))))))))))))))))))))))))))))
 exact qJ (fun w s=>s)
 refine lW (bJ l) (vI R) (lW (bJ l) (jh R R) (lO (eH R l R) (lB R ?_)))
 rcases bo ((!a0)||(decide (b<(1:Int)))) with m | m
 refine lf (bN m) (lf (bN m) (lO (dX (decide (b>(4096:Int))) R m) (lB R (lf (bN (oT m)) (lf (bN (oT m)) (lO (dX (decide (j<(-4096:Int))) R (oT m)) (lB R (lf (bN (oT (oT m))) (lf (bN (oT (oT m))) (lO (dX (decide (j>(4096:Int))) R (oT (oT m))) (lB R (lf (bN (oT (oT (oT m)))) (lf (bN (oT (oT (oT m)))) (lO (dX (decide (L<(0:Int))) R (oT (oT (oT m)))) (lB R (lf (bN (oT (oT (oT (oT m))))) (lf (bN (oT (oT (oT (oT m))))) (lf (bN (oT (oT (oT (oT m))))) (lf (bN (oT (oT (oT (oT m))))) (lf (bN (oT (oT (oT (oT m))))) (lf (bN (oT (oT (oT (oT m))))) (lf (bN (oT (oT (oT (oT m))))) (lO (dX (decide (L≥(ix v1.Dims g))) R (oT (oT (oT (oT m))))) (aC ?_))))))))))))))))))))))))
 exact qJ (fun w s=>s)
 refine lW (bJ m) (vI R) (lW (bJ m) (yM R R) (lO (eH R m R) (lB R ?_)))
 rcases bo (((!a0)||(decide (b<(1:Int))))||(decide (b>(4096:Int)))) with q | q
 refine lf (bN q) (lf (bN q) (lO (dX (decide (j<(-4096:Int))) R q) (lB R (lf (bN (oT q)) (lf (bN (oT q)) (lO (dX (decide (j>(4096:Int))) R (oT q)) (lB R (lf (bN (oT (oT q))) (lf (bN (oT (oT q))) (lO (dX (decide (L<(0:Int))) R (oT (oT q))) (lB R (lf (bN (oT (oT (oT q)))) (lf (bN (oT (oT (oT q)))) (lf (bN (oT (oT (oT q)))) (lf (bN (oT (oT (oT q)))) (lf (bN (oT (oT (oT q)))) (lf (bN (oT (oT (oT q)))) (lf (bN (oT (oT (oT q)))) (lO (dX (decide (L≥(ix v1.Dims g))) R (oT (oT (oT q)))) (aC ?_))))))))))))))))))))
 exact qJ (fun w s=>s)
 refine lW (bJ q) (vI R) (lW (bJ q) (jh R R) (lO (eH R q R) (lB R ?_)))
 rcases bo ((((!a0)||(decide (b<(1:Int))))||(decide (b>(4096:Int))))||(decide (j<(-4096:Int)))) with D | D
 refine lf (bN D) (lf (bN D) (lO (dX (decide (j>(4096:Int))) R D) (lB R (lf (bN (oT D)) (lf (bN (oT D)) (lO (dX (decide (L<(0:Int))) R (oT D)) (lB R (lf (bN (oT (oT D))) (lf (bN (oT (oT D))) (lf (bN (oT (oT D))) (lf (bN (oT (oT D))) (lf (bN (oT (oT D))) (lf (bN (oT (oT D))) (lf (bN (oT (oT D))) (lO (dX (decide (L≥(ix v1.Dims g))) R (oT (oT D))) (aC ?_))))))))))))))))
 exact qJ (fun w s=>s)
 refine lW (bJ D) (vI R) (lW (bJ D) (yM R R) (lO (eH R D R) (lB R ?_)))
 rcases bo (((((!a0)||(decide (b<(1:Int))))||(decide (b>(4096:Int))))||(decide (j<(-4096:Int))))||(decide (j>(4096:Int)))) with E | E
 refine lf (bN E) (lf (bN E) (lO (dX (decide (L<(0:Int))) R E) (lB R (lf (bN (oT E)) (lf (bN (oT E)) (lf (bN (oT E)) (lf (bN (oT E)) (lf (bN (oT E)) (lf (bN (oT E)) (lf (bN (oT E)) (lO (dX (decide (L≥(ix v1.Dims g))) R (oT E)) (aC ?_))))))))))))
 exact qJ (fun w s=>s)
 refine lW (bJ E) (vI R) (lW (bJ E) (jh R R) (lO (eH R E R) (lB R ?_)))
 rcases bo ((((((!a0)||(decide (b<(1:Int))))||(decide (b>(4096:Int))))||(decide (j<(-4096:Int))))||(decide (j>(4096:Int))))||(decide (L<(0:Int)))) with u | u
 refine lf (bN u) (lf (bN u) (lf (bN u) (lf (bN u) (lf (bN u) (lf (bN u) (lf (bN u) (lO (dX (decide (L≥(ix v1.Dims g))) R u) (aC ?_))))))))
 exact qJ (fun w s=>s)
 refine lW (bJ u) (vI R) (lW (bJ u) (dS 0 fW R) (lW (bJ u) (dV 1 cB R R R) (lW (bJ u) (vI R) (bG 2 aA (show 0<v1.Dims.length by have:=(a7 u); omega) (fun aq o14 ha=>?_)))))
 subst ha
 refine lW (bJ u) (eE bT cS R R (a7 u)) (lW (bJ u) (hX 2 fR aA R (a7 u)) (lW (bJ u) (s7 R R) (lO (eH R u R) (aC ?_))))
 exact qJ (fun w s=>s)
 rintro σ1
 refine aE ?_
 rcases cG J with ⟨a4,J⟩|⟨a4,J⟩
 refine bS R a4 (aI (aD (lO (vz (.agg [(.slice none 0 0),(.slice none 0 0),(iv 0),(iv 0)].toArray) (aV dU cC R R)) (aL 0 R R bX R R R R R R (aC (aE (bO (bP ?_))))))))
 obtain rfl:=so J
 exact cY (vs:=[(.agg [(.slice none 0 0),(.slice none 0 0),(iv 0),(iv 0)].toArray)]) (.inl R) ((none,0,0),(none,0,0)) R ⟨⟨0,b9,_,_,R,R,.inl ⟨eU,bX,R⟩⟩,trivial⟩ R (fun w s=>(((s.nilr kT3).nilr kT3).e 6 [1,0]))
 refine bC R a4 (bZ (aE (aI (aD (lI R (lI R (lO (x0 R R) (lI R (lO (s6 R R) (lO (kM R R) (lI R (aC (aE (aI (aI ?_)))))))))))))))
 obtain ⟨a8,J⟩:=gd J
 refine cQ [(1,(iv g)),(2,(iv L)),(3,(iv b)),(4,(iv j)),(5,(pt b8 0)),(10,(pt b9 0)),(63,(.bool ((decide ((aK (L+(aK ((aK (b - (1:Int)))*j))))<(0:Int)))||(decide ((aK (L+(aK ((aK (b - (1:Int)))*j))))≥(ix v1.Dims g))))))] (aJ b9 [(.slice none 0 0),(.slice none 0 0),(iv 0),(iv 0)] 111::U) ?_ ?_
 refine aD (lI R (lO (jh R R) (lB R ?_)))
 rcases bo (decide ((aK (L+(aK ((aK (b - (1:Int)))*j))))<(0:Int))) with B | B
 refine lf (bN B) (lf (bN B) (lf (bN B) (lf (bN B) (lf (bN B) (lf (bN B) (lf (bN B) (lO (dX (decide ((aK (L+(aK ((aK (b - (1:Int)))*j))))≥(ix v1.Dims g))) R B) (aC ?_))))))))
 exact qJ (fun w s=>s)
 refine lW (bJ B) (vI R) (lW (bJ B) (dS 0 fW R) (lW (bJ B) (dV 1 cB R R R) (lW (bJ B) (vI R) (bG 2 aA (show 0<v1.Dims.length by have:=(a8 B); omega) (fun ar o24 ha=>?_)))))
 subst ha
 refine lW (bJ B) (eE bT cS R R (a8 B)) (lW (bJ B) (hX 2 fR aA R (a8 B)) (lW (bJ B) (s7 R R) (lO (eH R B R) (aC ?_))))
 exact qJ (fun w s=>s)
 rintro σ1
 refine aE ?_
 rcases cG J with ⟨a5,J⟩|⟨a5,J⟩
 refine bS R a5 (aI (aD (lO (vz (.agg [(.slice none 0 0),(.slice none 0 0),(iv 0),(iv 0)].toArray) (aV dU cC R R)) (aL 0 R R bX R R R R R R (aC (aE (bO (bP ?_))))))))
 obtain rfl:=so J
 exact cY (vs:=[(.agg [(.slice none 0 0),(.slice none 0 0),(iv 0),(iv 0)].toArray)]) (.inl R) ((none,0,0),(none,0,0)) R ⟨⟨0,b9,_,_,R,R,.inl ⟨eU,bX,R⟩⟩,trivial⟩ R (fun w s=>(((s.nilr kT3).nilr kT3).e 6 [1,0]))
 refine bC R a5 (bZ (aE (aI ?_)))
 obtain ⟨i,ak,J⟩:=bd J
 refine aD (lO (vz (.agg [(sc A2 v1.Dims D2),(sc A3 v1.Strides D3),(iv v1.Offset),(iv v1.Base)].toArray) (bK 1 eU bX R R R R)) (lM (RR kT3 A2 D2 v1.Dims::RR kT3 A3 D3 v1.Strides::aJ _ _ _::U) (fun w s=>(((s.d 2 R).d 4 R).e 3 [1,0,2])) ?_))
 refine lC 2 wm R (Z2e_ok ak) R ?_
 rintro ⟨⟨a3,am,M⟩,⟨a2,an,G⟩⟩
 refine lN (ow kT3 3 (.slice a3 am M) i.Dims::ow kT3 3 (.slice a2 an G) i.Strides::_::U) ?_
 refine aM 0 aB ?_
 rintro rfl
 refine aM 1 aB ?_
 rintro rfl
 refine aY R R cC (fun Z=>(aL 0 R R bX R R R R R R (lN (aJ Z [(sc a3 i.Dims M),(sc a2 i.Strides G),(iv i.Offset),(iv i.Base)] 111::_::_::_::U) ?_)))
 refine aC (aE (aI ?_))
 obtain ⟨F,J⟩:=gd J
 refine cQ [(1,(iv g)),(3,(iv b)),(4,(iv j)),(10,(pt b9 0)),(12,(pt Z 0))] (aJ b9 [(.slice none 0 0),(.slice none 0 0),(iv 0),(iv 0)] 111::aJ Z [(sc a3 i.Dims M),(sc a2 i.Strides G),(iv (aK (i.Offset+(aK (L*(ix i.Strides g)))))),(iv i.Base)] 111::OO kT3 3 a3 M i.Dims::OO kT3 3 a2 G i.Strides::U) ?_ ?_
 refine bA 2 aB (show 0<i.Strides.length by have:=F; omega) (fun ai o34 ha=>?_)
 subst ha
 refine cX 12 [0] bM (fun ht hn=>(dR 0 R (dS 2 mj R) (hS:=(sL [0])) (dR 2 R (vI R) (hS:=(sL [0])) (dR 3 R (dS 1 fK R) (hS:=(sL [0])) (dR 5 R (vI R) (hS:=(sL [0])) (gG [1,4] (by kernel_rfl) R ⟨?_,?_,trivial⟩))))))
 refine lO (dV 0 fR R R R) (aC (aG (sL [0]) (d1 4 R (lO (dV 0 cB R R R) (aC (aG (sL [0]) (dR 6 R (eE bT cS R R F) (hS:=(sL [0])) (dR 7 R (hX 1 fR aB R F) (hS:=(sL [0])) (dR 8 R (s6 R R) (hS:=(sL [0])) (dR 9 R (kM R R) (hS:=(sL [0])) (dR 10 R (dS 2 mj R) (hS:=(sL [0])) (d1 11 R (cT 0 R R cS R R R R R (lN (aJ Z [(sc a3 i.Dims M),(sc (ad ai o34) i.Strides G),(iv (aK (i.Offset+(aK (L*(ix i.Strides g)))))),(iv i.Base)] 111::_::OO kT3 3 (ad ai o34) G i.Strides::_::U) ?_))))))))))))))
 refine aC (aG (sL [0]) (dD ?_))
 exact qJ (fun w s=>(s.e 4 [3,0,1,2]))
 refine lO (dV 0 cB R R R) (aC (aG (sL [0]) (dR 6 R (eE bT cS R R F) (hS:=(sL [0])) (dR 7 R (hX 1 fR aB R F) (hS:=(sL [0])) (dR 8 R (s6 R R) (hS:=(sL [0])) (d1 1 R (lO (dV 0 fR R R R) (aC (aG (sL [0]) (dR 9 R (kM R R) (hS:=(sL [0])) (dR 10 R (dS 2 mj R) (hS:=(sL [0])) (d1 11 R (cT 0 R R cS R R R R R (aC (aG (sL [0]) (dD ?_))))))))))))))))
 exact qJ (fun w s=>(s.e 4 [3,0,1,2]))
 rintro σ1
 refine aE (aI ?_)
 obtain ⟨a1,J⟩:=gd J
 refine aD (lO (dS 0 fW R) (lO (dV 1 cB R R R) (lI R (lI R (bG 2 aB (show 0<i.Dims.length by have:=a1; omega) (fun Y o37 ha=>?_))))))
 subst ha
 refine lO (eE bT cS R R a1) (lM (OO kT3 3 (ad Y o37) M i.Dims::aJ _ _ _::aJ Z [(sc (ad Y o37) i.Dims M),(sc a2 i.Strides G),(iv (aK (i.Offset+(aK (L*(ix i.Strides g)))))),(iv i.Base)] 111::OO kT3 3 a2 G i.Strides::U) (fun w s=>(s.e 4 [2,0,1,3])) ?_)
 refine dZ (K:=kT3) (x':=b) 0 g R R cS R R a1.1 a1.2 ?_ ?_
 exact fun I h s=>(hD).put I h () b s
 refine lN (ow kT3 3 (.slice (ad Y o37) i.Dims.length M) (i.Dims.set g.toNat b)::_::_::_::U) ?_
 refine aC (aE (aI (bA 3 aB (show 0<i.Strides.length by have:=F; omega) (fun T o39 ha=>?_))))
 subst ha
 refine cX 12 [3] bM (fun ht hn=>(dR 0 R (dS 1 fK R) (hS:=(sL [3])) (dR 1 R (dV 2 cB R R R) (hS:=(sL [3])) (dR 2 R (vI R) (hS:=(sL [3])) (dR 3 R (dS 1 fK R) (hS:=(sL [3])) (dR 4 R (dV 2 cB R R R) (hS:=(sL [3])) (dR 5 R (vI R) (hS:=(sL [3])) (dR 6 R (eE bT cS R R F) (hS:=(sL [3])) (dR 8 R (vI R) (hS:=(sL [3])) (d1 7 R (lO (hX 3 fR aB R F) (aC (aG (sL [3]) (dR 9 R (s6 R R) (hS:=(sL [3])) (dR 10 R (eE bT cS R R F) (hS:=(sL [3])) (d1 11 R (lM (OO kT3 3 (ad T o39) G i.Strides::ow _ _ _ _::aJ _ _ _::aJ Z [(sc (ad Y o37) i.Dims M),(sc (ad T o39) i.Strides G),(iv (aK (i.Offset+(aK (L*(ix i.Strides g)))))),(iv i.Base)] 111::U) (fun w s=>(s.e 4 [3,0,1,2])) ?_)))))))))))))))))
 refine dZ (K:=kT3) (x':=(aK ((ix i.Strides g)*j))) 0 g R R cS R R F.1 F.2 ?_ ?_
 exact fun I h s=>(hD).put I h () (aK ((ix i.Strides g)*j)) s
 refine lN (ow kT3 3 (.slice (ad T o39) i.Strides.length G) (i.Strides.set g.toNat (aK ((ix i.Strides g)*j)))::_::_::_::U) ?_
 refine aC (aG (sL [0]) (dD ?_))
 obtain ⟨ag,a9,J⟩:=bd J
 replace a9:=Option.some.inj a9
 refine qM (ow kT3 3 (.slice (ad T o39) i.Strides.length G) ag::_::_::_::U) (fun w s=>by rw [← a9]; exact s) ?_
 refine aE (aI (bE (A:=((List Int))×(Unit)) (fun a=>Z19_J1 g L b i a.1=some r) (fun a=>[(10,(pt b9 0)),(12,(pt Z 0))]) (fun a=>aJ b9 [(.slice none 0 0),(.slice none 0 0),(iv 0),(iv 0)] 111::aJ Z [(sc (ad Y o37) i.Dims M),(sc (ad T o39) i.Strides G),(iv (aK (i.Offset+(aK (L*(ix i.Strides g)))))),(iv i.Base)] 111::ow kT3 3 (.slice (ad Y o37) i.Dims.length M) (i.Dims.set g.toNat b)::ow kT3 3 (.slice (ad T o39) i.Strides.length G) a.1::U) ?_ ?_))
 refine aI (aD (lI R (lO (m5 R R) (aC (aE ?_)))))
 rcases cG J with ⟨a6,J⟩|⟨a6,J⟩
 refine bS R a6 (aD (lO (dS 1 fK R) (lO (dV 3 cB R R R) (lI R (lO (eE bT cS R R F) (dZ (K:=kT3) (x':=(0:Int)) 0 g R R cS R R F.1 F.2 ?_ ?_))))))
 exact fun I h s=>(hD).put I h () (0:Int) s
 refine lN (ow kT3 3 (.slice (ad T o39) i.Strides.length G) (ag.set g.toNat (0:Int))::_::_::_::U) ?_
 refine aC ?_
 exact qI ((ag.set g.toNat (0:Int)),()) J (fun w s=>(s.e 4 [2,3,1,0]))
 refine bC R a6 (bZ ?_)
 exact qI (ag,()) J (fun w s=>(s.e 4 [2,3,1,0]))
 rintro ⟨ah,_⟩ σ1 J
 replace J:Z19_J1 g L b i ah=some r:=J
 unfold Z19_J1 at J
 refine aI ?_
 obtain ⟨O,al,J⟩:=bd J
 refine aD (lO (vz (.agg [(sc (ad Y o37) i.Dims M),(sc (ad T o39) i.Strides G),(iv (aK (i.Offset+(aK (L*(ix i.Strides g)))))),(iv i.Base)].toArray) (bK 1 eU bX R R R R)) (je (fun w s=>s.shr 2 R) (je (fun w s=>s.shr 3 R) (lM (aQ kT3 (.slice (ad Y o37) i.Dims.length M) (i.Dims.set g.toNat b)::aQ kT3 (.slice (ad T o39) i.Strides.length G) ah::aQ kT3 (.slice (ad T o39) i.Strides.length G) ah::aQ kT3 (.slice (ad Y o37) i.Dims.length M) (i.Dims.set g.toNat b)::aJ _ _ _::aJ _ _ _::U) (fun w s=>(((s.d 1 R).d 1 R).e 6 [1,0,2,3,4,5])) ?_))))
 refine lC 2 wo R (Z2f_ok (v1:=(⟨(i.Dims.set g.toNat b),ah,(aK (i.Offset+(aK (L*(ix i.Strides g))))),i.Base⟩:View)) al) R ?_
 rintro ⟨⟨aa,ao,ac⟩,⟨ab,ap,ae⟩⟩
 refine lN (aQ kT3 (.slice aa ao ac) O.Dims::aQ kT3 (.slice ab ap ae) O.Strides::_::_::_::_::U) ?_
 refine aM 0 aA ?_
 rintro rfl
 refine aM 1 aA ?_
 rintro rfl
 refine aL 4 R R bX R R R R R R (lN (_::_::_::_::aJ b9 [(sc aa O.Dims ac),(sc ab O.Strides ae),(iv O.Offset),(iv O.Base)] 111::_::U) ?_)
 refine aC (aE (bO ?_))
 obtain rfl:=so J
 exact cY (vs:=[(.agg [(sc aa O.Dims ac),(sc ab O.Strides ae),(iv O.Offset),(iv O.Base)].toArray)]) (.inl R) ((aa,O.Dims.length,ac),(ab,O.Strides.length,ae)) R ⟨⟨4,b9,_,_,R,R,.inl ⟨eU,bX,R⟩⟩,trivial⟩ R (fun w s=>(s.e 9 [0,1]))
theorem Z1x_ok  {t1:Tensor}{a:(List Int)}{i:Int}{r:(List Int)}(g:Z1x t1 a i=some r) :
 FnOk Tryz.prog 140 [(.agg [(.slice A2 N2 D2),(.slice A3 N3 D3)].toArray),(.slice A5 N5 D5),(iv i)] [aQ kT3 (.slice A2 N2 D2) t1.Dims,ow kT3 3 (.slice A3 N3 D3) t1.Data,aQ kT3 (.slice A5 N5 D5) a] (fun (h:Unit)=>((.tuple [].toArray),[ow kT3 3 (.slice A3 N3 D3) r])):=by
 unfold Z1x at g
 refine aR Tryz.func140 R 14 R R fun C V=>?_
 refine cM _ (tE 3 [1,0,2]) ?_
 refine cL 0 aB ?_
 rintro rfl
 refine cL 1 aA ?_
 rintro rfl
 refine cL 2 aA ?_
 rintro rfl
 let l:=RR kT3 A2 D2 t1.Dims::RR kT3 A5 D5 a::V
 refine aZ ?_
 refine eA R fun m=>?_
 refine aC (qM _ (tE 2 [1,0]) ?_)
 let D:=aJ m [(sc A2 t1.Dims D2),(sc A3 t1.Data D3)] 42::l
 refine cA ?_
 obtain ⟨B,j,g⟩:=bd g
 obtain ⟨b,g⟩:=gd g
 refine bA 0 aB (show 0<t1.Data.length by have:=b; omega) (fun q o12 u=>?_)
 subst u
 refine cX 9 [0] bM fun F E=>?_
 refine kz 0 [0] ?_
 refine oJ 6 [0] ?_
 refine d1 5 R (lM _ (fun w s=>(((s.d 2 R).d 4 R).e 3 [1,0,2])) ?_)
 refine lC 2 t2 R (Z0n_ok j) R ?_
 rintro _
 refine aC (aG (sL [0]) ?_)
 refine oJ 7 [0] ?_
 refine d1 8 R (dZ (K:=kT3) (x':=i) 0 B R R cS R R b.1 b.2 ?_ ?_)
 exact fun I h s=>(hD).put I h () i s
 refine aC (aG (sL [0]) (dD ?_))
 cases g
 exact AG () (tE 4 [0])
theorem Z0t_ok  {t1:Tensor}{E:Int}{b:Int}{g:Int}{l:Int}{r:Tensor}(j:Z0t t1 E b g l=some r) :
 FnOk Tryz.prog 97 [(.agg [(.slice A2 N2 D2),(.slice A3 N3 D3)].toArray),(iv E),(iv b),(iv g),(iv l)] [aQ kT3 (.slice A2 N2 D2) t1.Dims,aQ kT3 (.slice A3 N3 D3) t1.Data] (fun (h:HH×HH)=>((.agg [(s3 h.1),(s3 h.2)].toArray),[ow kT3 3 (s3 h.1) r.Dims,ow kT3 3 (s3 h.2) r.Data])):=by
 unfold Z0t at j
 refine aR Tryz.func97 R 101 R R fun C V=>?_
 refine cL 0 aA ?_
 rintro rfl
 refine cL 1 aA ?_
 rintro rfl
 let W0:=RR kT3 A2 D2 t1.Dims::RR kT3 A3 D3 t1.Data::V
 refine cN W0 ?_
 refine aZ ?_
 refine eA R fun b8=>?_
 refine aY R R dN (fun U=>(aC ?_))
 let W1:=aJ b8 [(sc A2 t1.Dims D2),(sc A3 t1.Data D3)] 42::W0
 refine aU ?_
 obtain ⟨F,ab,j⟩:=bd j
 refine cQ [(1,(iv E)),(2,(iv b)),(3,(iv g)),(4,(iv l)),(5,(pt b8 0)),(10,(pt U 0)),(43,(.bool (((((((!F)||(decide (b<0)))||(decide (b>4096)))||(decide (g<0)))||(decide (g>4096)))||(decide (l<0)))||(decide (l>4096)))))] (aJ U [(.slice none 0 0),(.slice none 0 0)] 42::W1) ?_ ?_
 refine aU ?_
 refine lM _ (fun w s=>(((s.d 2 R).d 4 R).e 3 [1,0,2])) ?_
 refine lC 2 oP R (Z1g_ok ab) R ?_
 rintro _
 refine aZ ?_
 rcases bo (!F) with a2 | a2
 refine AY ?_
 exact qj tI
 refine bI ?_
 rcases bo ((!F)||(decide (b<0))) with a3 | a3
 refine AX ?_
 exact qj tI
 refine bI ?_
 rcases bo (((!F)||(decide (b<0)))||(decide (b>4096))) with a4 | a4
 refine xb ?_
 exact qj tI
 refine bI ?_
 rcases bo ((((!F)||(decide (b<0)))||(decide (b>4096)))||(decide (g<0))) with a5 | a5
 refine iY ?_
 exact qj tI
 refine bI ?_
 rcases bo (((((!F)||(decide (b<0)))||(decide (b>4096)))||(decide (g<0)))||(decide (g>4096))) with a6 | a6
 refine dI ?_
 exact qj tI
 refine bI ?_
 rcases bo ((((((!F)||(decide (b<0)))||(decide (b>4096)))||(decide (g<0)))||(decide (g>4096)))||(decide (l<0))) with a7 | a7
 refine bI ?_
 exact qj tI
 refine bI ?_
 exact qj tI
 rintro σ1
 refine cA ?_
 split at j
 refine aU ?_
 refine lO (vz (.agg [(.slice none 0 0),(.slice none 0 0)].toArray) (aV hG dN R R)) (aL 0 R R bW R R R R R R (aC (aE (bO (bP ?_)))))
 cases j
 exact qS ((none,0,0),(none,0,0)) (fun w s=>(((s.nilo kT3 3).nilo kT3 3).e 6 [1,0]))
 refine bI ?_
 obtain ⟨a8,j⟩:=gd j
 refine bI ?_
 refine bG 2 aA (show 0<t1.Dims.length by have:=a8; omega) (fun ax o21 ha=>?_)
 subst ha
 refine cE ?_
 obtain ⟨L,ac,j⟩:=bd j
 refine oH ?_
 refine lM _ (fun w s=>(s.d 2 R)) ?_
 refine lC 1 kY R (Z0h_ok ac) R ?_
 rintro ⟨I,aq,J⟩
 refine aM 0 aB ?_
 rintro rfl
 refine cR ?_
 obtain ⟨b0,ae,j⟩:=bd j
 refine aZ ?_
 refine lC 1 kr R (FnOk.lends (A':=[OO kT3 3 I J L]) (A:=[RR kT3 I J L]) (B:=[]) (Zo_ok ae) ⟨aP,trivial⟩ (fun _=>trivial)) R ?_
 rintro _
 refine aU ?_
 split at j
 refine aU ?_
 refine lO (vz (.agg [(.slice none 0 0),(.slice none 0 0)].toArray) (aV hG dN R R)) (aL 1 R R bW R R R R R R (aC (aE (bO (bP ?_)))))
 cases j
 exact qS ((none,0,0),(none,0,0)) (fun w s=>(((s.nilo kT3 3).nilo kT3 3).e 7 [1,0]))
 refine bI ?_
 obtain ⟨i,ag,j⟩:=bd j
 refine aZ ?_
 refine lC 1 kX R (FnOk.lends (A':=[OO kT3 3 I J L]) (A:=[RR kT3 I J L]) (B:=[]) (Z0g_ok ag) ⟨aP,trivial⟩ (fun _=>⟨(bB iF),(bB iF),trivial⟩)) R ?_
 rintro ⟨⟨m,ar,u⟩,⟨q,au,D⟩⟩
 refine aM 1 aB ?_
 rintro rfl
 refine aM 2 aB ?_
 rintro rfl
 refine aY R R dN (fun G=>(aL 0 R R bW R R R R R R (lN (aJ G [(sc m i.Dims u),(sc q i.Data D)] 42::_::_::_::_::W1) ?_)))
 refine aU ?_
 refine bE (A:=((List Int))×(Unit)) (fun a=>Z0t_J1 i a.1=some r) (fun a=>[(10,(pt U 0)),(13,(pt G 0))]) (fun a=>aJ U [(.slice none 0 0),(.slice none 0 0)] 42::aJ G [(sc m i.Dims u),(sc q i.Data D)] 42::OO kT3 3 m u i.Dims::ow kT3 3 (.slice q i.Data.length D) a.1::W1) ?_ ?_
 refine cE ?_
 obtain ⟨e1,am,al⟩:=bd j
 refine bF (A:=Unit) am (fun s a=>[(1,(iv E)),(2,(iv b)),(4,(iv l)),(5,(pt b8 0)),(10,(pt U 0)),(13,(pt G 0)),(14,(iv s.2))]) (fun s a=>aJ U [(.slice none 0 0),(.slice none 0 0)] 42::aJ G [(sc m i.Dims u),(sc q i.Data D)] 42::OO kT3 3 m u i.Dims::ow kT3 3 (.slice q i.Data.length D) s.1::W1) () (aS R) (tE 5 [4,0,2,3]) ?_
 rintro ⟨M,az⟩ _ σ1 ao j ak
 dsimp only [Z0t_L1] at j
 refine dA ?_
 split at j
 refine cE ?_
 obtain ⟨Y,ah,j⟩:=bd j
 refine bI ?_
 refine lM _ (fun w s=>(s.d 5 R)) ?_
 refine lC 1 lU R (Zj_ok ah) R ?_
 rintro ⟨ap,av,a0⟩
 refine aM 0 aB ?_
 rintro rfl
 refine aU ?_
 obtain ⟨a9,j⟩:=gd j
 obtain ⟨Z,ai,j⟩:=bd j
 obtain ⟨aa,j⟩:=gd j
 obtain ⟨b1,aj,j⟩:=bd j
 refine bA 0 aB (show 0<Y.length by have:=a9; omega) (fun a1 o56 ha=>?_)
 subst ha
 refine bA 7 aA (show 0<t1.Data.length by have:=aa; omega) (fun ay o62 ha=>?_)
 subst ha
 refine cX 19 [4] bM fun ht hn=>?_
 refine uK 0 [4] ?_
 refine kz 13 [4] ?_
 refine d1 12 R (lC 1 kY R (FnOk.lends (A':=[OO kT3 3 (ad a1 o56) a0 Y]) (A:=[RR kT3 (ad a1 o56) a0 Y]) (B:=[]) (Z0h_ok ai) ⟨aP,trivial⟩ (fun _=>⟨(bB iF),trivial⟩)) R ?_)
 rintro ⟨O,aw,T⟩
 refine aM 1 aB ?_
 rintro rfl
 refine aC (aG (sL [5,1]) (d1 18 R (lM _ (tE 6 [4,1,5,0,2,3]) ?_)))
 refine lC 3 t6 R (FnOk.lends (A':=[OO kT3 3 m u i.Dims,OO kT3 3 O T Z]) (A:=[RR kT3 m u i.Dims,RR kT3 O T Z]) (B:=[ow kT3 3 (.slice q i.Data.length D) M]) (FnOk.perm (Z1x_ok (t1:=(⟨i.Dims,M⟩:Tensor)) aj) (Pre':=[RR kT3 m u i.Dims,RR kT3 O T Z,ow kT3 3 (.slice q i.Data.length D) M]) (fun _ _ _ s=>(s.e 3 [0,2,1]))) ⟨aP,aP,trivial⟩ (fun _=>⟨(bB iF),trivial⟩)) R ?_
 rintro _
 refine aC (aG (tE 6 [3,4,5,0]) (dD ?_))
 refine dO ?_
 cases j
 exact qA () (tE 6 [4,5,0,2])
 refine aU ?_
 cases j
 obtain rfl:=ak _ R
 have j:=al
 refine aZ ?_
 exact qI (M,()) j tI
 rintro ⟨an,_⟩ σ1 j
 dsimp only [Z0t_J1] at j
 refine aU ?_
 refine aL 0 R R bW R R R R R R (lN (aJ U [(sc m i.Dims u),(sc q i.Data D)] 42::_::_::ow kT3 3 (.slice q i.Data.length D) an::W1) ?_)
 refine aU ?_
 cases j
 exact qS ((m,i.Dims.length,u),(q,i.Data.length,D)) (tE 7 [2,3])
theorem Z0s_ok  {t1:Tensor}{q:Int}{b:(List Int)}{r:Tensor}(g:Z0s t1 q b=some r) :
 FnOk Tryz.prog 98 [(.agg [(.slice A2 N2 D2),(.slice A3 N3 D3)].toArray),(iv q),(.slice A6 N6 D6)] [aQ kT3 (.slice A2 N2 D2) t1.Dims,aQ kT3 (.slice A3 N3 D3) t1.Data,aQ kT3 (.slice A6 N6 D6) b] (fun (h:HH×HH)=>((.agg [(s3 h.1),(s3 h.2)].toArray),[ow kT3 3 (s3 h.1) r.Dims,ow kT3 3 (s3 h.2) r.Data])):=by
 unfold Z0s at g
 refine aR Tryz.func98 R 70 R R fun C V=>?_
 refine cL 0 aA ?_
 rintro rfl
 refine cL 1 aA ?_
 rintro rfl
 refine cL 2 aA ?_
 rintro rfl
 let W0:=RR kT3 A2 D2 t1.Dims::RR kT3 A3 D3 t1.Data::RR kT3 A6 D6 b::V
 refine cN W0 ?_
 refine aZ ?_
 refine eA R fun b7=>?_
 refine aY R R dN (fun U=>(aC ?_))
 let W1:=aJ b7 [(sc A2 t1.Dims D2),(sc A3 t1.Data D3)] 42::W0
 refine aU ?_
 obtain ⟨r9,a6,g⟩:=bd g
 obtain ⟨M,g⟩:=gd g
 obtain ⟨al,a7,g⟩:=bd g
 refine cQ [(1,(iv q)),(2,(sc A6 b D6)),(3,(pt b7 0)),(6,(pt U 0)),(29,(.bool (((!r9)||((b.length:Int)==0))||(!al))))] (aJ U [(.slice none 0 0),(.slice none 0 0)] 42::W1) ?_ ?_
 refine aU ?_
 refine lM _ (fun w s=>(((s.d 2 R).d 4 R).e 3 [1,0,2])) ?_
 refine lC 2 oP R (Z1g_ok a6) R ?_
 rintro _
 refine aZ ?_
 rcases bo (!r9) with a3 | a3
 refine oI ?_
 exact qj tI
 refine cR ?_
 rcases bo ((!r9)||((b.length:Int)==0)) with j | j
 refine dA ?_
 exact qj tI
 refine bI ?_
 refine bG 2 aA (show 0<t1.Dims.length by have:=(M j); omega) (fun ax o13 Y=>?_)
 subst Y
 refine lW (bJ j) (eE bT cS R R (M j)) (lW (bJ j) (hX 2 fR aA R (M j)) (lM _ (fun w s=>(s.d 4 R)) ?_))
 refine bY 1 R (bJ j) uO R (Z0i_ok (bL a7 (cP j))) R ?_
 rintro _
 refine aU ?_
 exact qj tI
 rintro σ1
 refine cA ?_
 split at g
 refine aU ?_
 refine lO (vz (.agg [(.slice none 0 0),(.slice none 0 0)].toArray) (aV hG dN R R)) (aL 0 R R bW R R R R R R (aC (aE (bO (bP ?_)))))
 cases g
 exact qS ((none,0,0),(none,0,0)) (fun w s=>(((s.nilo kT3 3).nilo kT3 3).e 7 [1,0]))
 refine bI ?_
 obtain ⟨G,a8,g⟩:=bd g
 refine cE ?_
 refine lM _ (fun w s=>(s.d 2 R)) ?_
 refine lC 1 kY R (Z0h_ok a8) R ?_
 rintro ⟨u,aq,E⟩
 refine aM 0 aB ?_
 rintro rfl
 refine cR ?_
 obtain ⟨b0,a9,g⟩:=bd g
 refine aZ ?_
 refine lC 1 kr R (FnOk.lends (A':=[OO kT3 3 u E G]) (A:=[RR kT3 u E G]) (B:=[]) (Zo_ok a9) ⟨aP,trivial⟩ (fun _=>trivial)) R ?_
 rintro _
 refine aU ?_
 split at g
 refine aU ?_
 refine lO (vz (.agg [(.slice none 0 0),(.slice none 0 0)].toArray) (aV hG dN R R)) (aL 1 R R bW R R R R R R (aC (aE (bO (bP ?_)))))
 cases g
 exact qS ((none,0,0),(none,0,0)) (fun w s=>(((s.nilo kT3 3).nilo kT3 3).e 8 [1,0]))
 refine bI ?_
 obtain ⟨i,aa,g⟩:=bd g
 refine aZ ?_
 refine lC 1 kX R (FnOk.lends (A':=[OO kT3 3 u E G]) (A:=[RR kT3 u E G]) (B:=[]) (Z0g_ok aa) ⟨aP,trivial⟩ (fun _=>⟨(bB iF),(bB iF),trivial⟩)) R ?_
 rintro ⟨⟨D,ar,F⟩,⟨l,au,m⟩⟩
 refine aM 1 aB ?_
 rintro rfl
 refine aM 2 aB ?_
 rintro rfl
 refine aY R R dN (fun L=>(aL 0 R R bW R R R R R R (lN (aJ L [(sc D i.Dims F),(sc l i.Data m)] 42::_::_::_::_::W1) ?_)))
 refine aU ?_
 refine bE (A:=((List Int))×(Unit)) (fun a=>Z0s_J1 i a.1=some r) (fun a=>[(6,(pt U 0)),(8,(pt L 0))]) (fun a=>aJ U [(.slice none 0 0),(.slice none 0 0)] 42::aJ L [(sc D i.Dims F),(sc l i.Data m)] 42::OO kT3 3 D F i.Dims::ow kT3 3 (.slice l i.Data.length m) a.1::W1) ?_ ?_
 refine cE ?_
 obtain ⟨e1,aj,ai⟩:=bd g
 refine bF (A:=Unit) aj (fun s a=>[(1,(iv q)),(2,(sc A6 b D6)),(3,(pt b7 0)),(6,(pt U 0)),(7,(sc u G E)),(8,(pt L 0)),(9,(iv s.2))]) (fun s a=>aJ U [(.slice none 0 0),(.slice none 0 0)] 42::OO kT3 3 u E G::aJ L [(sc D i.Dims F),(sc l i.Data m)] 42::OO kT3 3 D F i.Dims::ow kT3 3 (.slice l i.Data.length m) s.1::W1) () (aS R) (tE 5 [4,1,0,2,3]) ?_
 rintro ⟨am,ak⟩ _ σ1 ao g ah
 dsimp only [Z0s_L1] at g
 refine dA ?_
 split at g
 refine cE ?_
 obtain ⟨Z,ab,g⟩:=bd g
 refine aU ?_
 refine lM _ (tE 5 [1,0,2,3,4]) ?_
 refine lC 1 lU R (FnOk.lends (A':=[OO kT3 3 u E G]) (A:=[RR kT3 u E G]) (B:=[]) (Zj_ok ab) ⟨aP,trivial⟩ (fun _=>⟨(bB iF),trivial⟩)) R ?_
 rintro ⟨ap,av,a1⟩
 refine aM 1 aB ?_
 rintro rfl
 refine aU ?_
 obtain ⟨a4,g⟩:=gd g
 obtain ⟨a5,g⟩:=gd g
 obtain ⟨a0,ac,g⟩:=bd g
 obtain ⟨ag,ae,g⟩:=bd g
 obtain ⟨J,g⟩:=gd g
 refine bA 1 aB (show 0<Z.length by have:=a4; omega) (fun a2 o56 Y=>?_)
 subst Y
 refine bA 9 aA (show 0<b.length by have:=a5; omega) (fun ay o59 Y=>?_)
 subst Y
 refine bA 5 aB (show 0<i.Data.length by have:=J; omega) (fun az o67 Y=>?_)
 subst Y
 refine cX 17 [5] bM fun ht hn=>?_
 refine mI 0 [5] ?_
 refine d1 13 R (lM _ (tE 6 [1,0,2,3,4,5]) ?_)
 refine lC 1 kY R (FnOk.lends (A':=[OO kT3 3 (ad a2 o56) a1 Z]) (A:=[RR kT3 (ad a2 o56) a1 Z]) (B:=[]) (Z0h_ok ac) ⟨aP,trivial⟩ (fun _=>⟨(bB iF),trivial⟩)) R ?_
 rintro ⟨O,aw,T⟩
 refine aM 1 aB ?_
 rintro rfl
 refine aC (aG (tE 7 [2,0,3,4,5]) (d1 14 R (lM _ (fun w s=>(((s.d 8 R).d 10 R).e 9 [3,1,0,2,4,5,6,7,8])) ?_)))
 refine lC 3 nr R (FnOk.lends (A':=[OO kT3 3 O T a0]) (A:=[RR kT3 O T a0]) (B:=[RR kT3 A2 D2 t1.Dims,RR kT3 A3 D3 t1.Data]) (FnOk.perm (Z16_ok ae) (Pre':=[RR kT3 O T a0,RR kT3 A2 D2 t1.Dims,RR kT3 A3 D3 t1.Data]) (fun _ _ _ s=>(s.e 3 [1,2,0]))) ⟨aP,trivial⟩ (fun _=>trivial)) R ?_
 rintro _
 refine aC (aG (tE 7 [2,1,3,4,5]) (dR 15 R (eE bT cS R R J) (hS:=(tE 7 [2,1,3,4,5])) (d1 16 R (lM _ (fun w s=>(s.f 7 [6,1,0,6])) ?_))))
 refine dZ (K:=kT3) (x':=ag) 0 ak R R cS R R J.1 J.2 ?_ ?_
 exact fun I h s=>(hD).put I h () ag s
 refine aC (aG (tE 7 [3,2,4,5,6]) (dD ?_))
 refine dO ?_
 cases g
 exact qA () (tE 7 [4,3,5,6,0])
 refine aU ?_
 cases g
 obtain rfl:=ah _ R
 have g:=ai
 refine aZ ?_
 exact qI (am,()) g (tE 5 [0,2,3,4])
 rintro ⟨an,_⟩ σ1 g
 dsimp only [Z0s_J1] at g
 refine aU ?_
 refine aL 0 R R bW R R R R R R (lN (aJ U [(sc D i.Dims F),(sc l i.Data m)] 42::aJ L [(sc D i.Dims F),(sc l i.Data m)] 42::_::ow kT3 3 (.slice l i.Data.length m) an::W1) ?_)
 refine aU ?_
 cases g
 exact qS ((D,i.Dims.length,F),(l,i.Data.length,m)) (tE 8 [2,3])
theorem Z0u_ok  {t1:Tensor}{j:Int}{i:(List Int)}{n7:Int}{r:Tensor}(g:Z0u t1 j i n7=some r) :
 FnOk Tryz.prog 99 [(.agg [(.slice A2 N2 D2),(.slice A3 N3 D3)].toArray),(iv j),(.slice A6 N6 D6),(iv n7)] [aQ kT3 (.slice A2 N2 D2) t1.Dims,aQ kT3 (.slice A3 N3 D3) t1.Data,aQ kT3 (.slice A6 N6 D6) i] (fun (h:HH×HH)=>((.agg [(s3 h.1),(s3 h.2)].toArray),[ow kT3 3 (s3 h.1) r.Dims,ow kT3 3 (s3 h.2) r.Data])):=by
 unfold Z0u at g
 refine aR Tryz.func99 R 80 R R fun C V=>?_
 refine cL 0 aA ?_
 rintro rfl
 refine cL 1 aA ?_
 rintro rfl
 refine cL 2 aA ?_
 rintro rfl
 let W0:=RR kT3 A2 D2 t1.Dims::RR kT3 A3 D3 t1.Data::RR kT3 A6 D6 i::V
 refine cN W0 ?_
 refine aZ ?_
 refine eA R fun b8=>?_
 refine aY R R dN (fun Y=>(aC ?_))
 let W1:=aJ b8 [(sc A2 t1.Dims D2),(sc A3 t1.Data D3)] 42::W0
 refine aU ?_
 obtain ⟨a0,a7,g⟩:=bd g
 obtain ⟨L,g⟩:=gd g
 obtain ⟨am,a8,g⟩:=bd g
 refine cQ [(1,(iv j)),(2,(sc A6 i D6)),(3,(iv n7)),(4,(pt b8 0)),(8,(pt Y 0)),(33,(.bool (((!a0)||((i.length:Int) != (ix t1.Dims j)))||(!am))))] (aJ Y [(.slice none 0 0),(.slice none 0 0)] 42::W1) ?_ ?_
 refine aU ?_
 refine lM _ (fun w s=>(((s.d 2 R).d 4 R).e 3 [1,0,2])) ?_
 refine lC 2 oP R (Z1g_ok a7) R ?_
 rintro _
 refine aZ ?_
 rcases bo (!a0) with D | D
 refine xb ?_
 exact qj tI
 refine cR ?_
 refine bG 2 aA (show 0<t1.Dims.length by have:=(L D); omega) (fun ax o14 Z=>?_)
 subst Z
 refine lW (bJ D) (eE bT cS R R (L D)) (lW (bJ D) (hX 2 fR aA R (L D)) ?_)
 refine aU ?_
 rcases bo ((!a0)||((i.length:Int) != (ix t1.Dims j))) with J | J
 refine cE ?_
 exact qj tI
 refine aZ ?_
 refine lM _ (fun w s=>(s.d 4 R)) ?_
 refine bY 1 R (bJ J) uO R (Z0i_ok (bL a8 (cP J))) R ?_
 rintro _
 refine aU ?_
 exact qj tI
 rintro σ1
 refine cA ?_
 split at g
 refine aU ?_
 refine lO (vz (.agg [(.slice none 0 0),(.slice none 0 0)].toArray) (aV hG dN R R)) (aL 0 R R bW R R R R R R (aC (aE (bO (bP ?_)))))
 cases g
 exact qS ((none,0,0),(none,0,0)) (fun w s=>(((s.nilo kT3 3).nilo kT3 3).e 7 [1,0]))
 refine bI ?_
 obtain ⟨U,a9,g⟩:=bd g
 refine cR ?_
 refine lM _ (fun w s=>(s.d 2 R)) ?_
 refine lC 1 kY R (Z0h_ok a9) R ?_
 rintro ⟨O,aq,T⟩
 refine aM 0 aB ?_
 rintro rfl
 refine cR ?_
 obtain ⟨b1,aa,g⟩:=bd g
 refine aZ ?_
 refine lC 1 kr R (FnOk.lends (A':=[OO kT3 3 O T U]) (A:=[RR kT3 O T U]) (B:=[]) (Zo_ok aa) ⟨aP,trivial⟩ (fun _=>trivial)) R ?_
 rintro _
 refine aU ?_
 split at g
 refine aU ?_
 refine lO (vz (.agg [(.slice none 0 0),(.slice none 0 0)].toArray) (aV hG dN R R)) (aL 1 R R bW R R R R R R (aC (aE (bO (bP ?_)))))
 cases g
 exact qS ((none,0,0),(none,0,0)) (fun w s=>(((s.nilo kT3 3).nilo kT3 3).e 8 [1,0]))
 refine bI ?_
 obtain ⟨b,ab,g⟩:=bd g
 refine aZ ?_
 refine lC 1 kX R (FnOk.lends (A':=[OO kT3 3 O T U]) (A:=[RR kT3 O T U]) (B:=[]) (Z0g_ok ab) ⟨aP,trivial⟩ (fun _=>⟨(bB iF),(bB iF),trivial⟩)) R ?_
 rintro ⟨⟨l,ar,q⟩,⟨m,au,u⟩⟩
 refine aM 1 aB ?_
 rintro rfl
 refine aM 2 aB ?_
 rintro rfl
 refine aY R R dN (fun I=>(aL 0 R R bW R R R R R R (lN (aJ I [(sc l b.Dims q),(sc m b.Data u)] 42::_::_::_::_::W1) ?_)))
 refine aU ?_
 refine bE (A:=((List Int))×(Unit)) (fun a=>Z0u_J1 b a.1=some r) (fun a=>[(8,(pt Y 0)),(10,(pt I 0))]) (fun a=>aJ Y [(.slice none 0 0),(.slice none 0 0)] 42::aJ I [(sc l b.Dims q),(sc m b.Data u)] 42::OO kT3 3 l q b.Dims::ow kT3 3 (.slice m b.Data.length u) a.1::W1) ?_ ?_
 refine cE ?_
 obtain ⟨e1,al,ak⟩:=bd g
 refine bF (A:=Unit) al (fun s a=>[(1,(iv j)),(2,(sc A6 i D6)),(4,(pt b8 0)),(8,(pt Y 0)),(10,(pt I 0)),(11,(iv s.2))]) (fun s a=>aJ Y [(.slice none 0 0),(.slice none 0 0)] 42::aJ I [(sc l b.Dims q),(sc m b.Data u)] 42::OO kT3 3 l q b.Dims::ow kT3 3 (.slice m b.Data.length u) s.1::W1) () (aS R) (tE 5 [4,0,2,3]) ?_
 rintro ⟨E,b0⟩ _ σ1 ao g aj
 dsimp only [Z0u_L1] at g
 refine dA ?_
 split at g
 refine cE ?_
 obtain ⟨a1,ac,g⟩:=bd g
 refine bI ?_
 refine lM _ (fun w s=>(s.d 5 R)) ?_
 refine lC 1 lU R (Zj_ok ac) R ?_
 rintro ⟨ap,av,a2⟩
 refine aM 0 aB ?_
 rintro rfl
 refine bI ?_
 obtain ⟨a4,g⟩:=gd g
 obtain ⟨a5,g⟩:=gd g
 obtain ⟨M,ae,g⟩:=bd g
 refine cE ?_
 refine bG 0 aB (show 0<a1.length by have:=a4; omega) (fun a3 o61 Z=>?_)
 subst Z
 refine aZ ?_
 refine bG 8 aA (show 0<i.length by have:=a5; omega) (fun ay o64 Z=>?_)
 subst Z
 refine aZ ?_
 refine lC 1 kY R (FnOk.lends (A':=[OO kT3 3 (ad a3 o61) a2 a1]) (A:=[RR kT3 (ad a3 o61) a2 a1]) (B:=[]) (Z0h_ok ae) ⟨aP,trivial⟩ (fun _=>⟨(bB iF),trivial⟩)) R ?_
 rintro ⟨F,aw,G⟩
 refine aM 1 aB ?_
 rintro rfl
 refine aU ?_
 obtain ⟨b2,ag,g⟩:=bd g
 obtain ⟨a6,g⟩:=gd g
 obtain ⟨b3,ah,g⟩:=bd g
 obtain ⟨b4,ai,g⟩:=bd g
 refine bA 8 aA (show 0<t1.Data.length by have:=a6; omega) (fun az o72 Z=>?_)
 subst Z
 refine cX 12 [5] bM fun ht hn=>?_
 refine oK 0 [5] ?_
 refine kz 5 [5] ?_
 refine d1 4 R (lM _ (tE 6 [4,5,1,0,2,3]) ?_)
 refine lC 3 nr R (FnOk.lends (A':=[OO kT3 3 l q b.Dims,ow kT3 3 (.slice m b.Data.length u) E,OO kT3 3 F G M]) (A:=[RR kT3 l q b.Dims,aQ kT3 (.slice m b.Data.length u) E,RR kT3 F G M]) (B:=[]) (Z16_ok (t1:=(⟨b.Dims,E⟩:Tensor)) ag) ⟨aP,aP,aP,trivial⟩ (fun _=>trivial)) R ?_
 rintro _
 refine aC (aG (tE 6 [3,2,4,5,0]) (d1 10 R (lC 0 qz R (Z1m_ok ah) R ?_)))
 rintro _
 refine aC (aG (tE 6 [3,2,4,5,0]) (d1 11 R (lM _ (tE 6 [0,2,1,3,4,5]) ?_)))
 refine lC 3 t6 R (FnOk.lends (A':=[OO kT3 3 l q b.Dims,OO kT3 3 F G M]) (A:=[RR kT3 l q b.Dims,RR kT3 F G M]) (B:=[ow kT3 3 (.slice m b.Data.length u) E]) (FnOk.perm (Z1x_ok (t1:=(⟨b.Dims,E⟩:Tensor)) ai) (Pre':=[RR kT3 l q b.Dims,RR kT3 F G M,ow kT3 3 (.slice m b.Data.length u) E]) (fun _ _ _ s=>(s.e 3 [0,2,1]))) ⟨aP,aP,trivial⟩ (fun _=>⟨(bB iF),trivial⟩)) R ?_
 rintro _
 refine aC (aG (tE 6 [3,1,4,5,0]) (dD ?_))
 refine dO ?_
 cases g
 exact qA () (tE 6 [4,5,0,2])
 refine aU ?_
 cases g
 obtain rfl:=aj _ R
 have g:=ak
 refine aZ ?_
 exact qI (E,()) g tI
 rintro ⟨an,_⟩ σ1 g
 dsimp only [Z0u_J1] at g
 refine aU ?_
 refine aL 0 R R bW R R R R R R (lN (aJ Y [(sc l b.Dims q),(sc m b.Data u)] 42::_::_::ow kT3 3 (.slice m b.Data.length u) an::W1) ?_)
 refine aU ?_
 cases g
 exact qS ((l,b.Dims.length,q),(m,b.Data.length,u)) (tE 8 [2,3])
end Go.Proofs.YthelanpdjajnbaaGreat
