import Derived.Test.YtoffdamdpmeoiaaGreatDoorBkF
import Derived.Test.YtoffdamdpmeoiaaGreatDoorBkW2
import Derived.Test.YtoffdamdpmeoiaaGreatDoorBkW4
set_option linter.unusedVariables false
set_option maxRecDepth 20000
namespace Go.Proofs.YtoffdamdpmeoiaaGreatDoor
open Go Go.Pg
variable {A2 A3 A4 A5 A7:Option Addr}{D2 D3 D4 D5 D7 N2 N3 N4 N5 N7:Nat}
theorem Zc_ok  {g1:Graph}{b:(List (List Int))}{u:(List Int)}{r:Int×Int}(i:Zc g1 b u=some r) :
 FnOk Tryz.prog 25 [(.agg [(.slice A2 N2 D2),(.slice A3 N3 D3)].toArray),(.slice A5 N5 D5),(.slice A7 N7 D7)] [aO cJ (.slice A2 N2 D2) g1.Nodes,aO kT3 (.slice A3 N3 D3) g1.Outs,aO bF (.slice A5 N5 D5) b,aO kT3 (.slice A7 N7 D7) u] (fun (h:Unit)=>((.tuple [(iv r.1),(iv r.2)].toArray),[])):=by
 unfold Zc at i
 refine aR Tryz.func25 R 79 R R fun C V=>?_
 refine cL 0 aA ?_
 rintro rfl
 refine cL 1 aA ?_
 rintro rfl
 refine cL 2 aA ?_
 rintro rfl
 refine cL 3 aA ?_
 rintro rfl
 let W0:=RR cJ A2 D2 g1.Nodes::RR kT3 A3 D3 g1.Outs::RR bF A5 D5 b::RR kT3 A7 D7 u::V
 refine cN W0 ?_
 refine aZ ?_
 refine eT R fun b8=>?_
 refine aV ?_
 let O:=aK b8 [(sc A2 g1.Nodes D2),(sc A3 g1.Outs D3)] 30::W0
 refine qN O ?_
 refine qv ?_
 obtain ⟨r9,ae,i⟩:=bd i
 refine cB ?_
 refine lM _ (fun w s=>(s.d 4 R)) ?_
 refine lC 1 v' R (Z0a_ok ae) R ?_
 rintro _
 refine lN O ?_
 refine bL ?_
 refine bB (A:=(Int×Int×Int)×(Unit)) (fun a=>Zc_J9 a.1.1 a.1.2.1 a.1.2.2=some r) (fun a=>[(8,(iv a.1.1)),(9,(iv a.1.2.1)),(10,(iv a.1.2.2))]) (fun a=>O) ?_ ?_
 refine cB ?_
 obtain ⟨e1,ay,aw⟩:=bd i
 refine bD (A:=Unit) ay (fun s a=>[(1,(sc A5 b D5)),(2,(sc A7 u D7)),(3,(pt b8 0)),(8,(iv s.1)),(9,(iv s.2.1)),(10,(iv s.2.2.1)),(11,(iv r9)),(12,(iv s.2.2.2))]) (fun s a=>O) () (aS R) tI ?_
 rintro ⟨T,Y,B,I⟩ _ σ1 Z i au
 dsimp only [Zc_L1] at i
 refine dG ?_
 split at i
 refine bL ?_
 refine bB (A:=(Int×Int×Int)×(Unit)) (fun a=>Zc_J8 I a.1.1 a.1.2.1 a.1.2.2=some Z) (fun a=>[(1,(sc A5 b D5)),(2,(sc A7 u D7)),(3,(pt b8 0)),(8,(iv a.1.1)),(9,(iv a.1.2.1)),(10,(iv a.1.2.2)),(11,(iv r9)),(12,(iv I))]) (fun a=>O) ?_ ?_
 refine eD ?_
 refine bB (A:=(Int×Int×Int)×(Unit)) (fun a=>Zc_J7 B I a.1.1 a.1.2.1 a.1.2.2=some Z) (fun a=>[(1,(sc A5 b D5)),(2,(sc A7 u D7)),(3,(pt b8 0)),(8,(iv a.1.1)),(9,(iv a.1.2.1)),(10,(iv B)),(11,(iv r9)),(12,(iv I)),(13,(iv a.1.2.2))]) (fun a=>O) ?_ ?_
 refine cB ?_
 obtain ⟨e2,az,ax⟩:=bd i
 refine bD (A:=Unit) az (fun s a=>[(1,(sc A5 b D5)),(2,(sc A7 u D7)),(3,(pt b8 0)),(8,(iv s.1)),(9,(iv s.2.1)),(10,(iv B)),(11,(iv r9)),(12,(iv I)),(13,(iv s.2.2.1)),(14,(iv s.2.2.2))]) (fun s a=>O) () (aS R) tI ?_
 rintro ⟨j,l,E,D⟩ _ σ1 am i av
 dsimp only [Zc_L2] at i
 refine dJ ?_
 split at i
 refine bL ?_
 refine bB (A:=(Int×Int×Int)×(Unit)) (fun a=>Zc_J6 D a.1.1 a.1.2.1 a.1.2.2=some am) (fun a=>[(1,(sc A5 b D5)),(2,(sc A7 u D7)),(3,(pt b8 0)),(8,(iv a.1.1)),(9,(iv a.1.2.1)),(10,(iv B)),(11,(iv r9)),(12,(iv I)),(13,(iv a.1.2.2)),(14,(iv D))]) (fun a=>O) ?_ ?_
 refine aV ?_
 obtain ⟨a0,a1,i⟩:=bd i
 obtain ⟨G,i⟩:=gd i
 obtain ⟨an,a2,i⟩:=bd i
 refine cQ [(1,(sc A5 b D5)),(2,(sc A7 u D7)),(3,(pt b8 0)),(8,(iv j)),(9,(iv l)),(10,(iv B)),(11,(iv r9)),(12,(iv I)),(13,(iv E)),(14,(iv D)),(47,(.bool ((a0 != I)||an)))] (O) ?_ ?_
 refine aV ?_
 refine lM _ (fun w s=>(s.d 4 R)) ?_
 refine lC 1 v' R (Z0a_ok a1) R ?_
 rintro _
 refine lN O ?_
 refine aV ?_
 rcases bo (a0 != I) with q | q
 refine dN ?_
 exact qj tI
 refine aV ?_
 refine bE 1 aA (show 0<g1.Nodes.length by have:=(G q); omega) (fun b2 o122 ha=>?_)
 subst ha
 refine lW (bW q) (dV jx hH R R (G q)) (fV (K:=cJ) 1 D dT42.dec R (G q).1 (G q).2 ?_)
 rintro ⟨-,⟨a5,a9⟩,⟨a6,aa⟩,⟨a7,ab⟩,-,⟨a8,ac⟩⟩
 refine lW (bW q) (vz (.agg [(iv (ix g1.Nodes D).Op),(sc a5 ((ix g1.Nodes D).Args) a9),(sc a6 ((ix g1.Nodes D).Dims) aa),(sc a7 ((ix g1.Nodes D).Ints) ab),(aG (ix g1.Nodes D).Form),(sc a8 ((ix g1.Nodes D).Data) ac)].toArray) (eK (fo:=0) 0 ni hH R R R R)) (lM _ (fun w s=>(((((s.d 1 R).d 3 R).d 5 R).d 7 R).e 9 [3,2,1,0,4,5,6,7,8])) ?_)
 refine b' 4 R (bW q) AN R (Z26_ok (bM a2 (cZ q))) R ?_
 rintro _
 refine aZ ?_
 exact qj (tE 5 [])
 rintro σ1
 refine cP ?_
 split at i
 refine bL ?_
 exact qI ((j,l,E),()) i tI
 refine bL ?_
 obtain ⟨M,i⟩:=gd i
 obtain ⟨F,a3,i⟩:=bd i
 refine aV ?_
 refine bE 3 aA (show 0<b.length by have:=M; omega) (fun b3 o133 ha=>?_)
 subst ha
 refine cP ?_
 refine fV (K:=bF) 3 D dT23.dec R M.1 M.2 ?_
 rintro ⟨b0,b1⟩
 refine lO (eZ (fo:=0) 0 cH R R R) (lM _ (fun w s=>(s.d 1 R)) ?_)
 refine lC 1 nS R (Zs_ok a3) R ?_
 rintro _
 refine lq ?_
 obtain ⟨b4,a4,i⟩:=bd i
 refine aV ?_
 refine lM _ (fun w s=>(s.d 6 R)) ?_
 refine lC 1 AM R (Z0v_ok a4) R ?_
 rintro _
 refine aZ ?_
 split at i
 refine jl ?_
 exact qI (((aI (j+F)),(aI (l+F)),E),()) i (tE 2 [])
 refine yh ?_
 split at i
 refine dN ?_
 exact qI ((j,(aI ((aI (l+F))+F)),(aI (E+F))),()) i (tE 2 [])
 refine aV ?_
 exact qI ((j,(aI (l+F)),(aI (E+F))),()) i (tE 2 [])
 rintro ⟨⟨ag,ao,ar⟩,_⟩ σ1 i
 dsimp only [Zc_J6] at i
 refine cV ?_
 cases i
 exact qA () tI
 refine aV ?_
 cases i
 obtain rfl:=av _ R
 have i:=ax
 refine aZ ?_
 exact qI ((j,l,E),()) i tI
 rintro ⟨⟨J,L,U⟩,_⟩ σ1 i
 dsimp only [Zc_J7] at i
 refine eD ?_
 split at i
 refine cB ?_
 exact qI ((J,L,U),()) i tI
 refine aV ?_
 exact qI ((J,L,B),()) i tI
 rintro ⟨⟨ai,ap,ak⟩,_⟩ σ1 i
 dsimp only [Zc_J8] at i
 refine cV ?_
 cases i
 exact qA () tI
 refine aV ?_
 cases i
 obtain rfl:=au _ R
 have i:=aw
 refine aZ ?_
 exact qI ((T,Y,B),()) i tI
 rintro ⟨⟨aj,aq,al⟩,_⟩ σ1 i
 dsimp only [Zc_J9] at i
 refine hG ?_
 cases i
 exact kb () (tE 5 [])
theorem Z0b_ok  {e:(List Int)}{i:(List Int)}{r:Bool}(b:Z0b e i=some r) :
 FnOk Tryz.prog 26 [(.slice A2 N2 D2),(.slice A4 N4 D4)] [aO kT3 (.slice A2 N2 D2) e,aO kT3 (.slice A4 N4 D4) i] (fun (h:Unit)=>((.bool r),[])):=by
 unfold Z0b at b
 refine aR Tryz.func26 R 41 R R fun C V=>?_
 refine cL 0 aA ?_
 rintro rfl
 refine cL 1 aA ?_
 rintro rfl
 let E:=RR kT3 A2 D2 e::RR kT3 A4 D4 i::V
 refine cN E ?_
 refine cB ?_
 refine bB (A:=(Unit)×(Unit)) (fun a=>Z0b_J1 e i=some r) (fun a=>[(0,(sc A2 e D2)),(1,(sc A4 i D4))]) (fun a=>E) ?_ ?_
 refine cB ?_
 obtain ⟨T,G,D⟩:=bd b
 refine bD (A:=Unit) G (fun s a=>[(0,(sc A2 e D2)),(1,(sc A4 i D4)),(5,(iv s))]) (fun s a=>E) () (aS R) tI ?_
 rintro j _ σ1 I b q
 dsimp only [Z0b_L1] at b
 refine aZ ?_
 refine cQ [(0,(sc A2 e D2)),(1,(sc A4 i D4)),(5,(iv j)),(15,(.bool ((decide (j<(e.length:Int)))&&(decide (j<(i.length:Int))))))] (E) ?_ ?_
 refine cB ?_
 rcases bo (decide (j<(e.length:Int))) with l | l
 refine cB ?_
 exact qj tI
 refine cB ?_
 exact qj tI
 rintro σ1
 refine cP ?_
 split at b
 refine cB ?_
 obtain ⟨u,b⟩:=gd b
 obtain ⟨B,b⟩:=gd b
 refine bC 0 aA (show 0<e.length by have:=u; omega) (fun J o19 F=>?_)
 subst F
 refine bC 1 aA (show 0<i.length by have:=B; omega) (fun L o22 F=>?_)
 subst F
 refine dP 9 [] bS fun O M=>?_
 refine xg 0 [] ?_
 refine dD (aE ?_)
 split at b
 refine aZ ?_
 refine dP 10 [] bS fun O M=>?_
 refine pD 0 [] ?_
 refine dD ?_
 refine bL ?_
 cases b
 obtain rfl:=q _ R
 have b:=D
 refine aV ?_
 cases b
 exact qF () (tE 2 [])
 refine dG ?_
 cases b
 exact qA () tI
 refine aV ?_
 cases b
 obtain rfl:=q _ R
 have b:=D
 refine aZ ?_
 exact qI ((),()) b tI
 rintro ⟨_,_⟩ σ1 b
 dsimp only [Z0b_J1] at b
 refine hG ?_
 cases b
 exact qF () (tE 2 [])
theorem Z6_ok  {g1:Graph}{F:Int}{r:(List Int)}(l:Z6 g1 F=some r) :
 FnOk Tryz.prog 6 [(.agg [(.slice A2 N2 D2),(.slice A3 N3 D3)].toArray),(iv F)] [aO cJ (.slice A2 N2 D2) g1.Nodes,aO kT3 (.slice A3 N3 D3) g1.Outs] (fun (h:HH)=>((.slice h.1 h.2.1 h.2.2),[ow kT3 3 (.slice h.1 h.2.1 h.2.2) r])):=by
 unfold Z6 at l
 refine aR Tryz.func6 R 100 R R fun C V=>?_
 refine cN (_::_::V) ?_
 refine cL 0 aA ?_
 rintro rfl
 refine cL 1 aA ?_
 rintro rfl
 let W0:List HP:=RR cJ A2 D2 g1.Nodes::RR kT3 A3 D3 g1.Outs::V
 refine cN W0 ?_
 refine aH (aC (eT R (fun b5=>(lS R (aB ?_)))))
 let W1:List HP:=aK b5 [(sc A2 g1.Nodes D2),(sc A3 g1.Outs D3)] 30::W0
 refine qN W1 ?_
 refine aE (aH (aC (bO (K:=kT3) (xs:=([]:List Int)) (vs:=[]) 0 R R bH cO gN R R R R R R ?_ R (fun A6 D6=>?_))))
 exact fun I h s=>(gM).list [] I h s
 refine lN (OO kT3 3 A6 D6 ([]:List Int)::W1) ?_
 refine lS R (aB (aE (aH (aH ?_))))
 obtain ⟨r7,bs,l⟩:=bd l
 refine cQ [(1,(iv F)),(2,(pt b5 0)),(5,(sc A6 ([]:List Int) D6)),(24,(.bool ((!r7)||(decide ((g1.Nodes.length:Int)>(12:Int))))))] (OO kT3 3 A6 D6 ([]:List Int)::W1) ?_ ?_
 refine aC (lO (vz (.agg [(sc A2 g1.Nodes D2),(sc A3 g1.Outs D3)].toArray) (dA 1 oG nj R R R R)) (lM (RR cJ A2 D2 g1.Nodes::RR kT3 A3 D3 g1.Outs::ow _ _ _ _::W1) (fun w s=>(((s.d 2 R).d 4 R).e 3 [1,0,2])) ?_))
 refine lC 2 Db R (Z38_ok bs) R ?_
 rintro _
 refine lN (_::W1) ?_
 refine lO (ne R) (lB R ?_)
 rcases bo (!r7) with a7 | a7
 refine lf (cX a7) (lf (cX a7) (lf (cX a7) (lf (cX a7) (lO (fB (decide ((g1.Nodes.length:Int)>(12:Int))) R a7) (aB ?_)))))
 exact qJ (fun w s=>s)
 refine lW (bW a7) (eW 0 jy R) (lW (bW a7) (eS 1 nR R R R) (lW (bW a7) (eN jx R) (lW (bW a7) (tj R R) (lO (fG R a7 R) (aB ?_)))))
 exact qJ (fun w s=>s)
 rintro σ1
 refine aE ?_
 rcases cF l with ⟨ae,l⟩|⟨ae,l⟩
 refine bJ R ae (aH (aC (lS R (lS R (aB (aE (bY (bZ ?_))))))))
 obtain rfl:=so l
 exact qF (A6,([]:List Int).length,D6) (fun w s=>(s.e 4 [0]))
 refine aY R ae (bQ (aE (aH ?_)))
 obtain ⟨M,b6,l⟩:=bd l
 refine aC (lO (vz (.agg [(sc A2 g1.Nodes D2),(sc A3 g1.Outs D3)].toArray) (dA 1 oG nj R R R R)) (lM (RR cJ A2 D2 g1.Nodes::RR kT3 A3 D3 g1.Outs::ow _ _ _ _::W1) (fun w s=>(((s.d 2 R).d 4 R).e 3 [1,0,2])) ?_))
 refine lC 2 Dc R (Z12_ok b6) R ?_
 rintro ⟨O,bg,T⟩
 refine lN (ow (bF).share 23 (.slice O bg T) M::_::W1) ?_
 refine aM 0 eQ ?_
 rintro rfl
 refine lS R (aB (aE (aH (aC (lB R (aB (aE (aH (aC (lI R (aB (aE (aH (aC (lI R (aB (aE (aH (bB (A:=((List Int))×(HH)) (fun a=>Z6_J9 a.1=some r) (fun a=>[(5,(.slice a.2.1 a.2.2.1 a.2.2.2))]) (fun a=>ow kT3 3 (.slice a.2.1 a.2.2.1 a.2.2.2) a.1::W1) ?_ ?_)))))))))))))))))))
 refine aH (aC (lI R (aB (aE (bV ?_)))))
 obtain ⟨e1,bq,bn⟩:=bd l
 refine bD (A:=HH) bq (fun s a=>[(1,(iv F)),(2,(pt b5 0)),(5,(.slice a.1 a.2.1 a.2.2)),(6,(sc O M T)),(7,(.bool s.2.1)),(8,(iv s.2.2.1)),(9,(iv s.2.2.2.1)),(10,(iv s.2.2.2.2))]) (fun s a=>ow kT3 3 (.slice a.1 a.2.1 a.2.2) s.1::OO (bF).share 23 O T M::W1) (A6,([]:List Int).length,D6) (aS R) (fun w s=>(s.e 2 [1,0])) ?_
 rintro ⟨i,a1,b,j,a2⟩ ⟨Y,bh,Z⟩ σ1 a9 l bl
 replace l:Z6_L1 g1 F M i a1 b j a2=some a9:=l
 unfold Z6_L1 at l
 refine bK 0 aD (fun (hn:bh=i.length)=>?_)
 subst hn
 refine aH (aH ?_)
 obtain ⟨ao,l⟩:=gd l
 refine aC (lI R (lO (eW 0 jy R) (lO (eS 2 nR R R R) (lO (eN jx R) (lO (vz (.int .u64 (IntKind.wrap .u64 ((g1.Nodes.length:Int)))) (qo Dd AL R)) (lO (vz (iv (aI ((1:Int)*2 ^ (IntKind.wrap .u64 ((g1.Nodes.length:Int))).toNat))) (xa R R ao.1 ao.2)) (lO (jG R R) (aB (aE ?_)))))))))
 rcases cF l with ⟨ag,l⟩|⟨ag,l⟩
 refine bJ R ag (bQ (aE (aH (bB (A:=((List Int)×Bool×Int×Int)×(HH)) (fun a=>Z6_J8 a2 a.1.1 a.1.2.1 a.1.2.2.1 a.1.2.2.2=some a9) (fun a=>[(1,(iv F)),(2,(pt b5 0)),(5,(.slice a.2.1 a.2.2.1 a.2.2.2)),(6,(sc O M T)),(7,(.bool a.1.2.1)),(8,(iv a.1.2.2.1)),(9,(iv a.1.2.2.2)),(10,(iv a2))]) (fun a=>ow kT3 3 (.slice a.2.1 a.2.2.1 a.2.2.2) a.1.1::OO (bF).share 23 O T M::W1) ?_ ?_))))
 refine bV (aH (aC (bO (K:=kT3) (xs:=([]:List Int)) (vs:=[]) 0 R R bH cO gN R R R R R R ?_ R (fun aw b0=>?_))))
 exact fun I h s=>(gM).list [] I h s
 refine lN (OO kT3 3 aw b0 ([]:List Int)::OO kT3 3 Y Z i::_::W1) ?_
 refine lS R (aB (aE (aH (bB (A:=((List Int))×(HH)) (fun a=>Z6_J7 g1 F M i a1 b j a2 a.1=some a9) (fun a=>[(1,(iv F)),(2,(pt b5 0)),(5,(sc Y i Z)),(6,(sc O M T)),(7,(.bool a1)),(8,(iv b)),(9,(iv j)),(10,(iv a2)),(11,(.slice a.2.1 a.2.2.1 a.2.2.2))]) (fun a=>OO kT3 3 Y Z i::OO (bF).share 23 O T M::ow kT3 3 (.slice a.2.1 a.2.2.1 a.2.2.2) a.1::W1) ?_ ?_))))
 refine aH (aC (lI R (aB (aE (bV ?_)))))
 obtain ⟨e2,br,bp⟩:=bd l
 refine bD (A:=HH) br (fun s a=>[(1,(iv F)),(2,(pt b5 0)),(5,(sc Y i Z)),(6,(sc O M T)),(7,(.bool a1)),(8,(iv b)),(9,(iv j)),(10,(iv a2)),(11,(.slice a.1 a.2.1 a.2.2)),(12,(iv s.2))]) (fun s a=>OO kT3 3 Y Z i::OO (bF).share 23 O T M::ow kT3 3 (.slice a.1 a.2.1 a.2.2) s.1::W1) (aw,([]:List Int).length,b0) (aS R) (fun w s=>(s.e 3 [1,2,0])) ?_
 rintro ⟨E,a0⟩ ⟨aq,bi,ar⟩ σ1 am l bm
 replace l:Z6_L2 g1 a2 E a0=some am:=l
 unfold Z6_L2 at l
 refine bK 2 aD (fun (hn:bi=E.length)=>?_)
 subst hn
 refine aH (aH (aC (lI R (lO (eW 0 jy R) (lO (eS 3 nR R R R) (lO (eN jx R) (lO (jG R R) (aB (aE ?_)))))))))
 rcases cF l with ⟨ai,l⟩|⟨ai,l⟩
 refine bJ R ai (bQ (aE (aH (bB (A:=((List Int))×(HH)) (fun a=>Z6_J6 a0 a.1=some am) (fun a=>[(1,(iv F)),(2,(pt b5 0)),(5,(sc Y i Z)),(6,(sc O M T)),(7,(.bool a1)),(8,(iv b)),(9,(iv j)),(10,(iv a2)),(11,(.slice a.2.1 a.2.2.1 a.2.2.2)),(12,(iv a0))]) (fun a=>OO kT3 3 Y Z i::OO (bF).share 23 O T M::ow kT3 3 (.slice a.2.1 a.2.2.1 a.2.2.2) a.1::W1) ?_ ?_))))
 refine bV (aH ?_)
 obtain ⟨ap,l⟩:=gd l
 refine aC (lI R (lI R (lO (vz (.int .u64 (IntKind.wrap .u64 (a0))) (qo Dd AL R)) (lO (vz (iv (a2 / 2 ^ (IntKind.wrap .u64 (a0)).toNat)) (xb R R ap.1 ap.2)) (lO (vp (iv (bits .and .i64 (a2 / 2 ^ (IntKind.wrap .u64 (a0)).toNat) (1:Int))) R) (lO (kO R R) (aB (aE ?_))))))))
 rcases cF l with ⟨aj,l⟩|⟨aj,l⟩
 refine bJ R aj ?_
 obtain ⟨b4,l⟩:=gd l
 refine aC (lS R (lI R (bO (K:=kT3) (xs:=([a0]:List Int)) (vs:=[(iv a0)]) 0 R R bH cO gN R R R R R R ?_ R (fun bb be=>?_))))
 exact fun I h s=>(gM).list [((),a0)] I h s
 refine lN (OO kT3 3 bb be ([a0]:List Int)::_::_::OO kT3 3 aq ar E::W1) ?_
 refine lM (ow _ _ _ _::ow _ _ _ _::ow _ _ _ _::ow _ _ _ _::W1) (fun w s=>(s.e 4 [3,0,1,2])) ?_
 refine eU (K:=kT3) 17592186044416 R R bH cO kE (Zr.zk zT3 gN) R R R R R R eB b4 (fun ax b1=>(lN (OO kT3 3 ax b1 (E++([a0]:List Int))::_::_::W1) ?_))
 refine lS R (aB (cD ?_))
 exact qI ((E++([a0]:List Int)),(ax,(E++([a0]:List Int)).length,b1)) l (fun w s=>(s.e 3 [1,2,0]))
 refine aY R aj (bQ (cD ?_))
 exact qI (E,(aq,E.length,ar)) l (fun w s=>s)
 rintro ⟨a8,⟨bc,bj,bf⟩⟩ σ1 l
 replace l:Z6_J6 a0 a8=some am:=l
 unfold Z6_J6 at l
 refine bK 2 aD (fun (hn:bj=a8.length)=>?_)
 subst hn
 refine aC (lI R (lO (iE R R) (lI R (aB ?_))))
 obtain rfl:=so l
 exact qA (bc,a8.length,bf) (fun w s=>s)
 refine aY R ai (eA (cE ?_))
 obtain rfl:=so l
 obtain rfl:=bm _ R
 have l:=bp
 refine cE (dH ?_)
 exact qI (E,(aq,E.length,ar)) l (fun w s=>s)
 rintro ⟨q,⟨a3,bk,a4⟩⟩ σ1 l
 replace l:Z6_J7 g1 F M i a1 b j a2 q=some a9:=l
 unfold Z6_J7 at l
 refine bK 2 aD (fun (hn:bk=q.length)=>?_)
 subst hn
 refine aH (aH ?_)
 obtain ⟨bu,b7,l⟩:=bd l
 refine aC (lO (vz (.agg [(sc A2 g1.Nodes D2),(sc A3 g1.Outs D3)].toArray) (dA 3 oG nj R R R R)) (lS R (lM (OO kT3 3 a3 a4 q::RR cJ A2 D2 g1.Nodes::RR kT3 A3 D3 g1.Outs::ow _ _ _ _::ow _ _ _ _::W1) (fun w s=>(((s.d 4 R).d 6 R).e 5 [4,1,0,2,3])) ?_)))
 refine lC 3 De R (FnOk.lends (A':=[OO kT3 3 a3 a4 q]) (A:=[RR kT3 a3 a4 q]) (B:=[RR cJ A2 D2 g1.Nodes,RR kT3 A3 D3 g1.Outs]) (FnOk.perm (Ze_ok b7) (Pre':=[RR kT3 a3 a4 q,RR cJ A2 D2 g1.Nodes,RR kT3 A3 D3 g1.Outs]) (fun _ _ _ s=>(s.e 3 [1,2,0]))) ⟨aU,trivial⟩ (fun _=>trivial)) R ?_
 rintro _
 refine lN (_::_::_::W1) ?_
 refine lO (ne R) (aB (aE ?_))
 rcases cF l with ⟨ak,l⟩|⟨ak,l⟩
 refine bJ R ak (eA (cE (dH ?_)))
 exact qI ((i,a1,b,j),(Y,i.length,Z)) l (fun w s=>(s.e 3 [1,2]))
 refine aY R ak (bQ (aE (aH ?_)))
 obtain ⟨L,b8,l⟩:=bd l
 refine aC (lO (vz (.agg [(sc A2 g1.Nodes D2),(sc A3 g1.Outs D3)].toArray) (dA 3 oG nj R R R R)) (lS R (lS R (lM (ow _ _ _ _::ow _ _ _ _::RR cJ A2 D2 g1.Nodes::RR kT3 A3 D3 g1.Outs::ow _ _ _ _::W1) (fun w s=>(((s.d 4 R).d 6 R).e 5 [4,2,1,0,3])) ?_))))
 refine lC 4 Df R (FnOk.lends (A':=[OO (bF).share 23 O T M,OO kT3 3 a3 a4 q]) (A:=[RR bF O T M,RR kT3 a3 a4 q]) (B:=[RR cJ A2 D2 g1.Nodes,RR kT3 A3 D3 g1.Outs]) (FnOk.perm (Zc_ok b8) (Pre':=[RR bF O T M,RR kT3 a3 a4 q,RR cJ A2 D2 g1.Nodes,RR kT3 A3 D3 g1.Outs]) (fun _ _ _ s=>(s.e 4 [2,3,0,1]))) ⟨mL,aU,trivial⟩ (fun _=>trivial)) R ?_
 rintro _
 refine lN (_::_::_::W1) ?_
 refine lO (vT R) (lI R (lI R (lI R (lI R (aB (aE (aH (aH (aC (lI R (lI R (lO (tj R R) (aB (aE ?_))))))))))))))
 rcases cF l with ⟨al,l⟩|⟨al,l⟩
 refine bJ R al (eA (cE (dH ?_)))
 exact qI ((i,a1,b,j),(Y,i.length,Z)) l (fun w s=>(s.e 3 [2,0]))
 refine aY R al (bQ (aE (aH ?_)))
 obtain ⟨ab,b9,l⟩:=bd l
 refine cQ [(1,(iv F)),(2,(pt b5 0)),(5,(sc Y i Z)),(6,(sc O M T)),(7,(.bool a1)),(8,(iv b)),(9,(iv j)),(10,(iv a2)),(11,(sc a3 q a4)),(13,(iv L.1)),(14,(iv L.2)),(95,(.bool (((!a1)||(decide (L.2<j)))||((L.2==j)&&((decide (L.1<b))||((L.1==b)&&ab))))))] (OO kT3 3 Y Z i::OO (bF).share 23 O T M::OO kT3 3 a3 a4 q::W1) ?_ ?_
 refine aC (lB R (lO (ne R) (lB R ?_)))
 rcases bo (!a1) with J | J
 refine lf (cX J) (lf (cX J) (lf (cX J) (lO (fB (decide (L.2<j)) R J) (lB R (lf (cX (oT J)) (lf (cX (oT J)) (lf (cX (oT J)) (lf (cX (oT J)) (lf R (lf R (lf R (lf R (lf R (lf R (lf R (lf R (lf R (lf R (lf R (lf R (lf R (lf (cX (oT J)) (lO (fB ((L.2==j)&&((decide (L.1<b))||((L.1==b)&&ab))) R (oT J)) (aB ?_))))))))))))))))))))))))
 exact qJ (fun w s=>(s.e 3 [2,0,1]))
 refine lW (bW J) (vI R) (lW (bW J) (vI R) (lW (bW J) (jG R R) (lO (fG R J R) (lB R ?_))))
 rcases bo ((!a1)||(decide (L.2<j))) with u | u
 refine lf (cX u) (lf (cX u) (lf (cX u) (lf (cX u) (lf R (lf R (lf R (lf R (lf R (lf R (lf R (lf R (lf R (lf R (lf R (lf R (lf R (lf (cX u) (lO (fB ((L.2==j)&&((decide (L.1<b))||((L.1==b)&&ab))) R u) (aB ?_)))))))))))))))))))
 exact qJ (fun w s=>(s.e 3 [2,0,1]))
 refine lW (bW u) (vI R) (lW (bW u) (vI R) (lW (bW u) (kO R R) (lW (bW u) (vB R) ?_)))
 rcases bo (L.2==j) with D | D
 refine lW (dO D) (vI R) (lW (dO D) (vI R) (lW (dO D) (jG R R) (lW (dO D) (vB R) ?_)))
 rcases bo (decide (L.1<b)) with G | G
 refine lf (cX G) (lf (cX G) (lf (cX G) (lf (cX G) (lf R (lf R (lf R (lf (cX G) (lW (dO D) (fB ((L.1==b)&&ab) R G) (lW (bW u) (iJ R D R) (lO (fG R u R) (aB ?_)))))))))))
 exact qJ (fun w s=>(s.e 3 [2,0,1]))
 refine lW (bW G) (vI R) (lW (bW G) (vI R) (lW (bW G) (kO R R) (lW (bW G) (vB R) ?_)))
 rcases bo (L.1==b) with U | U
 refine lW (dO U) (vS R) (lW (dO U) (vS R) (lM (ow _ _ _ _::ow _ _ _ _::ow _ _ _ _::W1) (fun w s=>(s.e 3 [1,2,0])) ?_))
 refine b' 2 R (dO U) Dg R (FnOk.lends (A':=[OO kT3 3 a3 a4 q,OO kT3 3 Y Z i]) (A:=[RR kT3 a3 a4 q,RR kT3 Y Z i]) (B:=[]) (Z0b_ok (bM b9 (ov (cZ u) (ov D (ov (cZ G) U))))) ⟨aU,aU,trivial⟩ (fun _=>trivial)) R ?_
 rintro _
 refine lW (bW G) (iJ R U R) (lW (dO D) (fG R G R) (lW (bW u) (iJ R D R) (lO (fG R u R) (aB ?_))))
 exact qJ (fun w s=>(s.e 3 [1,2,0]))
 refine lf (jh U) (lf (jh U) (lf (jh U) (lW (bW G) (ki ab R U) (lW (dO D) (fG R G R) (lW (bW u) (iJ R D R) (lO (fG R u R) (aB ?_)))))))
 exact qJ (fun w s=>(s.e 3 [2,0,1]))
 refine lf (jh D) (lf (jh D) (lf (jh D) (lf (jh D) (lf R (lf R (lf R (lf R (lf R (lf R (lf R (lf R (lf (jh D) (lW (bW u) (ki ((decide (L.1<b))||((L.1==b)&&ab)) R D) (lO (fG R u R) (aB ?_)))))))))))))))
 exact qJ (fun w s=>(s.e 3 [2,0,1]))
 rintro σ1
 refine aE ?_
 rcases cF l with ⟨aa,l⟩|⟨aa,l⟩
 refine bJ R aa (aH (aC (lB R (aB (aE (aH (aC (lS R (lS R (aB (aE (aH (aC (lI R (lI R (aB (aE (aC (lI R (lI R (aB (cD ?_))))))))))))))))))))))
 exact qI ((q,true,L.1,L.2),(a3,q.length,a4)) l (fun w s=>(s.e 3 [2,1]))
 refine aY R aa (bQ (cD ?_))
 exact qI ((i,a1,b,j),(Y,i.length,Z)) l (fun w s=>(s.e 3 [0,1]))
 rintro ⟨⟨a5,ba,ac,an⟩,⟨au,b2,ay⟩⟩ σ1 l
 replace l:Z6_J8 a2 a5 ba ac an=some a9:=l
 unfold Z6_J8 at l
 refine bK 0 aD (fun (hn:b2=a5.length)=>?_)
 subst hn
 refine aC (lI R (lO (iE R R) (lI R (aB ?_))))
 obtain rfl:=so l
 exact qA (au,a5.length,ay) (fun w s=>s)
 refine aY R ag (eA (cE ?_))
 obtain rfl:=so l
 obtain rfl:=bl _ R
 have l:=bn
 refine cE (dH ?_)
 exact qI (i,(Y,i.length,Z)) l (fun w s=>(s.e 2 [0]))
 rintro ⟨a6,⟨av,b3,az⟩⟩ σ1 l
 replace l:Z6_J9 a6=some r:=l
 unfold Z6_J9 at l
 refine bK 0 aD (fun (hn:b3=a6.length)=>?_)
 subst hn
 refine aH (aC (lS R (lS R (aB (aE (bY ?_))))))
 obtain rfl:=so l
 exact qF (av,a6.length,az) (fun w s=>(s.e 4 [0]))
end Go.Proofs.YtoffdamdpmeoiaaGreatDoor
