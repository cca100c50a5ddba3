import Derived.Test.YtoffdamdpmeoiaaGreatDoorBkF
import Derived.Test.YtoffdamdpmeoiaaGreatDoorBkW2
import Derived.Test.YtoffdamdpmeoiaaGreatDoorBkW3
set_option linter.unusedVariables false
set_option maxRecDepth 20000
namespace Go.Proofs.YtoffdamdpmeoiaaGreatDoor
open Go Go.Pg
variable {A2 A3 A4 A5 A6 A7:Option Addr}{D2 D3 D4 D5 D6 D7 N2 N3 N4 N5 N6 N7:Nat}
theorem Z11_ok  {t1:Tensor}{l:Int}{j:(List Int)}{n7:Int}{r:Tensor}(i:Z11 t1 l j n7=some r) :
 FnOk Tryz.prog 98 [(.agg [(.slice A2 N2 D2),(.slice A3 N3 D3)].toArray),(iv l),(.slice A6 N6 D6),(iv n7)] [aO kT3 (.slice A2 N2 D2) t1.Dims,aO kT3 (.slice A3 N3 D3) t1.Data,aO kT3 (.slice A6 N6 D6) j] (fun (h:HH×HH)=>((.agg [(s3 h.1),(s3 h.2)].toArray),[ow kT3 3 (s3 h.1) r.Dims,ow kT3 3 (s3 h.2) r.Data])):=by
 unfold Z11 at i
 refine aR Tryz.func98 R 80 R R fun C V=>?_
 refine cL 0 aA ?_
 rintro rfl
 refine cL 1 aA ?_
 rintro rfl
 refine cL 2 aA ?_
 rintro rfl
 let W0:=RR kT3 A2 D2 t1.Dims::RR kT3 A3 D3 t1.Data::RR kT3 A6 D6 j::V
 refine cN W0 ?_
 refine aZ ?_
 refine eT R fun b8=>?_
 refine bG R R eG (fun b9=>(aB ?_))
 let W1:=aK b8 [(sc A2 t1.Dims D2),(sc A3 t1.Data D3)] 77::W0
 refine aV ?_
 obtain ⟨a0,a7,i⟩:=bd i
 obtain ⟨O,i⟩:=gd i
 obtain ⟨an,a8,i⟩:=bd i
 refine cQ [(1,(iv l)),(2,(sc A6 j D6)),(3,(iv n7)),(4,(pt b8 0)),(8,(pt b9 0)),(33,(.bool (((!a0)||((j.length:Int) != (ix t1.Dims l)))||(!an))))] (aK b9 [(.slice none 0 0),(.slice none 0 0)] 77::W1) ?_ ?_
 refine aV ?_
 refine lM _ (fun w s=>(((s.d 2 R).d 4 R).e 3 [1,0,2])) ?_
 refine lC 2 pJ R (Z1p_ok a7) R ?_
 rintro _
 refine aZ ?_
 rcases bo (!a0) with F | F
 refine An ?_
 exact qj tI
 refine cV ?_
 refine bE 2 aA (show 0<t1.Dims.length by have:=(O F); omega) (fun ay o14 ha=>?_)
 subst ha
 refine lW (bW F) (dV bH cO R R (O F)) (lW (bW F) (fQ 2 fC aA R (O F)) ?_)
 refine aV ?_
 rcases bo ((!a0)||((j.length:Int) != (ix t1.Dims l))) with M | M
 refine cB ?_
 exact qj tI
 refine aZ ?_
 refine lM _ (fun w s=>(s.d 4 R)) ?_
 refine b' 1 R (bW M) vX R (Z0s_ok (bM a8 (cZ M))) R ?_
 rintro _
 refine aV ?_
 exact qj tI
 rintro σ1
 refine cP ?_
 split at i
 refine aV ?_
 refine lO (vz (.agg [(.slice none 0 0),(.slice none 0 0)].toArray) (bA hJ eG R R)) (aL 0 R R bX R R R R R R (aB (aE (bY (bZ ?_)))))
 cases i
 exact qS ((none,0,0),(none,0,0)) (fun w s=>(((s.nilo kT3 3).nilo kT3 3).e 7 [1,0]))
 refine bL ?_
 obtain ⟨Z,a9,i⟩:=bd i
 refine cV ?_
 refine lM _ (fun w s=>(s.d 2 R)) ?_
 refine lC 1 lu R (Z0r_ok a9) R ?_
 rintro ⟨U,ar,Y⟩
 refine aM 0 aD ?_
 rintro rfl
 refine cV ?_
 obtain ⟨b2,aa,i⟩:=bd i
 refine aZ ?_
 refine lC 1 iT R (FnOk.lends (A':=[OO kT3 3 U Y Z]) (A:=[RR kT3 U Y Z]) (B:=[]) (Zq_ok aa) ⟨aU,trivial⟩ (fun _=>trivial)) R ?_
 rintro _
 refine aV ?_
 split at i
 refine aV ?_
 refine lO (vz (.agg [(.slice none 0 0),(.slice none 0 0)].toArray) (bA hJ eG R R)) (aL 1 R R bX R R R R R R (aB (aE (bY (bZ ?_)))))
 cases i
 exact qS ((none,0,0),(none,0,0)) (fun w s=>(((s.nilo kT3 3).nilo kT3 3).e 8 [1,0]))
 refine bL ?_
 obtain ⟨b,ab,i⟩:=bd i
 refine aZ ?_
 refine lC 1 lr R (FnOk.lends (A':=[OO kT3 3 U Y Z]) (A:=[RR kT3 U Y Z]) (B:=[]) (Z0q_ok ab) ⟨aU,trivial⟩ (fun _=>⟨(bN jw),(bN jw),trivial⟩)) R ?_
 rintro ⟨⟨q,au,D⟩,⟨u,av,E⟩⟩
 refine aM 1 aD ?_
 rintro rfl
 refine aM 2 aD ?_
 rintro rfl
 refine bG R R eG (fun L=>(aL 0 R R bX R R R R R R (lN (aK L [(sc q b.Dims D),(sc u b.Data E)] 77::_::_::_::_::W1) ?_)))
 refine aV ?_
 refine bB (A:=((List Int))×(Unit)) (fun a=>Z11_J1 b a.1=some r) (fun a=>[(8,(pt b9 0)),(10,(pt L 0))]) (fun a=>aK b9 [(.slice none 0 0),(.slice none 0 0)] 77::aK L [(sc q b.Dims D),(sc u b.Data E)] 77::OO kT3 3 q D b.Dims::ow kT3 3 (.slice u b.Data.length E) a.1::W1) ?_ ?_
 refine cB ?_
 obtain ⟨e1,am,al⟩:=bd i
 refine bD (A:=Unit) am (fun s a=>[(1,(iv l)),(2,(sc A6 j D6)),(4,(pt b8 0)),(8,(pt b9 0)),(10,(pt L 0)),(11,(iv s.2))]) (fun s a=>aK b9 [(.slice none 0 0),(.slice none 0 0)] 77::aK L [(sc q b.Dims D),(sc u b.Data E)] 77::OO kT3 3 q D b.Dims::ow kT3 3 (.slice u b.Data.length E) s.1::W1) () (aS R) (tE 5 [4,0,2,3]) ?_
 rintro ⟨G,b1⟩ _ σ1 ap i ak
 dsimp only [Z11_L1] at i
 refine dJ ?_
 split at i
 refine cB ?_
 obtain ⟨a1,ac,i⟩:=bd i
 refine bL ?_
 refine lM _ (fun w s=>(s.d 5 R)) ?_
 refine lC 1 ms R (Zm_ok ac) R ?_
 rintro ⟨aq,aw,a2⟩
 refine aM 0 aD ?_
 rintro rfl
 refine bL ?_
 obtain ⟨a4,i⟩:=gd i
 obtain ⟨a5,i⟩:=gd i
 obtain ⟨T,ae,i⟩:=bd i
 refine cB ?_
 refine bE 0 aD (show 0<a1.length by have:=a4; omega) (fun a3 o61 ha=>?_)
 subst ha
 refine aZ ?_
 refine bE 8 aA (show 0<j.length by have:=a5; omega) (fun az o64 ha=>?_)
 subst ha
 refine aZ ?_
 refine lC 1 lu R (FnOk.lends (A':=[OO kT3 3 (ad a3 o61) a2 a1]) (A:=[RR kT3 (ad a3 o61) a2 a1]) (B:=[]) (Z0r_ok ae) ⟨aU,trivial⟩ (fun _=>⟨(bN jw),trivial⟩)) R ?_
 rintro ⟨I,ax,J⟩
 refine aM 1 aD ?_
 rintro rfl
 refine aV ?_
 obtain ⟨b3,ag,i⟩:=bd i
 obtain ⟨a6,i⟩:=gd i
 obtain ⟨b4,ai,i⟩:=bd i
 obtain ⟨b5,aj,i⟩:=bd i
 refine bC 8 aA (show 0<t1.Data.length by have:=a6; omega) (fun b0 o72 ha=>?_)
 subst ha
 refine dP 12 [5] bS fun ht hn=>?_
 refine qg 0 [5] ?_
 refine kX 5 [5] ?_
 refine d1 4 R (lM _ (tE 6 [4,5,1,0,2,3]) ?_)
 refine lC 3 o0 R (FnOk.lends (A':=[OO kT3 3 q D b.Dims,ow kT3 3 (.slice u b.Data.length E) G,OO kT3 3 I J T]) (A:=[RR kT3 q D b.Dims,aO kT3 (.slice u b.Data.length E) G,RR kT3 I J T]) (B:=[]) (Z1e_ok (t1:=(⟨b.Dims,G⟩:Tensor)) ag) ⟨aU,aU,aU,trivial⟩ (fun _=>trivial)) R ?_
 rintro _
 refine aB (aJ (tE 6 [3,2,4,5,0]) (d1 10 R (lC 0 rM R (Z1v_ok ai) R ?_)))
 rintro _
 refine aB (aJ (tE 6 [3,2,4,5,0]) (d1 11 R (lM _ (tE 6 [0,2,1,3,4,5]) ?_)))
 refine lC 3 u7 R (FnOk.lends (A':=[OO kT3 3 q D b.Dims,OO kT3 3 I J T]) (A:=[RR kT3 q D b.Dims,RR kT3 I J T]) (B:=[ow kT3 3 (.slice u b.Data.length E) G]) (FnOk.perm (Z23_ok (t1:=(⟨b.Dims,G⟩:Tensor)) aj) (Pre':=[RR kT3 q D b.Dims,RR kT3 I J T,ow kT3 3 (.slice u b.Data.length E) G]) (fun _ _ _ s=>(s.e 3 [0,2,1]))) ⟨aU,aU,trivial⟩ (fun _=>⟨(bN jw),trivial⟩)) R ?_
 rintro _
 refine aB (aJ (tE 6 [3,1,4,5,0]) (dD ?_))
 refine eD ?_
 cases i
 exact qA () (tE 6 [4,5,0,2])
 refine aV ?_
 cases i
 obtain rfl:=ak _ R
 have i:=al
 refine aZ ?_
 exact qI (G,()) i tI
 rintro ⟨ao,_⟩ σ1 i
 dsimp only [Z11_J1] at i
 refine aV ?_
 refine aL 0 R R bX R R R R R R (lN (aK b9 [(sc q b.Dims D),(sc u b.Data E)] 77::_::_::ow kT3 3 (.slice u b.Data.length E) ao::W1) ?_)
 refine aV ?_
 cases i
 exact qS ((q,b.Dims.length,D),(u,b.Data.length,E)) (tE 8 [2,3])
theorem Z0l_ok  {v1:View}{i:Int}{b:Int}{q:Int}{r:View}(B:Z0l v1 i b q=some r) :
 FnOk Tryz.prog 99 [(.agg [(.slice A2 N2 D2),(.slice A3 N3 D3),(iv v1.Offset),(iv v1.Base)].toArray),(iv i),(iv b),(iv q)] [aO kT3 (.slice A2 N2 D2) v1.Dims,aO kT3 (.slice A3 N3 D3) v1.Strides] (fun (h:HH×HH)=>((.agg [(.slice h.1.1 h.1.2.1 h.1.2.2),(.slice h.2.1 h.2.2.1 h.2.2.2),(iv r.Offset),(iv r.Base)].toArray),[aO kT3 (.slice h.1.1 h.1.2.1 h.1.2.2) r.Dims,aO kT3 (.slice h.2.1 h.2.2.1 h.2.2.2) r.Strides])):=by
 unfold Z0l at B
 refine aR Tryz.func99 R 85 R R fun C V=>?_
 refine cN (_::_::V) ?_
 refine cL 0 aA ?_
 rintro rfl
 refine cL 1 aA ?_
 rintro rfl
 let W0:List HP:=RR kT3 A2 D2 v1.Dims::RR kT3 A3 D3 v1.Strides::V
 refine cN W0 ?_
 refine aH (aC (eT R (fun b7=>(bG R R cI (fun b8=>(aB ?_))))))
 let G:List HP:=aK b7 [(sc A2 v1.Dims D2),(sc A3 v1.Strides D3),(iv v1.Offset),(iv v1.Base)] 125::W0
 refine qN (_::G) ?_
 refine aE (aH (aH ?_))
 obtain ⟨r9,ap,B⟩:=bd B
 obtain ⟨a8,B⟩:=gd B
 refine cQ [(1,(iv i)),(2,(iv b)),(3,(iv q)),(4,(pt b7 0)),(8,(pt b8 0)),(32,(.bool ((((!r9)||(decide (b<(1:Int))))||(decide (q<(1:Int))))||(decide (b>(ix v1.Dims i))))))] (aK b8 [(.slice none 0 0),(.slice none 0 0),(iv 0),(iv 0)] 125::G) ?_ ?_
 refine aC (lO (vz (.agg [(sc A2 v1.Dims D2),(sc A3 v1.Strides D3),(iv v1.Offset),(iv v1.Base)].toArray) (dA 1 eR bU R R R R)) (lI R (lM (RR kT3 A2 D2 v1.Dims::RR kT3 A3 D3 v1.Strides::aK _ _ _::G) (fun w s=>(((s.d 2 R).d 4 R).e 3 [1,0,2])) ?_)))
 refine lC 2 xo R (Z2i_ok ap) R ?_
 rintro _
 refine lN (_::G) ?_
 refine lO (ne R) (lB R ?_)
 rcases bo (!r9) with u | u
 refine lf (cX u) (lf (cX u) (lO (fB (decide (b<(1:Int))) R u) (lB R (lf (cX (oT u)) (lf (cX (oT u)) (lO (fB (decide (q<(1:Int))) R (oT u)) (lB R (lf (cX (oT (oT u))) (lf (cX (oT (oT u))) (lf (cX (oT (oT u))) (lf (cX (oT (oT u))) (lf (cX (oT (oT u))) (lf (cX (oT (oT u))) (lf (cX (oT (oT u))) (lO (fB (decide (b>(ix v1.Dims i))) R (oT (oT u))) (aB ?_))))))))))))))))
 exact qJ (fun w s=>s)
 refine lW (bW u) (vI R) (lW (bW u) (jG R R) (lO (fG R u R) (lB R ?_)))
 rcases bo ((!r9)||(decide (b<(1:Int)))) with D | D
 refine lf (cX D) (lf (cX D) (lO (fB (decide (q<(1:Int))) R D) (lB R (lf (cX (oT D)) (lf (cX (oT D)) (lf (cX (oT D)) (lf (cX (oT D)) (lf (cX (oT D)) (lf (cX (oT D)) (lf (cX (oT D)) (lO (fB (decide (b>(ix v1.Dims i))) R (oT D)) (aB ?_))))))))))))
 exact qJ (fun w s=>s)
 refine lW (bW D) (vI R) (lW (bW D) (jG R R) (lO (fG R D R) (lB R ?_)))
 rcases bo (((!r9)||(decide (b<(1:Int))))||(decide (q<(1:Int)))) with l | l
 refine lf (cX l) (lf (cX l) (lf (cX l) (lf (cX l) (lf (cX l) (lf (cX l) (lf (cX l) (lO (fB (decide (b>(ix v1.Dims i))) R l) (aB ?_))))))))
 exact qJ (fun w s=>s)
 refine lW (bW l) (vI R) (lW (bW l) (eW 0 eE R) (lW (bW l) (eS 1 cH R R R) (lW (bW l) (vI R) (bE 2 aA (show 0<v1.Dims.length by have:=(a8 l); omega) (fun b3 o13 ha=>?_)))))
 subst ha
 refine lW (bW l) (dV bH cO R R (a8 l)) (lW (bW l) (fQ 2 fC aA R (a8 l)) (lW (bW l) (tj R R) (lO (fG R l R) (aB ?_))))
 exact qJ (fun w s=>s)
 rintro σ1
 refine aE ?_
 rcases cF B with ⟨a5,B⟩|⟨a5,B⟩
 refine bJ R a5 (aH (aC (lO (vz (.agg [(.slice none 0 0),(.slice none 0 0),(iv 0),(iv 0)].toArray) (bA eJ cI R R)) (aL 0 R R bU R R R R R R (aB (aE (bY (bZ ?_))))))))
 obtain rfl:=so B
 exact dL (vs:=[(.agg [(.slice none 0 0),(.slice none 0 0),(iv 0),(iv 0)].toArray)]) (.inl R) ((none,0,0),(none,0,0)) R ⟨⟨0,b8,_,_,R,R,.inl ⟨eR,bU,R⟩⟩,trivial⟩ R (fun w s=>(((s.nilr kT3).nilr kT3).e 6 [1,0]))
 refine aY R a5 (bQ (aE (aH ?_)))
 obtain ⟨j,aq,B⟩:=bd B
 refine aC (lO (vz (.agg [(sc A2 v1.Dims D2),(sc A3 v1.Strides D3),(iv v1.Offset),(iv v1.Base)].toArray) (dA 1 eR bU R R R R)) (lM (RR kT3 A2 D2 v1.Dims::RR kT3 A3 D3 v1.Strides::aK _ _ _::G) (fun w s=>(((s.d 2 R).d 4 R).e 3 [1,0,2])) ?_))
 refine lC 2 xp R (Z2k_ok aq) R ?_
 rintro ⟨⟨al,az,U⟩,⟨ak,b0,F⟩⟩
 refine lN (ow kT3 3 (.slice al az U) j.Dims::ow kT3 3 (.slice ak b0 F) j.Strides::_::G) ?_
 refine aM 0 aD ?_
 rintro rfl
 refine aM 1 aD ?_
 rintro rfl
 refine bG R R cI (fun Y=>(aL 0 R R bU R R R R R R (lN (aK Y [(sc al j.Dims U),(sc ak j.Strides F),(iv j.Offset),(iv j.Base)] 125::_::_::_::G) ?_)))
 refine aB (aE (aH ?_))
 obtain ⟨a9,B⟩:=gd B
 obtain ⟨am,B⟩:=gd B
 refine aC (lO (eW 0 eE R) (lO (eS 4 cH R R R) (lI R (bE 5 aA (show 0<v1.Dims.length by have:=a9; omega) (fun b4 o25 ha=>?_)))))
 subst ha
 refine lO (dV bH cO R R a9) (lO (fQ 5 fC aA R a9) (lI R (lO (sG R R) (lI R (lO (vz (iv (aI ((aI ((ix v1.Dims i) - b)).tdiv q))) (na R R am)) (lO (iE R R) (lI R (aB (aE (aH ?_))))))))))
 obtain ⟨aa,B⟩:=gd B
 refine aC (lO (eW 1 eX R) (lO (eS 4 cH R R R) (lI R (bE 6 aA (show 0<v1.Strides.length by have:=aa; omega) (fun b5 o29 ha=>?_)))))
 subst ha
 refine lO (dV bH cO R R aa) (lO (fQ 6 fC aA R aa) (lI R (aB (aE (aH ?_)))))
 obtain ⟨a2,B⟩:=gd B
 refine aC (lO (eW 0 eE R) (lO (eS 0 cH R R R) (lI R (lI R (bE 1 aD (show 0<j.Dims.length by have:=a2; omega) (fun a1 o32 ha=>?_))))))
 subst ha
 refine lO (dV bH cO R R a2) (lM (OO kT3 3 (ad a1 o32) U j.Dims::aK Y [(sc (ad a1 o32) j.Dims U),(sc ak j.Strides F),(iv j.Offset),(iv j.Base)] 125::ow _ _ _ _::aK _ _ _::G) (fun w s=>(s.e 4 [1,0,2,3])) ?_)
 refine eO (K:=kT3) (x':=(aI ((aI ((aI ((ix v1.Dims i) - b)).tdiv q))+(1:Int)))) 0 i R R cO R R a2.1 a2.2 ?_ ?_
 exact fun I h s=>(gM).put I h () (aI ((aI ((aI ((ix v1.Dims i) - b)).tdiv q))+(1:Int))) s
 refine lN (ow kT3 3 (.slice (ad a1 o32) j.Dims.length U) (j.Dims.set i.toNat (aI ((aI ((aI ((ix v1.Dims i) - b)).tdiv q))+(1:Int))))::_::_::_::G) ?_
 refine aB ?_
 obtain ⟨E,ab,B⟩:=bd B
 replace ab:=Option.some.inj ab
 refine qM (ow kT3 3 (.slice (ad a1 o32) j.Dims.length U) E::_::_::_::G) (fun w s=>by rw [← ab]; exact s) ?_
 refine aE (aH ?_)
 obtain ⟨M,B⟩:=gd B
 refine aC (lO (eW 1 eX R) (lO (eS 1 cH R R R) (lI R (bE 2 aD (show 0<j.Strides.length by have:=M; omega) (fun L o37 ha=>?_)))))
 subst ha
 refine lO (dV bH cO R R M) (lM (OO kT3 3 (ad L o37) F j.Strides::ow _ _ _ _::aK Y [(sc (ad a1 o32) j.Dims U),(sc (ad L o37) j.Strides F),(iv j.Offset),(iv j.Base)] 125::aK _ _ _::G) (fun w s=>(s.e 4 [2,0,1,3])) ?_)
 refine eO (K:=kT3) (x':=(0:Int)) 0 i R R cO R R M.1 M.2 ?_ ?_
 exact fun I h s=>(gM).put I h () (0:Int) s
 refine lN (ow kT3 3 (.slice (ad L o37) j.Strides.length F) (j.Strides.set i.toNat (0:Int))::_::_::_::G) ?_
 refine aB (aE (aH (bB (A:=((List Int))×(Unit)) (fun a=>Z0l_J1 v1 i b j E a.1=some r) (fun a=>[(2,(iv b)),(8,(pt b8 0)),(9,(pt Y 0)),(11,(iv (ix v1.Strides i)))]) (fun a=>aK b8 [(.slice none 0 0),(.slice none 0 0),(iv 0),(iv 0)] 125::aK Y [(sc (ad a1 o32) j.Dims U),(sc (ad L o37) j.Strides F),(iv j.Offset),(iv j.Base)] 125::ow kT3 3 (.slice (ad a1 o32) j.Dims.length U) E::ow kT3 3 (.slice (ad L o37) j.Strides.length F) a.1::G) ?_ ?_)))
 refine aH (aC (lI R (lO (tj R R) (aB (aE ?_)))))
 rcases cF B with ⟨a6,B⟩|⟨a6,B⟩
 refine bJ R a6 (aC (lO (eW 1 eX R) (lO (eS 2 cH R R R) (lI R (lI R (lI R (lO (rJ R R) (lO (dV bH cO R R M) (eO (K:=kT3) (x':=(aI ((ix v1.Strides i)*q))) 0 i R R cO R R M.1 M.2 ?_ ?_)))))))))
 exact fun I h s=>(gM).put I h () (aI ((ix v1.Strides i)*q)) s
 refine lN (ow kT3 3 (.slice (ad L o37) j.Strides.length F) ((j.Strides.set i.toNat (0:Int)).set i.toNat (aI ((ix v1.Strides i)*q)))::_::_::_::G) ?_
 refine aB ?_
 obtain ⟨au,ac,B⟩:=bd B
 replace ac:=Option.some.inj ac
 refine qM (ow kT3 3 (.slice (ad L o37) j.Strides.length F) au::_::_::_::G) (fun w s=>by rw [← ac]; exact s) ?_
 exact qI (au,()) B (fun w s=>(s.e 4 [3,2,1,0]))
 refine aY R a6 (bQ ?_)
 exact qI ((j.Strides.set i.toNat (0:Int)),()) B (fun w s=>(s.e 4 [3,2,1,0]))
 rintro ⟨O,_⟩ σ1 B
 replace B:Z0l_J1 v1 i b j E O=some r:=B
 unfold Z0l_J1 at B
 refine aH ?_
 obtain ⟨an,B⟩:=gd B
 refine aC (lO (eW 0 eE R) (lO (eS 1 cH R R R) (lI R (bO (K:=kT3) (xs:=([b]:List Int)) (vs:=[(iv b)]) 0 R R bH cO gN R R R R R R ?_ R (fun av ax=>?_)))))
 exact fun I h s=>(gM).list [((),b)] I h s
 refine lN (OO kT3 3 av ax ([b]:List Int)::_::_::_::ow kT3 3 (.slice (ad L o37) j.Strides.length F) O::G) ?_
 refine lM (ow _ _ _ _::ow _ _ _ _::aK _ _ _::aK _ _ _::ow _ _ _ _::G) (fun w s=>(s.e 5 [3,0,1,2,4])) ?_
 refine eU (K:=kT3) 17592186044416 R R bH cO kE (Zr.zk zT3 gN) R R R R R R eB an (fun Z a0=>(lN (OO kT3 3 Z a0 (E++([b]:List Int))::_::_::_::G) ?_))
 refine lO (eW 0 eE R) (dI 2 R R fK R R R R R (lN (_::_::aK Y [(sc Z (E++([b]:List Int)) a0),(sc (ad L o37) j.Strides F),(iv j.Offset),(iv j.Base)] 125::_::G) ?_))
 refine aB (aE (aH (bB (A:=(Int)×(Unit)) (fun a=>Z0l_J2 b j E O a.1=some r) (fun a=>[(8,(pt b8 0)),(9,(pt Y 0)),(11,(iv a.1))]) (fun a=>aK b8 [(.slice none 0 0),(.slice none 0 0),(iv 0),(iv 0)] 125::aK Y [(sc Z (E++([b]:List Int)) a0),(sc (ad L o37) j.Strides F),(iv j.Offset),(iv j.Base)] 125::OO kT3 3 Z a0 (E++([b]:List Int))::ow kT3 3 (.slice (ad L o37) j.Strides.length F) O::G) ?_ ?_)))
 refine aH (aC (lI R (lO (kO R R) (aB (aE ?_)))))
 rcases cF B with ⟨a7,B⟩|⟨a7,B⟩
 refine bJ R a7 (aC (lI R (aB ?_)))
 exact qI ((0:Int),()) B (fun w s=>(s.e 4 [1,2,0,3]))
 refine aY R a7 (bQ ?_)
 exact qI ((ix v1.Strides i),()) B (fun w s=>(s.e 4 [1,2,0,3]))
 rintro ⟨T,_⟩ σ1 B
 replace B:Z0l_J2 b j E O T=some r:=B
 unfold Z0l_J2 at B
 refine aH ?_
 obtain ⟨ao,B⟩:=gd B
 refine aC (lO (eW 1 eX R) (lO (eS 1 cH R R R) (lI R (bO (K:=kT3) (xs:=([T]:List Int)) (vs:=[(iv T)]) 0 R R bH cO gN R R R R R R ?_ R (fun aw ay=>?_)))))
 exact fun I h s=>(gM).list [((),T)] I h s
 refine lN (OO kT3 3 aw ay ([T]:List Int)::_::_::_::_::G) ?_
 refine lM (ow _ _ _ _::ow _ _ _ _::aK _ _ _::aK _ _ _::ow _ _ _ _::G) (fun w s=>(s.f 5 [4,1,0,4])) ?_
 refine eU (K:=kT3) 17592186044416 R R bH cO kE (Zr.zk zT3 gN) R R R R R R eB ao (fun a3 a4=>(lN (OO kT3 3 a3 a4 (O++([T]:List Int))::_::_::_::G) ?_))
 refine lO (eW 1 eX R) (dI 2 R R fK R R R R R (lN (_::_::aK Y [(sc Z (E++([b]:List Int)) a0),(sc a3 (O++([T]:List Int)) a4),(iv j.Offset),(iv j.Base)] 125::_::G) ?_))
 refine aB (aE (aH ?_))
 obtain ⟨J,ar,B⟩:=bd B
 refine aC (lO (vz (.agg [(sc Z (E++([b]:List Int)) a0),(sc a3 (O++([T]:List Int)) a4),(iv j.Offset),(iv j.Base)].toArray) (dA 2 eR bU R R R R)) (ji (fun w s=>s.shr 3 R) (ji (fun w s=>s.shr 1 R) (lM (RR kT3 Z a0 (E++([b]:List Int))::RR kT3 a3 a4 (O++([T]:List Int))::RR kT3 a3 a4 (O++([T]:List Int))::RR kT3 Z a0 (E++([b]:List Int))::aK _ _ _::aK _ _ _::G) (fun w s=>(((s.d 1 R).d 1 R).e 6 [1,0,2,3,4,5])) ?_))))
 refine lC 2 xq R (Z2l_ok (v1:=(⟨(E++([b]:List Int)),(O++([T]:List Int)),j.Offset,j.Base⟩:View)) ar) R ?_
 rintro ⟨⟨ae,b1,ai⟩,⟨ag,b2,aj⟩⟩
 refine lN (aO kT3 (.slice ae b1 ai) J.Dims::aO kT3 (.slice ag b2 aj) J.Strides::_::_::_::_::G) ?_
 refine aM 0 aA ?_
 rintro rfl
 refine aM 1 aA ?_
 rintro rfl
 refine aL 4 R R bU R R R R R R (lN (_::_::_::_::aK b8 [(sc ae J.Dims ai),(sc ag J.Strides aj),(iv J.Offset),(iv J.Base)] 125::_::G) ?_)
 refine aB (aE (bY ?_))
 obtain rfl:=so B
 exact dL (vs:=[(.agg [(sc ae J.Dims ai),(sc ag J.Strides aj),(iv J.Offset),(iv J.Base)].toArray)]) (.inl R) ((ae,J.Dims.length,ai),(ag,J.Strides.length,aj)) R ⟨⟨4,b8,_,_,R,R,.inl ⟨eR,bU,R⟩⟩,trivial⟩ R (fun w s=>(s.e 9 [0,1]))
theorem Z0y_ok  {t1:Tensor}{j:Int}{l:Int}{M:Int}{r:Tensor}(b:Z0y t1 j l M=some r) :
 FnOk Tryz.prog 100 [(.agg [(.slice A2 N2 D2),(.slice A3 N3 D3)].toArray),(iv j),(iv l),(iv M)] [aO kT3 (.slice A2 N2 D2) t1.Dims,aO kT3 (.slice A3 N3 D3) t1.Data] (fun (h:HH×HH)=>((.agg [(s3 h.1),(s3 h.2)].toArray),[ow kT3 3 (s3 h.1) r.Dims,ow kT3 3 (s3 h.2) r.Data])):=by
 unfold Z0y at b
 refine aR Tryz.func100 R 118 R R fun C V=>?_
 refine cL 0 aA ?_
 rintro rfl
 refine cL 1 aA ?_
 rintro rfl
 let W0:=RR kT3 A2 D2 t1.Dims::RR kT3 A3 D3 t1.Data::V
 refine cN W0 ?_
 refine aZ ?_
 refine eT R fun b7=>?_
 refine bG R R eG (fun O=>(aB ?_))
 let Y:=aK b7 [(sc A2 t1.Dims D2),(sc A3 t1.Data D3)] 77::W0
 refine jl ?_
 obtain ⟨r9,ab,b⟩:=bd b
 refine cQ [(1,(iv j)),(2,(iv l)),(3,(iv M)),(4,(pt b7 0)),(8,(pt O 0)),(9,(iv (aI ((t1.Dims.length:Int) - 1)))),(40,(.bool (((((!r9)||(j==(aI ((t1.Dims.length:Int) - 1))))||(decide (l<1)))||(decide (M<1)))||(decide (M>4096)))))] (aK O [(.slice none 0 0),(.slice none 0 0)] 77::Y) ?_ ?_
 refine aV ?_
 refine lM _ (fun w s=>(((s.d 2 R).d 4 R).e 3 [1,0,2])) ?_
 refine lC 2 pJ R (Z1p_ok ab) R ?_
 rintro _
 refine aZ ?_
 rcases bo (!r9) with a3 | a3
 refine qv ?_
 exact qj tI
 refine cV ?_
 rcases bo ((!r9)||(j==(aI ((t1.Dims.length:Int) - 1)))) with a4 | a4
 refine jl ?_
 exact qj tI
 refine bL ?_
 rcases bo (((!r9)||(j==(aI ((t1.Dims.length:Int) - 1))))||(decide (l<1))) with a5 | a5
 refine dN ?_
 exact qj tI
 refine bL ?_
 rcases bo ((((!r9)||(j==(aI ((t1.Dims.length:Int) - 1))))||(decide (l<1)))||(decide (M<1))) with a6 | a6
 refine bL ?_
 exact qj tI
 refine bL ?_
 exact qj tI
 rintro σ1
 refine cP ?_
 split at b
 refine aV ?_
 refine lO (vz (.agg [(.slice none 0 0),(.slice none 0 0)].toArray) (bA hJ eG R R)) (aL 0 R R bX R R R R R R (aB (aE (bY (bZ ?_)))))
 cases b
 exact qS ((none,0,0),(none,0,0)) (fun w s=>(((s.nilo kT3 3).nilo kT3 3).e 6 [1,0]))
 refine bL ?_
 obtain ⟨a7,b⟩:=gd b
 refine bL ?_
 refine bE 2 aA (show 0<t1.Dims.length by have:=a7; omega) (fun b9 o18 ha=>?_)
 subst ha
 refine eD ?_
 obtain ⟨a8,b⟩:=gd b
 obtain ⟨T,b⟩:=gd b
 refine cQ [(1,(iv j)),(2,(iv l)),(3,(iv M)),(4,(pt b7 0)),(8,(pt O 0)),(9,(iv (aI ((t1.Dims.length:Int) - 1)))),(63,(.bool ((decide ((ix t1.Dims (aI ((t1.Dims.length:Int) - 1)))>M))||((aI ((aI ((aI (M - (ix t1.Dims (aI ((t1.Dims.length:Int) - 1))))).tdiv l))+1)) != (ix t1.Dims j)))))] (aK O [(.slice none 0 0),(.slice none 0 0)] 77::Y) ?_ ?_
 rcases bo (decide ((ix t1.Dims (aI ((t1.Dims.length:Int) - 1)))>M)) with F | F
 refine dP 17 [] bS fun ht hn=>?_
 refine CB 0 [] ?_
 refine dD ?_
 exact qj tI
 refine dP 17 [] bS fun ht hn=>?_
 refine vR 0 [] ?_
 refine dW 8 R (bW F) (vz (iv (aI ((aI (M - (ix t1.Dims (aI ((t1.Dims.length:Int) - 1))))).tdiv l))) (na R R (a8 F))) ?_
 refine qg 9 [] ?_
 refine dW 13 R (bW F) (dV bH cO R R (T F)) (dW 14 R (bW F) (fQ 2 fC aA R (T F)) ?_)
 refine iM 15 [] ?_
 refine dD ?_
 exact qj tI
 rintro σ1
 refine cP ?_
 split at b
 refine aV ?_
 refine lO (vz (.agg [(.slice none 0 0),(.slice none 0 0)].toArray) (bA hJ eG R R)) (aL 0 R R bX R R R R R R (aB (aE (bY (bZ ?_)))))
 cases b
 exact qS ((none,0,0),(none,0,0)) (fun w s=>(((s.nilo kT3 3).nilo kT3 3).e 6 [1,0]))
 refine bL ?_
 obtain ⟨bc,ac,b⟩:=bd b
 obtain ⟨J,b⟩:=gd b
 refine cV ?_
 refine lM _ (fun w s=>(s.d 2 R)) ?_
 refine lC 1 lu R (Z0r_ok ac) R ?_
 rintro ⟨av,b2,az⟩
 refine aM 0 aD ?_
 rintro rfl
 refine lI R (ji (fun w s=>s.shr 0 R) (gP (K:=kT3) (0:Int) (aI ((t1.Dims.length:Int) - 1)) 0 R R bH cO R R R R J.1 J.2.1 J.2.2 (fun aw b0=>(lS R (aB (aE (aH (aH ?_))))))))
 obtain ⟨be,ae,b⟩:=bd b
 refine aZ ?_
 refine lM _ (fun w s=>(s.d 0 R)) ?_
 refine lC 1 iT R (Zq_ok ae) R ?_
 rintro _
 refine aV ?_
 split at b
 refine aV ?_
 refine lO (vz (.agg [(.slice none 0 0),(.slice none 0 0)].toArray) (bA hJ eG R R)) (aL 2 R R bX R R R R R R (aB (aE (bY (bZ ?_)))))
 cases b
 exact qS ((none,0,0),(none,0,0)) (fun w s=>(((s.nilo kT3 3).nilo kT3 3).e 8 [1,0]))
 refine bL ?_
 obtain ⟨i,ag,b⟩:=bd b
 refine aZ ?_
 refine lM _ (fun w s=>(s.d 0 R)) ?_
 refine lC 1 lr R (Z0q_ok ag) R ?_
 rintro ⟨⟨q,b3,D⟩,⟨u,b4,E⟩⟩
 refine aM 0 aD ?_
 rintro rfl
 refine aM 1 aD ?_
 rintro rfl
 refine bG R R eG (fun I=>(aL 0 R R bX R R R R R R (lN (aK I [(sc q i.Dims D),(sc u i.Data E)] 77::_::_::_::_::_::Y) ?_)))
 refine aV ?_
 refine bB (A:=((List Int))×(Unit)) (fun a=>Z0y_J1 i a.1=some r) (fun a=>[(8,(pt O 0)),(12,(pt I 0))]) (fun a=>aK O [(.slice none 0 0),(.slice none 0 0)] 77::aK I [(sc q i.Dims D),(sc u i.Data E)] 77::OO kT3 3 q D i.Dims::ow kT3 3 (.slice u i.Data.length E) a.1::Y) ?_ ?_
 refine cB ?_
 obtain ⟨e1,aq,ap⟩:=bd b
 refine bD (A:=Unit) aq (fun s a=>[(1,(iv j)),(2,(iv l)),(4,(pt b7 0)),(8,(pt O 0)),(9,(iv (aI ((t1.Dims.length:Int) - 1)))),(12,(pt I 0)),(13,(iv s.2))]) (fun s a=>aK O [(.slice none 0 0),(.slice none 0 0)] 77::aK I [(sc q i.Dims D),(sc u i.Data E)] 77::OO kT3 3 q D i.Dims::ow kT3 3 (.slice u i.Data.length E) s.1::Y) () (aS R) (tE 6 [5,0,1,2]) ?_
 rintro ⟨G,bb⟩ _ σ1 au b ao
 dsimp only [Z0y_L1] at b
 refine dJ ?_
 split at b
 refine cB ?_
 obtain ⟨U,ai,b⟩:=bd b
 refine bL ?_
 refine lM _ (fun w s=>(s.d 5 R)) ?_
 refine lC 1 ms R (Zm_ok ai) R ?_
 rintro ⟨ax,b5,a0⟩
 refine aM 0 aD ?_
 rintro rfl
 refine bL ?_
 obtain ⟨a9,b⟩:=gd b
 obtain ⟨_,b⟩:=gd b
 obtain ⟨an,aj,b⟩:=bd b
 obtain ⟨L,b⟩:=gd b
 refine bC 0 aD (show 0<U.length by have:=a9; omega) (fun a2 o66 ha=>?_)
 subst ha
 refine dP 17 [] bS fun ht hn=>?_
 refine nQ 0 [] ?_
 refine dR 14 R (vI R) (d1 13 R (lC 1 lu R (FnOk.lends (A':=[OO kT3 3 (ad a2 o66) a0 U]) (A:=[RR kT3 (ad a2 o66) a0 U]) (B:=[]) (Z0r_ok aj) ⟨aU,trivial⟩ (fun _=>⟨(bN jw),trivial⟩)) R ?_))
 rintro ⟨ay,b6,b1⟩
 refine aM 1 aD ?_
 rintro rfl
 refine aB (aJ (sL [1]) (d1 15 R (ji (fun w s=>s.shr 1 R) (gP (K:=kT3) (0:Int) (aI ((t1.Dims.length:Int) - 1)) 0 R R bH cO R R R R L.1 L.2.1 L.2.2 (fun Z a1=>(aB (aJ (sL [1,0]) (dR 16 R (vS R) (hS:=(sL [1,0])) (dD (aE ?_))))))))))
 obtain ⟨bf,ak,b⟩:=bd b
 obtain ⟨aa,b⟩:=gd b
 obtain ⟨bg,al,b⟩:=bd b
 obtain ⟨bh,am,b⟩:=bd b
 refine bC 9 aA (show 0<t1.Data.length by have:=aa; omega) (fun ba o77 ha=>?_)
 subst ha
 refine dP 12 [6] bS fun ht hn=>?_
 refine qg 0 [6] ?_
 refine kX 5 [6] ?_
 refine d1 4 R (lM _ (fun w s=>((s.d 0 R).f 8 [6,2,0,6])) ?_)
 refine lC 3 o0 R (FnOk.lends (A':=[OO kT3 3 q D i.Dims,ow kT3 3 (.slice u i.Data.length E) G]) (A:=[RR kT3 q D i.Dims,aO kT3 (.slice u i.Data.length E) G]) (B:=[RR kT3 Z a1 (sub an (0:Int) (aI ((t1.Dims.length:Int) - 1)))]) (Z1e_ok (t1:=(⟨i.Dims,G⟩:Tensor)) ak) ⟨aU,aU,trivial⟩ (fun _=>trivial)) R ?_
 rintro _
 refine aB (aJ (fun w s=>(s.f 7 [2,5,0,1])) (d1 10 R (lC 0 rM R (Z1v_ok al) R ?_)))
 rintro _
 refine aB (aJ (fun w s=>(s.f 7 [2,5,0,1])) (d1 11 R (lM _ (fun w s=>((s.d 2 R).f 8 [1,2,0,1,3,5])) ?_)))
 refine lC 3 u7 R (FnOk.lends (A':=[OO kT3 3 q D i.Dims]) (A:=[RR kT3 q D i.Dims]) (B:=[ow kT3 3 (.slice u i.Data.length E) G,RR kT3 Z a1 (sub an (0:Int) (aI ((t1.Dims.length:Int) - 1)))]) (Z23_ok (t1:=(⟨i.Dims,G⟩:Tensor)) am) ⟨aU,trivial⟩ (fun _=>⟨(bN jw),trivial⟩)) R ?_
 rintro _
 refine aB (aJ (fun w s=>(s.f 7 [2,5,0,1])) (dD ?_))
 refine eD ?_
 cases b
 exact qA () (tE 7 [5,6,0,1])
 refine aV ?_
 cases b
 obtain rfl:=ao _ R
 have b:=ap
 refine aZ ?_
 exact qI (G,()) b tI
 rintro ⟨ar,_⟩ σ1 b
 dsimp only [Z0y_J1] at b
 refine aV ?_
 refine aL 0 R R bX R R R R R R (lN (aK O [(sc q i.Dims D),(sc u i.Data E)] 77::_::_::ow kT3 3 (.slice u i.Data.length E) ar::Y) ?_)
 refine aV ?_
 cases b
 exact qS ((q,i.Dims.length,D),(u,i.Data.length,E)) (tE 7 [2,3])
theorem Z2_ok  {l:Node}{i:(List Tensor)}{r:Tensor}(b:Z2 l i=some r) :
 FnOk Tryz.prog 66 [(.agg [(iv l.Op),(.slice A2 N2 D2),(.slice A3 N3 D3),(.slice A4 N4 D4),(aG l.Form),(.slice A5 N5 D5)].toArray),(.slice A7 N7 D7)] [aO kT3 (.slice A2 N2 D2) l.Args,aO kT3 (.slice A3 N3 D3) l.Dims,aO kT3 (.slice A4 N4 D4) l.Ints,aO kT3 (.slice A5 N5 D5) l.Data,aO dY (.slice A7 N7 D7) i] (fun (h:HH×HH)=>((.agg [(.slice h.1.1 h.1.2.1 h.1.2.2),(.slice h.2.1 h.2.2.1 h.2.2.2)].toArray),[ow kT3 3 (.slice h.1.1 h.1.2.1 h.1.2.2) r.Dims,ow kT3 3 (.slice h.2.1 h.2.2.1 h.2.2.2) r.Data])):=by
 unfold Z2 at b
 refine aR Tryz.func66 R 217 R R fun C V=>?_
 refine cN (_::_::_::_::_::V) ?_
 refine cL 0 aA ?_
 rintro rfl
 refine cL 1 aA ?_
 rintro rfl
 refine cL 2 aA ?_
 rintro rfl
 refine cL 3 aA ?_
 rintro rfl
 refine cL 4 aA ?_
 rintro rfl
 let W0:List HP:=RR kT3 A2 D2 l.Args::RR kT3 A3 D3 l.Dims::RR kT3 A4 D4 l.Ints::RR kT3 A5 D5 l.Data::RR dY A7 D7 i::V
 refine cN W0 ?_
 refine aH (aC (eT R (fun b8=>(bG R R eG (fun q=>(aB ?_))))))
 let j:List HP:=aK b8 [(iv l.Op),(sc A2 l.Args D2),(sc A3 l.Dims D3),(sc A4 l.Ints D4),(aG l.Form),(sc A5 l.Data D5)] 42::W0
 refine qN (_::j) ?_
 refine aE (aH (aC (lO (eW 3 hW R) (lO (eS 1 cH R R R) (lS R (aB (aE (aH (aH (aC (lO (eW 0 jW R) (lO (eS 1 fC R R R) (aB (aE (bV (aH (aC (lO (kO R R) (lB R (aB (aE ?_)))))))))))))))))))))
 rcases cF b with ⟨dc,b⟩|⟨dc,b⟩
 refine bJ R dc (aH (aC (lO (eW 2 kY R) (lO (eS 1 cH R R R) (lO (eW 5 oE R) (lO (eS 1 cH R R R) (lO (vz (.agg [(sc A3 l.Dims D3),(sc A5 l.Data D5)].toArray) (bA hJ eG R R)) (bG R R eG (fun ii=>(aL 0 R R bX R R R R R R (lN (aK ii [(sc A3 l.Dims D3),(sc A5 l.Data D5)] 77::_::j) ?_)))))))))))
 refine aB (aE (aH (aH ?_)))
 obtain ⟨iz,hj,b⟩:=bd b
 refine aC (lO (vz (.agg [(sc A3 l.Dims D3),(sc A5 l.Data D5)].toArray) (dA 0 fX bX R R R R)) (lM (RR kT3 A3 D3 l.Dims::RR kT3 A5 D5 l.Data::aK _ _ _::aK _ _ _::j) (fun w s=>(((s.d 4 R).d 7 R).e 4 [1,0,2,3])) ?_))
 refine lC 2 oH R (Zv_ok (t1:=(⟨l.Dims,l.Data⟩:Tensor)) hj) R ?_
 rintro _
 refine lN (_::_::j) ?_
 refine lO (ne R) (aB (aE ?_))
 rcases cF b with ⟨dd,b⟩|⟨dd,b⟩
 refine bJ R dd (aH (aC (lO (vz (.agg [(.slice none 0 0),(.slice none 0 0)].toArray) (bA hJ eG R R)) (aL 1 R R bX R R R R R R (aB (aE (bY (bZ (cG (bZ ?_))))))))))
 obtain rfl:=so b
 exact dL (vs:=[(.agg [(.slice none 0 0),(.slice none 0 0)].toArray)]) (.inl R) ((none,0,0),(none,0,0)) R ⟨⟨1,q,_,_,R,R,.inl ⟨fX,bX,R⟩⟩,trivial⟩ R (fun w s=>(((s.nilo kT3 3).nilo kT3 3).e 10 [1,0]))
 refine aY R dd (bQ (aE (aH ?_)))
 obtain ⟨e5,hk,b⟩:=bd b
 obtain ⟨e6,hl,b⟩:=bd b
 refine dP 8 [1] bS (fun ht hn=>(dR 0 R (eW 2 kY R) (hS:=(sL [1])) (dR 1 R (eS 1 cH R R R) (hS:=(sL [1])) (dR 3 R (eW 5 oE R) (hS:=(sL [1])) (dR 4 R (eS 1 cH R R R) (hS:=(sL [1])) (d1 2 R (lM (RR kT3 A3 D3 l.Dims::_::_::j) (fun w s=>(s.d 4 R)) ?_)))))))
 refine lC 1 kt R (Zx_ok hk) R ?_
 rintro ⟨cf,hz,d0⟩
 refine lN (ow kT3 3 (.slice cf hz d0) e5::_::_::j) ?_
 refine aM 0 aD ?_
 rintro rfl
 refine aB (aJ (sL [2,0]) (d1 5 R (lM (RR kT3 A5 D5 l.Data::_::_::_::j) (fun w s=>(s.d 7 R)) ?_)))
 refine lC 1 kt R (Zx_ok hl) R ?_
 rintro ⟨cj,i0,d5⟩
 refine lN (ow kT3 3 (.slice cj i0 d5) e6::_::_::_::j) ?_
 refine aM 0 aD ?_
 rintro rfl
 refine aB (aJ (sL [3,1,0]) (dR 6 R (vz (.agg [(sc cf e5 d0),(sc cj e6 d5)].toArray) (bA hJ eG R R)) (hS:=(sL [3,1,0])) (d1 7 R (aL 3 R R bX R R R R R R (lN (_::_::_::aK q [(sc cf e5 d0),(sc cj e6 d5)] 77::j) ?_)))))
 refine aB (aJ (sL [3,1,0]) (dD (aE (bY (cG (bZ ?_))))))
 obtain rfl:=so b
 exact dL (vs:=[(.agg [(sc cf e5 d0),(sc cj e6 d5)].toArray)]) (.inl R) ((cf,e5.length,d0),(cj,e6.length,d5)) R ⟨⟨3,q,_,_,R,R,.inl ⟨fX,bX,R⟩⟩,trivial⟩ R (fun w s=>(s.e 10 [1,0]))
 refine aY R dc (aH (bB (A:=(Bool)×(Unit)) (fun a=>Z2_J1 l i a.1=some r) (fun a=>[(1,(sc A7 i D7)),(2,(pt b8 0)),(4,(pt q 0)),(5,(sc A4 l.Ints D4)),(10,(iv l.Op)),(29,(.bool a.1))]) (fun a=>aK q [(.slice none 0 0),(.slice none 0 0)] 77::j) ?_ ?_))
 refine aH (aC (lO (kO R R) (lB R (aB (aE ?_)))))
 rcases cF b with ⟨de,b⟩|⟨de,b⟩
 refine bJ R de (bQ ?_)
 exact qI ((l.Op==(3:Int)),()) b (fun w s=>s)
 refine aY R de (aH (aC (lO (kO R R) (lB R (aB (aE ?_))))))
 rcases cF b with ⟨df,b⟩|⟨df,b⟩
 refine bJ R df (bQ ?_)
 exact qI ((l.Op==(4:Int)),()) b (fun w s=>s)
 refine aY R df (aC (lO (kO R R) (lB R (aB ?_))))
 exact qI ((l.Op==(5:Int)),()) b (fun w s=>s)
 rintro ⟨im,_⟩ σ1 b
 replace b:Z2_J1 l i im=some r:=b
 unfold Z2_J1 at b
 rcases cF b with ⟨dg,b⟩|⟨dg,b⟩
 refine bJ R dg (aH (aH ?_))
 obtain ⟨a2,b⟩:=gd b
 obtain ⟨bz,b⟩:=gd b
 obtain ⟨j0,hm,b⟩:=bd b
 refine bC 6 aA (show 0<i.length by have:=a2; omega) (fun f1 o27 u=>?_)
 subst u
 refine dU (K:=dY) 6 (0:Int) dT77.dec R a2.1 a2.2 ?_
 rintro ⟨⟨fa,fk⟩,⟨fb,fl⟩⟩
 refine cN (cl f1 (o27+(0:Int).toNat*2) [(sc fa ((ix i (0:Int)).Dims) fk),(sc fb ((ix i (0:Int)).Data) fl)]::RR kT3 fa fk ((ix i (0:Int)).Dims)::RR kT3 fb fl ((ix i (0:Int)).Data)::aK q [(.slice none 0 0),(.slice none 0 0)] 77::j) ?_
 refine dU (K:=dY) 9 (1:Int) dT77.dec R bz.1 bz.2 ?_
 rintro ⟨⟨fc,fm⟩,⟨fd,fn⟩⟩
 refine cN (cl f1 (o27+(1:Int).toNat*2) [(sc fc ((ix i (1:Int)).Dims) fm),(sc fd ((ix i (1:Int)).Data) fn)]::RR kT3 fc fm ((ix i (1:Int)).Dims)::RR kT3 fd fn ((ix i (1:Int)).Data)::_::_::_::_::j) ?_
 refine dP 10 [] bS (fun ht hn=>(dR 0 R (vS R) (dR 1 R (dV gK bX R R a2) (dR 2 R (vz (.pointer (some ⟨f1,o27+(0:Int).toNat*2,none⟩)) (jF j7 R R)) (dR 3 R (eZ (fo:=0) 3 cH R R R) (dR 4 R (vS R) (dR 5 R (dV gK bX R R bz) (dR 6 R (vz (.pointer (some ⟨f1,o27+(1:Int).toNat*2,none⟩)) (jF j7 R R)) (dR 7 R (eZ (fo:=0) 0 cH R R R) (d1 8 R (lM (aO _ _ _::aO _ _ _::cl _ _ _::aO _ _ _::aO _ _ _::cl _ _ _::aO _ _ _::aO _ _ _::aK _ _ _::j) (fun w s=>(((s.d 4 R).d 2 R).f 9 [1,1,0,1,2,7])) ?_)))))))))))
 refine lC 2 yA R (Z06_ok hm) R ?_
 rintro _
 refine lN (_::_::_::_::_::_::_::j) ?_
 refine aB (aJ (sL []) (dR 9 R (ne R) (dD (aE ?_))))
 rcases cF b with ⟨dh,b⟩|⟨dh,b⟩
 refine bJ R dh (aH (aC (lO (vz (.agg [(.slice none 0 0),(.slice none 0 0)].toArray) (bA hJ eG R R)) (aL 6 R R bX R R R R R R (aB (aE (bY (bZ (cG (bZ ?_))))))))))
 obtain rfl:=so b
 exact dL (vs:=[(.agg [(.slice none 0 0),(.slice none 0 0)].toArray)]) (.inl R) ((none,0,0),(none,0,0)) R ⟨⟨6,q,_,_,R,R,.inl ⟨fX,bX,R⟩⟩,trivial⟩ R (fun w s=>(((s.nilo kT3 3).nilo kT3 3).e 15 [1,0]))
 refine aY R dh (bQ (aE (aH ?_)))
 obtain ⟨a5,ho,b⟩:=bd b
 refine dP 12 [6] bS (fun ht hn=>(dR 0 R (eW 0 jW R) (hS:=(sL [6])) (dR 1 R (eS 6 fC R R R) (hS:=(sL [6])) (dR 2 R (sG R R) (hS:=(sL [6])) (dR 3 R (iE R R) (hS:=(sL [6])) (dR 4 R (vS R) (hS:=(sL [6])) (dR 5 R (dV gK bX R R a2) (hS:=(sL [6])) (dR 6 R (vz (.agg [(sc fa ((ix i (0:Int)).Dims) fk),(sc fb ((ix i (0:Int)).Data) fl)].toArray) (eK (fo:=0) 3 fX bX R R R R)) (hS:=(sL [6])) (dR 7 R (vS R) (hS:=(sL [6])) (dR 8 R (dV gK bX R R bz) (hS:=(sL [6])) (dR 9 R (vz (.agg [(sc fc ((ix i (1:Int)).Dims) fm),(sc fd ((ix i (1:Int)).Data) fn)].toArray) (eK (fo:=0) 0 fX bX R R R R)) (hS:=(sL [6])) (d1 10 R (lM (aO _ _ _::aO _ _ _::aO _ _ _::aO _ _ _::cl _ _ _::aO _ _ _::aO _ _ _::cl _ _ _::aO _ _ _::aO _ _ _::aK _ _ _::j) (fun w s=>(((((s.d 4 R).d 6 R).d 3 R).d 5 R).f 11 [3,1,2,1,1,1,0,1,4,7])) ?_)))))))))))))
 refine lC 4 CR R (Z1a_ok ho) R ?_
 rintro ⟨⟨e7,i1,el⟩,⟨e8,i2,em⟩⟩
 refine lN (ow kT3 3 (.slice e7 i1 el) a5.Dims::ow kT3 3 (.slice e8 i2 em) a5.Data::_::_::_::_::_::_::_::j) ?_
 refine aM 0 aD ?_
 rintro rfl
 refine aM 1 aD ?_
 rintro rfl
 refine aB (aJ (sL [8,1,0]) (d1 11 R (aL 8 R R bX R R R R R R (lN (_::_::_::_::_::_::_::_::aK q [(sc e7 a5.Dims el),(sc e8 a5.Data em)] 77::j) ?_))))
 refine aB (aJ (sL [8,1,0]) (dD (aE (bY (cG (bZ ?_))))))
 obtain rfl:=so b
 exact dL (vs:=[(.agg [(sc e7 a5.Dims el),(sc e8 a5.Data em)].toArray)]) (.inl R) ((e7,a5.Dims.length,el),(e8,a5.Data.length,em)) R ⟨⟨8,q,_,_,R,R,.inl ⟨fX,bX,R⟩⟩,trivial⟩ R (fun w s=>(s.e 15 [0,1]))
 refine aY R dg (aH (bB (A:=(Bool)×(Unit)) (fun a=>Z2_J2 l i a.1=some r) (fun a=>[(1,(sc A7 i D7)),(2,(pt b8 0)),(4,(pt q 0)),(5,(sc A4 l.Ints D4)),(10,(iv l.Op)),(55,(.bool a.1))]) (fun a=>aK q [(.slice none 0 0),(.slice none 0 0)] 77::j) ?_ ?_))
 refine aH (aC (lO (kO R R) (lB R (aB (aE ?_)))))
 rcases cF b with ⟨di,b⟩|⟨di,b⟩
 refine bJ R di (bQ ?_)
 exact qI ((l.Op==(6:Int)),()) b (fun w s=>s)
 refine aY R di (aH (aC (lO (kO R R) (lB R (aB (aE ?_))))))
 rcases cF b with ⟨dj,b⟩|⟨dj,b⟩
 refine bJ R dj (bQ ?_)
 exact qI ((l.Op==(7:Int)),()) b (fun w s=>s)
 refine aY R dj (aH (aC (lO (kO R R) (lB R (aB (aE ?_))))))
 rcases cF b with ⟨dk,b⟩|⟨dk,b⟩
 refine bJ R dk (bQ ?_)
 exact qI ((l.Op==(8:Int)),()) b (fun w s=>s)
 refine aY R dk (aC (lO (kO R R) (lB R (aB ?_))))
 exact qI ((l.Op==(9:Int)),()) b (fun w s=>s)
 rintro ⟨io,_⟩ σ1 b
 replace b:Z2_J2 l i io=some r:=b
 unfold Z2_J2 at b
 rcases cF b with ⟨dl,b⟩|⟨dl,b⟩
 refine bJ R dl (aH ?_)
 obtain ⟨c0,b⟩:=gd b
 obtain ⟨a7,hp,b⟩:=bd b
 refine bC 6 aA (show 0<i.length by have:=c0; omega) (fun ij o47 u=>?_)
 subst u
 refine dU (K:=dY) 6 (0:Int) dT77.dec R c0.1 c0.2 ?_
 rintro ⟨⟨fe,fp⟩,⟨ff,fq⟩⟩
 refine cN (cl ij (o47+(0:Int).toNat*2) [(sc fe ((ix i (0:Int)).Dims) fp),(sc ff ((ix i (0:Int)).Data) fq)]::RR kT3 fe fp ((ix i (0:Int)).Dims)::RR kT3 ff fq ((ix i (0:Int)).Data)::aK q [(.slice none 0 0),(.slice none 0 0)] 77::j) ?_
 refine dP 9 [3] bS (fun ht hn=>(dR 0 R (eW 0 jW R) (hS:=(sL [3])) (dR 1 R (eS 3 fC R R R) (hS:=(sL [3])) (dR 2 R (sG R R) (hS:=(sL [3])) (dR 3 R (iE R R) (hS:=(sL [3])) (dR 4 R (vS R) (hS:=(sL [3])) (dR 5 R (dV gK bX R R c0) (hS:=(sL [3])) (dR 6 R (vz (.agg [(sc fe ((ix i (0:Int)).Dims) fp),(sc ff ((ix i (0:Int)).Data) fq)].toArray) (eK (fo:=0) 0 fX bX R R R R)) (hS:=(sL [3])) (d1 7 R (lM (aO _ _ _::aO _ _ _::cl _ _ _::aO _ _ _::aO _ _ _::aK _ _ _::j) (fun w s=>(((s.d 1 R).d 3 R).e 6 [1,0,2,3,4,5])) ?_))))))))))
 refine lC 2 CS R (Z19_ok hp) R ?_
 rintro ⟨⟨e9,i3,en⟩,⟨ea,i4,eo⟩⟩
 refine lN (ow kT3 3 (.slice e9 i3 en) a7.Dims::ow kT3 3 (.slice ea i4 eo) a7.Data::_::_::_::_::j) ?_
 refine aM 0 aD ?_
 rintro rfl
 refine aM 1 aD ?_
 rintro rfl
 refine aB (aJ (sL [5,1,0]) (d1 8 R (aL 5 R R bX R R R R R R (lN (_::_::_::_::_::aK q [(sc e9 a7.Dims en),(sc ea a7.Data eo)] 77::j) ?_))))
 refine aB (aJ (sL [5,1,0]) (dD (aE (bY (cG (bZ ?_))))))
 obtain rfl:=so b
 exact dL (vs:=[(.agg [(sc e9 a7.Dims en),(sc ea a7.Data eo)].toArray)]) (.inl R) ((e9,a7.Dims.length,en),(ea,a7.Data.length,eo)) R ⟨⟨5,q,_,_,R,R,.inl ⟨fX,bX,R⟩⟩,trivial⟩ R (fun w s=>(s.e 12 [0,1]))
 refine aY R dl (aH (aC (lO (kO R R) (lB R (aB (aE ?_))))))
 rcases cF b with ⟨dm,b⟩|⟨dm,b⟩
 refine bJ R dm (aH ?_)
 obtain ⟨c1,b⟩:=gd b
 obtain ⟨e4,b⟩:=gd b
 obtain ⟨a8,hq,b⟩:=bd b
 refine bC 6 aA (show 0<i.length by have:=c1; omega) (fun ik o57 u=>?_)
 subst u
 refine dU (K:=dY) 6 (0:Int) dT77.dec R c1.1 c1.2 ?_
 rintro ⟨⟨fg,fr⟩,⟨fh,fs⟩⟩
 refine cN (cl ik (o57+(0:Int).toNat*2) [(sc fg ((ix i (0:Int)).Dims) fr),(sc fh ((ix i (0:Int)).Data) fs)]::RR kT3 fg fr ((ix i (0:Int)).Dims)::RR kT3 fh fs ((ix i (0:Int)).Data)::aK q [(.slice none 0 0),(.slice none 0 0)] 77::j) ?_
 refine bC 7 aA (show 0<l.Ints.length by have:=e4; omega) (fun iy o62 u=>?_)
 subst u
 refine dP 8 [3] bS (fun ht hn=>(dR 0 R (vS R) (hS:=(sL [3])) (dR 1 R (dV gK bX R R c1) (hS:=(sL [3])) (dR 2 R (vz (.agg [(sc fg ((ix i (0:Int)).Dims) fr),(sc fh ((ix i (0:Int)).Data) fs)].toArray) (eK (fo:=0) 0 fX bX R R R R)) (hS:=(sL [3])) (dR 3 R (vS R) (hS:=(sL [3])) (dR 4 R (dV bH cO R R e4) (hS:=(sL [3])) (dR 5 R (fQ 6 fC aA R e4) (hS:=(sL [3])) (d1 6 R (lM (aO _ _ _::aO _ _ _::cl _ _ _::aO _ _ _::aO _ _ _::aK _ _ _::j) (fun w s=>(((s.d 1 R).d 3 R).e 6 [1,0,2,3,4,5])) ?_)))))))))
 refine lC 2 CT R (Zd_ok hq) R ?_
 rintro ⟨⟨eb,i5,ep⟩,⟨ec,i6,eq⟩⟩
 refine lN (ow kT3 3 (.slice eb i5 ep) a8.Dims::ow kT3 3 (.slice ec i6 eq) a8.Data::_::_::_::_::j) ?_
 refine aM 0 aD ?_
 rintro rfl
 refine aM 1 aD ?_
 rintro rfl
 refine aB (aJ (sL [5,1,0]) (d1 7 R (aL 5 R R bX R R R R R R (lN (_::_::_::_::_::aK q [(sc eb a8.Dims ep),(sc ec a8.Data eq)] 77::j) ?_))))
 refine aB (aJ (sL [5,1,0]) (dD (aE (bY (cG (bZ ?_))))))
 obtain rfl:=so b
 exact dL (vs:=[(.agg [(sc eb a8.Dims ep),(sc ec a8.Data eq)].toArray)]) (.inl R) ((eb,a8.Dims.length,ep),(ec,a8.Data.length,eq)) R ⟨⟨5,q,_,_,R,R,.inl ⟨fX,bX,R⟩⟩,trivial⟩ R (fun w s=>(s.e 12 [0,1]))
 refine aY R dm (aH (aC (lO (kO R R) (lB R (aB (aE ?_))))))
 rcases cF b with ⟨dn,b⟩|⟨dn,b⟩
 refine bJ R dn (aH ?_)
 obtain ⟨a9,hs,b⟩:=bd b
 refine aC (lO (eW 4 qy R) (lO (eS 1 qh R R R) (lS R (lM (RR dY A7 D7 i::aK q [(.slice none 0 0),(.slice none 0 0)] 77::j) (fun w s=>(s.d 6 R)) ?_))))
 refine lC 1 CU R (Z5_ok hs) R ?_
 rintro ⟨⟨ed,i7,er⟩,⟨ee,i8,es⟩⟩
 refine lN (ow kT3 3 (.slice ed i7 er) a9.Dims::ow kT3 3 (.slice ee i8 es) a9.Data::_::j) ?_
 refine aM 0 aD ?_
 rintro rfl
 refine aM 1 aD ?_
 rintro rfl
 refine aL 2 R R bX R R R R R R (lN (_::_::aK q [(sc ed a9.Dims er),(sc ee a9.Data es)] 77::j) ?_)
 refine aB (aE (bY (cG (bZ ?_))))
 obtain rfl:=so b
 exact dL (vs:=[(.agg [(sc ed a9.Dims er),(sc ee a9.Data es)].toArray)]) (.inl R) ((ed,a9.Dims.length,er),(ee,a9.Data.length,es)) R ⟨⟨2,q,_,_,R,R,.inl ⟨fX,bX,R⟩⟩,trivial⟩ R (fun w s=>(s.e 9 [0,1]))
 refine aY R dn (aH (aC (lO (kO R R) (lB R (aB (aE ?_))))))
 rcases cF b with ⟨dq,b⟩|⟨dq,b⟩
 refine bJ R dq (aH ?_)
 obtain ⟨a3,b⟩:=gd b
 obtain ⟨au,hu,b⟩:=bd b
 obtain ⟨aa,hv,b⟩:=bd b
 obtain ⟨ab,hx,b⟩:=bd b
 refine bC 6 aA (show 0<i.length by have:=a3; omega) (fun hh o75 u=>?_)
 subst u
 refine dU (K:=dY) 6 (0:Int) dT77.dec R a3.1 a3.2 ?_
 rintro ⟨⟨cn,d8⟩,⟨co,d9⟩⟩
 refine cN (cl hh (o75+(0:Int).toNat*2) [(sc cn ((ix i (0:Int)).Dims) d8),(sc co ((ix i (0:Int)).Data) d9)]::RR kT3 cn d8 ((ix i (0:Int)).Dims)::RR kT3 co d9 ((ix i (0:Int)).Data)::aK q [(.slice none 0 0),(.slice none 0 0)] 77::j) ?_
 refine dP 13 [3] bS (fun ht hn=>(dR 0 R (vS R) (hS:=(sL [3])) (dR 1 R (dV gK bX R R a3) (hS:=(sL [3])) (dR 2 R (vz (.agg [(sc cn ((ix i (0:Int)).Dims) d8),(sc co ((ix i (0:Int)).Data) d9)].toArray) (eK (fo:=0) 0 fX bX R R R R)) (hS:=(sL [3])) (dR 3 R (vS R) (hS:=(sL [3])) (dR 4 R (dV gK bX R R a3) (hS:=(sL [3])) (dR 5 R (vz (.pointer (some ⟨hh,o75+(0:Int).toNat*2,none⟩)) (jF j7 R R)) (hS:=(sL [3])) (dR 6 R (eZ (fo:=0) 0 cH R R R) (hS:=(sL [3])) (dR 8 R (eW 2 kY R) (hS:=(sL [3])) (dR 9 R (eS 3 cH R R R) (hS:=(sL [3])) (d1 7 R (lM (_::_::_::_::_::j) (fun w s=>(s.d 1 R)) ?_))))))))))))
 refine lC 1 vY R (Z00_ok hu) R ?_
 rintro ⟨⟨fi,i9,ft⟩,⟨ef,ia,et⟩⟩
 refine lN (aO kT3 (.slice fi i9 ft) au.Dims::ow kT3 3 (.slice ef ia et) au.Strides::_::_::_::_::j) ?_
 refine aM 0 aA ?_
 rintro rfl
 refine aM 1 aD ?_
 rintro rfl
 refine aB (aJ (sL [5,1,0]) (d1 10 R (lM (ow _ _ _ _::aO _ _ _::RR kT3 A3 D3 l.Dims::aO _ _ _::cl _ _ _::aO _ _ _::aO _ _ _::aK _ _ _::j) (fun w s=>(((s.d 0 R).d 9 R).e 8 [3,1,0,2,4,5,6,7])) ?_)))
 refine lC 3 CV R (FnOk.lends (A':=[OO kT3 3 ef et au.Strides]) (A:=[RR kT3 ef et au.Strides]) (B:=[RR kT3 fi ft au.Dims,RR kT3 A3 D3 l.Dims]) (FnOk.perm (Z03_ok hv) (Pre':=[RR kT3 ef et au.Strides,RR kT3 fi ft au.Dims,RR kT3 A3 D3 l.Dims]) (fun _ _ _ s=>(s.e 3 [1,0,2]))) ⟨aU,trivial⟩ (fun _=>⟨(bN jw),(bN jw),trivial⟩)) R ?_
 rintro ⟨⟨eg,ib,eu⟩,⟨eh,ic,ew⟩⟩
 refine lN (_::ow kT3 3 (.slice eg ib eu) aa.Dims::ow kT3 3 (.slice eh ic ew) aa.Strides::_::_::_::_::_::j) ?_
 refine aM 1 aD ?_
 rintro rfl
 refine aM 2 aD ?_
 rintro rfl
 refine aB (aJ (sL [7,3,2,1,0]) (d1 11 R (lM (ow _ _ _ _::ow _ _ _ _::aO _ _ _::aO _ _ _::ow _ _ _ _::aO _ _ _::cl _ _ _::aO _ _ _::aO _ _ _::aK _ _ _::j) (fun w s=>(((s.d 5 R).d 7 R).e 10 [3,4,1,0,2,5,6,7,8,9])) ?_)))
 refine lC 4 vZ R (FnOk.lends (A':=[OO kT3 3 eg eu aa.Dims,OO kT3 3 eh ew aa.Strides]) (A:=[RR kT3 eg eu aa.Dims,RR kT3 eh ew aa.Strides]) (B:=[RR kT3 cn d8 ((ix i (0:Int)).Dims),RR kT3 co d9 ((ix i (0:Int)).Data)]) (FnOk.perm (Z09_ok hx) (Pre':=[RR kT3 eg eu aa.Dims,RR kT3 eh ew aa.Strides,RR kT3 cn d8 ((ix i (0:Int)).Dims),RR kT3 co d9 ((ix i (0:Int)).Data)]) (fun _ _ _ s=>(s.e 4 [2,3,0,1]))) ⟨aU,aU,trivial⟩ (fun _=>⟨(bN jw),(bN jw),trivial⟩)) R ?_
 rintro ⟨⟨ei,id,ey⟩,⟨ej,ie,ez⟩⟩
 refine lN (_::_::ow kT3 3 (.slice ei id ey) ab.Dims::ow kT3 3 (.slice ej ie ez) ab.Data::_::_::_::_::_::_::j) ?_
 refine aM 2 aD ?_
 rintro rfl
 refine aM 3 aD ?_
 rintro rfl
 refine aB (aJ (sL [9,5,4,3,2,1,0]) (d1 12 R (aL 9 R R bX R R R R R R (lN (_::_::_::_::_::_::_::_::_::aK q [(sc ei ab.Dims ey),(sc ej ab.Data ez)] 77::j) ?_))))
 refine aB (aJ (sL [9,5,4,3,2,1,0]) (dD (aE (bY (cG (bZ ?_))))))
 obtain rfl:=so b
 exact dL (vs:=[(.agg [(sc ei ab.Dims ey),(sc ej ab.Data ez)].toArray)]) (.inl R) ((ei,ab.Dims.length,ey),(ej,ab.Data.length,ez)) R ⟨⟨9,q,_,_,R,R,.inl ⟨fX,bX,R⟩⟩,trivial⟩ R (fun w s=>(s.e 16 [2,3]))
 refine aY R dq (aH (aC (lO (kO R R) (lB R (aB (aE ?_))))))
 rcases cF b with ⟨dr,b⟩|⟨dr,b⟩
 refine bJ R dr (aH ?_)
 obtain ⟨a4,b⟩:=gd b
 obtain ⟨av,hy,b⟩:=bd b
 obtain ⟨D,fv,b⟩:=bd b
 obtain ⟨E,fw,b⟩:=bd b
 refine bC 6 aA (show 0<i.length by have:=a4; omega) (fun hi o93 u=>?_)
 subst u
 refine dU (K:=dY) 6 (0:Int) dT77.dec R a4.1 a4.2 ?_
 rintro ⟨⟨cp,da⟩,⟨cq,db⟩⟩
 refine cN (cl hi (o93+(0:Int).toNat*2) [(sc cp ((ix i (0:Int)).Dims) da),(sc cq ((ix i (0:Int)).Data) db)]::RR kT3 cp da ((ix i (0:Int)).Dims)::RR kT3 cq db ((ix i (0:Int)).Data)::aK q [(.slice none 0 0),(.slice none 0 0)] 77::j) ?_
 refine dP 13 [3] bS (fun ht hn=>(dR 0 R (vS R) (hS:=(sL [3])) (dR 1 R (dV gK bX R R a4) (hS:=(sL [3])) (dR 2 R (vz (.agg [(sc cp ((ix i (0:Int)).Dims) da),(sc cq ((ix i (0:Int)).Data) db)].toArray) (eK (fo:=0) 0 fX bX R R R R)) (hS:=(sL [3])) (dR 3 R (vS R) (hS:=(sL [3])) (dR 4 R (dV gK bX R R a4) (hS:=(sL [3])) (dR 5 R (vz (.pointer (some ⟨hi,o93+(0:Int).toNat*2,none⟩)) (jF j7 R R)) (hS:=(sL [3])) (dR 6 R (eZ (fo:=0) 0 cH R R R) (hS:=(sL [3])) (dR 8 R (eW 2 kY R) (hS:=(sL [3])) (dR 9 R (eS 3 cH R R R) (hS:=(sL [3])) (d1 7 R (lM (_::_::_::_::_::j) (fun w s=>(s.d 1 R)) ?_))))))))))))
 refine lC 1 vY R (Z00_ok hy) R ?_
 rintro ⟨⟨fj,ig,fu⟩,⟨ek,ih,f0⟩⟩
 refine lN (aO kT3 (.slice fj ig fu) av.Dims::ow kT3 3 (.slice ek ih f0) av.Strides::_::_::_::_::j) ?_
 refine aM 0 aA ?_
 rintro rfl
 refine aM 1 aD ?_
 rintro rfl
 refine aB (aJ (sL [5,1,0]) (d1 10 R (lM (ow _ _ _ _::aO _ _ _::RR kT3 A3 D3 l.Dims::aO _ _ _::cl _ _ _::aO _ _ _::aO _ _ _::aK _ _ _::j) (fun w s=>(((s.d 0 R).d 9 R).e 8 [3,1,0,2,4,5,6,7])) ?_)))
 refine lC 3 CW R (FnOk.lends (A':=[OO kT3 3 ek f0 av.Strides]) (A:=[RR kT3 ek f0 av.Strides]) (B:=[RR kT3 fj fu av.Dims,RR kT3 A3 D3 l.Dims]) (FnOk.perm (Z0i_ok fv) (Pre':=[RR kT3 ek f0 av.Strides,RR kT3 fj fu av.Dims,RR kT3 A3 D3 l.Dims]) (fun _ _ _ s=>(s.e 3 [1,0,2]))) ⟨aU,trivial⟩ (fun _=>⟨(bN jw),(bN jw),trivial⟩)) R ?_
 rintro ⟨⟨aw,gk,bf⟩,⟨ax,gm,bg⟩⟩
 refine lN (_::ow kT3 3 (.slice aw gk bf) D.Dims::ow kT3 3 (.slice ax gm bg) D.Strides::_::_::_::_::_::j) ?_
 refine aM 1 aD ?_
 rintro rfl
 refine aM 2 aD ?_
 rintro rfl
 refine aB (aJ (sL [7,3,2,1,0]) (d1 11 R (lM (ow _ _ _ _::ow _ _ _ _::aO _ _ _::aO _ _ _::ow _ _ _ _::aO _ _ _::cl _ _ _::aO _ _ _::aO _ _ _::aK _ _ _::j) (fun w s=>(((s.d 5 R).d 7 R).e 10 [3,4,1,0,2,5,6,7,8,9])) ?_)))
 refine lC 4 vZ R (FnOk.lends (A':=[OO kT3 3 aw bf D.Dims,OO kT3 3 ax bg D.Strides]) (A:=[RR kT3 aw bf D.Dims,RR kT3 ax bg D.Strides]) (B:=[RR kT3 cp da ((ix i (0:Int)).Dims),RR kT3 cq db ((ix i (0:Int)).Data)]) (FnOk.perm (Z09_ok fw) (Pre':=[RR kT3 aw bf D.Dims,RR kT3 ax bg D.Strides,RR kT3 cp da ((ix i (0:Int)).Dims),RR kT3 cq db ((ix i (0:Int)).Data)]) (fun _ _ _ s=>(s.e 4 [2,3,0,1]))) ⟨aU,aU,trivial⟩ (fun _=>⟨(bN jw),(bN jw),trivial⟩)) R ?_
 rintro ⟨⟨ay,gn,bh⟩,⟨az,gp,bi⟩⟩
 refine lN (_::_::ow kT3 3 (.slice ay gn bh) E.Dims::ow kT3 3 (.slice az gp bi) E.Data::_::_::_::_::_::_::j) ?_
 refine aM 2 aD ?_
 rintro rfl
 refine aM 3 aD ?_
 rintro rfl
 refine aB (aJ (sL [9,5,4,3,2,1,0]) (d1 12 R (aL 9 R R bX R R R R R R (lN (_::_::_::_::_::_::_::_::_::aK q [(sc ay E.Dims bh),(sc az E.Data bi)] 77::j) ?_))))
 refine aB (aJ (sL [9,5,4,3,2,1,0]) (dD (aE (bY (cG (bZ ?_))))))
 obtain rfl:=so b
 exact dL (vs:=[(.agg [(sc ay E.Dims bh),(sc az E.Data bi)].toArray)]) (.inl R) ((ay,E.Dims.length,bh),(az,E.Data.length,bi)) R ⟨⟨9,q,_,_,R,R,.inl ⟨fX,bX,R⟩⟩,trivial⟩ R (fun w s=>(s.e 16 [2,3]))
 refine aY R dr (aH (aC (lO (kO R R) (lB R (aB (aE ?_))))))
 rcases cF b with ⟨ac,b⟩|⟨ac,b⟩
 refine bJ R ac (aH (aH ?_))
 obtain ⟨O,b⟩:=gd b
 refine aC (lS R (bE 4 aA (show 0<l.Ints.length by have:=O; omega) (fun ip o111 u=>?_)))
 subst u
 refine lO (dV bH cO R R O) (lO (fQ 4 fC aA R O) (lO (jG R R) (aB (aE ?_))))
 rcases cF b with ⟨ae,b⟩|⟨ae,b⟩
 refine bJ R ae (aH (aC (lO (vz (.agg [(.slice none 0 0),(.slice none 0 0)].toArray) (bA hJ eG R R)) (aL 0 R R bX R R R R R R (lN (aK q [(.slice none 0 0),(.slice none 0 0)] 77::j) ?_)))))
 refine aB (aE (bY (bZ (cG (bZ ?_)))))
 obtain rfl:=so b
 exact dL (vs:=[(.agg [(.slice none 0 0),(.slice none 0 0)].toArray)]) (.inl R) ((none,0,0),(none,0,0)) R ⟨⟨0,q,_,_,R,R,.inl ⟨fX,bX,R⟩⟩,trivial⟩ R (fun w s=>(((s.nilo kT3 3).nilo kT3 3).e 9 [1,0]))
 refine aY R ae (bQ (aE (aH ?_)))
 obtain ⟨T,b⟩:=gd b
 obtain ⟨c2,fx,b⟩:=bd b
 obtain ⟨ds,b⟩:=gd b
 obtain ⟨dt,b⟩:=gd b
 obtain ⟨du,b⟩:=gd b
 obtain ⟨f8,fy,b⟩:=bd b
 obtain ⟨F,fz,b⟩:=bd b
 refine bC 6 aA (show 0<i.length by have:=T; omega) (fun f6 o115 u=>?_)
 subst u
 refine dU (K:=dY) 6 (0:Int) dT77.dec R T.1 T.2 ?_
 rintro ⟨⟨c4,cr⟩,⟨c5,cs⟩⟩
 refine cN (cl f6 (o115+(0:Int).toNat*2) [(sc c4 ((ix i (0:Int)).Dims) cr),(sc c5 ((ix i (0:Int)).Data) cs)]::RR kT3 c4 cr ((ix i (0:Int)).Dims)::RR kT3 c5 cs ((ix i (0:Int)).Data)::_::j) ?_
 refine dP 23 [3] bS (fun ht hn=>(dR 0 R (vS R) (hS:=(sL [3])) (dR 1 R (dV gK bX R R T) (hS:=(sL [3])) (dR 2 R (vz (.agg [(sc c4 ((ix i (0:Int)).Dims) cr),(sc c5 ((ix i (0:Int)).Data) cs)].toArray) (eK (fo:=0) 0 fX bX R R R R)) (hS:=(sL [3])) (dR 3 R (vS R) (hS:=(sL [3])) (dR 4 R (dV gK bX R R T) (hS:=(sL [3])) (dR 5 R (vz (.pointer (some ⟨f6,o115+(0:Int).toNat*2,none⟩)) (jF j7 R R)) (hS:=(sL [3])) (dR 6 R (eZ (fo:=0) 0 cH R R R) (hS:=(sL [3])) (dR 8 R (vS R) (hS:=(sL [3])) (dR 9 R (dV bH cO R R ds) (hS:=(sL [3])) (dR 10 R (fQ 6 fC aA R ds) (hS:=(sL [3])) (dR 11 R (vS R) (hS:=(sL [3])) (dR 12 R (dV bH cO R R dt) (hS:=(sL [3])) (dR 13 R (fQ 6 fC aA R dt) (hS:=(sL [3])) (dR 14 R (vS R) (hS:=(sL [3])) (dR 15 R (dV bH cO R R du) (hS:=(sL [3])) (dR 16 R (fQ 6 fC aA R du) (hS:=(sL [3])) (dR 17 R (vS R) (hS:=(sL [3])) (dR 18 R (dV bH cO R R O) (hS:=(sL [3])) (dR 19 R (fQ 6 fC aA R O) (hS:=(sL [3])) (d1 7 R (lM (_::_::_::_::_::j) (fun w s=>(s.d 1 R)) ?_))))))))))))))))))))))
 refine lC 1 vY R (Z00_ok fx) R ?_
 rintro ⟨⟨g7,gq,ge⟩,⟨c6,gr,ct⟩⟩
 refine lN (aO kT3 (.slice g7 gq ge) c2.Dims::ow kT3 3 (.slice c6 gr ct) c2.Strides::_::_::_::_::j) ?_
 refine aM 0 aA ?_
 rintro rfl
 refine aM 1 aD ?_
 rintro rfl
 refine aB (aJ (sL [5,1,0]) (d1 20 R (ji (fun w s=>s.shr 1 R) (lM (aO _ _ _::RR kT3 c6 ct c2.Strides::RR kT3 c6 ct c2.Strides::aO _ _ _::cl _ _ _::aO _ _ _::aO _ _ _::aK _ _ _::j) (fun w s=>(((s.d 1 R).d 1 R).f 8 [1,1,0,1,2,6])) ?_))))
 refine lC 2 CX R (Z1j_ok fy) R ?_
 rintro ⟨⟨g8,gs,gf⟩,⟨g9,gt,gg⟩⟩
 refine lN (aO kT3 (.slice g8 gs gf) f8.Dims::aO kT3 (.slice g9 gt gg) f8.Strides::_::_::_::_::_::_::j) ?_
 refine aM 0 aA ?_
 rintro rfl
 refine aM 1 aA ?_
 rintro rfl
 refine aB (aJ (sL [7,3,2,1,0]) (d1 21 R (lM (aO _ _ _::aO _ _ _::aO _ _ _::aO _ _ _::aO _ _ _::aO _ _ _::aO _ _ _::aO _ _ _::cl _ _ _::aO _ _ _::aO _ _ _::aK _ _ _::j) (fun w s=>(((((s.d 5 R).d 7 R).d 2 R).d 4 R).f 12 [3,1,2,1,1,1,0,1,4,8])) ?_)))
 refine lC 4 vZ R (Z09_ok fz) R ?_
 rintro ⟨⟨b0,gu,bj⟩,⟨b1,gw,bk⟩⟩
 refine lN (ow kT3 3 (.slice b0 gu bj) F.Dims::ow kT3 3 (.slice b1 gw bk) F.Data::_::_::_::_::_::_::_::_::j) ?_
 refine aM 0 aD ?_
 rintro rfl
 refine aM 1 aD ?_
 rintro rfl
 refine aB (aJ (sL [9,5,4,3,2,1,0]) (d1 22 R (aL 9 R R bX R R R R R R (lN (_::_::_::_::_::_::_::_::_::aK q [(sc b0 F.Dims bj),(sc b1 F.Data bk)] 77::j) ?_))))
 refine aB (aJ (sL [9,5,4,3,2,1,0]) (dD (aE (bY (cG (bZ ?_))))))
 obtain rfl:=so b
 exact dL (vs:=[(.agg [(sc b0 F.Dims bj),(sc b1 F.Data bk)].toArray)]) (.inl R) ((b0,F.Dims.length,bj),(b1,F.Data.length,bk)) R ⟨⟨9,q,_,_,R,R,.inl ⟨fX,bX,R⟩⟩,trivial⟩ R (fun w s=>(s.e 16 [0,1]))
 refine aY R ac (aH (aC (lO (kO R R) (lB R (aB (aE ?_))))))
 rcases cF b with ⟨ag,b⟩|⟨ag,b⟩
 refine bJ R ag (aH ?_)
 obtain ⟨Y,b⟩:=gd b
 obtain ⟨al,b⟩:=gd b
 obtain ⟨dw,b⟩:=gd b
 obtain ⟨dx,b⟩:=gd b
 obtain ⟨dy,b⟩:=gd b
 obtain ⟨G,g0,b⟩:=bd b
 refine bC 6 aA (show 0<i.length by have:=Y; omega) (fun hd o136 u=>?_)
 subst u
 refine dU (K:=dY) 6 (0:Int) dT77.dec R Y.1 Y.2 ?_
 rintro ⟨⟨c7,cu⟩,⟨c8,cv⟩⟩
 refine cN (cl hd (o136+(0:Int).toNat*2) [(sc c7 ((ix i (0:Int)).Dims) cu),(sc c8 ((ix i (0:Int)).Data) cv)]::RR kT3 c7 cu ((ix i (0:Int)).Dims)::RR kT3 c8 cv ((ix i (0:Int)).Data)::aK q [(.slice none 0 0),(.slice none 0 0)] 77::j) ?_
 refine bC 7 aA (show 0<l.Ints.length by have:=al; omega) (fun iq o141 u=>?_)
 subst u
 refine dP 17 [3] bS (fun ht hn=>(dR 0 R (vS R) (hS:=(sL [3])) (dR 1 R (dV gK bX R R Y) (hS:=(sL [3])) (dR 2 R (vz (.agg [(sc c7 ((ix i (0:Int)).Dims) cu),(sc c8 ((ix i (0:Int)).Data) cv)].toArray) (eK (fo:=0) 0 fX bX R R R R)) (hS:=(sL [3])) (dR 3 R (vS R) (hS:=(sL [3])) (dR 4 R (dV bH cO R R al) (hS:=(sL [3])) (dR 5 R (fQ 6 fC aA R al) (hS:=(sL [3])) (dR 6 R (vS R) (hS:=(sL [3])) (dR 7 R (dV bH cO R R dw) (hS:=(sL [3])) (dR 8 R (fQ 6 fC aA R dw) (hS:=(sL [3])) (dR 9 R (vS R) (hS:=(sL [3])) (dR 10 R (dV bH cO R R dx) (hS:=(sL [3])) (dR 11 R (fQ 6 fC aA R dx) (hS:=(sL [3])) (dR 12 R (vS R) (hS:=(sL [3])) (dR 13 R (dV bH cO R R dy) (hS:=(sL [3])) (dR 14 R (fQ 6 fC aA R dy) (hS:=(sL [3])) (d1 15 R (lM (aO _ _ _::aO _ _ _::cl _ _ _::aO _ _ _::aO _ _ _::aK _ _ _::j) (fun w s=>(((s.d 1 R).d 3 R).e 6 [1,0,2,3,4,5])) ?_))))))))))))))))))
 refine lC 2 CY R (Z10_ok g0) R ?_
 rintro ⟨⟨b2,gy,bl⟩,⟨b3,gz,bm⟩⟩
 refine lN (ow kT3 3 (.slice b2 gy bl) G.Dims::ow kT3 3 (.slice b3 gz bm) G.Data::_::_::_::_::j) ?_
 refine aM 0 aD ?_
 rintro rfl
 refine aM 1 aD ?_
 rintro rfl
 refine aB (aJ (sL [5,1,0]) (d1 16 R (aL 5 R R bX R R R R R R (lN (_::_::_::_::_::aK q [(sc b2 G.Dims bl),(sc b3 G.Data bm)] 77::j) ?_))))
 refine aB (aJ (sL [5,1,0]) (dD (aE (bY (cG (bZ ?_))))))
 obtain rfl:=so b
 exact dL (vs:=[(.agg [(sc b2 G.Dims bl),(sc b3 G.Data bm)].toArray)]) (.inl R) ((b2,G.Dims.length,bl),(b3,G.Data.length,bm)) R ⟨⟨5,q,_,_,R,R,.inl ⟨fX,bX,R⟩⟩,trivial⟩ R (fun w s=>(s.e 12 [0,1]))
 refine aY R ag (aH (aC (lO (kO R R) (lB R (aB (aE ?_))))))
 rcases cF b with ⟨ai,b⟩|⟨ai,b⟩
 refine bJ R ai (aH ?_)
 obtain ⟨Z,b⟩:=gd b
 obtain ⟨am,b⟩:=gd b
 obtain ⟨an,b⟩:=gd b
 obtain ⟨I,g1,b⟩:=bd b
 refine bC 6 aA (show 0<i.length by have:=Z; omega) (fun he o152 u=>?_)
 subst u
 refine dU (K:=dY) 6 (0:Int) dT77.dec R Z.1 Z.2 ?_
 rintro ⟨⟨c9,cw⟩,⟨ca,cx⟩⟩
 refine cN (cl he (o152+(0:Int).toNat*2) [(sc c9 ((ix i (0:Int)).Dims) cw),(sc ca ((ix i (0:Int)).Data) cx)]::RR kT3 c9 cw ((ix i (0:Int)).Dims)::RR kT3 ca cx ((ix i (0:Int)).Data)::aK q [(.slice none 0 0),(.slice none 0 0)] 77::j) ?_
 refine bC 7 aA (show 0<l.Ints.length by have:=am; omega) (fun ir o157 u=>?_)
 subst u
 refine dP 10 [3] bS (fun ht hn=>(dR 0 R (vS R) (hS:=(sL [3])) (dR 1 R (dV gK bX R R Z) (hS:=(sL [3])) (dR 2 R (vz (.agg [(sc c9 ((ix i (0:Int)).Dims) cw),(sc ca ((ix i (0:Int)).Data) cx)].toArray) (eK (fo:=0) 0 fX bX R R R R)) (hS:=(sL [3])) (dR 3 R (vS R) (hS:=(sL [3])) (dR 4 R (dV bH cO R R am) (hS:=(sL [3])) (dR 5 R (fQ 6 fC aA R am) (hS:=(sL [3])) (dR 6 R (vS R) (hS:=(sL [3])) (d1 7 R (gP (K:=kT3) (1:Int) (l.Ints.length:Int) 7 R R bH cO R R R R an.1 an.2.1 an.2.2 (fun f2 f4=>(aB (aJ (sL [4,0]) (d1 8 R (lM (aO _ _ _::aO _ _ _::RR kT3 f2 f4 (sub l.Ints (1:Int) (l.Ints.length:Int))::RR kT3 f2 f4 (sub l.Ints (1:Int) (l.Ints.length:Int))::cl _ _ _::aO _ _ _::aO _ _ _::aK _ _ _::j) (fun w s=>((((s.d 2 R).d 4 R).d 2 R).e 8 [2,1,0,3,4,5,6,7])) ?_)))))))))))))))
 refine lC 3 CZ R (Z0z_ok g1) R ?_
 rintro ⟨⟨b4,h0,bn⟩,⟨b5,h1,bp⟩⟩
 refine lN (ow kT3 3 (.slice b4 h0 bn) I.Dims::ow kT3 3 (.slice b5 h1 bp) I.Data::_::_::_::_::_::j) ?_
 refine aM 0 aD ?_
 rintro rfl
 refine aM 1 aD ?_
 rintro rfl
 refine aB (aJ (sL [6,2,1,0]) (d1 9 R (aL 6 R R bX R R R R R R (lN (_::_::_::_::_::_::aK q [(sc b4 I.Dims bn),(sc b5 I.Data bp)] 77::j) ?_))))
 refine aB (aJ (sL [6,2,1,0]) (dD (aE (bY (cG (bZ ?_))))))
 obtain rfl:=so b
 exact dL (vs:=[(.agg [(sc b4 I.Dims bn),(sc b5 I.Data bp)].toArray)]) (.inl R) ((b4,I.Dims.length,bn),(b5,I.Data.length,bp)) R ⟨⟨6,q,_,_,R,R,.inl ⟨fX,bX,R⟩⟩,trivial⟩ R (fun w s=>(s.e 13 [0,1]))
 refine aY R ai (aH (aC (lO (kO R R) (lB R (aB (aE ?_))))))
 rcases cF b with ⟨aj,b⟩|⟨aj,b⟩
 refine bJ R aj (aH ?_)
 obtain ⟨a0,b⟩:=gd b
 obtain ⟨ao,b⟩:=gd b
 obtain ⟨ap,b⟩:=gd b
 obtain ⟨dz,b⟩:=gd b
 obtain ⟨J,g2,b⟩:=bd b
 refine bC 6 aA (show 0<i.length by have:=a0; omega) (fun hf o167 u=>?_)
 subst u
 refine dU (K:=dY) 6 (0:Int) dT77.dec R a0.1 a0.2 ?_
 rintro ⟨⟨cb,cy⟩,⟨cc,cz⟩⟩
 refine cN (cl hf (o167+(0:Int).toNat*2) [(sc cb ((ix i (0:Int)).Dims) cy),(sc cc ((ix i (0:Int)).Data) cz)]::RR kT3 cb cy ((ix i (0:Int)).Dims)::RR kT3 cc cz ((ix i (0:Int)).Data)::aK q [(.slice none 0 0),(.slice none 0 0)] 77::j) ?_
 refine bC 7 aA (show 0<l.Ints.length by have:=ao; omega) (fun it o172 u=>?_)
 subst u
 refine dP 13 [3] bS (fun ht hn=>(dR 0 R (vS R) (hS:=(sL [3])) (dR 1 R (dV gK bX R R a0) (hS:=(sL [3])) (dR 2 R (vz (.agg [(sc cb ((ix i (0:Int)).Dims) cy),(sc cc ((ix i (0:Int)).Data) cz)].toArray) (eK (fo:=0) 0 fX bX R R R R)) (hS:=(sL [3])) (dR 3 R (vS R) (hS:=(sL [3])) (dR 4 R (dV bH cO R R ao) (hS:=(sL [3])) (dR 5 R (fQ 6 fC aA R ao) (hS:=(sL [3])) (dR 6 R (vS R) (hS:=(sL [3])) (dR 8 R (vS R) (hS:=(sL [3])) (dR 9 R (dV bH cO R R dz) (hS:=(sL [3])) (dR 10 R (fQ 6 fC aA R dz) (hS:=(sL [3])) (d1 7 R (gP (K:=kT3) (2:Int) (l.Ints.length:Int) 7 R R bH cO R R R R ap.1 ap.2.1 ap.2.2 (fun f3 f5=>(aB (aJ (sL [4,0]) (d1 11 R (lM (aO _ _ _::aO _ _ _::RR kT3 f3 f5 (sub l.Ints (2:Int) (l.Ints.length:Int))::RR kT3 f3 f5 (sub l.Ints (2:Int) (l.Ints.length:Int))::cl _ _ _::aO _ _ _::aO _ _ _::aK _ _ _::j) (fun w s=>((((s.d 2 R).d 4 R).d 2 R).e 8 [2,1,0,3,4,5,6,7])) ?_))))))))))))))))))
 refine lC 3 C' R (Z11_ok g2) R ?_
 rintro ⟨⟨b6,h2,bq⟩,⟨b7,h3,br⟩⟩
 refine lN (ow kT3 3 (.slice b6 h2 bq) J.Dims::ow kT3 3 (.slice b7 h3 br) J.Data::_::_::_::_::_::j) ?_
 refine aM 0 aD ?_
 rintro rfl
 refine aM 1 aD ?_
 rintro rfl
 refine aB (aJ (sL [6,2,1,0]) (d1 12 R (aL 6 R R bX R R R R R R (lN (_::_::_::_::_::_::aK q [(sc b6 J.Dims bq),(sc b7 J.Data br)] 77::j) ?_))))
 refine aB (aJ (sL [6,2,1,0]) (dD (aE (bY (cG (bZ ?_))))))
 obtain rfl:=so b
 exact dL (vs:=[(.agg [(sc b6 J.Dims bq),(sc b7 J.Data br)].toArray)]) (.inl R) ((b6,J.Dims.length,bq),(b7,J.Data.length,br)) R ⟨⟨6,q,_,_,R,R,.inl ⟨fX,bX,R⟩⟩,trivial⟩ R (fun w s=>(s.e 13 [0,1]))
 refine aY R aj (aH (aC (lO (kO R R) (lB R (aB (aE ?_))))))
 rcases cF b with ⟨ak,b⟩|⟨ak,b⟩
 refine bJ R ak (aH ?_)
 obtain ⟨U,b⟩:=gd b
 obtain ⟨c3,g3,b⟩:=bd b
 obtain ⟨aq,b⟩:=gd b
 obtain ⟨e0,b⟩:=gd b
 obtain ⟨e1,b⟩:=gd b
 obtain ⟨f9,g4,b⟩:=bd b
 obtain ⟨L,g5,b⟩:=bd b
 refine bC 6 aA (show 0<i.length by have:=U; omega) (fun f7 o183 u=>?_)
 subst u
 refine dU (K:=dY) 6 (0:Int) dT77.dec R U.1 U.2 ?_
 rintro ⟨⟨cg,d2⟩,⟨ch,d3⟩⟩
 refine cN (cl f7 (o183+(0:Int).toNat*2) [(sc cg ((ix i (0:Int)).Dims) d2),(sc ch ((ix i (0:Int)).Data) d3)]::RR kT3 cg d2 ((ix i (0:Int)).Dims)::RR kT3 ch d3 ((ix i (0:Int)).Data)::aK q [(.slice none 0 0),(.slice none 0 0)] 77::j) ?_
 refine bC 7 aA (show 0<l.Ints.length by have:=aq; omega) (fun iu o192 u=>?_)
 subst u
 refine dP 20 [3] bS (fun ht hn=>(dR 0 R (vS R) (hS:=(sL [3])) (dR 1 R (dV gK bX R R U) (hS:=(sL [3])) (dR 2 R (vz (.agg [(sc cg ((ix i (0:Int)).Dims) d2),(sc ch ((ix i (0:Int)).Data) d3)].toArray) (eK (fo:=0) 0 fX bX R R R R)) (hS:=(sL [3])) (dR 3 R (vS R) (hS:=(sL [3])) (dR 4 R (dV gK bX R R U) (hS:=(sL [3])) (dR 5 R (vz (.pointer (some ⟨f7,o183+(0:Int).toNat*2,none⟩)) (jF j7 R R)) (hS:=(sL [3])) (dR 6 R (eZ (fo:=0) 0 cH R R R) (hS:=(sL [3])) (dR 8 R (vS R) (hS:=(sL [3])) (dR 9 R (dV bH cO R R aq) (hS:=(sL [3])) (dR 10 R (fQ 6 fC aA R aq) (hS:=(sL [3])) (dR 11 R (vS R) (hS:=(sL [3])) (dR 12 R (dV bH cO R R e0) (hS:=(sL [3])) (dR 13 R (fQ 6 fC aA R e0) (hS:=(sL [3])) (dR 14 R (vS R) (hS:=(sL [3])) (dR 15 R (dV bH cO R R e1) (hS:=(sL [3])) (dR 16 R (fQ 6 fC aA R e1) (hS:=(sL [3])) (d1 7 R (lM (_::_::_::_::_::j) (fun w s=>(s.d 1 R)) ?_)))))))))))))))))))
 refine lC 1 vY R (Z00_ok g3) R ?_
 rintro ⟨⟨ga,h4,gh⟩,⟨ci,h5,d4⟩⟩
 refine lN (aO kT3 (.slice ga h4 gh) c3.Dims::ow kT3 3 (.slice ci h5 d4) c3.Strides::_::_::_::_::j) ?_
 refine aM 0 aA ?_
 rintro rfl
 refine aM 1 aD ?_
 rintro rfl
 refine aB (aJ (sL [5,1,0]) (d1 17 R (ji (fun w s=>s.shr 1 R) (lM (aO _ _ _::RR kT3 ci d4 c3.Strides::RR kT3 ci d4 c3.Strides::aO _ _ _::cl _ _ _::aO _ _ _::aO _ _ _::aK _ _ _::j) (fun w s=>(((s.d 1 R).d 1 R).f 8 [1,1,0,1,2,6])) ?_))))
 refine lC 2 D0 R (Z0l_ok g4) R ?_
 rintro ⟨⟨gb,h6,gi⟩,⟨gc,h7,gj⟩⟩
 refine lN (aO kT3 (.slice gb h6 gi) f9.Dims::aO kT3 (.slice gc h7 gj) f9.Strides::_::_::_::_::_::_::j) ?_
 refine aM 0 aA ?_
 rintro rfl
 refine aM 1 aA ?_
 rintro rfl
 refine aB (aJ (sL [7,3,2,1,0]) (d1 18 R (lM (aO _ _ _::aO _ _ _::aO _ _ _::aO _ _ _::aO _ _ _::aO _ _ _::aO _ _ _::aO _ _ _::cl _ _ _::aO _ _ _::aO _ _ _::aK _ _ _::j) (fun w s=>(((((s.d 5 R).d 7 R).d 2 R).d 4 R).f 12 [3,1,2,1,1,1,0,1,4,8])) ?_)))
 refine lC 4 vZ R (Z09_ok g5) R ?_
 rintro ⟨⟨ba,h8,bs⟩,⟨bb,h9,bu⟩⟩
 refine lN (ow kT3 3 (.slice ba h8 bs) L.Dims::ow kT3 3 (.slice bb h9 bu) L.Data::_::_::_::_::_::_::_::_::j) ?_
 refine aM 0 aD ?_
 rintro rfl
 refine aM 1 aD ?_
 rintro rfl
 refine aB (aJ (sL [9,5,4,3,2,1,0]) (d1 19 R (aL 9 R R bX R R R R R R (lN (_::_::_::_::_::_::_::_::_::aK q [(sc ba L.Dims bs),(sc bb L.Data bu)] 77::j) ?_))))
 refine aB (aJ (sL [9,5,4,3,2,1,0]) (dD (aE (bY (cG (bZ ?_))))))
 obtain rfl:=so b
 exact dL (vs:=[(.agg [(sc ba L.Dims bs),(sc bb L.Data bu)].toArray)]) (.inl R) ((ba,L.Dims.length,bs),(bb,L.Data.length,bu)) R ⟨⟨9,q,_,_,R,R,.inl ⟨fX,bX,R⟩⟩,trivial⟩ R (fun w s=>(s.e 16 [0,1]))
 refine aY R ak (bQ (cD (aE (aH ?_))))
 obtain ⟨a1,b⟩:=gd b
 obtain ⟨ar,b⟩:=gd b
 obtain ⟨e2,b⟩:=gd b
 obtain ⟨e3,b⟩:=gd b
 obtain ⟨M,g6,b⟩:=bd b
 refine bC 6 aA (show 0<i.length by have:=a1; omega) (fun hg o205 u=>?_)
 subst u
 refine dU (K:=dY) 6 (0:Int) dT77.dec R a1.1 a1.2 ?_
 rintro ⟨⟨ck,d6⟩,⟨cm,d7⟩⟩
 refine cN (cl hg (o205+(0:Int).toNat*2) [(sc ck ((ix i (0:Int)).Dims) d6),(sc cm ((ix i (0:Int)).Data) d7)]::RR kT3 ck d6 ((ix i (0:Int)).Dims)::RR kT3 cm d7 ((ix i (0:Int)).Data)::aK q [(.slice none 0 0),(.slice none 0 0)] 77::j) ?_
 refine bC 7 aA (show 0<l.Ints.length by have:=ar; omega) (fun iw o210 u=>?_)
 subst u
 refine dP 14 [3] bS (fun ht hn=>(dR 0 R (vS R) (hS:=(sL [3])) (dR 1 R (dV gK bX R R a1) (hS:=(sL [3])) (dR 2 R (vz (.agg [(sc ck ((ix i (0:Int)).Dims) d6),(sc cm ((ix i (0:Int)).Data) d7)].toArray) (eK (fo:=0) 0 fX bX R R R R)) (hS:=(sL [3])) (dR 3 R (vS R) (hS:=(sL [3])) (dR 4 R (dV bH cO R R ar) (hS:=(sL [3])) (dR 5 R (fQ 6 fC aA R ar) (hS:=(sL [3])) (dR 6 R (vS R) (hS:=(sL [3])) (dR 7 R (dV bH cO R R e2) (hS:=(sL [3])) (dR 8 R (fQ 6 fC aA R e2) (hS:=(sL [3])) (dR 9 R (vS R) (hS:=(sL [3])) (dR 10 R (dV bH cO R R e3) (hS:=(sL [3])) (dR 11 R (fQ 6 fC aA R e3) (hS:=(sL [3])) (d1 12 R (lM (aO _ _ _::aO _ _ _::cl _ _ _::aO _ _ _::aO _ _ _::aK _ _ _::j) (fun w s=>(((s.d 1 R).d 3 R).e 6 [1,0,2,3,4,5])) ?_)))))))))))))))
 refine lC 2 AJ R (Z0y_ok g6) R ?_
 rintro ⟨⟨bc,hb,bv⟩,⟨be,hc,bw⟩⟩
 refine lN (ow kT3 3 (.slice bc hb bv) M.Dims::ow kT3 3 (.slice be hc bw) M.Data::_::_::_::_::j) ?_
 refine aM 0 aD ?_
 rintro rfl
 refine aM 1 aD ?_
 rintro rfl
 refine aB (aJ (sL [5,1,0]) (d1 13 R (aL 5 R R bX R R R R R R (lN (_::_::_::_::_::aK q [(sc bc M.Dims bv),(sc be M.Data bw)] 77::j) ?_))))
 refine aB (aJ (sL [5,1,0]) (dD (aE (bY ?_))))
 obtain rfl:=so b
 exact dL (vs:=[(.agg [(sc bc M.Dims bv),(sc be M.Data bw)].toArray)]) (.inl R) ((bc,M.Dims.length,bv),(be,M.Data.length,bw)) R ⟨⟨5,q,_,_,R,R,.inl ⟨fX,bX,R⟩⟩,trivial⟩ R (fun w s=>(s.e 12 [0,1]))
theorem Z0x_ok  {j:(List Int)}{T:Int}{r:Tensor}(b:Z0x j T=some r) :
 FnOk Tryz.prog 67 [(.slice A2 N2 D2),(iv T)] [aO kT3 (.slice A2 N2 D2) j] (fun (h:HH×HH)=>((.agg [(s3 h.1),(s3 h.2)].toArray),[ow kT3 3 (s3 h.1) r.Dims,ow kT3 3 (s3 h.2) r.Data])):=by
 unfold Z0x at b
 refine aR Tryz.func67 R 27 R R fun C V=>?_
 refine cL 0 aA ?_
 rintro rfl
 let u:=RR kT3 A2 D2 j::V
 refine cN u ?_
 refine aZ ?_
 refine bG R R eG (fun B=>(aB (aE (aH (aH ?_)))))
 obtain ⟨r5,L,b⟩:=bd b
 refine aZ ?_
 refine lM _ (fun w s=>(s.d 1 R)) ?_
 refine lC 1 iT R (Zq_ok L) R ?_
 rintro _
 refine aV ?_
 split at b
 refine aV ?_
 refine lO (vz (.agg [(.slice none 0 0),(.slice none 0 0)].toArray) (bA hJ eG R R)) (aL 0 R R bX R R R R R R (aB (aE (bY (bZ ?_)))))
 cases b
 exact qS ((none,0,0),(none,0,0)) (fun w s=>(((s.nilo kT3 3).nilo kT3 3).e 4 [1,0]))
 refine bL ?_
 obtain ⟨i,M,b⟩:=bd b
 refine aZ ?_
 refine lM _ (fun w s=>(s.d 1 R)) ?_
 refine lC 1 lr R (Z0q_ok M) R ?_
 rintro ⟨⟨A10,N10,D10⟩,⟨A11,N11,D11⟩⟩
 refine aM 0 aD ?_
 rintro rfl
 refine aM 1 aD ?_
 rintro rfl
 refine bG R R eG (fun l=>(aL 0 R R bX R R R R R R (lN (aK l [(sc A10 i.Dims D10),(sc A11 i.Data D11)] 77::_::_::_::u) ?_)))
 refine aV ?_
 refine bB (A:=((List Int))×(Unit)) (fun a=>Z0x_J1 i a.1=some r) (fun a=>[(4,(pt B 0)),(5,(pt l 0))]) (fun a=>aK B [(.slice none 0 0),(.slice none 0 0)] 77::aK l [(sc A10 i.Dims D10),(sc A11 i.Data D11)] 77::OO kT3 3 A10 D10 i.Dims::ow kT3 3 (.slice A11 i.Data.length D11) a.1::u) ?_ ?_
 refine cB ?_
 obtain ⟨e1,J,G⟩:=bd b
 refine bD (A:=Unit) J (fun s a=>[(1,(iv T)),(4,(pt B 0)),(5,(pt l 0)),(6,(iv s.2))]) (fun s a=>aK B [(.slice none 0 0),(.slice none 0 0)] 77::aK l [(sc A10 i.Dims D10),(sc A11 i.Data D11)] 77::OO kT3 3 A10 D10 i.Dims::ow kT3 3 (.slice A11 i.Data.length D11) s.1::u) () (aS R) (tE 4 [3,0,1,2]) ?_
 rintro ⟨U,O⟩ _ σ1 Z b F
 dsimp only [Z0x_L1] at b
 refine dJ ?_
 split at b
 refine cV ?_
 obtain ⟨E,D,b⟩:=bd b
 obtain ⟨q,b⟩:=gd b
 refine bC 3 aD (show 0<i.Data.length by have:=q; omega) (fun a0 o26 ha=>?_)
 subst ha
 refine dP 7 [3] bS fun ht hn=>?_
 refine qg 0 [3] ?_
 refine d1 4 R (lC 0 kc R (Zu_ok D) R ?_)
 rintro _
 refine aB (aJ (sL [3]) ?_)
 refine pC 5 [3] ?_
 refine d1 6 R (lM _ (tE 4 [3,0,1,2]) ?_)
 refine eO (K:=kT3) (x':=E) 0 O R R cO R R q.1 q.2 ?_ ?_
 exact fun I h s=>(gM).put I h () E s
 refine aB (aJ (sL [0]) (dD ?_))
 refine eD ?_
 cases b
 exact qA () (tE 4 [1,2,3,0])
 refine aV ?_
 cases b
 obtain rfl:=F _ R
 have b:=G
 refine aZ ?_
 exact qI (U,()) b tI
 rintro ⟨Y,_⟩ σ1 b
 dsimp only [Z0x_J1] at b
 refine aV ?_
 refine aL 0 R R bX R R R R R R (lN (aK B [(sc A10 i.Dims D10),(sc A11 i.Data D11)] 77::aK l [(sc A10 i.Dims D10),(sc A11 i.Data D11)] 77::_::ow kT3 3 (.slice A11 i.Data.length D11) Y::u) ?_)
 refine aV ?_
 cases b
 exact qS ((A10,i.Dims.length,D10),(A11,i.Data.length,D11)) (tE 5 [2,3])
theorem Za_ok  {g1:Graph}{i:(List Tensor)}{q:Bool}{r:(List Tensor)×Bool}(l:Za g1 i q=some r) :
 FnOk Tryz.prog 43 [(.agg [(.slice A2 N2 D2),(.slice A3 N3 D3)].toArray),(.slice A5 N5 D5),(.bool q)] [aO cJ (.slice A2 N2 D2) g1.Nodes,aO kT3 (.slice A3 N3 D3) g1.Outs,aO dY (.slice A5 N5 D5) i] (fun (h:HH)=>((.tuple [(s3 h),(.bool r.2)].toArray),[ow (dY).share 77 (s3 h) r.1])):=by
 unfold Za at l
 refine aR Tryz.func43 R 143 R R fun C V=>?_
 refine cL 0 aA ?_
 rintro rfl
 refine cL 1 aA ?_
 rintro rfl
 refine cL 2 aA ?_
 rintro rfl
 let W0:=RR cJ A2 D2 g1.Nodes::RR kT3 A3 D3 g1.Outs::RR dY A5 D5 i::V
 refine cN W0 ?_
 refine aZ ?_
 refine eT R fun b7=>?_
 refine aV ?_
 let W1:=aK b7 [(sc A2 g1.Nodes D2),(sc A3 g1.Outs D3)] 30::W0
 refine qN W1 ?_
 refine aV ?_
 refine bO (K:=dY) (xs:=([]:List Tensor)) (vs:=[]) 0 R R gK bX eG R R R R R R ?_ R (fun A8 D8=>?_)
 exact fun I h s=>(vW).list [] I h s
 refine cV ?_
 refine cQ [(1,(sc A5 i D5)),(2,(.bool q)),(3,(pt b7 0)),(8,(sc A8 ([]:List Tensor) D8)),(25,(.bool ((decide ((g1.Nodes.length:Int)>200))||(decide ((g1.Outs.length:Int)>40)))))] (OO dY 77 A8 D8 ([]:List Tensor)::W1) ?_ ?_
 refine cB ?_
 rcases bo (decide ((g1.Nodes.length:Int)>200)) with cr | cr
 refine cB ?_
 exact qj tI
 refine cB ?_
 exact qj tI
 rintro σ1
 refine cP ?_
 split at l
 refine dJ ?_
 cases l
 exact kb (A8,([]:List Tensor).length,D8) (fun w s=>((s.wk 0 R).e 5 [0]))
 refine dG ?_
 refine bB (A:=((List Tensor)×Int)×(HH)) (fun a=>Za_J5 g1 i q a.1.1 a.1.2=some r) (fun a=>[(1,(sc A5 i D5)),(2,(.bool q)),(3,(pt b7 0)),(8,(s3 a.2)),(9,(iv a.1.2))]) (fun a=>ow (dY).share 77 (s3 a.2) a.1.1::W1) ?_ ?_
 refine cB ?_
 obtain ⟨e1,cu,b0⟩:=bd l
 refine bD (A:=HH) cu (fun s a=>[(1,(sc A5 i D5)),(2,(.bool q)),(3,(pt b7 0)),(8,(s3 a)),(9,(iv s.2.1)),(10,(iv s.2.2))]) (fun s a=>ow (dY).share 77 (s3 a) s.1::W1) (A8,([]:List Tensor).length,D8) (aS R) (fun w s=>(s.wk 0 R)) ?_
 rintro ⟨j,D,b⟩ ⟨E,cg,F⟩ σ1 bp l az
 dsimp only [Za_L1] at l
 refine bK 0 eQ (fun (hn:cg=j.length)=>?_)
 subst hn
 refine dJ ?_
 split at l
 refine cB ?_
 obtain ⟨ab,l⟩:=gd l
 refine bL ?_
 refine bE 2 aA (show 0<g1.Nodes.length by have:=ab; omega) (fun db o110 ha=>?_)
 subst ha
 refine cP ?_
 refine fV (K:=cJ) 2 b dT42.dec R ab.1 ab.2 ?_
 rintro ⟨-,⟨G,J⟩,⟨L,T⟩,⟨M,U⟩,-,⟨O,Y⟩⟩
 refine lO (vz (.agg [(iv (ix g1.Nodes b).Op),(sc G ((ix g1.Nodes b).Args) J),(sc L ((ix g1.Nodes b).Dims) T),(sc M ((ix g1.Nodes b).Ints) U),(aG (ix g1.Nodes b).Form),(sc O ((ix g1.Nodes b).Data) Y)].toArray) (eK (fo:=0) 0 ni hH R R R R)) (bG R R qx (fun a0=>(aL 0 R R hH R R R R R R (lN (aK a0 [(iv (ix g1.Nodes b).Op),(sc G ((ix g1.Nodes b).Args) J),(sc L ((ix g1.Nodes b).Dims) T),(sc M ((ix g1.Nodes b).Ints) U),(aG (ix g1.Nodes b).Form),(sc O ((ix g1.Nodes b).Data) Y)] 42::_::_::_::_::_::_::W1) ?_))))
 refine bL ?_
 obtain ⟨bq,c2,l⟩:=bd l
 obtain ⟨co,c3,l⟩:=bd l
 refine cQ [(1,(sc A5 i D5)),(2,(.bool q)),(3,(pt b7 0)),(8,(sc E j F)),(9,(iv D)),(10,(iv b)),(11,(pt a0 0)),(48,(.bool ((!bq)||(!co))))] (OO (dY).share 77 E F j::aK a0 [(iv (ix g1.Nodes b).Op),(sc G ((ix g1.Nodes b).Args) J),(sc L ((ix g1.Nodes b).Dims) T),(sc M ((ix g1.Nodes b).Ints) U),(aG (ix g1.Nodes b).Form),(sc O ((ix g1.Nodes b).Data) Y)] 42::RR kT3 G J ((ix g1.Nodes b).Args)::RR kT3 L T ((ix g1.Nodes b).Dims)::RR kT3 M U ((ix g1.Nodes b).Ints)::RR kT3 O Y ((ix g1.Nodes b).Data)::W1) ?_ ?_
 refine aZ ?_
 refine lM _ (fun w s=>(((((s.d 2 R).d 4 R).d 6 R).d 8 R).f 11 [3,1,2,1,1,1,0,1,4,7])) ?_
 refine lC 4 CQ R (Z1f_ok c2) R ?_
 rintro _
 refine aZ ?_
 rcases bo (!bq) with aa | aa
 refine eD ?_
 exact qj (tE 7 [6,0,2,3,4,5])
 refine aV ?_
 refine lM _ (fun w s=>(s.d 2 R)) ?_
 refine b' 1 R (bW aa) vX R (Z0s_ok (bM c3 (cZ aa))) R ?_
 rintro _
 refine aV ?_
 exact qj (tE 7 [6,0,2,3,4,5])
 rintro σ1
 refine cP ?_
 split at l
 refine jl ?_
 cases l
 obtain rfl:=az _ R
 have l:=b0
 refine aV ?_
 cases l
 exact kb (E,j.length,F) (tE 10 [0])
 refine cV ?_
 refine bO (K:=dY) (xs:=([]:List Tensor)) (vs:=[]) 0 R R gK bX eG R R R R R R ?_ R (fun ca cc=>?_)
 exact fun I h s=>(vW).list [] I h s
 refine bL ?_
 refine bB (A:=((List Tensor))×(HH)) (fun a=>Za_J3 g1 i q j D b a.1=some bp) (fun a=>[(1,(sc A5 i D5)),(2,(.bool q)),(3,(pt b7 0)),(8,(sc E j F)),(9,(iv D)),(10,(iv b)),(11,(pt a0 0)),(12,(s3 a.2))]) (fun a=>OO (dY).share 77 E F j::aK a0 [(iv (ix g1.Nodes b).Op),(sc G ((ix g1.Nodes b).Args) J),(sc L ((ix g1.Nodes b).Dims) T),(sc M ((ix g1.Nodes b).Ints) U),(aG (ix g1.Nodes b).Form),(sc O ((ix g1.Nodes b).Data) Y)] 42::RR kT3 G J ((ix g1.Nodes b).Args)::RR kT3 L T ((ix g1.Nodes b).Dims)::RR kT3 M U ((ix g1.Nodes b).Ints)::RR kT3 O Y ((ix g1.Nodes b).Data)::ow (dY).share 77 (s3 a.2) a.1::W1) ?_ ?_
 refine cB ?_
 obtain ⟨e2,cv,ct⟩:=bd l
 refine bD (A:=HH) cv (fun s a=>[(1,(sc A5 i D5)),(2,(.bool q)),(3,(pt b7 0)),(8,(sc E j F)),(9,(iv D)),(10,(iv b)),(11,(pt a0 0)),(12,(s3 a)),(13,(iv s.2))]) (fun s a=>OO (dY).share 77 E F j::aK a0 [(iv (ix g1.Nodes b).Op),(sc G ((ix g1.Nodes b).Args) J),(sc L ((ix g1.Nodes b).Dims) T),(sc M ((ix g1.Nodes b).Ints) U),(aG (ix g1.Nodes b).Form),(sc O ((ix g1.Nodes b).Data) Y)] 42::RR kT3 G J ((ix g1.Nodes b).Args)::RR kT3 L T ((ix g1.Nodes b).Dims)::RR kT3 M U ((ix g1.Nodes b).Ints)::RR kT3 O Y ((ix g1.Nodes b).Data)::ow (dY).share 77 (s3 a) s.1::W1) (ca,([]:List Tensor).length,cc) (aS R) (fun w s=>((s.wk 0 R).f 7 [1,6,0,1])) ?_
 rintro ⟨a8,a2⟩ ⟨cb,ch,cf⟩ σ1 de l cs
 dsimp only [Za_L2] at l
 refine bK 6 eQ (fun (hn:ch=a8.length)=>?_)
 subst hn
 refine dJ ?_
 split at l
 refine cV ?_
 obtain ⟨bw,l⟩:=gd l
 obtain ⟨ac,l⟩:=gd l
 obtain ⟨bz,l⟩:=gd l
 refine cB ?_
 refine bE 2 aA (show 0<((ix g1.Nodes b).Args).length by have:=bw; omega) (fun dc o141 ha=>?_)
 subst ha
 refine aZ ?_
 refine bE 0 eQ (show 0<j.length by have:=ac; omega) (fun dd o144 ha=>?_)
 subst ha
 refine cP ?_
 refine Ad (K:=(dY).share) 0 (ix ((ix g1.Nodes b).Args) a2) R R fX bX dT77.own R R ac.1 ac.2 ?_
 rintro ⟨⟨b1,bc⟩,⟨b2,be⟩⟩
 refine lM _ (fun w s=>(((s.d 0 R).d 2 R).f 11 [1,1,0,1,2,9])) ?_
 refine bO (K:=(dY).share) (xs:=([(ix j (ix ((ix g1.Nodes b).Args) a2))]:List Tensor)) (vs:=[(.agg [(sc b1 ((ix j (ix ((ix g1.Nodes b).Args) a2)).Dims) bc),(sc b2 ((ix j (ix ((ix g1.Nodes b).Args) a2)).Data) be)].toArray)]) 2 R R gK bX eG R R R R R R ?_ R (fun cw d0=>?_)
 exact fun I h s=>(As).list [(((sc b1 ((ix j (ix ((ix g1.Nodes b).Args) a2)).Dims) bc),(sc b2 ((ix j (ix ((ix g1.Nodes b).Args) a2)).Data) be)),(ix j (ix ((ix g1.Nodes b).Args) a2)))] I h s
 refine lM _ (fun w s=>(s.f 10 [9,1,0,9])) ?_
 refine eU (K:=(dY).share) 2932031007402 R R gK bX Aw (Zr.zk (Zr.share At) eG) R R R R R R eB bz (fun b3 bf=>(lN (OO (dY).share 77 b3 bf (a8++([(ix j (ix ((ix g1.Nodes b).Args) a2))]:List Tensor))::_::_::_::_::_::_::_::_::W1) ?_))
 refine dG ?_
 cases l
 exact qA (b3,(a8++([(ix j (ix ((ix g1.Nodes b).Args) a2))]:List Tensor)).length,bf) (fun w s=>(s.f 9 [3,6,0,1]))
 refine aV ?_
 cases l
 obtain rfl:=cs _ R
 have l:=ct
 refine aZ ?_
 exact qI (a8,(cb,a8.length,cf)) l tI
 rintro ⟨a9,⟨ag,ci,ai⟩⟩ σ1 l
 dsimp only [Za_J3] at l
 refine bK 6 eQ (fun (hn:ci=a9.length)=>?_)
 subst hn
 refine aZ ?_
 refine lO (vz (.agg [(.slice none 0 0),(.slice none 0 0)].toArray) (bA hJ eG R R)) (bG R R eG (fun a3=>(aL 0 R R bX R R R R R R (lN (_::OO (dY).share 77 E F j::aK a0 [(iv (ix g1.Nodes b).Op),(sc G ((ix g1.Nodes b).Args) J),(sc L ((ix g1.Nodes b).Dims) T),(sc M ((ix g1.Nodes b).Ints) U),(aG (ix g1.Nodes b).Form),(sc O ((ix g1.Nodes b).Data) Y)] 42::RR kT3 G J ((ix g1.Nodes b).Args)::_::_::_::OO (dY).share 77 ag ai a9::W1) ?_))))
 refine aV ?_
 refine bB (A:=(Int×(List Int)×(List Int))×(HH×HH)) (fun a=>Za_J4 j b a.1.1 a.1.2.1 a.1.2.2=some bp) (fun a=>[(1,(sc A5 i D5)),(2,(.bool q)),(3,(pt b7 0)),(8,(sc E j F)),(9,(iv a.1.1)),(10,(iv b)),(14,(pt a3 0))]) (fun a=>OO (dY).share 77 E F j::aK a3 [(s3 a.2.1),(s3 a.2.2)] 77::ow kT3 3 (s3 a.2.1) a.1.2.1::ow kT3 3 (s3 a.2.2) a.1.2.2::W1) ?_ ?_
 refine dG ?_
 split at l
 refine cP ?_
 obtain ⟨a6,c4,l⟩:=bd l
 refine aV ?_
 refine lM _ (fun w s=>(((((s.d 3 R).d 5 R).d 7 R).d 9 R).e 12 [11,3,2,1,0,4,5,6,7,8,9,10])) ?_
 refine lC 5 D1 R (FnOk.lends (A':=[OO (dY).share 77 ag ai a9]) (A:=[RR dY ag ai a9]) (B:=[RR kT3 G J ((ix g1.Nodes b).Args),RR kT3 L T ((ix g1.Nodes b).Dims),RR kT3 M U ((ix g1.Nodes b).Ints),RR kT3 O Y ((ix g1.Nodes b).Data)]) (FnOk.perm (Z2_ok c4) (Pre':=[RR dY ag ai a9,RR kT3 G J ((ix g1.Nodes b).Args),RR kT3 L T ((ix g1.Nodes b).Dims),RR kT3 M U ((ix g1.Nodes b).Ints),RR kT3 O Y ((ix g1.Nodes b).Data)]) (fun _ _ _ s=>(s.f 5 [1,4,0,1]))) ⟨mL,trivial⟩ (fun _=>⟨(bN jw),(bN jw),trivial⟩)) R ?_
 rintro ⟨⟨b4,d5,bg⟩,⟨b5,d6,bh⟩⟩
 refine aM 1 aD ?_
 rintro rfl
 refine aM 2 aD ?_
 rintro rfl
 refine aL 3 R R bX R R R R R R (lN (_::_::_::aK a3 [(sc b4 a6.Dims bg),(sc b5 a6.Data bh)] 77::_::_::_::_::_::_::W1) ?_)
 refine aZ ?_
 exact qI ((D,a6.Dims,a6.Data),((b4,a6.Dims.length,bg),(b5,a6.Data.length,bh))) l (tE 10 [4,3,1,2])
 refine eD ?_
 split at l
 refine cP ?_
 obtain ⟨a7,c5,l⟩:=bd l
 refine aV ?_
 refine lM _ (fun w s=>(s.d 4 R)) ?_
 refine lC 1 Da R (Z0x_ok c5) R ?_
 rintro ⟨⟨b6,d7,bi⟩,⟨b8,d8,bj⟩⟩
 refine aM 0 aD ?_
 rintro rfl
 refine aM 1 aD ?_
 rintro rfl
 refine aL 2 R R bX R R R R R R (lN (_::_::aK a3 [(sc b6 a7.Dims bi),(sc b8 a7.Data bj)] 77::_::_::_::_::_::_::_::W1) ?_)
 refine aZ ?_
 exact qI ((D,a7.Dims,a7.Data),((b6,a7.Dims.length,bi),(b8,a7.Data.length,bj))) l (tE 10 [3,2,0,1])
 refine aV ?_
 obtain ⟨Z,l⟩:=gd l
 obtain ⟨br,ay,l⟩:=bd l
 obtain ⟨c0,l⟩:=gd l
 obtain ⟨cp,c6,l⟩:=bd l
 refine cQ [(1,(sc A5 i D5)),(2,(.bool q)),(3,(pt b7 0)),(8,(sc E j F)),(9,(iv D)),(10,(iv b)),(11,(pt a0 0)),(14,(pt a3 0)),(92,(.bool (((decide (D≥(i.length:Int)))||(!br))||(!cp))))] (OO (dY).share 77 E F j::aK a0 [(iv (ix g1.Nodes b).Op),(sc G ((ix g1.Nodes b).Args) J),(sc L ((ix g1.Nodes b).Dims) T),(sc M ((ix g1.Nodes b).Ints) U),(aG (ix g1.Nodes b).Form),(sc O ((ix g1.Nodes b).Data) Y)] 42::RR kT3 G J ((ix g1.Nodes b).Args)::RR kT3 L T ((ix g1.Nodes b).Dims)::RR kT3 M U ((ix g1.Nodes b).Ints)::RR kT3 O Y ((ix g1.Nodes b).Data)::aK a3 [(.slice none 0 0),(.slice none 0 0)] 77::W1) ?_ ?_
 rcases bo (decide (D≥(i.length:Int))) with u | u
 refine dP 23 [] bS fun ht hn=>?_
 refine CD 0 [] ?_
 refine dD ?_
 exact qj (fun w s=>(s.f 8 [1,6,0,1]))
 rcases bo ((decide (D≥(i.length:Int)))||(!br)) with a1 | a1
 refine bC 11 aA (show 0<i.length by have:=(Z u); omega) (fun bn o168 ha=>?_)
 subst ha
 refine dU (K:=dY) 11 D dT77.dec R (Z u).1 (Z u).2 ?_
 rintro ⟨⟨am,ar⟩,⟨an,au⟩⟩
 refine dP 23 [] bS fun ht hn=>?_
 refine tl 0 [] ?_
 refine dW 7 R (bW u) (dV gK bX R R (Z u)) (dW 8 R (bW u) (vz (.agg [(sc am ((ix i D).Dims) ar),(sc an ((ix i D).Data) au)].toArray) (eK (fo:=0) 0 fX bX R R R R)) (d1 9 R (lM _ (fun w s=>(((s.d 1 R).d 3 R).f 13 [1,1,0,1,2,11])) ?_)))
 refine b' 2 R (bW u) oH R (Zv_ok (bM ay (cZ u))) R ?_
 rintro _
 refine aB (aJ (sL []) ?_)
 refine nQ 10 [] ?_
 refine dD ?_
 exact qj (fun w s=>(s.f 11 [4,6,3,1]))
 refine bC 11 aA (show 0<i.length by have:=(Z u); omega) (fun bn o168 ha=>?_)
 subst ha
 refine dU (K:=dY) 11 D dT77.dec R (Z u).1 (Z u).2 ?_
 rintro ⟨⟨am,ar⟩,⟨an,au⟩⟩
 refine dP 23 [] bS fun ht hn=>?_
 refine tl 0 [] ?_
 refine dW 7 R (bW u) (dV gK bX R R (Z u)) (dW 8 R (bW u) (vz (.agg [(sc am ((ix i D).Dims) ar),(sc an ((ix i D).Data) au)].toArray) (eK (fo:=0) 0 fX bX R R R R)) (d1 9 R (lM _ (fun w s=>(((s.d 1 R).d 3 R).f 13 [1,1,0,1,2,11])) ?_)))
 refine b' 2 R (bW u) oH R (Zv_ok (bM ay (cZ u))) R ?_
 rintro _
 refine aB (aJ (sL []) ?_)
 refine kX 10 [] ?_
 refine dW 15 R (bW a1) (dV gK bX R R (c0 a1)) (dW 16 R (bW a1) (vz (.pointer (some ⟨bn,o168+D.toNat*2,none⟩)) (jF j7 R R)) (dW 17 R (bW a1) (eZ (fo:=0) 0 cH R R R) ?_))
 refine iM 18 [] ?_
 refine d1 20 R (lM _ (fun w s=>(((s.d 1 R).d 8 R).f 13 [1,1,0,1,2,11])) ?_)
 refine b' 2 R (bW a1) yA R (Z06_ok (bM c6 (cZ a1))) R ?_
 rintro _
 refine aB (aJ (sL []) ?_)
 refine iM 21 [] ?_
 refine dD ?_
 exact qj (fun w s=>(s.f 11 [4,6,3,1]))
 rintro σ1
 refine cP ?_
 split at l
 refine pB ?_
 cases l
 obtain rfl:=az _ R
 have l:=b0
 refine aV ?_
 cases l
 exact kb (E,j.length,F) (tE 11 [0])
 refine bL ?_
 obtain ⟨aj,c7,l⟩:=bd l
 obtain ⟨ae,l⟩:=gd l
 obtain ⟨ak,c8,l⟩:=bd l
 refine bC 10 aA (show 0<i.length by have:=ae; omega) (fun cn o184 ha=>?_)
 subst ha
 refine dU (K:=dY) 10 D dT77.dec R ae.1 ae.2 ?_
 rintro ⟨⟨cx,d2⟩,⟨cy,d3⟩⟩
 refine dP 11 [9] bS fun ht hn=>?_
 refine iM 0 [9] ?_
 refine j6 3 [9] ?_
 refine dR 6 R (vz (.pointer (some ⟨cn,o184+D.toNat*2+1,none⟩)) (jF u4 R R)) (hS:=(sL [9])) (dR 7 R (eZ (fo:=1) 0 cH R R R) (hS:=(sL [9])) (d1 2 R (lM _ (fun w s=>(s.d 6 R)) ?_)))
 refine lC 1 kt R (Zx_ok c7) R ?_
 rintro ⟨ao,d9,av⟩
 refine aM 0 aD ?_
 rintro rfl
 refine aB (aJ (sL [10,0]) (d1 8 R (lM _ (fun w s=>(s.d 3 R)) ?_)))
 refine lC 1 kt R (Zx_ok c8) R ?_
 rintro ⟨ap,da,aw⟩
 refine aM 0 aD ?_
 rintro rfl
 refine aB (aJ (sL [11,1,0]) (dR 9 R (vz (.agg [(sc ao aj av),(sc ap ak aw)].toArray) (bA hJ eG R R)) (hS:=(sL [11,1,0])) (d1 10 R (aL 11 R R bX R R R R R R (lN (_::_::_::_::_::_::_::_::_::_::_::aK a3 [(sc ao aj av),(sc ap ak aw)] 77::W1) ?_)))))
 refine aB (aJ (sL [11,1,0]) (dD ?_))
 refine eD ?_
 exact qI (((aI (D+1)),aj,ak),((ao,aj.length,av),(ap,ak.length,aw))) l (tE 12 [5,11,1,0])
 rintro ⟨⟨df,a4,a5⟩,⟨⟨b9,cj,bk⟩,⟨ba,ck,bl⟩⟩⟩ σ1 l
 dsimp only [Za_J4] at l
 refine bK 2 aD (fun (hn:cj=a4.length)=>?_)
 subst hn
 refine bK 3 aD (fun (hn:ck=a5.length)=>?_)
 subst hn
 refine dG ?_
 split at l
 refine jl ?_
 cases l
 obtain rfl:=az _ R
 have l:=b0
 refine aV ?_
 cases l
 exact kb (E,j.length,F) (tE 8 [0])
 refine aV ?_
 obtain ⟨c1,l⟩:=gd l
 refine aV ?_
 refine lM _ (fun w s=>(((((s.shr 2 R).d 0 R).shr 4 R).d 0 R).e 6 [2,0,1,3,4,5])) ?_
 refine bO (K:=(dY).share) (xs:=([(⟨a4,a5⟩:Tensor)]:List Tensor)) (vs:=[(.agg [(sc b9 a4 bk),(sc ba a5 bl)].toArray)]) 2 R R gK bX eG R R R R R R ?_ R (fun cz d4=>?_)
 exact fun I h s=>(As).list [(((sc b9 a4 bk),(sc ba a5 bl)),(⟨a4,a5⟩:Tensor))] I h s
 refine lM _ (tE 5 [3,0,1,2,4]) ?_
 refine eU (K:=(dY).share) 2932031007402 R R gK bX Aw (Zr.zk (Zr.share At) eG) R R R R R R eB c1 (fun bb bm=>(lN (OO (dY).share 77 bb bm (j++([(⟨a4,a5⟩:Tensor)]:List Tensor))::_::_::_::W1) ?_))
 refine dG ?_
 cases l
 exact qA (bb,(j++([(⟨a4,a5⟩:Tensor)]:List Tensor)).length,bm) (tE 4 [0])
 refine aV ?_
 cases l
 obtain rfl:=az _ R
 have l:=b0
 refine aZ ?_
 exact qI ((j,D),(E,j.length,F)) l tI
 rintro ⟨⟨al,cq⟩,⟨aq,cm,ax⟩⟩ σ1 l
 dsimp only [Za_J5] at l
 refine bK 0 eQ (fun (hn:cm=al.length)=>?_)
 subst hn
 refine cP ?_
 obtain ⟨bs,c9,l⟩:=bd l
 refine cQ [(6,(sc aq al ax)),(7,(.bool (bs&&(q||(cq==(i.length:Int))))))] (OO (dY).share 77 aq ax al::W1) ?_ ?_
 refine eD ?_
 refine lM _ (fun w s=>(s.d 3 R)) ?_
 refine lC 1 vX R (Z0s_ok c9) R ?_
 rintro _
 refine cP ?_
 rcases bo bs with bu | bu
 refine aZ ?_
 rcases bo q with bv | bv
 refine dG ?_
 exact qj tI
 refine dG ?_
 exact qj tI
 refine hG ?_
 exact qj tI
 rintro σ1
 refine aZ ?_
 cases l
 exact kb (aq,al.length,ax) (tE 5 [0])
theorem Z38_ok  {g1:Graph}{r:Bool}(a:Z38 g1=some r) :
 FnOk Tryz.prog 18 [(.agg [(.slice A2 N2 D2),(.slice A3 N3 D3)].toArray)] [aO cJ (.slice A2 N2 D2) g1.Nodes,aO kT3 (.slice A3 N3 D3) g1.Outs] (fun (h:Unit)=>((.bool r),[])):=by
 unfold Z38 at a
 refine aR Tryz.func18 R 12 R R fun C V=>?_
 refine cL 0 aA ?_
 rintro rfl
 refine cL 1 aA ?_
 rintro rfl
 let i:=RR cJ A2 D2 g1.Nodes::RR kT3 A3 D3 g1.Outs::V
 refine cN i ?_
 refine aZ ?_
 refine eT R fun l=>?_
 refine aZ ?_
 let j:=aK l [(sc A2 g1.Nodes D2),(sc A3 g1.Outs D3)] 30::i
 refine qN j ?_
 refine aZ ?_
 obtain ⟨q,b,a⟩:=bd a
 refine aZ ?_
 refine bO (K:=dY) (xs:=([]:List Tensor)) (vs:=[]) 0 R R gK bX eG R R R R R R ?_ R (fun A5 D5=>?_)
 exact fun I h s=>(vW).list [] I h s
 refine ji (fun w s=>s.shr 0 R) (lM _ (fun w s=>((((s.d 2 R).d 4 R).d 2 R).e 4 [2,1,0,3])) ?_)
 refine lC 3 AK R (Za_ok b) R ?_
 rintro ⟨A8,N8,D8⟩
 refine aM 0 eQ ?_
 rintro rfl
 refine lO (vT R) ?_
 refine lq ?_
 cases a
 exact qF () (tE 5 [])
theorem Z12_ok  {g1:Graph}{r:(List (List Int))}(i:Z12 g1=some r) :
 FnOk Tryz.prog 23 [(.agg [(.slice A2 N2 D2),(.slice A3 N3 D3)].toArray)] [aO cJ (.slice A2 N2 D2) g1.Nodes,aO kT3 (.slice A3 N3 D3) g1.Outs] (fun (h:HH)=>((.slice h.1 h.2.1 h.2.2),[ow (bF).share 23 (.slice h.1 h.2.1 h.2.2) r])):=by
 unfold Z12 at i
 refine aR Tryz.func23 R 32 R R fun C V=>?_
 refine cN (_::_::V) ?_
 refine cL 0 aA ?_
 rintro rfl
 refine cL 1 aA ?_
 rintro rfl
 let W0:List HP:=RR cJ A2 D2 g1.Nodes::RR kT3 A3 D3 g1.Outs::V
 refine cN W0 ?_
 refine aH (aC (eT R (fun b4=>(lS R (aB ?_)))))
 let B:List HP:=aK b4 [(sc A2 g1.Nodes D2),(sc A3 g1.Outs D3)] 30::W0
 refine qN B ?_
 refine aE (aH (aC (bO (K:=bF) (xs:=([]:List (List Int))) (vs:=[]) 0 R R iW fK lv R R R R R R ?_ R (fun A5 D5=>?_))))
 exact fun I h s=>(nh).list [] I h s
 refine lN (OO bF 23 A5 D5 ([]:List (List Int))::B) ?_
 refine lS R (aB (aE (aH ?_)))
 obtain ⟨j,aa,i⟩:=bd i
 refine aC (lO (vz (.agg [(sc A2 g1.Nodes D2),(sc A3 g1.Outs D3)].toArray) (dA 1 oG nj R R R R)) (bO (K:=dY) (xs:=([]:List Tensor)) (vs:=[]) 0 R R gK bX eG R R R R R R ?_ R (fun A6 D6=>?_)))
 exact fun I h s=>(vW).list [] I h s
 refine lN (OO dY 77 A6 D6 ([]:List Tensor)::_::B) ?_
 refine ji (fun w s=>s.shr 0 R) (lM (RR cJ A2 D2 g1.Nodes::RR kT3 A3 D3 g1.Outs::RR dY A6 D6 ([]:List Tensor)::RR dY A6 D6 ([]:List Tensor)::ow _ _ _ _::B) (fun w s=>((((s.d 3 R).d 5 R).d 2 R).e 5 [2,1,0,3,4])) ?_)
 refine lC 3 AK R (Za_ok aa) R ?_
 rintro ⟨A9,N9,D9⟩
 refine lN (ow (dY).share 77 (.slice A9 N9 D9) j.1::_::_::B) ?_
 refine aM 0 eQ ?_
 rintro rfl
 refine lO (vT R) (lS R (lB R (lS R (lB R (aB (aE (aH (bB (A:=((List (List Int)))×(HH)) (fun a=>Z12_J1 a.1=some r) (fun a=>[(3,(.slice a.2.1 a.2.2.1 a.2.2.2))]) (fun a=>ow (bF).share 23 (.slice a.2.1 a.2.2.1 a.2.2.2) a.1::B) ?_ ?_))))))))
 refine aH (aC (lI R (aB (aE (bV ?_)))))
 obtain ⟨e1,a9,a8⟩:=bd i
 refine bD (A:=HH) a9 (fun s a=>[(3,(.slice a.1 a.2.1 a.2.2)),(4,(sc A9 j.1 D9)),(5,(.bool j.2)),(6,(iv s.2))]) (fun s a=>ow (bF).share 23 (.slice a.1 a.2.1 a.2.2) s.1::OO (dY).share 77 A9 D9 j.1::B) (A5,([]:List (List Int)).length,D5) (aS R) (fun w s=>((s.wk 2 R).e 3 [0,1])) ?_
 rintro ⟨l,b⟩ ⟨E,a5,F⟩ σ1 Y i a7
 replace i:Z12_L1 j l b=some Y:=i
 unfold Z12_L1 at i
 refine bK 0 eQ (fun (hn:a5=l.length)=>?_)
 subst hn
 refine aH (aH (cQ [(3,(sc E l F)),(4,(sc A9 j.1 D9)),(5,(.bool j.2)),(6,(iv b)),(20,(.bool ((decide (b<(j.1.length:Int)))&&j.2)))] (OO (bF).share 23 E F l::OO (dY).share 77 A9 D9 j.1::B) ?_ ?_))
 refine aC (lI R (lS R (lO (eN gK R) (lO (jG R R) (lB R ?_)))))
 rcases bo (decide (b<(j.1.length:Int))) with q | q
 refine lW (dO q) (vB R) (lO (iJ R q R) (aB ?_))
 exact qJ (fun w s=>s)
 refine lf (jh q) (lO (ki j.2 R q) (aB ?_))
 exact qJ (fun w s=>s)
 rintro σ1
 refine aE ?_
 rcases cF i with ⟨D,i⟩|⟨D,i⟩
 refine bJ R D (bQ (aE (aH (bV ?_))))
 obtain ⟨u,i⟩:=gd i
 obtain ⟨U,i⟩:=gd i
 refine aC (lS R (lS R (lI R (bE 1 eQ (show 0<j.1.length by have:=u; omega) (fun T o27 ha=>?_)))))
 subst ha
 refine lO (dV gK bX R R u) (lO (vz (.pointer (some ⟨T,o27+b.toNat*2,none⟩)) (jF j7 R R)) (tK (K:=(dY).share) (fo:=0) 1 b R R cH dT77.own (fun _ _=>R) R R u.1 u.2 ?_))
 rintro ⟨⟨G,J⟩,⟨Z,a2⟩⟩
 refine lN (RR kT3 G J ((ix j.1 b).Dims)::RR kT3 Z a2 ((ix j.1 b).Data)::OO (bF).share 23 E F l::OO (dY).share 77 (ad T o27) D9 j.1::B) ?_
 refine lM (_::_::_::_::_::B) (fun w s=>(s.d 0 R)) ?_
 refine bO (K:=(bF).share) (xs:=([(ix j.1 b).Dims]:List (List Int))) (vs:=[(sc G ((ix j.1 b).Dims) J)]) 1 R R iW fK lv R R R R R R ?_ R (fun a0 a3=>?_)
 exact fun I h s=>(sI).list [((sc G ((ix j.1 b).Dims) J),(ix j.1 b).Dims)] I h s
 refine lN (OO (bF).share 23 a0 a3 ([(ix j.1 b).Dims]:List (List Int))::_::_::_::_::B) ?_
 refine lM (ow _ _ _ _::ow _ _ _ _::aO _ _ _::aO _ _ _::ow _ _ _ _::B) (fun w s=>(s.e 5 [3,0,1,2,4])) ?_
 refine eU (K:=(bF).share) 5864062014805 R R iW fK u6 (Zr.zk (Zr.share zT23) lv) R R R R R R eB U (fun M O=>(lN (OO (bF).share 23 M O (l++([(ix j.1 b).Dims]:List (List Int)))::_::_::_::B) ?_))
 refine lS R (aB (cD (aE (aC (lI R (lO (iE R R) (lI R (aB ?_))))))))
 obtain rfl:=so i
 exact qA (M,(l++([(ix j.1 b).Dims]:List (List Int))).length,O) (fun w s=>(s.e 4 [0,3]))
 refine aY R D (eA (cE ?_))
 obtain rfl:=so i
 obtain rfl:=a7 _ R
 have i:=a8
 refine cE (dH ?_)
 exact qI (l,(E,l.length,F)) i (fun w s=>(s.e 2 [0]))
 rintro ⟨L,⟨a1,a6,a4⟩⟩ σ1 i
 replace i:Z12_J1 L=some r:=i
 unfold Z12_J1 at i
 refine bK 0 eQ (fun (hn:a6=L.length)=>?_)
 subst hn
 refine aH (aC (lS R (lS R (aB (aE (bY ?_))))))
 obtain rfl:=so i
 exact qF (a1,L.length,a4) (fun w s=>(s.e 4 [0]))
theorem Z0a_ok  {b:(List Int)}{k3:Int}{r:Int}(e:Z0a b k3=some r) :
 FnOk Tryz.prog 45 [(.slice A2 N2 D2),(iv k3)] [aO kT3 (.slice A2 N2 D2) b] (fun (h:Unit)=>((iv r),[])):=by
 unfold Z0a at e
 refine aR Tryz.func45 R 22 R R fun C V=>?_
 refine cL 0 aA ?_
 rintro rfl
 let u:=RR kT3 A2 D2 b::V
 refine cN u ?_
 refine hG ?_
 refine bB (A:=(Int)×(Unit)) (fun a=>Z0a_J3 a.1=some r) (fun a=>[(5,(iv a.1))]) (fun a=>u) ?_ ?_
 refine cB ?_
 obtain ⟨L,E,D⟩:=bd e
 refine bD (A:=Unit) E (fun s a=>[(0,(sc A2 b D2)),(1,(iv k3)),(5,(iv s.1)),(6,(iv s.2))]) (fun s a=>u) () (aS R) tI ?_
 rintro ⟨i,l⟩ _ σ1 q e B
 dsimp only [Z0a_L1] at e
 refine dG ?_
 split at e
 refine bL ?_
 refine bB (A:=(Int)×(Unit)) (fun a=>Z0a_J2 l a.1=some q) (fun a=>[(0,(sc A2 b D2)),(1,(iv k3)),(5,(iv a.1)),(6,(iv l))]) (fun a=>u) ?_ ?_
 refine aZ ?_
 obtain ⟨j,e⟩:=gd e
 refine aV ?_
 refine bE 0 aA (show 0<b.length by have:=j; omega) (fun F o15 G=>?_)
 subst G
 refine cB ?_
 split at e
 refine eD ?_
 exact qI ((aI (i+1)),()) e tI
 refine aV ?_
 exact qI (i,()) e tI
 rintro ⟨I,_⟩ σ1 e
 dsimp only [Z0a_J2] at e
 refine cV ?_
 cases e
 exact qA () tI
 refine aV ?_
 cases e
 obtain rfl:=B _ R
 have e:=D
 refine aZ ?_
 exact qI (i,()) e tI
 rintro ⟨J,_⟩ σ1 e
 dsimp only [Z0a_J3] at e
 refine eD ?_
 cases e
 exact qF () (tE 1 [])
theorem Z0v_ok  {b:(List Int)}{B:Int}{r:Bool}(e:Z0v b B=some r) :
 FnOk Tryz.prog 46 [(.slice A2 N2 D2),(iv B)] [aO kT3 (.slice A2 N2 D2) b] (fun (h:Unit)=>((.bool r),[])):=by
 unfold Z0v at e
 refine aR Tryz.func46 R 18 R R fun C V=>?_
 refine cL 0 aA ?_
 rintro rfl
 let q:=RR kT3 A2 D2 b::V
 refine cN q ?_
 refine cB ?_
 refine bB (A:=(Unit)×(Unit)) (fun a=>Z0v_J1=some r) (fun a=>[]) (fun a=>q) ?_ ?_
 refine cB ?_
 obtain ⟨G,u,l⟩:=bd e
 refine bD (A:=Unit) u (fun s a=>[(0,(sc A2 b D2)),(1,(iv B)),(5,(iv s))]) (fun s a=>q) () (aS R) tI ?_
 rintro I _ σ1 D e i
 dsimp only [Z0v_L1] at e
 refine dG ?_
 split at e
 refine cB ?_
 obtain ⟨j,e⟩:=gd e
 refine aV ?_
 refine bE 0 aA (show 0<b.length by have:=j; omega) (fun E o13 F=>?_)
 subst F
 refine cB ?_
 split at e
 refine dG ?_
 cases e
 obtain rfl:=i _ R
 have e:=l
 refine aV ?_
 cases e
 exact qF () (tE 1 [])
 refine dG ?_
 cases e
 exact qA () tI
 refine aV ?_
 cases e
 obtain rfl:=i _ R
 have e:=l
 refine aZ ?_
 exact dC ((),()) e trivial tI
 rintro ⟨_,_⟩ σ1 e
 dsimp only [Z0v_J1] at e
 refine cB ?_
 cases e
 exact qF () (tE 1 [])
theorem Z26_ok  {a:Node}{r:Bool}(j:Z26 a=some r) :
 FnOk Tryz.prog 47 [(.agg [(iv a.Op),(.slice A2 N2 D2),(.slice A3 N3 D3),(.slice A4 N4 D4),(aG a.Form),(.slice A5 N5 D5)].toArray)] [aO kT3 (.slice A2 N2 D2) a.Args,aO kT3 (.slice A3 N3 D3) a.Dims,aO kT3 (.slice A4 N4 D4) a.Ints,aO kT3 (.slice A5 N5 D5) a.Data] (fun (h:Unit)=>((.bool r),[])):=by
 unfold Z26 at j
 refine aR Tryz.func47 R 11 R R fun C V=>?_
 refine cL 0 aA ?_
 rintro rfl
 refine cL 1 aA ?_
 rintro rfl
 refine cL 2 aA ?_
 rintro rfl
 refine cL 3 aA ?_
 rintro rfl
 let e:=RR kT3 A2 D2 a.Args::RR kT3 A3 D3 a.Dims::RR kT3 A4 D4 a.Ints::RR kT3 A5 D5 a.Data::V
 refine cN e ?_
 refine aZ ?_
 refine eT R fun l=>?_
 refine aZ ?_
 let i:=aK l [(iv a.Op),(sc A2 a.Args D2),(sc A3 a.Dims D3),(sc A4 a.Ints D4),(aG a.Form),(sc A5 a.Data D5)] 42::e
 refine qN i ?_
 refine aZ ?_
 refine cQ [(2,(.bool ((a.Op==1)||(a.Op==2))))] (i) ?_ ?_
 refine cV ?_
 rcases bo (a.Op==1) with b | b
 refine cB ?_
 exact qj tI
 refine cB ?_
 exact qj tI
 rintro σ1
 refine aZ ?_
 cases j
 exact qF () (tE 5 [])
theorem Ze_ok  {g1:Graph}{b:(List Int)}{r:Bool}(e:Ze g1 b=some r) :
 FnOk Tryz.prog 24 [(.agg [(.slice A2 N2 D2),(.slice A3 N3 D3)].toArray),(.slice A5 N5 D5)] [aO cJ (.slice A2 N2 D2) g1.Nodes,aO kT3 (.slice A3 N3 D3) g1.Outs,aO kT3 (.slice A5 N5 D5) b] (fun (h:Unit)=>((.bool r),[])):=by
 unfold Ze at e
 refine aR Tryz.func24 R 95 R R fun C V=>?_
 refine cL 0 aA ?_
 rintro rfl
 refine cL 1 aA ?_
 rintro rfl
 refine cL 2 aA ?_
 rintro rfl
 let W0:=RR cJ A2 D2 g1.Nodes::RR kT3 A3 D3 g1.Outs::RR kT3 A5 D5 b::V
 refine cN W0 ?_
 refine aZ ?_
 refine eT R fun O=>?_
 refine aZ ?_
 let M:=aK O [(sc A2 g1.Nodes D2),(sc A3 g1.Outs D3)] 30::W0
 refine qN M ?_
 refine aZ ?_
 refine bB (A:=(Unit)×(Unit)) (fun a=>Ze_J1 g1 b=some r) (fun a=>[(1,(sc A5 b D5)),(2,(pt O 0))]) (fun a=>M) ?_ ?_
 refine cB ?_
 obtain ⟨e1,ap,ak⟩:=bd e
 refine bD (A:=Unit) ap (fun s a=>[(1,(sc A5 b D5)),(2,(pt O 0)),(5,(iv s))]) (fun s a=>M) () (aS R) tI ?_
 rintro q _ σ1 b3 e ag
 dsimp only [Ze_L1] at e
 refine dG ?_
 split at e
 refine cB ?_
 obtain ⟨F,e⟩:=gd e
 obtain ⟨U,e⟩:=gd e
 refine cQ [(1,(sc A5 b D5)),(2,(pt O 0)),(5,(iv q)),(45,(.bool (((decide ((ix b q)<0))||(decide ((ix b q)≥(g1.Nodes.length:Int))))||((decide (q>0))&&(decide ((ix b (aI (q - 1)))≥(ix b q)))))))] (M) ?_ ?_
 rcases bo (decide ((ix b q)<0)) with ae | ae
 refine bC 3 aA (show 0<b.length by have:=F; omega) (fun Z o20 G=>?_)
 subst G
 refine dP 31 [] bS fun ht hn=>?_
 refine yn 0 [] ?_
 refine pC 30 [] ?_
 refine dD ?_
 exact qj tI
 rcases bo ((decide ((ix b q)<0))||(decide ((ix b q)≥(g1.Nodes.length:Int)))) with I | I
 refine bC 3 aA (show 0<b.length by have:=F; omega) (fun Z o20 G=>?_)
 subst G
 refine dP 31 [] bS fun ht hn=>?_
 refine yn 0 [] ?_
 refine pC 30 [] ?_
 refine dD ?_
 exact qj tI
 rcases bo (decide (q>0)) with u | u
 refine bC 3 aA (show 0<b.length by have:=F; omega) (fun Z o20 G=>?_)
 subst G
 refine dP 31 [] bS fun ht hn=>?_
 refine CC 0 [] ?_
 refine dW 22 R (dO u) (dV bH cO R R (U I u)) (dW 23 R (dO u) (fQ 3 fC aA R (U I u)) ?_)
 refine tl 24 [] ?_
 refine dD ?_
 exact qj tI
 refine bC 3 aA (show 0<b.length by have:=F; omega) (fun Z o20 G=>?_)
 subst G
 refine dP 31 [] bS fun ht hn=>?_
 refine yn 0 [] ?_
 refine pC 30 [] ?_
 refine dD ?_
 exact qj tI
 rintro σ1
 refine cP ?_
 split at e
 refine dG ?_
 cases e
 obtain rfl:=ag _ R
 have e:=ak
 refine aV ?_
 cases e
 exact qF () (tE 4 [])
 refine dG ?_
 cases e
 exact qA () tI
 refine aV ?_
 cases e
 obtain rfl:=ag _ R
 have e:=ak
 refine aZ ?_
 exact qI ((),()) e tI
 rintro ⟨_,_⟩ σ1 e
 dsimp only [Ze_J1] at e
 refine aH (bB (A:=(Unit)×(Unit)) (fun a=>Ze_J4=some r) (fun a=>[]) (fun a=>M) ?_ ?_)
 refine cB ?_
 obtain ⟨e2,aq,al⟩:=bd e
 refine bD (A:=Unit) aq (fun s a=>[(1,(sc A5 b D5)),(2,(pt O 0)),(6,(iv s))]) (fun s a=>M) () (aS R) tI ?_
 rintro j _ σ1 an e ai
 dsimp only [Ze_L2] at e
 refine dJ ?_
 split at e
 refine bL ?_
 refine bB (A:=(Unit)×(Unit)) (fun a=>Ze_J3 j=some an) (fun a=>[(1,(sc A5 b D5)),(2,(pt O 0)),(6,(iv j))]) (fun a=>M) ?_ ?_
 refine eD ?_
 obtain ⟨e3,ar,am⟩:=bd e
 refine bD (A:=Unit) ar (fun s a=>[(1,(sc A5 b D5)),(2,(pt O 0)),(6,(iv j)),(7,(iv s))]) (fun s a=>M) () (aS R) tI ?_
 rintro l _ σ1 b4 e aj
 dsimp only [Ze_L3] at e
 refine aZ ?_
 obtain ⟨D,e⟩:=gd e
 refine cV ?_
 refine bE 1 aA (show 0<g1.Nodes.length by have:=D; omega) (fun T o116 G=>?_)
 subst G
 refine cP ?_
 refine lO (vz (.pointer (some ⟨T,o116+j.toNat*6+1,none⟩)) (jF oD R R)) (fV (K:=cJ) 1 j dT42.dec R D.1 D.2 ?_)
 rintro ⟨-,⟨au,ay⟩,⟨av,az⟩,⟨aw,b0⟩,-,⟨ax,b1⟩⟩
 refine lO (eZ (fo:=1) 0 cH R R R) ?_
 refine bL ?_
 split at e
 refine cB ?_
 obtain ⟨a0,e⟩:=gd e
 refine cV ?_
 refine lO (vz (.pointer (some ⟨T,o116+j.toNat*6+1,none⟩)) (jF oD R R)) (lO (eZ (fo:=1) 0 cH R R R) (lI R (bE 1 aA (show 0<((ix g1.Nodes j).Args).length by have:=a0; omega) (fun b2 o124 G=>?_))))
 subst G
 refine cB ?_
 obtain ⟨J,a1,e⟩:=bd e
 obtain ⟨L,a2,e⟩:=bd e
 obtain ⟨Y,a3,e⟩:=bd e
 obtain ⟨E,e⟩:=gd e
 obtain ⟨ao,a4,e⟩:=bd e
 refine cQ [(1,(sc A5 b D5)),(2,(pt O 0)),(6,(iv j)),(7,(iv l)),(94,(.bool (((J != L)&&(!Y))&&(!ao))))] (M) ?_ ?_
 refine aV ?_
 refine lM _ (fun w s=>(s.d 8 R)) ?_
 refine lC 1 v' R (Z0a_ok a1) R ?_
 rintro _
 refine lS R (lI R (lM _ (fun w s=>(s.d 8 R)) ?_))
 refine lC 1 v' R (Z0a_ok a2) R ?_
 rintro _
 refine aZ ?_
 rcases bo (J != L) with B | B
 refine aZ ?_
 refine lM _ (fun w s=>(s.d 8 R)) ?_
 refine b' 1 R (dO B) AM R (Z0v_ok (bM a3 B)) R ?_
 rintro _
 refine aV ?_
 rcases bo ((J != L)&&(!Y)) with i | i
 refine aV ?_
 refine lW (dO i) (dV jx hH R R (E i)) (fV (K:=cJ) 6 (ix ((ix g1.Nodes j).Args) l) dT42.dec R (E i).1 (E i).2 ?_)
 rintro ⟨-,⟨a5,a9⟩,⟨a6,aa⟩,⟨a7,ab⟩,-,⟨a8,ac⟩⟩
 refine lW (dO i) (vz (.agg [(iv (ix g1.Nodes (ix ((ix g1.Nodes j).Args) l)).Op),(sc a5 ((ix g1.Nodes (ix ((ix g1.Nodes j).Args) l)).Args) a9),(sc a6 ((ix g1.Nodes (ix ((ix g1.Nodes j).Args) l)).Dims) aa),(sc a7 ((ix g1.Nodes (ix ((ix g1.Nodes j).Args) l)).Ints) ab),(aG (ix g1.Nodes (ix ((ix g1.Nodes j).Args) l)).Form),(sc a8 ((ix g1.Nodes (ix ((ix g1.Nodes j).Args) l)).Data) ac)].toArray) (eK (fo:=0) 0 ni hH R R R R)) (lM _ (fun w s=>(((((s.d 1 R).d 3 R).d 5 R).d 7 R).f 14 [3,1,2,1,1,1,0,1,4,10])) ?_)
 refine b' 4 R (dO i) AN R (Z26_ok (bM a4 i)) R ?_
 rintro _
 refine aV ?_
 exact qj (tE 10 [])
 refine dG ?_
 exact qj (tE 5 [])
 refine nP ?_
 exact qj (tE 5 [])
 rintro σ1
 refine cP ?_
 split at e
 refine dG ?_
 cases e
 obtain rfl:=aj _ R
 have e:=am
 refine bL ?_
 cases e
 obtain rfl:=ai _ R
 have e:=al
 refine aV ?_
 cases e
 exact qF () (tE 4 [])
 refine dG ?_
 cases e
 exact qA () tI
 refine aV ?_
 cases e
 obtain rfl:=aj _ R
 have e:=am
 refine aV ?_
 exact qI ((),()) e (tE 5 [])
 rintro ⟨_,_⟩ σ1 e
 dsimp only [Ze_J3] at e
 refine cV ?_
 cases e
 exact qA () tI
 refine aV ?_
 cases e
 obtain rfl:=ai _ R
 have e:=al
 refine aZ ?_
 exact dC ((),()) e trivial tI
 rintro ⟨_,_⟩ σ1 e
 dsimp only [Ze_J4] at e
 refine cB ?_
 cases e
 exact qF () (tE 4 [])
end Go.Proofs.YtoffdamdpmeoiaaGreatDoor
