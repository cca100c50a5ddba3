import Derived.Test.YthelanpdjajnbaaGreatBnF
import Derived.Test.YthelanpdjajnbaaGreatBnW2
import Derived.Test.YthelanpdjajnbaaGreatBnW3
set_option linter.unusedVariables false
set_option maxRecDepth 20000
namespace Go.Proofs.YthelanpdjajnbaaGreat
open Go Go.Pg
variable {A2 A3 A4 A5 A7:Option Addr}{D2 D3 D4 D5 D7 N2 N3 N4 N5 N7:Nat}
theorem Z0c_ok  {v1:View}{g:Int}{b:Int}{l:Int}{r:View}(q:Z0c v1 g b l=some r) :
 FnOk Tryz.prog 100 [(.agg [(.slice A2 N2 D2),(.slice A3 N3 D3),(iv v1.Offset),(iv v1.Base)].toArray),(iv g),(iv b),(iv l)] [aQ kT3 (.slice A2 N2 D2) v1.Dims,aQ kT3 (.slice A3 N3 D3) v1.Strides] (fun (h:HH×HH)=>((.agg [(.slice h.1.1 h.1.2.1 h.1.2.2),(.slice h.2.1 h.2.2.1 h.2.2.2),(iv r.Offset),(iv r.Base)].toArray),[aQ kT3 (.slice h.1.1 h.1.2.1 h.1.2.2) r.Dims,aQ kT3 (.slice h.2.1 h.2.2.1 h.2.2.2) r.Strides])):=by
 unfold Z0c at q
 refine aR Tryz.func100 R 85 R R fun C V=>?_
 refine cN (_::_::V) ?_
 refine cL 0 aA ?_
 rintro rfl
 refine cL 1 aA ?_
 rintro rfl
 let W0:List HP:=RR kT3 A2 D2 v1.Dims::RR kT3 A3 D3 v1.Strides::V
 refine cN W0 ?_
 refine aI (aD (eA R (fun b7=>(aY R R cC (fun b8=>(aC ?_))))))
 let E:List HP:=aJ b7 [(sc A2 v1.Dims D2),(sc A3 v1.Strides D3),(iv v1.Offset),(iv v1.Base)] 111::W0
 refine qN (_::E) ?_
 refine aE (aI (aI ?_))
 obtain ⟨r9,am,q⟩:=bd q
 obtain ⟨a6,q⟩:=gd q
 refine cQ [(1,(iv g)),(2,(iv b)),(3,(iv l)),(4,(pt b7 0)),(8,(pt b8 0)),(32,(.bool ((((!r9)||(decide (b<(1:Int))))||(decide (l<(1:Int))))||(decide (b>(ix v1.Dims g))))))] (aJ b8 [(.slice none 0 0),(.slice none 0 0),(iv 0),(iv 0)] 111::E) ?_ ?_
 refine aD (lO (vz (.agg [(sc A2 v1.Dims D2),(sc A3 v1.Strides D3),(iv v1.Offset),(iv v1.Base)].toArray) (bK 1 eU bX R R R R)) (lI R (lM (RR kT3 A2 D2 v1.Dims::RR kT3 A3 D3 v1.Strides::aJ _ _ _::E) (fun w s=>(((s.d 2 R).d 4 R).e 3 [1,0,2])) ?_)))
 refine lC 2 wl R (Z2c_ok am) R ?_
 rintro _
 refine lN (_::E) ?_
 refine lO (ki R) (lB R ?_)
 rcases bo (!r9) with m | m
 refine lf (bN m) (lf (bN m) (lO (dX (decide (b<(1:Int))) R m) (lB R (lf (bN (oT m)) (lf (bN (oT m)) (lO (dX (decide (l<(1:Int))) R (oT m)) (lB R (lf (bN (oT (oT m))) (lf (bN (oT (oT m))) (lf (bN (oT (oT m))) (lf (bN (oT (oT m))) (lf (bN (oT (oT m))) (lf (bN (oT (oT m))) (lf (bN (oT (oT m))) (lO (dX (decide (b>(ix v1.Dims g))) R (oT (oT m))) (aC ?_))))))))))))))))
 exact qJ (fun w s=>s)
 refine lW (bJ m) (vI R) (lW (bJ m) (jh R R) (lO (eH R m R) (lB R ?_)))
 rcases bo ((!r9)||(decide (b<(1:Int)))) with u | u
 refine lf (bN u) (lf (bN u) (lO (dX (decide (l<(1:Int))) R u) (lB R (lf (bN (oT u)) (lf (bN (oT u)) (lf (bN (oT u)) (lf (bN (oT u)) (lf (bN (oT u)) (lf (bN (oT u)) (lf (bN (oT u)) (lO (dX (decide (b>(ix v1.Dims g))) R (oT u)) (aC ?_))))))))))))
 exact qJ (fun w s=>s)
 refine lW (bJ u) (vI R) (lW (bJ u) (jh R R) (lO (eH R u R) (lB R ?_)))
 rcases bo (((!r9)||(decide (b<(1:Int))))||(decide (l<(1:Int)))) with j | j
 refine lf (bN j) (lf (bN j) (lf (bN j) (lf (bN j) (lf (bN j) (lf (bN j) (lf (bN j) (lO (dX (decide (b>(ix v1.Dims g))) R j) (aC ?_))))))))
 exact qJ (fun w s=>s)
 refine lW (bJ j) (vI R) (lW (bJ j) (dS 0 fW R) (lW (bJ j) (dV 1 cB R R R) (lW (bJ j) (vI R) (bG 2 aA (show 0<v1.Dims.length by have:=(a6 j); omega) (fun b0 o13 ha=>?_)))))
 subst ha
 refine lW (bJ j) (eE bT cS R R (a6 j)) (lW (bJ j) (hX 2 fR aA R (a6 j)) (lW (bJ j) (yM R R) (lO (eH R j R) (aC ?_))))
 exact qJ (fun w s=>s)
 rintro σ1
 refine aE ?_
 rcases cG q with ⟨a3,q⟩|⟨a3,q⟩
 refine bS R a3 (aI (aD (lO (vz (.agg [(.slice none 0 0),(.slice none 0 0),(iv 0),(iv 0)].toArray) (aV dU cC R R)) (aL 0 R R bX R R R R R R (aC (aE (bO (bP ?_))))))))
 obtain rfl:=so q
 exact cY (vs:=[(.agg [(.slice none 0 0),(.slice none 0 0),(iv 0),(iv 0)].toArray)]) (.inl R) ((none,0,0),(none,0,0)) R ⟨⟨0,b8,_,_,R,R,.inl ⟨eU,bX,R⟩⟩,trivial⟩ R (fun w s=>(((s.nilr kT3).nilr kT3).e 6 [1,0]))
 refine bC R a3 (bZ (aE (aI ?_)))
 obtain ⟨i,an,q⟩:=bd q
 refine aD (lO (vz (.agg [(sc A2 v1.Dims D2),(sc A3 v1.Strides D3),(iv v1.Offset),(iv v1.Base)].toArray) (bK 1 eU bX R R R R)) (lM (RR kT3 A2 D2 v1.Dims::RR kT3 A3 D3 v1.Strides::aJ _ _ _::E) (fun w s=>(((s.d 2 R).d 4 R).e 3 [1,0,2])) ?_))
 refine lC 2 wm R (Z2e_ok an) R ?_
 rintro ⟨⟨ai,aw,O⟩,⟨ah,ax,D⟩⟩
 refine lN (ow kT3 3 (.slice ai aw O) i.Dims::ow kT3 3 (.slice ah ax D) i.Strides::_::E) ?_
 refine aM 0 aB ?_
 rintro rfl
 refine aM 1 aB ?_
 rintro rfl
 refine aY R R cC (fun T=>(aL 0 R R bX R R R R R R (lN (aJ T [(sc ai i.Dims O),(sc ah i.Strides D),(iv i.Offset),(iv i.Base)] 111::_::_::_::E) ?_)))
 refine aC (aE (aI ?_))
 obtain ⟨a7,q⟩:=gd q
 obtain ⟨aj,q⟩:=gd q
 refine aD (lO (dS 0 fW R) (lO (dV 4 cB R R R) (lI R (bG 5 aA (show 0<v1.Dims.length by have:=a7; omega) (fun b1 o25 ha=>?_)))))
 subst ha
 refine lO (eE bT cS R R a7) (lO (hX 5 fR aA R a7) (lI R (lO (x0 R R) (lI R (lO (vz (iv (aK ((aK ((ix v1.Dims g) - b)).tdiv l))) (mC R R aj)) (lO (kM R R) (lI R (aC (aE (aI ?_))))))))))
 obtain ⟨a8,q⟩:=gd q
 refine aD (lO (dS 1 fK R) (lO (dV 4 cB R R R) (lI R (bG 6 aA (show 0<v1.Strides.length by have:=a8; omega) (fun b2 o29 ha=>?_)))))
 subst ha
 refine lO (eE bT cS R R a8) (lO (hX 6 fR aA R a8) (lI R (aC (aE (aI ?_)))))
 obtain ⟨a0,q⟩:=gd q
 refine aD (lO (dS 0 fW R) (lO (dV 0 cB R R R) (lI R (lI R (bG 1 aB (show 0<i.Dims.length by have:=a0; omega) (fun Z o32 ha=>?_))))))
 subst ha
 refine lO (eE bT cS R R a0) (lM (OO kT3 3 (ad Z o32) O i.Dims::aJ T [(sc (ad Z o32) i.Dims O),(sc ah i.Strides D),(iv i.Offset),(iv i.Base)] 111::ow _ _ _ _::aJ _ _ _::E) (fun w s=>(s.e 4 [1,0,2,3])) ?_)
 refine dZ (K:=kT3) (x':=(aK ((aK ((aK ((ix v1.Dims g) - b)).tdiv l))+(1:Int)))) 0 g R R cS R R a0.1 a0.2 ?_ ?_
 exact fun I h s=>(hD).put I h () (aK ((aK ((aK ((ix v1.Dims g) - b)).tdiv l))+(1:Int))) s
 refine lN (ow kT3 3 (.slice (ad Z o32) i.Dims.length O) (i.Dims.set g.toNat (aK ((aK ((aK ((ix v1.Dims g) - b)).tdiv l))+(1:Int))))::_::_::_::E) ?_
 refine aC ?_
 obtain ⟨B,a9,q⟩:=bd q
 replace a9:=Option.some.inj a9
 refine qM (ow kT3 3 (.slice (ad Z o32) i.Dims.length O) B::_::_::_::E) (fun w s=>by rw [← a9]; exact s) ?_
 refine aE (aI ?_)
 obtain ⟨J,q⟩:=gd q
 refine aD (lO (dS 1 fK R) (lO (dV 1 cB R R R) (lI R (bG 2 aB (show 0<i.Strides.length by have:=J; omega) (fun G o37 ha=>?_)))))
 subst ha
 refine lO (eE bT cS R R J) (lM (OO kT3 3 (ad G o37) D i.Strides::ow _ _ _ _::aJ T [(sc (ad Z o32) i.Dims O),(sc (ad G o37) i.Strides D),(iv i.Offset),(iv i.Base)] 111::aJ _ _ _::E) (fun w s=>(s.e 4 [2,0,1,3])) ?_)
 refine dZ (K:=kT3) (x':=(0:Int)) 0 g R R cS R R J.1 J.2 ?_ ?_
 exact fun I h s=>(hD).put I h () (0:Int) s
 refine lN (ow kT3 3 (.slice (ad G o37) i.Strides.length D) (i.Strides.set g.toNat (0:Int))::_::_::_::E) ?_
 refine aC (aE (aI (bE (A:=((List Int))×(Unit)) (fun a=>Z0c_J1 v1 g b i B a.1=some r) (fun a=>[(2,(iv b)),(8,(pt b8 0)),(9,(pt T 0)),(11,(iv (ix v1.Strides g)))]) (fun a=>aJ b8 [(.slice none 0 0),(.slice none 0 0),(iv 0),(iv 0)] 111::aJ T [(sc (ad Z o32) i.Dims O),(sc (ad G o37) i.Strides D),(iv i.Offset),(iv i.Base)] 111::ow kT3 3 (.slice (ad Z o32) i.Dims.length O) B::ow kT3 3 (.slice (ad G o37) i.Strides.length D) a.1::E) ?_ ?_)))
 refine aI (aD (lI R (lO (yM R R) (aC (aE ?_)))))
 rcases cG q with ⟨a4,q⟩|⟨a4,q⟩
 refine bS R a4 (aD (lO (dS 1 fK R) (lO (dV 2 cB R R R) (lI R (lI R (lI R (lO (s6 R R) (lO (eE bT cS R R J) (dZ (K:=kT3) (x':=(aK ((ix v1.Strides g)*l))) 0 g R R cS R R J.1 J.2 ?_ ?_)))))))))
 exact fun I h s=>(hD).put I h () (aK ((ix v1.Strides g)*l)) s
 refine lN (ow kT3 3 (.slice (ad G o37) i.Strides.length D) ((i.Strides.set g.toNat (0:Int)).set g.toNat (aK ((ix v1.Strides g)*l)))::_::_::_::E) ?_
 refine aC ?_
 obtain ⟨ap,aa,q⟩:=bd q
 replace aa:=Option.some.inj aa
 refine qM (ow kT3 3 (.slice (ad G o37) i.Strides.length D) ap::_::_::_::E) (fun w s=>by rw [← aa]; exact s) ?_
 exact qI (ap,()) q (fun w s=>(s.e 4 [3,2,1,0]))
 refine bC R a4 (bZ ?_)
 exact qI ((i.Strides.set g.toNat (0:Int)),()) q (fun w s=>(s.e 4 [3,2,1,0]))
 rintro ⟨L,_⟩ σ1 q
 replace q:Z0c_J1 v1 g b i B L=some r:=q
 unfold Z0c_J1 at q
 refine aI ?_
 obtain ⟨ak,q⟩:=gd q
 refine aD (lO (dS 0 fW R) (lO (dV 1 cB R R R) (lI R (bU (K:=kT3) (xs:=([b]:List Int)) (vs:=[(iv b)]) 0 R R bT cS iu R R R R R R ?_ R (fun aq au=>?_)))))
 exact fun I h s=>(hD).list [((),b)] I h s
 refine lN (OO kT3 3 aq au ([b]:List Int)::_::_::_::ow kT3 3 (.slice (ad G o37) i.Strides.length D) L::E) ?_
 refine lM (ow _ _ _ _::ow _ _ _ _::aJ _ _ _::aJ _ _ _::ow _ _ _ _::E) (fun w s=>(s.e 5 [3,0,1,2,4])) ?_
 refine eO (K:=kT3) 17592186044416 R R bT cS kN (Zr.zk zT3 iu) R R R R R R dQ ak (fun U Y=>(lN (OO kT3 3 U Y (B++([b]:List Int))::_::_::_::E) ?_))
 refine lO (dS 0 fW R) (cT 2 R R gB R R R R R (lN (_::_::aJ T [(sc U (B++([b]:List Int)) Y),(sc (ad G o37) i.Strides D),(iv i.Offset),(iv i.Base)] 111::_::E) ?_))
 refine aC (aE (aI (bE (A:=(Int)×(Unit)) (fun a=>Z0c_J2 b i B L a.1=some r) (fun a=>[(8,(pt b8 0)),(9,(pt T 0)),(11,(iv a.1))]) (fun a=>aJ b8 [(.slice none 0 0),(.slice none 0 0),(iv 0),(iv 0)] 111::aJ T [(sc U (B++([b]:List Int)) Y),(sc (ad G o37) i.Strides D),(iv i.Offset),(iv i.Base)] 111::OO kT3 3 U Y (B++([b]:List Int))::ow kT3 3 (.slice (ad G o37) i.Strides.length D) L::E) ?_ ?_)))
 refine aI (aD (lI R (lO (m5 R R) (aC (aE ?_)))))
 rcases cG q with ⟨a5,q⟩|⟨a5,q⟩
 refine bS R a5 (aD (lI R (aC ?_)))
 exact qI ((0:Int),()) q (fun w s=>(s.e 4 [1,2,0,3]))
 refine bC R a5 (bZ ?_)
 exact qI ((ix v1.Strides g),()) q (fun w s=>(s.e 4 [1,2,0,3]))
 rintro ⟨M,_⟩ σ1 q
 replace q:Z0c_J2 b i B L M=some r:=q
 unfold Z0c_J2 at q
 refine aI ?_
 obtain ⟨al,q⟩:=gd q
 refine aD (lO (dS 1 fK R) (lO (dV 1 cB R R R) (lI R (bU (K:=kT3) (xs:=([M]:List Int)) (vs:=[(iv M)]) 0 R R bT cS iu R R R R R R ?_ R (fun ar av=>?_)))))
 exact fun I h s=>(hD).list [((),M)] I h s
 refine lN (OO kT3 3 ar av ([M]:List Int)::_::_::_::_::E) ?_
 refine lM (ow _ _ _ _::ow _ _ _ _::aJ _ _ _::aJ _ _ _::ow _ _ _ _::E) (fun w s=>(s.f 5 [4,1,0,4])) ?_
 refine eO (K:=kT3) 17592186044416 R R bT cS kN (Zr.zk zT3 iu) R R R R R R dQ al (fun a1 a2=>(lN (OO kT3 3 a1 a2 (L++([M]:List Int))::_::_::_::E) ?_))
 refine lO (dS 1 fK R) (cT 2 R R gB R R R R R (lN (_::_::aJ T [(sc U (B++([b]:List Int)) Y),(sc a1 (L++([M]:List Int)) a2),(iv i.Offset),(iv i.Base)] 111::_::E) ?_))
 refine aC (aE (aI ?_))
 obtain ⟨F,ao,q⟩:=bd q
 refine aD (lO (vz (.agg [(sc U (B++([b]:List Int)) Y),(sc a1 (L++([M]:List Int)) a2),(iv i.Offset),(iv i.Base)].toArray) (bK 2 eU bX R R R R)) (je (fun w s=>s.shr 3 R) (je (fun w s=>s.shr 1 R) (lM (RR kT3 U Y (B++([b]:List Int))::RR kT3 a1 a2 (L++([M]:List Int))::RR kT3 a1 a2 (L++([M]:List Int))::RR kT3 U Y (B++([b]:List Int))::aJ _ _ _::aJ _ _ _::E) (fun w s=>(((s.d 1 R).d 1 R).e 6 [1,0,2,3,4,5])) ?_))))
 refine lC 2 wo R (Z2f_ok (v1:=(⟨(B++([b]:List Int)),(L++([M]:List Int)),i.Offset,i.Base⟩:View)) ao) R ?_
 rintro ⟨⟨ab,ay,ae⟩,⟨ac,az,ag⟩⟩
 refine lN (aQ kT3 (.slice ab ay ae) F.Dims::aQ kT3 (.slice ac az ag) F.Strides::_::_::_::_::E) ?_
 refine aM 0 aA ?_
 rintro rfl
 refine aM 1 aA ?_
 rintro rfl
 refine aL 4 R R bX R R R R R R (lN (_::_::_::_::aJ b8 [(sc ab F.Dims ae),(sc ac F.Strides ag),(iv F.Offset),(iv F.Base)] 111::_::E) ?_)
 refine aC (aE (bO ?_))
 obtain rfl:=so q
 exact cY (vs:=[(.agg [(sc ab F.Dims ae),(sc ac F.Strides ag),(iv F.Offset),(iv F.Base)].toArray)]) (.inl R) ((ab,F.Dims.length,ae),(ac,F.Strides.length,ag)) R ⟨⟨4,b8,_,_,R,R,.inl ⟨eU,bX,R⟩⟩,trivial⟩ R (fun w s=>(s.e 9 [0,1]))
theorem Z0r_ok  {t1:Tensor}{i:Int}{j:Int}{J:Int}{r:Tensor}(b:Z0r t1 i j J=some r) :
 FnOk Tryz.prog 101 [(.agg [(.slice A2 N2 D2),(.slice A3 N3 D3)].toArray),(iv i),(iv j),(iv J)] [aQ kT3 (.slice A2 N2 D2) t1.Dims,aQ kT3 (.slice A3 N3 D3) t1.Data] (fun (h:HH×HH)=>((.agg [(s3 h.1),(s3 h.2)].toArray),[ow kT3 3 (s3 h.1) r.Dims,ow kT3 3 (s3 h.2) r.Data])):=by
 unfold Z0r at b
 refine aR Tryz.func101 R 118 R R fun C V=>?_
 refine cL 0 aA ?_
 rintro rfl
 refine cL 1 aA ?_
 rintro rfl
 let W0:=RR kT3 A2 D2 t1.Dims::RR kT3 A3 D3 t1.Data::V
 refine cN W0 ?_
 refine aZ ?_
 refine eA R fun b7=>?_
 refine aY R R dN (fun L=>(aC ?_))
 let T:=aJ b7 [(sc A2 t1.Dims D2),(sc A3 t1.Data D3)] 42::W0
 refine iY ?_
 obtain ⟨r9,a9,b⟩:=bd b
 refine cQ [(1,(iv i)),(2,(iv j)),(3,(iv J)),(4,(pt b7 0)),(8,(pt L 0)),(9,(iv (aK ((t1.Dims.length:Int) - 1)))),(40,(.bool (((((!r9)||(i==(aK ((t1.Dims.length:Int) - 1))))||(decide (j<1)))||(decide (J<1)))||(decide (J>4096)))))] (aJ L [(.slice none 0 0),(.slice none 0 0)] 42::T) ?_ ?_
 refine aU ?_
 refine lM _ (fun w s=>(((s.d 2 R).d 4 R).e 3 [1,0,2])) ?_
 refine lC 2 oP R (Z1g_ok a9) R ?_
 rintro _
 refine aZ ?_
 rcases bo (!r9) with a1 | a1
 refine rv ?_
 exact qj tI
 refine cR ?_
 rcases bo ((!r9)||(i==(aK ((t1.Dims.length:Int) - 1)))) with a2 | a2
 refine iY ?_
 exact qj tI
 refine bI ?_
 rcases bo (((!r9)||(i==(aK ((t1.Dims.length:Int) - 1))))||(decide (j<1))) with a3 | a3
 refine dI ?_
 exact qj tI
 refine bI ?_
 rcases bo ((((!r9)||(i==(aK ((t1.Dims.length:Int) - 1))))||(decide (j<1)))||(decide (J<1))) with a4 | a4
 refine bI ?_
 exact qj tI
 refine bI ?_
 exact qj tI
 rintro σ1
 refine cA ?_
 split at b
 refine aU ?_
 refine lO (vz (.agg [(.slice none 0 0),(.slice none 0 0)].toArray) (aV hG dN R R)) (aL 0 R R bW R R R R R R (aC (aE (bO (bP ?_)))))
 cases b
 exact qS ((none,0,0),(none,0,0)) (fun w s=>(((s.nilo kT3 3).nilo kT3 3).e 6 [1,0]))
 refine bI ?_
 obtain ⟨a5,b⟩:=gd b
 refine bI ?_
 refine bG 2 aA (show 0<t1.Dims.length by have:=a5; omega) (fun b4 o18 ha=>?_)
 subst ha
 refine dO ?_
 obtain ⟨a6,b⟩:=gd b
 obtain ⟨M,b⟩:=gd b
 refine cQ [(1,(iv i)),(2,(iv j)),(3,(iv J)),(4,(pt b7 0)),(8,(pt L 0)),(9,(iv (aK ((t1.Dims.length:Int) - 1)))),(63,(.bool ((decide ((ix t1.Dims (aK ((t1.Dims.length:Int) - 1)))>J))||((aK ((aK ((aK (J - (ix t1.Dims (aK ((t1.Dims.length:Int) - 1))))).tdiv j))+1)) != (ix t1.Dims i)))))] (aJ L [(.slice none 0 0),(.slice none 0 0)] 42::T) ?_ ?_
 rcases bo (decide ((ix t1.Dims (aK ((t1.Dims.length:Int) - 1)))>J)) with D | D
 refine cX 17 [] bM fun ht hn=>?_
 refine yV 0 [] ?_
 refine dD ?_
 exact qj tI
 refine cX 17 [] bM fun ht hn=>?_
 refine uJ 0 [] ?_
 refine dW 8 R (bJ D) (vz (iv (aK ((aK (J - (ix t1.Dims (aK ((t1.Dims.length:Int) - 1))))).tdiv j))) (mC R R (a6 D))) ?_
 refine oK 9 [] ?_
 refine dW 13 R (bJ D) (eE bT cS R R (M D)) (dW 14 R (bJ D) (hX 2 fR aA R (M D)) ?_)
 refine hY 15 [] ?_
 refine dD ?_
 exact qj tI
 rintro σ1
 refine cA ?_
 split at b
 refine aU ?_
 refine lO (vz (.agg [(.slice none 0 0),(.slice none 0 0)].toArray) (aV hG dN R R)) (aL 0 R R bW R R R R R R (aC (aE (bO (bP ?_)))))
 cases b
 exact qS ((none,0,0),(none,0,0)) (fun w s=>(((s.nilo kT3 3).nilo kT3 3).e 6 [1,0]))
 refine bI ?_
 obtain ⟨b9,aa,b⟩:=bd b
 obtain ⟨G,b⟩:=gd b
 refine cR ?_
 refine lM _ (fun w s=>(s.d 2 R)) ?_
 refine lC 1 kY R (Z0h_ok aa) R ?_
 rintro ⟨aq,az,aw⟩
 refine aM 0 aB ?_
 rintro rfl
 refine lI R (je (fun w s=>s.shr 0 R) (gQ (K:=kT3) (0:Int) (aK ((t1.Dims.length:Int) - 1)) 0 R R bT cS R R R R G.1 G.2.1 G.2.2 (fun ar ax=>(lS R (aC (aE (aI (aI ?_))))))))
 obtain ⟨ba,ab,b⟩:=bd b
 refine aZ ?_
 refine lM _ (fun w s=>(s.d 0 R)) ?_
 refine lC 1 kr R (Zo_ok ab) R ?_
 rintro _
 refine aU ?_
 split at b
 refine aU ?_
 refine lO (vz (.agg [(.slice none 0 0),(.slice none 0 0)].toArray) (aV hG dN R R)) (aL 2 R R bW R R R R R R (aC (aE (bO (bP ?_)))))
 cases b
 exact qS ((none,0,0),(none,0,0)) (fun w s=>(((s.nilo kT3 3).nilo kT3 3).e 8 [1,0]))
 refine bI ?_
 obtain ⟨g,ac,b⟩:=bd b
 refine aZ ?_
 refine lM _ (fun w s=>(s.d 0 R)) ?_
 refine lC 1 kX R (Z0g_ok ac) R ?_
 rintro ⟨⟨l,b0,q⟩,⟨m,b1,u⟩⟩
 refine aM 0 aB ?_
 rintro rfl
 refine aM 1 aB ?_
 rintro rfl
 refine aY R R dN (fun F=>(aL 0 R R bW R R R R R R (lN (aJ F [(sc l g.Dims q),(sc m g.Data u)] 42::_::_::_::_::_::T) ?_)))
 refine aU ?_
 refine bE (A:=((List Int))×(Unit)) (fun a=>Z0r_J1 g a.1=some r) (fun a=>[(8,(pt L 0)),(12,(pt F 0))]) (fun a=>aJ L [(.slice none 0 0),(.slice none 0 0)] 42::aJ F [(sc l g.Dims q),(sc m g.Data u)] 42::OO kT3 3 l q g.Dims::ow kT3 3 (.slice m g.Data.length u) a.1::T) ?_ ?_
 refine cE ?_
 obtain ⟨e1,an,am⟩:=bd b
 refine bF (A:=Unit) an (fun s a=>[(1,(iv i)),(2,(iv j)),(4,(pt b7 0)),(8,(pt L 0)),(9,(iv (aK ((t1.Dims.length:Int) - 1)))),(12,(pt F 0)),(13,(iv s.2))]) (fun s a=>aJ L [(.slice none 0 0),(.slice none 0 0)] 42::aJ F [(sc l g.Dims q),(sc m g.Data u)] 42::OO kT3 3 l q g.Dims::ow kT3 3 (.slice m g.Data.length u) s.1::T) () (aS R) (tE 6 [5,0,1,2]) ?_
 rintro ⟨E,b6⟩ _ σ1 ap b al
 dsimp only [Z0r_L1] at b
 refine dA ?_
 split at b
 refine cE ?_
 obtain ⟨O,ae,b⟩:=bd b
 refine bI ?_
 refine lM _ (fun w s=>(s.d 5 R)) ?_
 refine lC 1 lU R (Zj_ok ae) R ?_
 rintro ⟨au,b2,Y⟩
 refine aM 0 aB ?_
 rintro rfl
 refine bI ?_
 obtain ⟨a7,b⟩:=gd b
 obtain ⟨_,b⟩:=gd b
 obtain ⟨ak,ag,b⟩:=bd b
 obtain ⟨I,b⟩:=gd b
 refine bA 0 aB (show 0<O.length by have:=a7; omega) (fun a0 o66 ha=>?_)
 subst ha
 refine cX 17 [] bM fun ht hn=>?_
 refine mI 0 [] ?_
 refine dR 14 R (vI R) (d1 13 R (lC 1 kY R (FnOk.lends (A':=[OO kT3 3 (ad a0 o66) Y O]) (A:=[RR kT3 (ad a0 o66) Y O]) (B:=[]) (Z0h_ok ag) ⟨aP,trivial⟩ (fun _=>⟨(bB iF),trivial⟩)) R ?_))
 rintro ⟨av,b3,ay⟩
 refine aM 1 aB ?_
 rintro rfl
 refine aC (aG (sL [1]) (d1 15 R (je (fun w s=>s.shr 1 R) (gQ (K:=kT3) (0:Int) (aK ((t1.Dims.length:Int) - 1)) 0 R R bT cS R R R R I.1 I.2.1 I.2.2 (fun U Z=>(aC (aG (sL [1,0]) (dR 16 R (vS R) (hS:=(sL [1,0])) (dD (aE ?_))))))))))
 obtain ⟨bb,ah,b⟩:=bd b
 obtain ⟨a8,b⟩:=gd b
 obtain ⟨bc,ai,b⟩:=bd b
 obtain ⟨be,aj,b⟩:=bd b
 refine bA 9 aA (show 0<t1.Data.length by have:=a8; omega) (fun b5 o77 ha=>?_)
 subst ha
 refine cX 12 [6] bM fun ht hn=>?_
 refine oK 0 [6] ?_
 refine kz 5 [6] ?_
 refine d1 4 R (lM _ (fun w s=>((s.d 0 R).f 8 [6,2,0,6])) ?_)
 refine lC 3 nr R (FnOk.lends (A':=[OO kT3 3 l q g.Dims,ow kT3 3 (.slice m g.Data.length u) E]) (A:=[RR kT3 l q g.Dims,aQ kT3 (.slice m g.Data.length u) E]) (B:=[RR kT3 U Z (sub ak (0:Int) (aK ((t1.Dims.length:Int) - 1)))]) (Z16_ok (t1:=(⟨g.Dims,E⟩:Tensor)) ah) ⟨aP,aP,trivial⟩ (fun _=>trivial)) R ?_
 rintro _
 refine aC (aG (fun w s=>(s.f 7 [2,5,0,1])) (d1 10 R (lC 0 qz R (Z1m_ok ai) R ?_)))
 rintro _
 refine aC (aG (fun w s=>(s.f 7 [2,5,0,1])) (d1 11 R (lM _ (fun w s=>((s.d 2 R).f 8 [1,2,0,1,3,5])) ?_)))
 refine lC 3 t6 R (FnOk.lends (A':=[OO kT3 3 l q g.Dims]) (A:=[RR kT3 l q g.Dims]) (B:=[ow kT3 3 (.slice m g.Data.length u) E,RR kT3 U Z (sub ak (0:Int) (aK ((t1.Dims.length:Int) - 1)))]) (Z1x_ok (t1:=(⟨g.Dims,E⟩:Tensor)) aj) ⟨aP,trivial⟩ (fun _=>⟨(bB iF),trivial⟩)) R ?_
 rintro _
 refine aC (aG (fun w s=>(s.f 7 [2,5,0,1])) (dD ?_))
 refine dO ?_
 cases b
 exact qA () (tE 7 [5,6,0,1])
 refine aU ?_
 cases b
 obtain rfl:=al _ R
 have b:=am
 refine aZ ?_
 exact qI (E,()) b tI
 rintro ⟨ao,_⟩ σ1 b
 dsimp only [Z0r_J1] at b
 refine aU ?_
 refine aL 0 R R bW R R R R R R (lN (aJ L [(sc l g.Dims q),(sc m g.Data u)] 42::_::_::ow kT3 3 (.slice m g.Data.length u) ao::T) ?_)
 refine aU ?_
 cases b
 exact qS ((l,g.Dims.length,q),(m,g.Data.length,u)) (tE 7 [2,3])
theorem Z1_ok  {j:Node}{g:(List Tensor)}{r:Tensor}(b:Z1 j g=some r) :
 FnOk Tryz.prog 78 [(.agg [(iv j.Op),(.slice A2 N2 D2),(.slice A3 N3 D3),(.slice A4 N4 D4),(aH j.Form),(.slice A5 N5 D5)].toArray),(.slice A7 N7 D7)] [aQ kT3 (.slice A2 N2 D2) j.Args,aQ kT3 (.slice A3 N3 D3) j.Dims,aQ kT3 (.slice A4 N4 D4) j.Ints,aQ kT3 (.slice A5 N5 D5) j.Data,aQ dY (.slice A7 N7 D7) g] (fun (h:HH×HH)=>((.agg [(.slice h.1.1 h.1.2.1 h.1.2.2),(.slice h.2.1 h.2.2.1 h.2.2.2)].toArray),[ow kT3 3 (.slice h.1.1 h.1.2.1 h.1.2.2) r.Dims,ow kT3 3 (.slice h.2.1 h.2.2.1 h.2.2.2) r.Data])):=by
 unfold Z1 at b
 refine aR Tryz.func78 R 217 R R fun C V=>?_
 refine cN (_::_::_::_::_::V) ?_
 refine cL 0 aA ?_
 rintro rfl
 refine cL 1 aA ?_
 rintro rfl
 refine cL 2 aA ?_
 rintro rfl
 refine cL 3 aA ?_
 rintro rfl
 refine cL 4 aA ?_
 rintro rfl
 let W0:List HP:=RR kT3 A2 D2 j.Args::RR kT3 A3 D3 j.Dims::RR kT3 A4 D4 j.Ints::RR kT3 A5 D5 j.Data::RR dY A7 D7 g::V
 refine cN W0 ?_
 refine aI (aD (eA R (fun b8=>(aY R R dN (fun l=>(aC ?_))))))
 let i:List HP:=aJ b8 [(iv j.Op),(sc A2 j.Args D2),(sc A3 j.Dims D3),(sc A4 j.Ints D4),(aH j.Form),(sc A5 j.Data D5)] 65::W0
 refine qN (_::i) ?_
 refine aE (aI (aD (lO (dS 3 gJ R) (lO (dV 1 cB R R R) (lS R (aC (aE (aI (aI (aD (lO (dS 0 fS R) (lO (dV 1 fR R R R) (aC (aE (dK (aI (aD (lO (m5 R R) (lB R (aC (aE ?_)))))))))))))))))))))
 rcases cG b with ⟨d9,b⟩|⟨d9,b⟩
 refine bS R d9 (aI (aD (lO (dS 2 iG R) (lO (dV 1 cB R R R) (lO (dS 5 kB R) (lO (dV 1 cB R R R) (lO (vz (.agg [(sc A3 j.Dims D3),(sc A5 j.Data D5)].toArray) (aV hG dN R R)) (aY R R dN (fun ic=>(aL 0 R R bW R R R R R R (lN (aJ ic [(sc A3 j.Dims D3),(sc A5 j.Data D5)] 42::_::i) ?_)))))))))))
 refine aC (aE (aI (aI ?_)))
 obtain ⟨ir,he,b⟩:=bd b
 refine aD (lO (vz (.agg [(sc A3 j.Dims D3),(sc A5 j.Data D5)].toArray) (bK 0 eR bW R R R R)) (lM (RR kT3 A3 D3 j.Dims::RR kT3 A5 D5 j.Data::aJ _ _ _::aJ _ _ _::i) (fun w s=>(((s.d 4 R).d 7 R).e 4 [1,0,2,3])) ?_))
 refine lC 2 mL R (Zi_ok (t1:=(⟨j.Dims,j.Data⟩:Tensor)) he) R ?_
 rintro _
 refine lN (_::_::i) ?_
 refine lO (ki R) (aC (aE ?_))
 rcases cG b with ⟨da,b⟩|⟨da,b⟩
 refine bS R da (aI (aD (lO (vz (.agg [(.slice none 0 0),(.slice none 0 0)].toArray) (aV hG dN R R)) (aL 1 R R bW R R R R R R (aC (aE (bO (bP (cF (bP ?_))))))))))
 obtain rfl:=so b
 exact cY (vs:=[(.agg [(.slice none 0 0),(.slice none 0 0)].toArray)]) (.inl R) ((none,0,0),(none,0,0)) R ⟨⟨1,l,_,_,R,R,.inl ⟨eR,bW,R⟩⟩,trivial⟩ R (fun w s=>(((s.nilo kT3 3).nilo kT3 3).e 10 [1,0]))
 refine bC R da (bZ (aE (aI ?_)))
 obtain ⟨e1,hf,b⟩:=bd b
 obtain ⟨e2,hg,b⟩:=bd b
 refine cX 8 [1] bM (fun ht hn=>(dR 0 R (dS 2 iG R) (hS:=(sL [1])) (dR 1 R (dV 1 cB R R R) (hS:=(sL [1])) (dR 3 R (dS 5 kB R) (hS:=(sL [1])) (dR 4 R (dV 1 cB R R R) (hS:=(sL [1])) (d1 2 R (lM (RR kT3 A3 D3 j.Dims::_::_::i) (fun w s=>(s.d 4 R)) ?_)))))))
 refine lC 1 iP R (Z9_ok hf) R ?_
 rintro ⟨ca,hs,cx⟩
 refine lN (ow kT3 3 (.slice ca hs cx) e1::_::_::i) ?_
 refine aM 0 aB ?_
 rintro rfl
 refine aC (aG (sL [2,0]) (d1 5 R (lM (RR kT3 A5 D5 j.Data::_::_::_::i) (fun w s=>(s.d 7 R)) ?_)))
 refine lC 1 iP R (Z9_ok hg) R ?_
 rintro ⟨cg,hu,d2⟩
 refine lN (ow kT3 3 (.slice cg hu d2) e2::_::_::_::i) ?_
 refine aM 0 aB ?_
 rintro rfl
 refine aC (aG (sL [3,1,0]) (dR 6 R (vz (.agg [(sc ca e1 cx),(sc cg e2 d2)].toArray) (aV hG dN R R)) (hS:=(sL [3,1,0])) (d1 7 R (aL 3 R R bW R R R R R R (lN (_::_::_::aJ l [(sc ca e1 cx),(sc cg e2 d2)] 42::i) ?_)))))
 refine aC (aG (sL [3,1,0]) (dD (aE (bO (cF (bP ?_))))))
 obtain rfl:=so b
 exact cY (vs:=[(.agg [(sc ca e1 cx),(sc cg e2 d2)].toArray)]) (.inl R) ((ca,e1.length,cx),(cg,e2.length,d2)) R ⟨⟨3,l,_,_,R,R,.inl ⟨eR,bW,R⟩⟩,trivial⟩ R (fun w s=>(s.e 10 [1,0]))
 refine bC R d9 (aI (bE (A:=(Bool)×(Unit)) (fun a=>Z1_J1 j g a.1=some r) (fun a=>[(1,(sc A7 g D7)),(2,(pt b8 0)),(4,(pt l 0)),(5,(sc A4 j.Ints D4)),(10,(iv j.Op)),(29,(.bool a.1))]) (fun a=>aJ l [(.slice none 0 0),(.slice none 0 0)] 42::i) ?_ ?_))
 refine aI (aD (lO (m5 R R) (lB R (aC (aE ?_)))))
 rcases cG b with ⟨db,b⟩|⟨db,b⟩
 refine bS R db (bZ ?_)
 exact qI ((j.Op==(3:Int)),()) b (fun w s=>s)
 refine bC R db (aI (aD (lO (m5 R R) (lB R (aC (aE ?_))))))
 rcases cG b with ⟨dc,b⟩|⟨dc,b⟩
 refine bS R dc (bZ ?_)
 exact qI ((j.Op==(4:Int)),()) b (fun w s=>s)
 refine bC R dc (aD (lO (m5 R R) (lB R (aC ?_))))
 exact qI ((j.Op==(5:Int)),()) b (fun w s=>s)
 rintro ⟨ig,_⟩ σ1 b
 replace b:Z1_J1 j g ig=some r:=b
 unfold Z1_J1 at b
 rcases cG b with ⟨dd,b⟩|⟨dd,b⟩
 refine bS R dd (aI (aI ?_))
 obtain ⟨a0,b⟩:=gd b
 obtain ⟨bu,b⟩:=gd b
 obtain ⟨it,hh,b⟩:=bd b
 refine bA 6 aA (show 0<g.length by have:=a0; omega) (fun ew o27 m=>?_)
 subst m
 refine dG (K:=dY) 6 (0:Int) dT42.dec R a0.1 a0.2 ?_
 rintro ⟨⟨f6,fg⟩,⟨f7,fh⟩⟩
 refine cN (cl ew (o27+(0:Int).toNat*2) [(sc f6 ((ix g (0:Int)).Dims) fg),(sc f7 ((ix g (0:Int)).Data) fh)]::RR kT3 f6 fg ((ix g (0:Int)).Dims)::RR kT3 f7 fh ((ix g (0:Int)).Data)::aJ l [(.slice none 0 0),(.slice none 0 0)] 42::i) ?_
 refine dG (K:=dY) 9 (1:Int) dT42.dec R bu.1 bu.2 ?_
 rintro ⟨⟨f8,fi⟩,⟨f9,fj⟩⟩
 refine cN (cl ew (o27+(1:Int).toNat*2) [(sc f8 ((ix g (1:Int)).Dims) fi),(sc f9 ((ix g (1:Int)).Data) fj)]::RR kT3 f8 fi ((ix g (1:Int)).Dims)::RR kT3 f9 fj ((ix g (1:Int)).Data)::_::_::_::_::i) ?_
 refine cX 10 [] bM (fun ht hn=>(dR 0 R (vS R) (dR 1 R (eE gX bW R R a0) (dR 2 R (vz (.pointer (some ⟨ew,o27+(0:Int).toNat*2,none⟩)) (gN fT R R)) (dR 3 R (eD (fo:=0) 3 cB R R R) (dR 4 R (vS R) (dR 5 R (eE gX bW R R bu) (dR 6 R (vz (.pointer (some ⟨ew,o27+(1:Int).toNat*2,none⟩)) (gN fT R R)) (dR 7 R (eD (fo:=0) 0 cB R R R) (d1 8 R (lM (aQ _ _ _::aQ _ _ _::cl _ _ _::aQ _ _ _::aQ _ _ _::cl _ _ _::aQ _ _ _::aQ _ _ _::aJ _ _ _::i) (fun w s=>(((s.d 4 R).d 2 R).f 9 [1,1,0,1,2,7])) ?_)))))))))))
 refine lC 2 uP R (Zv_ok hh) R ?_
 rintro _
 refine lN (_::_::_::_::_::_::_::i) ?_
 refine aC (aG (sL []) (dR 9 R (ki R) (dD (aE ?_))))
 rcases cG b with ⟨de,b⟩|⟨de,b⟩
 refine bS R de (aI (aD (lO (vz (.agg [(.slice none 0 0),(.slice none 0 0)].toArray) (aV hG dN R R)) (aL 6 R R bW R R R R R R (aC (aE (bO (bP (cF (bP ?_))))))))))
 obtain rfl:=so b
 exact cY (vs:=[(.agg [(.slice none 0 0),(.slice none 0 0)].toArray)]) (.inl R) ((none,0,0),(none,0,0)) R ⟨⟨6,l,_,_,R,R,.inl ⟨eR,bW,R⟩⟩,trivial⟩ R (fun w s=>(((s.nilo kT3 3).nilo kT3 3).e 15 [1,0]))
 refine bC R de (bZ (aE (aI ?_)))
 obtain ⟨a3,hi,b⟩:=bd b
 refine cX 12 [6] bM (fun ht hn=>(dR 0 R (dS 0 fS R) (hS:=(sL [6])) (dR 1 R (dV 6 fR R R R) (hS:=(sL [6])) (dR 2 R (x0 R R) (hS:=(sL [6])) (dR 3 R (kM R R) (hS:=(sL [6])) (dR 4 R (vS R) (hS:=(sL [6])) (dR 5 R (eE gX bW R R a0) (hS:=(sL [6])) (dR 6 R (vz (.agg [(sc f6 ((ix g (0:Int)).Dims) fg),(sc f7 ((ix g (0:Int)).Data) fh)].toArray) (eJ (fo:=0) 3 eR bW R R R R)) (hS:=(sL [6])) (dR 7 R (vS R) (hS:=(sL [6])) (dR 8 R (eE gX bW R R bu) (hS:=(sL [6])) (dR 9 R (vz (.agg [(sc f8 ((ix g (1:Int)).Dims) fi),(sc f9 ((ix g (1:Int)).Data) fj)].toArray) (eJ (fo:=0) 0 eR bW R R R R)) (hS:=(sL [6])) (d1 10 R (lM (aQ _ _ _::aQ _ _ _::aQ _ _ _::aQ _ _ _::cl _ _ _::aQ _ _ _::aQ _ _ _::cl _ _ _::aQ _ _ _::aQ _ _ _::aJ _ _ _::i) (fun w s=>(((((s.d 4 R).d 6 R).d 3 R).d 5 R).f 11 [3,1,2,1,1,1,0,1,4,7])) ?_)))))))))))))
 refine lC 4 Bd R (Z12_ok hi) R ?_
 rintro ⟨⟨e3,hv,eh⟩,⟨e4,hx,ei⟩⟩
 refine lN (ow kT3 3 (.slice e3 hv eh) a3.Dims::ow kT3 3 (.slice e4 hx ei) a3.Data::_::_::_::_::_::_::_::i) ?_
 refine aM 0 aB ?_
 rintro rfl
 refine aM 1 aB ?_
 rintro rfl
 refine aC (aG (sL [8,1,0]) (d1 11 R (aL 8 R R bW R R R R R R (lN (_::_::_::_::_::_::_::_::aJ l [(sc e3 a3.Dims eh),(sc e4 a3.Data ei)] 42::i) ?_))))
 refine aC (aG (sL [8,1,0]) (dD (aE (bO (cF (bP ?_))))))
 obtain rfl:=so b
 exact cY (vs:=[(.agg [(sc e3 a3.Dims eh),(sc e4 a3.Data ei)].toArray)]) (.inl R) ((e3,a3.Dims.length,eh),(e4,a3.Data.length,ei)) R ⟨⟨8,l,_,_,R,R,.inl ⟨eR,bW,R⟩⟩,trivial⟩ R (fun w s=>(s.e 15 [0,1]))
 refine bC R dd (aI (bE (A:=(Bool)×(Unit)) (fun a=>Z1_J2 j g a.1=some r) (fun a=>[(1,(sc A7 g D7)),(2,(pt b8 0)),(4,(pt l 0)),(5,(sc A4 j.Ints D4)),(10,(iv j.Op)),(55,(.bool a.1))]) (fun a=>aJ l [(.slice none 0 0),(.slice none 0 0)] 42::i) ?_ ?_))
 refine aI (aD (lO (m5 R R) (lB R (aC (aE ?_)))))
 rcases cG b with ⟨df,b⟩|⟨df,b⟩
 refine bS R df (bZ ?_)
 exact qI ((j.Op==(6:Int)),()) b (fun w s=>s)
 refine bC R df (aI (aD (lO (m5 R R) (lB R (aC (aE ?_))))))
 rcases cG b with ⟨dg,b⟩|⟨dg,b⟩
 refine bS R dg (bZ ?_)
 exact qI ((j.Op==(7:Int)),()) b (fun w s=>s)
 refine bC R dg (aI (aD (lO (m5 R R) (lB R (aC (aE ?_))))))
 rcases cG b with ⟨dh,b⟩|⟨dh,b⟩
 refine bS R dh (bZ ?_)
 exact qI ((j.Op==(8:Int)),()) b (fun w s=>s)
 refine bC R dh (aD (lO (m5 R R) (lB R (aC ?_))))
 exact qI ((j.Op==(9:Int)),()) b (fun w s=>s)
 rintro ⟨ih,_⟩ σ1 b
 replace b:Z1_J2 j g ih=some r:=b
 unfold Z1_J2 at b
 rcases cG b with ⟨di,b⟩|⟨di,b⟩
 refine bS R di (aI ?_)
 obtain ⟨bv,b⟩:=gd b
 obtain ⟨a4,hj,b⟩:=bd b
 refine bA 6 aA (show 0<g.length by have:=bv; omega) (fun id o47 m=>?_)
 subst m
 refine dG (K:=dY) 6 (0:Int) dT42.dec R bv.1 bv.2 ?_
 rintro ⟨⟨fa,fk⟩,⟨fb,fl⟩⟩
 refine cN (cl id (o47+(0:Int).toNat*2) [(sc fa ((ix g (0:Int)).Dims) fk),(sc fb ((ix g (0:Int)).Data) fl)]::RR kT3 fa fk ((ix g (0:Int)).Dims)::RR kT3 fb fl ((ix g (0:Int)).Data)::aJ l [(.slice none 0 0),(.slice none 0 0)] 42::i) ?_
 refine cX 9 [3] bM (fun ht hn=>(dR 0 R (dS 0 fS R) (hS:=(sL [3])) (dR 1 R (dV 3 fR R R R) (hS:=(sL [3])) (dR 2 R (x0 R R) (hS:=(sL [3])) (dR 3 R (kM R R) (hS:=(sL [3])) (dR 4 R (vS R) (hS:=(sL [3])) (dR 5 R (eE gX bW R R bv) (hS:=(sL [3])) (dR 6 R (vz (.agg [(sc fa ((ix g (0:Int)).Dims) fk),(sc fb ((ix g (0:Int)).Data) fl)].toArray) (eJ (fo:=0) 0 eR bW R R R R)) (hS:=(sL [3])) (d1 7 R (lM (aQ _ _ _::aQ _ _ _::cl _ _ _::aQ _ _ _::aQ _ _ _::aJ _ _ _::i) (fun w s=>(((s.d 1 R).d 3 R).e 6 [1,0,2,3,4,5])) ?_))))))))))
 refine lC 2 Be R (Z11_ok hj) R ?_
 rintro ⟨⟨e5,hy,ej⟩,⟨e6,hz,ek⟩⟩
 refine lN (ow kT3 3 (.slice e5 hy ej) a4.Dims::ow kT3 3 (.slice e6 hz ek) a4.Data::_::_::_::_::i) ?_
 refine aM 0 aB ?_
 rintro rfl
 refine aM 1 aB ?_
 rintro rfl
 refine aC (aG (sL [5,1,0]) (d1 8 R (aL 5 R R bW R R R R R R (lN (_::_::_::_::_::aJ l [(sc e5 a4.Dims ej),(sc e6 a4.Data ek)] 42::i) ?_))))
 refine aC (aG (sL [5,1,0]) (dD (aE (bO (cF (bP ?_))))))
 obtain rfl:=so b
 exact cY (vs:=[(.agg [(sc e5 a4.Dims ej),(sc e6 a4.Data ek)].toArray)]) (.inl R) ((e5,a4.Dims.length,ej),(e6,a4.Data.length,ek)) R ⟨⟨5,l,_,_,R,R,.inl ⟨eR,bW,R⟩⟩,trivial⟩ R (fun w s=>(s.e 12 [0,1]))
 refine bC R di (aI (aD (lO (m5 R R) (lB R (aC (aE ?_))))))
 rcases cG b with ⟨dj,b⟩|⟨dj,b⟩
 refine bS R dj (aI ?_)
 obtain ⟨bw,b⟩:=gd b
 obtain ⟨e0,b⟩:=gd b
 obtain ⟨a5,hk,b⟩:=bd b
 refine bA 6 aA (show 0<g.length by have:=bw; omega) (fun ie o57 m=>?_)
 subst m
 refine dG (K:=dY) 6 (0:Int) dT42.dec R bw.1 bw.2 ?_
 rintro ⟨⟨fc,fm⟩,⟨fd,fn⟩⟩
 refine cN (cl ie (o57+(0:Int).toNat*2) [(sc fc ((ix g (0:Int)).Dims) fm),(sc fd ((ix g (0:Int)).Data) fn)]::RR kT3 fc fm ((ix g (0:Int)).Dims)::RR kT3 fd fn ((ix g (0:Int)).Data)::aJ l [(.slice none 0 0),(.slice none 0 0)] 42::i) ?_
 refine bA 7 aA (show 0<j.Ints.length by have:=e0; omega) (fun iq o62 m=>?_)
 subst m
 refine cX 8 [3] bM (fun ht hn=>(dR 0 R (vS R) (hS:=(sL [3])) (dR 1 R (eE gX bW R R bw) (hS:=(sL [3])) (dR 2 R (vz (.agg [(sc fc ((ix g (0:Int)).Dims) fm),(sc fd ((ix g (0:Int)).Data) fn)].toArray) (eJ (fo:=0) 0 eR bW R R R R)) (hS:=(sL [3])) (dR 3 R (vS R) (hS:=(sL [3])) (dR 4 R (eE bT cS R R e0) (hS:=(sL [3])) (dR 5 R (hX 6 fR aA R e0) (hS:=(sL [3])) (d1 6 R (lM (aQ _ _ _::aQ _ _ _::cl _ _ _::aQ _ _ _::aQ _ _ _::aJ _ _ _::i) (fun w s=>(((s.d 1 R).d 3 R).e 6 [1,0,2,3,4,5])) ?_)))))))))
 refine lC 2 Bf R (Zc_ok hk) R ?_
 rintro ⟨⟨e7,i0,el⟩,⟨e8,i1,em⟩⟩
 refine lN (ow kT3 3 (.slice e7 i0 el) a5.Dims::ow kT3 3 (.slice e8 i1 em) a5.Data::_::_::_::_::i) ?_
 refine aM 0 aB ?_
 rintro rfl
 refine aM 1 aB ?_
 rintro rfl
 refine aC (aG (sL [5,1,0]) (d1 7 R (aL 5 R R bW R R R R R R (lN (_::_::_::_::_::aJ l [(sc e7 a5.Dims el),(sc e8 a5.Data em)] 42::i) ?_))))
 refine aC (aG (sL [5,1,0]) (dD (aE (bO (cF (bP ?_))))))
 obtain rfl:=so b
 exact cY (vs:=[(.agg [(sc e7 a5.Dims el),(sc e8 a5.Data em)].toArray)]) (.inl R) ((e7,a5.Dims.length,el),(e8,a5.Data.length,em)) R ⟨⟨5,l,_,_,R,R,.inl ⟨eR,bW,R⟩⟩,trivial⟩ R (fun w s=>(s.e 12 [0,1]))
 refine bC R dj (aI (aD (lO (m5 R R) (lB R (aC (aE ?_))))))
 rcases cG b with ⟨dk,b⟩|⟨dk,b⟩
 refine bS R dk (aI ?_)
 obtain ⟨a7,hl,b⟩:=bd b
 refine aD (lO (dS 4 lx R) (lO (dV 1 pl R R R) (lS R (lM (RR dY A7 D7 g::aJ l [(.slice none 0 0),(.slice none 0 0)] 42::i) (fun w s=>(s.d 6 R)) ?_))))
 refine lC 1 Bg R (Z5_ok hl) R ?_
 rintro ⟨⟨e9,i2,en⟩,⟨ea,i3,eo⟩⟩
 refine lN (ow kT3 3 (.slice e9 i2 en) a7.Dims::ow kT3 3 (.slice ea i3 eo) a7.Data::_::i) ?_
 refine aM 0 aB ?_
 rintro rfl
 refine aM 1 aB ?_
 rintro rfl
 refine aL 2 R R bW R R R R R R (lN (_::_::aJ l [(sc e9 a7.Dims en),(sc ea a7.Data eo)] 42::i) ?_)
 refine aC (aE (bO (cF (bP ?_))))
 obtain rfl:=so b
 exact cY (vs:=[(.agg [(sc e9 a7.Dims en),(sc ea a7.Data eo)].toArray)]) (.inl R) ((e9,a7.Dims.length,en),(ea,a7.Data.length,eo)) R ⟨⟨2,l,_,_,R,R,.inl ⟨eR,bW,R⟩⟩,trivial⟩ R (fun w s=>(s.e 9 [0,1]))
 refine bC R dk (aI (aD (lO (m5 R R) (lB R (aC (aE ?_))))))
 rcases cG b with ⟨dl,b⟩|⟨dl,b⟩
 refine bS R dl (aI ?_)
 obtain ⟨a1,b⟩:=gd b
 obtain ⟨ap,hm,b⟩:=bd b
 obtain ⟨a8,ho,b⟩:=bd b
 obtain ⟨a9,hp,b⟩:=bd b
 refine bA 6 aA (show 0<g.length by have:=a1; omega) (fun hc o75 m=>?_)
 subst m
 refine dG (K:=dY) 6 (0:Int) dT42.dec R a1.1 a1.2 ?_
 rintro ⟨⟨cj,d5⟩,⟨ck,d6⟩⟩
 refine cN (cl hc (o75+(0:Int).toNat*2) [(sc cj ((ix g (0:Int)).Dims) d5),(sc ck ((ix g (0:Int)).Data) d6)]::RR kT3 cj d5 ((ix g (0:Int)).Dims)::RR kT3 ck d6 ((ix g (0:Int)).Data)::aJ l [(.slice none 0 0),(.slice none 0 0)] 42::i) ?_
 refine cX 13 [3] bM (fun ht hn=>(dR 0 R (vS R) (hS:=(sL [3])) (dR 1 R (eE gX bW R R a1) (hS:=(sL [3])) (dR 2 R (vz (.agg [(sc cj ((ix g (0:Int)).Dims) d5),(sc ck ((ix g (0:Int)).Data) d6)].toArray) (eJ (fo:=0) 0 eR bW R R R R)) (hS:=(sL [3])) (dR 3 R (vS R) (hS:=(sL [3])) (dR 4 R (eE gX bW R R a1) (hS:=(sL [3])) (dR 5 R (vz (.pointer (some ⟨hc,o75+(0:Int).toNat*2,none⟩)) (gN fT R R)) (hS:=(sL [3])) (dR 6 R (eD (fo:=0) 0 cB R R R) (hS:=(sL [3])) (dR 8 R (dS 2 iG R) (hS:=(sL [3])) (dR 9 R (dV 3 cB R R R) (hS:=(sL [3])) (d1 7 R (lM (_::_::_::_::_::i) (fun w s=>(s.d 1 R)) ?_))))))))))))
 refine lC 1 uS R (Zu_ok hm) R ?_
 rintro ⟨⟨fe,i4,fp⟩,⟨eb,i5,ep⟩⟩
 refine lN (aQ kT3 (.slice fe i4 fp) ap.Dims::ow kT3 3 (.slice eb i5 ep) ap.Strides::_::_::_::_::i) ?_
 refine aM 0 aA ?_
 rintro rfl
 refine aM 1 aB ?_
 rintro rfl
 refine aC (aG (sL [5,1,0]) (d1 10 R (lM (ow _ _ _ _::aQ _ _ _::RR kT3 A3 D3 j.Dims::aQ _ _ _::cl _ _ _::aQ _ _ _::aQ _ _ _::aJ _ _ _::i) (fun w s=>(((s.d 0 R).d 9 R).e 8 [3,1,0,2,4,5,6,7])) ?_)))
 refine lC 3 Bh R (FnOk.lends (A':=[OO kT3 3 eb ep ap.Strides]) (A:=[RR kT3 eb ep ap.Strides]) (B:=[RR kT3 fe fp ap.Dims,RR kT3 A3 D3 j.Dims]) (FnOk.perm (Z03_ok ho) (Pre':=[RR kT3 eb ep ap.Strides,RR kT3 fe fp ap.Dims,RR kT3 A3 D3 j.Dims]) (fun _ _ _ s=>(s.e 3 [1,0,2]))) ⟨aP,trivial⟩ (fun _=>⟨(bB iF),(bB iF),trivial⟩)) R ?_
 rintro ⟨⟨ec,i6,eq⟩,⟨ed,i7,er⟩⟩
 refine lN (_::ow kT3 3 (.slice ec i6 eq) a8.Dims::ow kT3 3 (.slice ed i7 er) a8.Strides::_::_::_::_::_::i) ?_
 refine aM 1 aB ?_
 rintro rfl
 refine aM 2 aB ?_
 rintro rfl
 refine aC (aG (sL [7,3,2,1,0]) (d1 11 R (lM (ow _ _ _ _::ow _ _ _ _::aQ _ _ _::aQ _ _ _::ow _ _ _ _::aQ _ _ _::cl _ _ _::aQ _ _ _::aQ _ _ _::aJ _ _ _::i) (fun w s=>(((s.d 5 R).d 7 R).e 10 [3,4,1,0,2,5,6,7,8,9])) ?_)))
 refine lC 4 uT R (FnOk.lends (A':=[OO kT3 3 ec eq a8.Dims,OO kT3 3 ed er a8.Strides]) (A:=[RR kT3 ec eq a8.Dims,RR kT3 ed er a8.Strides]) (B:=[RR kT3 cj d5 ((ix g (0:Int)).Dims),RR kT3 ck d6 ((ix g (0:Int)).Data)]) (FnOk.perm (Z00_ok hp) (Pre':=[RR kT3 ec eq a8.Dims,RR kT3 ed er a8.Strides,RR kT3 cj d5 ((ix g (0:Int)).Dims),RR kT3 ck d6 ((ix g (0:Int)).Data)]) (fun _ _ _ s=>(s.e 4 [2,3,0,1]))) ⟨aP,aP,trivial⟩ (fun _=>⟨(bB iF),(bB iF),trivial⟩)) R ?_
 rintro ⟨⟨ee,i8,es⟩,⟨ef,i9,et⟩⟩
 refine lN (_::_::ow kT3 3 (.slice ee i8 es) a9.Dims::ow kT3 3 (.slice ef i9 et) a9.Data::_::_::_::_::_::_::i) ?_
 refine aM 2 aB ?_
 rintro rfl
 refine aM 3 aB ?_
 rintro rfl
 refine aC (aG (sL [9,5,4,3,2,1,0]) (d1 12 R (aL 9 R R bW R R R R R R (lN (_::_::_::_::_::_::_::_::_::aJ l [(sc ee a9.Dims es),(sc ef a9.Data et)] 42::i) ?_))))
 refine aC (aG (sL [9,5,4,3,2,1,0]) (dD (aE (bO (cF (bP ?_))))))
 obtain rfl:=so b
 exact cY (vs:=[(.agg [(sc ee a9.Dims es),(sc ef a9.Data et)].toArray)]) (.inl R) ((ee,a9.Dims.length,es),(ef,a9.Data.length,et)) R ⟨⟨9,l,_,_,R,R,.inl ⟨eR,bW,R⟩⟩,trivial⟩ R (fun w s=>(s.e 16 [2,3]))
 refine bC R dl (aI (aD (lO (m5 R R) (lB R (aC (aE ?_))))))
 rcases cG b with ⟨dm,b⟩|⟨dm,b⟩
 refine bS R dm (aI ?_)
 obtain ⟨a2,b⟩:=gd b
 obtain ⟨aq,hq,b⟩:=bd b
 obtain ⟨q,fr,b⟩:=bd b
 obtain ⟨u,fs,b⟩:=bd b
 refine bA 6 aA (show 0<g.length by have:=a2; omega) (fun hd o93 m=>?_)
 subst m
 refine dG (K:=dY) 6 (0:Int) dT42.dec R a2.1 a2.2 ?_
 rintro ⟨⟨cm,d7⟩,⟨cn,d8⟩⟩
 refine cN (cl hd (o93+(0:Int).toNat*2) [(sc cm ((ix g (0:Int)).Dims) d7),(sc cn ((ix g (0:Int)).Data) d8)]::RR kT3 cm d7 ((ix g (0:Int)).Dims)::RR kT3 cn d8 ((ix g (0:Int)).Data)::aJ l [(.slice none 0 0),(.slice none 0 0)] 42::i) ?_
 refine cX 13 [3] bM (fun ht hn=>(dR 0 R (vS R) (hS:=(sL [3])) (dR 1 R (eE gX bW R R a2) (hS:=(sL [3])) (dR 2 R (vz (.agg [(sc cm ((ix g (0:Int)).Dims) d7),(sc cn ((ix g (0:Int)).Data) d8)].toArray) (eJ (fo:=0) 0 eR bW R R R R)) (hS:=(sL [3])) (dR 3 R (vS R) (hS:=(sL [3])) (dR 4 R (eE gX bW R R a2) (hS:=(sL [3])) (dR 5 R (vz (.pointer (some ⟨hd,o93+(0:Int).toNat*2,none⟩)) (gN fT R R)) (hS:=(sL [3])) (dR 6 R (eD (fo:=0) 0 cB R R R) (hS:=(sL [3])) (dR 8 R (dS 2 iG R) (hS:=(sL [3])) (dR 9 R (dV 3 cB R R R) (hS:=(sL [3])) (d1 7 R (lM (_::_::_::_::_::i) (fun w s=>(s.d 1 R)) ?_))))))))))))
 refine lC 1 uS R (Zu_ok hq) R ?_
 rintro ⟨⟨ff,ia,fq⟩,⟨eg,ib,eu⟩⟩
 refine lN (aQ kT3 (.slice ff ia fq) aq.Dims::ow kT3 3 (.slice eg ib eu) aq.Strides::_::_::_::_::i) ?_
 refine aM 0 aA ?_
 rintro rfl
 refine aM 1 aB ?_
 rintro rfl
 refine aC (aG (sL [5,1,0]) (d1 10 R (lM (ow _ _ _ _::aQ _ _ _::RR kT3 A3 D3 j.Dims::aQ _ _ _::cl _ _ _::aQ _ _ _::aQ _ _ _::aJ _ _ _::i) (fun w s=>(((s.d 0 R).d 9 R).e 8 [3,1,0,2,4,5,6,7])) ?_)))
 refine lC 3 Bi R (FnOk.lends (A':=[OO kT3 3 eg eu aq.Strides]) (A:=[RR kT3 eg eu aq.Strides]) (B:=[RR kT3 ff fq aq.Dims,RR kT3 A3 D3 j.Dims]) (FnOk.perm (Z09_ok fr) (Pre':=[RR kT3 eg eu aq.Strides,RR kT3 ff fq aq.Dims,RR kT3 A3 D3 j.Dims]) (fun _ _ _ s=>(s.e 3 [1,0,2]))) ⟨aP,trivial⟩ (fun _=>⟨(bB iF),(bB iF),trivial⟩)) R ?_
 rintro ⟨⟨ar,gg,bb⟩,⟨au,gh,bc⟩⟩
 refine lN (_::ow kT3 3 (.slice ar gg bb) q.Dims::ow kT3 3 (.slice au gh bc) q.Strides::_::_::_::_::_::i) ?_
 refine aM 1 aB ?_
 rintro rfl
 refine aM 2 aB ?_
 rintro rfl
 refine aC (aG (sL [7,3,2,1,0]) (d1 11 R (lM (ow _ _ _ _::ow _ _ _ _::aQ _ _ _::aQ _ _ _::ow _ _ _ _::aQ _ _ _::cl _ _ _::aQ _ _ _::aQ _ _ _::aJ _ _ _::i) (fun w s=>(((s.d 5 R).d 7 R).e 10 [3,4,1,0,2,5,6,7,8,9])) ?_)))
 refine lC 4 uT R (FnOk.lends (A':=[OO kT3 3 ar bb q.Dims,OO kT3 3 au bc q.Strides]) (A:=[RR kT3 ar bb q.Dims,RR kT3 au bc q.Strides]) (B:=[RR kT3 cm d7 ((ix g (0:Int)).Dims),RR kT3 cn d8 ((ix g (0:Int)).Data)]) (FnOk.perm (Z00_ok fs) (Pre':=[RR kT3 ar bb q.Dims,RR kT3 au bc q.Strides,RR kT3 cm d7 ((ix g (0:Int)).Dims),RR kT3 cn d8 ((ix g (0:Int)).Data)]) (fun _ _ _ s=>(s.e 4 [2,3,0,1]))) ⟨aP,aP,trivial⟩ (fun _=>⟨(bB iF),(bB iF),trivial⟩)) R ?_
 rintro ⟨⟨av,gi,be⟩,⟨aw,gj,bf⟩⟩
 refine lN (_::_::ow kT3 3 (.slice av gi be) u.Dims::ow kT3 3 (.slice aw gj bf) u.Data::_::_::_::_::_::_::i) ?_
 refine aM 2 aB ?_
 rintro rfl
 refine aM 3 aB ?_
 rintro rfl
 refine aC (aG (sL [9,5,4,3,2,1,0]) (d1 12 R (aL 9 R R bW R R R R R R (lN (_::_::_::_::_::_::_::_::_::aJ l [(sc av u.Dims be),(sc aw u.Data bf)] 42::i) ?_))))
 refine aC (aG (sL [9,5,4,3,2,1,0]) (dD (aE (bO (cF (bP ?_))))))
 obtain rfl:=so b
 exact cY (vs:=[(.agg [(sc av u.Dims be),(sc aw u.Data bf)].toArray)]) (.inl R) ((av,u.Dims.length,be),(aw,u.Data.length,bf)) R ⟨⟨9,l,_,_,R,R,.inl ⟨eR,bW,R⟩⟩,trivial⟩ R (fun w s=>(s.e 16 [2,3]))
 refine bC R dm (aI (aD (lO (m5 R R) (lB R (aC (aE ?_))))))
 rcases cG b with ⟨aa,b⟩|⟨aa,b⟩
 refine bS R aa (aI (aI ?_))
 obtain ⟨L,b⟩:=gd b
 refine aD (lS R (bG 4 aA (show 0<j.Ints.length by have:=L; omega) (fun ii o111 m=>?_)))
 subst m
 refine lO (eE bT cS R R L) (lO (hX 4 fR aA R L) (lO (jh R R) (aC (aE ?_))))
 rcases cG b with ⟨ab,b⟩|⟨ab,b⟩
 refine bS R ab (aI (aD (lO (vz (.agg [(.slice none 0 0),(.slice none 0 0)].toArray) (aV hG dN R R)) (aL 0 R R bW R R R R R R (lN (aJ l [(.slice none 0 0),(.slice none 0 0)] 42::i) ?_)))))
 refine aC (aE (bO (bP (cF (bP ?_)))))
 obtain rfl:=so b
 exact cY (vs:=[(.agg [(.slice none 0 0),(.slice none 0 0)].toArray)]) (.inl R) ((none,0,0),(none,0,0)) R ⟨⟨0,l,_,_,R,R,.inl ⟨eR,bW,R⟩⟩,trivial⟩ R (fun w s=>(((s.nilo kT3 3).nilo kT3 3).e 9 [1,0]))
 refine bC R ab (bZ (aE (aI ?_)))
 obtain ⟨M,b⟩:=gd b
 obtain ⟨bz,ft,b⟩:=bd b
 obtain ⟨dn,b⟩:=gd b
 obtain ⟨dq,b⟩:=gd b
 obtain ⟨dr,b⟩:=gd b
 obtain ⟨f4,fu,b⟩:=bd b
 obtain ⟨D,fv,b⟩:=bd b
 refine bA 6 aA (show 0<g.length by have:=M; omega) (fun f2 o115 m=>?_)
 subst m
 refine dG (K:=dY) 6 (0:Int) dT42.dec R M.1 M.2 ?_
 rintro ⟨⟨c1,co⟩,⟨c2,cp⟩⟩
 refine cN (cl f2 (o115+(0:Int).toNat*2) [(sc c1 ((ix g (0:Int)).Dims) co),(sc c2 ((ix g (0:Int)).Data) cp)]::RR kT3 c1 co ((ix g (0:Int)).Dims)::RR kT3 c2 cp ((ix g (0:Int)).Data)::_::i) ?_
 refine cX 23 [3] bM (fun ht hn=>(dR 0 R (vS R) (hS:=(sL [3])) (dR 1 R (eE gX bW R R M) (hS:=(sL [3])) (dR 2 R (vz (.agg [(sc c1 ((ix g (0:Int)).Dims) co),(sc c2 ((ix g (0:Int)).Data) cp)].toArray) (eJ (fo:=0) 0 eR bW R R R R)) (hS:=(sL [3])) (dR 3 R (vS R) (hS:=(sL [3])) (dR 4 R (eE gX bW R R M) (hS:=(sL [3])) (dR 5 R (vz (.pointer (some ⟨f2,o115+(0:Int).toNat*2,none⟩)) (gN fT R R)) (hS:=(sL [3])) (dR 6 R (eD (fo:=0) 0 cB R R R) (hS:=(sL [3])) (dR 8 R (vS R) (hS:=(sL [3])) (dR 9 R (eE bT cS R R dn) (hS:=(sL [3])) (dR 10 R (hX 6 fR aA R dn) (hS:=(sL [3])) (dR 11 R (vS R) (hS:=(sL [3])) (dR 12 R (eE bT cS R R dq) (hS:=(sL [3])) (dR 13 R (hX 6 fR aA R dq) (hS:=(sL [3])) (dR 14 R (vS R) (hS:=(sL [3])) (dR 15 R (eE bT cS R R dr) (hS:=(sL [3])) (dR 16 R (hX 6 fR aA R dr) (hS:=(sL [3])) (dR 17 R (vS R) (hS:=(sL [3])) (dR 18 R (eE bT cS R R L) (hS:=(sL [3])) (dR 19 R (hX 6 fR aA R L) (hS:=(sL [3])) (d1 7 R (lM (_::_::_::_::_::i) (fun w s=>(s.d 1 R)) ?_))))))))))))))))))))))
 refine lC 1 uS R (Zu_ok ft) R ?_
 rintro ⟨⟨g3,gk,g9⟩,⟨c3,gm,cq⟩⟩
 refine lN (aQ kT3 (.slice g3 gk g9) bz.Dims::ow kT3 3 (.slice c3 gm cq) bz.Strides::_::_::_::_::i) ?_
 refine aM 0 aA ?_
 rintro rfl
 refine aM 1 aB ?_
 rintro rfl
 refine aC (aG (sL [5,1,0]) (d1 20 R (je (fun w s=>s.shr 1 R) (lM (aQ _ _ _::RR kT3 c3 cq bz.Strides::RR kT3 c3 cq bz.Strides::aQ _ _ _::cl _ _ _::aQ _ _ _::aQ _ _ _::aJ _ _ _::i) (fun w s=>(((s.d 1 R).d 1 R).f 8 [1,1,0,1,2,6])) ?_))))
 refine lC 2 Bj R (Z19_ok fu) R ?_
 rintro ⟨⟨g4,gn,ga⟩,⟨g5,gp,gb⟩⟩
 refine lN (aQ kT3 (.slice g4 gn ga) f4.Dims::aQ kT3 (.slice g5 gp gb) f4.Strides::_::_::_::_::_::_::i) ?_
 refine aM 0 aA ?_
 rintro rfl
 refine aM 1 aA ?_
 rintro rfl
 refine aC (aG (sL [7,3,2,1,0]) (d1 21 R (lM (aQ _ _ _::aQ _ _ _::aQ _ _ _::aQ _ _ _::aQ _ _ _::aQ _ _ _::aQ _ _ _::aQ _ _ _::cl _ _ _::aQ _ _ _::aQ _ _ _::aJ _ _ _::i) (fun w s=>(((((s.d 5 R).d 7 R).d 2 R).d 4 R).f 12 [3,1,2,1,1,1,0,1,4,8])) ?_)))
 refine lC 4 uT R (Z00_ok fv) R ?_
 rintro ⟨⟨ax,gq,bg⟩,⟨ay,gr,bh⟩⟩
 refine lN (ow kT3 3 (.slice ax gq bg) D.Dims::ow kT3 3 (.slice ay gr bh) D.Data::_::_::_::_::_::_::_::_::i) ?_
 refine aM 0 aB ?_
 rintro rfl
 refine aM 1 aB ?_
 rintro rfl
 refine aC (aG (sL [9,5,4,3,2,1,0]) (d1 22 R (aL 9 R R bW R R R R R R (lN (_::_::_::_::_::_::_::_::_::aJ l [(sc ax D.Dims bg),(sc ay D.Data bh)] 42::i) ?_))))
 refine aC (aG (sL [9,5,4,3,2,1,0]) (dD (aE (bO (cF (bP ?_))))))
 obtain rfl:=so b
 exact cY (vs:=[(.agg [(sc ax D.Dims bg),(sc ay D.Data bh)].toArray)]) (.inl R) ((ax,D.Dims.length,bg),(ay,D.Data.length,bh)) R ⟨⟨9,l,_,_,R,R,.inl ⟨eR,bW,R⟩⟩,trivial⟩ R (fun w s=>(s.e 16 [0,1]))
 refine bC R aa (aI (aD (lO (m5 R R) (lB R (aC (aE ?_))))))
 rcases cG b with ⟨ac,b⟩|⟨ac,b⟩
 refine bS R ac (aI ?_)
 obtain ⟨T,b⟩:=gd b
 obtain ⟨ai,b⟩:=gd b
 obtain ⟨ds,b⟩:=gd b
 obtain ⟨dt,b⟩:=gd b
 obtain ⟨du,b⟩:=gd b
 obtain ⟨E,fw,b⟩:=bd b
 refine bA 6 aA (show 0<g.length by have:=T; omega) (fun h7 o136 m=>?_)
 subst m
 refine dG (K:=dY) 6 (0:Int) dT42.dec R T.1 T.2 ?_
 rintro ⟨⟨c4,cr⟩,⟨c5,cs⟩⟩
 refine cN (cl h7 (o136+(0:Int).toNat*2) [(sc c4 ((ix g (0:Int)).Dims) cr),(sc c5 ((ix g (0:Int)).Data) cs)]::RR kT3 c4 cr ((ix g (0:Int)).Dims)::RR kT3 c5 cs ((ix g (0:Int)).Data)::aJ l [(.slice none 0 0),(.slice none 0 0)] 42::i) ?_
 refine bA 7 aA (show 0<j.Ints.length by have:=ai; omega) (fun ij o141 m=>?_)
 subst m
 refine cX 17 [3] bM (fun ht hn=>(dR 0 R (vS R) (hS:=(sL [3])) (dR 1 R (eE gX bW R R T) (hS:=(sL [3])) (dR 2 R (vz (.agg [(sc c4 ((ix g (0:Int)).Dims) cr),(sc c5 ((ix g (0:Int)).Data) cs)].toArray) (eJ (fo:=0) 0 eR bW R R R R)) (hS:=(sL [3])) (dR 3 R (vS R) (hS:=(sL [3])) (dR 4 R (eE bT cS R R ai) (hS:=(sL [3])) (dR 5 R (hX 6 fR aA R ai) (hS:=(sL [3])) (dR 6 R (vS R) (hS:=(sL [3])) (dR 7 R (eE bT cS R R ds) (hS:=(sL [3])) (dR 8 R (hX 6 fR aA R ds) (hS:=(sL [3])) (dR 9 R (vS R) (hS:=(sL [3])) (dR 10 R (eE bT cS R R dt) (hS:=(sL [3])) (dR 11 R (hX 6 fR aA R dt) (hS:=(sL [3])) (dR 12 R (vS R) (hS:=(sL [3])) (dR 13 R (eE bT cS R R du) (hS:=(sL [3])) (dR 14 R (hX 6 fR aA R du) (hS:=(sL [3])) (d1 15 R (lM (aQ _ _ _::aQ _ _ _::cl _ _ _::aQ _ _ _::aQ _ _ _::aJ _ _ _::i) (fun w s=>(((s.d 1 R).d 3 R).e 6 [1,0,2,3,4,5])) ?_))))))))))))))))))
 refine lC 2 Bk R (Z0t_ok fw) R ?_
 rintro ⟨⟨az,gs,bi⟩,⟨b0,gt,bj⟩⟩
 refine lN (ow kT3 3 (.slice az gs bi) E.Dims::ow kT3 3 (.slice b0 gt bj) E.Data::_::_::_::_::i) ?_
 refine aM 0 aB ?_
 rintro rfl
 refine aM 1 aB ?_
 rintro rfl
 refine aC (aG (sL [5,1,0]) (d1 16 R (aL 5 R R bW R R R R R R (lN (_::_::_::_::_::aJ l [(sc az E.Dims bi),(sc b0 E.Data bj)] 42::i) ?_))))
 refine aC (aG (sL [5,1,0]) (dD (aE (bO (cF (bP ?_))))))
 obtain rfl:=so b
 exact cY (vs:=[(.agg [(sc az E.Dims bi),(sc b0 E.Data bj)].toArray)]) (.inl R) ((az,E.Dims.length,bi),(b0,E.Data.length,bj)) R ⟨⟨5,l,_,_,R,R,.inl ⟨eR,bW,R⟩⟩,trivial⟩ R (fun w s=>(s.e 12 [0,1]))
 refine bC R ac (aI (aD (lO (m5 R R) (lB R (aC (aE ?_))))))
 rcases cG b with ⟨ae,b⟩|⟨ae,b⟩
 refine bS R ae (aI ?_)
 obtain ⟨U,b⟩:=gd b
 obtain ⟨aj,b⟩:=gd b
 obtain ⟨ak,b⟩:=gd b
 obtain ⟨F,fx,b⟩:=bd b
 refine bA 6 aA (show 0<g.length by have:=U; omega) (fun h8 o152 m=>?_)
 subst m
 refine dG (K:=dY) 6 (0:Int) dT42.dec R U.1 U.2 ?_
 rintro ⟨⟨c6,ct⟩,⟨c7,cu⟩⟩
 refine cN (cl h8 (o152+(0:Int).toNat*2) [(sc c6 ((ix g (0:Int)).Dims) ct),(sc c7 ((ix g (0:Int)).Data) cu)]::RR kT3 c6 ct ((ix g (0:Int)).Dims)::RR kT3 c7 cu ((ix g (0:Int)).Data)::aJ l [(.slice none 0 0),(.slice none 0 0)] 42::i) ?_
 refine bA 7 aA (show 0<j.Ints.length by have:=aj; omega) (fun ik o157 m=>?_)
 subst m
 refine cX 10 [3] bM (fun ht hn=>(dR 0 R (vS R) (hS:=(sL [3])) (dR 1 R (eE gX bW R R U) (hS:=(sL [3])) (dR 2 R (vz (.agg [(sc c6 ((ix g (0:Int)).Dims) ct),(sc c7 ((ix g (0:Int)).Data) cu)].toArray) (eJ (fo:=0) 0 eR bW R R R R)) (hS:=(sL [3])) (dR 3 R (vS R) (hS:=(sL [3])) (dR 4 R (eE bT cS R R aj) (hS:=(sL [3])) (dR 5 R (hX 6 fR aA R aj) (hS:=(sL [3])) (dR 6 R (vS R) (hS:=(sL [3])) (d1 7 R (gQ (K:=kT3) (1:Int) (j.Ints.length:Int) 7 R R bT cS R R R R ak.1 ak.2.1 ak.2.2 (fun ey f0=>(aC (aG (sL [4,0]) (d1 8 R (lM (aQ _ _ _::aQ _ _ _::RR kT3 ey f0 (sub j.Ints (1:Int) (j.Ints.length:Int))::RR kT3 ey f0 (sub j.Ints (1:Int) (j.Ints.length:Int))::cl _ _ _::aQ _ _ _::aQ _ _ _::aJ _ _ _::i) (fun w s=>((((s.d 2 R).d 4 R).d 2 R).e 8 [2,1,0,3,4,5,6,7])) ?_)))))))))))))))
 refine lC 3 Bl R (Z0s_ok fx) R ?_
 rintro ⟨⟨b1,gu,bk⟩,⟨b2,gw,bl⟩⟩
 refine lN (ow kT3 3 (.slice b1 gu bk) F.Dims::ow kT3 3 (.slice b2 gw bl) F.Data::_::_::_::_::_::i) ?_
 refine aM 0 aB ?_
 rintro rfl
 refine aM 1 aB ?_
 rintro rfl
 refine aC (aG (sL [6,2,1,0]) (d1 9 R (aL 6 R R bW R R R R R R (lN (_::_::_::_::_::_::aJ l [(sc b1 F.Dims bk),(sc b2 F.Data bl)] 42::i) ?_))))
 refine aC (aG (sL [6,2,1,0]) (dD (aE (bO (cF (bP ?_))))))
 obtain rfl:=so b
 exact cY (vs:=[(.agg [(sc b1 F.Dims bk),(sc b2 F.Data bl)].toArray)]) (.inl R) ((b1,F.Dims.length,bk),(b2,F.Data.length,bl)) R ⟨⟨6,l,_,_,R,R,.inl ⟨eR,bW,R⟩⟩,trivial⟩ R (fun w s=>(s.e 13 [0,1]))
 refine bC R ae (aI (aD (lO (m5 R R) (lB R (aC (aE ?_))))))
 rcases cG b with ⟨ag,b⟩|⟨ag,b⟩
 refine bS R ag (aI ?_)
 obtain ⟨Y,b⟩:=gd b
 obtain ⟨al,b⟩:=gd b
 obtain ⟨am,b⟩:=gd b
 obtain ⟨dv,b⟩:=gd b
 obtain ⟨G,fy,b⟩:=bd b
 refine bA 6 aA (show 0<g.length by have:=Y; omega) (fun h9 o167 m=>?_)
 subst m
 refine dG (K:=dY) 6 (0:Int) dT42.dec R Y.1 Y.2 ?_
 rintro ⟨⟨c8,cv⟩,⟨c9,cw⟩⟩
 refine cN (cl h9 (o167+(0:Int).toNat*2) [(sc c8 ((ix g (0:Int)).Dims) cv),(sc c9 ((ix g (0:Int)).Data) cw)]::RR kT3 c8 cv ((ix g (0:Int)).Dims)::RR kT3 c9 cw ((ix g (0:Int)).Data)::aJ l [(.slice none 0 0),(.slice none 0 0)] 42::i) ?_
 refine bA 7 aA (show 0<j.Ints.length by have:=al; omega) (fun im o172 m=>?_)
 subst m
 refine cX 13 [3] bM (fun ht hn=>(dR 0 R (vS R) (hS:=(sL [3])) (dR 1 R (eE gX bW R R Y) (hS:=(sL [3])) (dR 2 R (vz (.agg [(sc c8 ((ix g (0:Int)).Dims) cv),(sc c9 ((ix g (0:Int)).Data) cw)].toArray) (eJ (fo:=0) 0 eR bW R R R R)) (hS:=(sL [3])) (dR 3 R (vS R) (hS:=(sL [3])) (dR 4 R (eE bT cS R R al) (hS:=(sL [3])) (dR 5 R (hX 6 fR aA R al) (hS:=(sL [3])) (dR 6 R (vS R) (hS:=(sL [3])) (dR 8 R (vS R) (hS:=(sL [3])) (dR 9 R (eE bT cS R R dv) (hS:=(sL [3])) (dR 10 R (hX 6 fR aA R dv) (hS:=(sL [3])) (d1 7 R (gQ (K:=kT3) (2:Int) (j.Ints.length:Int) 7 R R bT cS R R R R am.1 am.2.1 am.2.2 (fun ez f1=>(aC (aG (sL [4,0]) (d1 11 R (lM (aQ _ _ _::aQ _ _ _::RR kT3 ez f1 (sub j.Ints (2:Int) (j.Ints.length:Int))::RR kT3 ez f1 (sub j.Ints (2:Int) (j.Ints.length:Int))::cl _ _ _::aQ _ _ _::aQ _ _ _::aJ _ _ _::i) (fun w s=>((((s.d 2 R).d 4 R).d 2 R).e 8 [2,1,0,3,4,5,6,7])) ?_))))))))))))))))))
 refine lC 3 Bm R (Z0u_ok fy) R ?_
 rintro ⟨⟨b3,gx,bm⟩,⟨b4,gy,bn⟩⟩
 refine lN (ow kT3 3 (.slice b3 gx bm) G.Dims::ow kT3 3 (.slice b4 gy bn) G.Data::_::_::_::_::_::i) ?_
 refine aM 0 aB ?_
 rintro rfl
 refine aM 1 aB ?_
 rintro rfl
 refine aC (aG (sL [6,2,1,0]) (d1 12 R (aL 6 R R bW R R R R R R (lN (_::_::_::_::_::_::aJ l [(sc b3 G.Dims bm),(sc b4 G.Data bn)] 42::i) ?_))))
 refine aC (aG (sL [6,2,1,0]) (dD (aE (bO (cF (bP ?_))))))
 obtain rfl:=so b
 exact cY (vs:=[(.agg [(sc b3 G.Dims bm),(sc b4 G.Data bn)].toArray)]) (.inl R) ((b3,G.Dims.length,bm),(b4,G.Data.length,bn)) R ⟨⟨6,l,_,_,R,R,.inl ⟨eR,bW,R⟩⟩,trivial⟩ R (fun w s=>(s.e 13 [0,1]))
 refine bC R ag (aI (aD (lO (m5 R R) (lB R (aC (aE ?_))))))
 rcases cG b with ⟨ah,b⟩|⟨ah,b⟩
 refine bS R ah (aI ?_)
 obtain ⟨O,b⟩:=gd b
 obtain ⟨c0,fz,b⟩:=bd b
 obtain ⟨an,b⟩:=gd b
 obtain ⟨dw,b⟩:=gd b
 obtain ⟨dx,b⟩:=gd b
 obtain ⟨f5,g0,b⟩:=bd b
 obtain ⟨I,g1,b⟩:=bd b
 refine bA 6 aA (show 0<g.length by have:=O; omega) (fun f3 o183 m=>?_)
 subst m
 refine dG (K:=dY) 6 (0:Int) dT42.dec R O.1 O.2 ?_
 rintro ⟨⟨cb,cy⟩,⟨cc,cz⟩⟩
 refine cN (cl f3 (o183+(0:Int).toNat*2) [(sc cb ((ix g (0:Int)).Dims) cy),(sc cc ((ix g (0:Int)).Data) cz)]::RR kT3 cb cy ((ix g (0:Int)).Dims)::RR kT3 cc cz ((ix g (0:Int)).Data)::aJ l [(.slice none 0 0),(.slice none 0 0)] 42::i) ?_
 refine bA 7 aA (show 0<j.Ints.length by have:=an; omega) (fun io o192 m=>?_)
 subst m
 refine cX 20 [3] bM (fun ht hn=>(dR 0 R (vS R) (hS:=(sL [3])) (dR 1 R (eE gX bW R R O) (hS:=(sL [3])) (dR 2 R (vz (.agg [(sc cb ((ix g (0:Int)).Dims) cy),(sc cc ((ix g (0:Int)).Data) cz)].toArray) (eJ (fo:=0) 0 eR bW R R R R)) (hS:=(sL [3])) (dR 3 R (vS R) (hS:=(sL [3])) (dR 4 R (eE gX bW R R O) (hS:=(sL [3])) (dR 5 R (vz (.pointer (some ⟨f3,o183+(0:Int).toNat*2,none⟩)) (gN fT R R)) (hS:=(sL [3])) (dR 6 R (eD (fo:=0) 0 cB R R R) (hS:=(sL [3])) (dR 8 R (vS R) (hS:=(sL [3])) (dR 9 R (eE bT cS R R an) (hS:=(sL [3])) (dR 10 R (hX 6 fR aA R an) (hS:=(sL [3])) (dR 11 R (vS R) (hS:=(sL [3])) (dR 12 R (eE bT cS R R dw) (hS:=(sL [3])) (dR 13 R (hX 6 fR aA R dw) (hS:=(sL [3])) (dR 14 R (vS R) (hS:=(sL [3])) (dR 15 R (eE bT cS R R dx) (hS:=(sL [3])) (dR 16 R (hX 6 fR aA R dx) (hS:=(sL [3])) (d1 7 R (lM (_::_::_::_::_::i) (fun w s=>(s.d 1 R)) ?_)))))))))))))))))))
 refine lC 1 uS R (Zu_ok fz) R ?_
 rintro ⟨⟨g6,gz,gc⟩,⟨cf,h0,d0⟩⟩
 refine lN (aQ kT3 (.slice g6 gz gc) c0.Dims::ow kT3 3 (.slice cf h0 d0) c0.Strides::_::_::_::_::i) ?_
 refine aM 0 aA ?_
 rintro rfl
 refine aM 1 aB ?_
 rintro rfl
 refine aC (aG (sL [5,1,0]) (d1 17 R (je (fun w s=>s.shr 1 R) (lM (aQ _ _ _::RR kT3 cf d0 c0.Strides::RR kT3 cf d0 c0.Strides::aQ _ _ _::cl _ _ _::aQ _ _ _::aQ _ _ _::aJ _ _ _::i) (fun w s=>(((s.d 1 R).d 1 R).f 8 [1,1,0,1,2,6])) ?_))))
 refine lC 2 zl R (Z0c_ok g0) R ?_
 rintro ⟨⟨g7,h1,ge⟩,⟨g8,h2,gf⟩⟩
 refine lN (aQ kT3 (.slice g7 h1 ge) f5.Dims::aQ kT3 (.slice g8 h2 gf) f5.Strides::_::_::_::_::_::_::i) ?_
 refine aM 0 aA ?_
 rintro rfl
 refine aM 1 aA ?_
 rintro rfl
 refine aC (aG (sL [7,3,2,1,0]) (d1 18 R (lM (aQ _ _ _::aQ _ _ _::aQ _ _ _::aQ _ _ _::aQ _ _ _::aQ _ _ _::aQ _ _ _::aQ _ _ _::cl _ _ _::aQ _ _ _::aQ _ _ _::aJ _ _ _::i) (fun w s=>(((((s.d 5 R).d 7 R).d 2 R).d 4 R).f 12 [3,1,2,1,1,1,0,1,4,8])) ?_)))
 refine lC 4 uT R (Z00_ok g1) R ?_
 rintro ⟨⟨b5,h3,bp⟩,⟨b6,h4,bq⟩⟩
 refine lN (ow kT3 3 (.slice b5 h3 bp) I.Dims::ow kT3 3 (.slice b6 h4 bq) I.Data::_::_::_::_::_::_::_::_::i) ?_
 refine aM 0 aB ?_
 rintro rfl
 refine aM 1 aB ?_
 rintro rfl
 refine aC (aG (sL [9,5,4,3,2,1,0]) (d1 19 R (aL 9 R R bW R R R R R R (lN (_::_::_::_::_::_::_::_::_::aJ l [(sc b5 I.Dims bp),(sc b6 I.Data bq)] 42::i) ?_))))
 refine aC (aG (sL [9,5,4,3,2,1,0]) (dD (aE (bO (cF (bP ?_))))))
 obtain rfl:=so b
 exact cY (vs:=[(.agg [(sc b5 I.Dims bp),(sc b6 I.Data bq)].toArray)]) (.inl R) ((b5,I.Dims.length,bp),(b6,I.Data.length,bq)) R ⟨⟨9,l,_,_,R,R,.inl ⟨eR,bW,R⟩⟩,trivial⟩ R (fun w s=>(s.e 16 [0,1]))
 refine bC R ah (bZ (eC (aE (aI ?_))))
 obtain ⟨Z,b⟩:=gd b
 obtain ⟨ao,b⟩:=gd b
 obtain ⟨dy,b⟩:=gd b
 obtain ⟨dz,b⟩:=gd b
 obtain ⟨J,g2,b⟩:=bd b
 refine bA 6 aA (show 0<g.length by have:=Z; omega) (fun hb o205 m=>?_)
 subst m
 refine dG (K:=dY) 6 (0:Int) dT42.dec R Z.1 Z.2 ?_
 rintro ⟨⟨ch,d3⟩,⟨ci,d4⟩⟩
 refine cN (cl hb (o205+(0:Int).toNat*2) [(sc ch ((ix g (0:Int)).Dims) d3),(sc ci ((ix g (0:Int)).Data) d4)]::RR kT3 ch d3 ((ix g (0:Int)).Dims)::RR kT3 ci d4 ((ix g (0:Int)).Data)::aJ l [(.slice none 0 0),(.slice none 0 0)] 42::i) ?_
 refine bA 7 aA (show 0<j.Ints.length by have:=ao; omega) (fun ip o210 m=>?_)
 subst m
 refine cX 14 [3] bM (fun ht hn=>(dR 0 R (vS R) (hS:=(sL [3])) (dR 1 R (eE gX bW R R Z) (hS:=(sL [3])) (dR 2 R (vz (.agg [(sc ch ((ix g (0:Int)).Dims) d3),(sc ci ((ix g (0:Int)).Data) d4)].toArray) (eJ (fo:=0) 0 eR bW R R R R)) (hS:=(sL [3])) (dR 3 R (vS R) (hS:=(sL [3])) (dR 4 R (eE bT cS R R ao) (hS:=(sL [3])) (dR 5 R (hX 6 fR aA R ao) (hS:=(sL [3])) (dR 6 R (vS R) (hS:=(sL [3])) (dR 7 R (eE bT cS R R dy) (hS:=(sL [3])) (dR 8 R (hX 6 fR aA R dy) (hS:=(sL [3])) (dR 9 R (vS R) (hS:=(sL [3])) (dR 10 R (eE bT cS R R dz) (hS:=(sL [3])) (dR 11 R (hX 6 fR aA R dz) (hS:=(sL [3])) (d1 12 R (lM (aQ _ _ _::aQ _ _ _::cl _ _ _::aQ _ _ _::aQ _ _ _::aJ _ _ _::i) (fun w s=>(((s.d 1 R).d 3 R).e 6 [1,0,2,3,4,5])) ?_)))))))))))))))
 refine lC 2 zm R (Z0r_ok g2) R ?_
 rintro ⟨⟨b7,h5,br⟩,⟨ba,h6,bs⟩⟩
 refine lN (ow kT3 3 (.slice b7 h5 br) J.Dims::ow kT3 3 (.slice ba h6 bs) J.Data::_::_::_::_::i) ?_
 refine aM 0 aB ?_
 rintro rfl
 refine aM 1 aB ?_
 rintro rfl
 refine aC (aG (sL [5,1,0]) (d1 13 R (aL 5 R R bW R R R R R R (lN (_::_::_::_::_::aJ l [(sc b7 J.Dims br),(sc ba J.Data bs)] 42::i) ?_))))
 refine aC (aG (sL [5,1,0]) (dD (aE (bO ?_))))
 obtain rfl:=so b
 exact cY (vs:=[(.agg [(sc b7 J.Dims br),(sc ba J.Data bs)].toArray)]) (.inl R) ((b7,J.Dims.length,br),(ba,J.Data.length,bs)) R ⟨⟨5,l,_,_,R,R,.inl ⟨eR,bW,R⟩⟩,trivial⟩ R (fun w s=>(s.e 12 [0,1]))
theorem Z0q_ok  {i:(List Int)}{M:Int}{r:Tensor}(b:Z0q i M=some r) :
 FnOk Tryz.prog 79 [(.slice A2 N2 D2),(iv M)] [aQ kT3 (.slice A2 N2 D2) i] (fun (h:HH×HH)=>((.agg [(s3 h.1),(s3 h.2)].toArray),[ow kT3 3 (s3 h.1) r.Dims,ow kT3 3 (s3 h.2) r.Data])):=by
 unfold Z0q at b
 refine aR Tryz.func79 R 27 R R fun C V=>?_
 refine cL 0 aA ?_
 rintro rfl
 let m:=RR kT3 A2 D2 i::V
 refine cN m ?_
 refine aZ ?_
 refine aY R R dN (fun q=>(aC (aE (aI (aI ?_)))))
 obtain ⟨r5,G,b⟩:=bd b
 refine aZ ?_
 refine lM _ (fun w s=>(s.d 1 R)) ?_
 refine lC 1 kr R (Zo_ok G) R ?_
 rintro _
 refine aU ?_
 split at b
 refine aU ?_
 refine lO (vz (.agg [(.slice none 0 0),(.slice none 0 0)].toArray) (aV hG dN R R)) (aL 0 R R bW R R R R R R (aC (aE (bO (bP ?_)))))
 cases b
 exact qS ((none,0,0),(none,0,0)) (fun w s=>(((s.nilo kT3 3).nilo kT3 3).e 4 [1,0]))
 refine bI ?_
 obtain ⟨g,J,b⟩:=bd b
 refine aZ ?_
 refine lM _ (fun w s=>(s.d 1 R)) ?_
 refine lC 1 kX R (Z0g_ok J) R ?_
 rintro ⟨⟨A10,N10,D10⟩,⟨A11,N11,D11⟩⟩
 refine aM 0 aB ?_
 rintro rfl
 refine aM 1 aB ?_
 rintro rfl
 refine aY R R dN (fun j=>(aL 0 R R bW R R R R R R (lN (aJ j [(sc A10 g.Dims D10),(sc A11 g.Data D11)] 42::_::_::_::m) ?_)))
 refine aU ?_
 refine bE (A:=((List Int))×(Unit)) (fun a=>Z0q_J1 g a.1=some r) (fun a=>[(4,(pt q 0)),(5,(pt j 0))]) (fun a=>aJ q [(.slice none 0 0),(.slice none 0 0)] 42::aJ j [(sc A10 g.Dims D10),(sc A11 g.Data D11)] 42::OO kT3 3 A10 D10 g.Dims::ow kT3 3 (.slice A11 g.Data.length D11) a.1::m) ?_ ?_
 refine cE ?_
 obtain ⟨e1,F,E⟩:=bd b
 refine bF (A:=Unit) F (fun s a=>[(1,(iv M)),(4,(pt q 0)),(5,(pt j 0)),(6,(iv s.2))]) (fun s a=>aJ q [(.slice none 0 0),(.slice none 0 0)] 42::aJ j [(sc A10 g.Dims D10),(sc A11 g.Data D11)] 42::OO kT3 3 A10 D10 g.Dims::ow kT3 3 (.slice A11 g.Data.length D11) s.1::m) () (aS R) (tE 4 [3,0,1,2]) ?_
 rintro ⟨O,L⟩ _ σ1 U b D
 dsimp only [Z0q_L1] at b
 refine dA ?_
 split at b
 refine cR ?_
 obtain ⟨B,u,b⟩:=bd b
 obtain ⟨l,b⟩:=gd b
 refine bA 3 aB (show 0<g.Data.length by have:=l; omega) (fun Y o26 Z=>?_)
 subst Z
 refine cX 7 [3] bM fun ht hn=>?_
 refine oK 0 [3] ?_
 refine d1 4 R (lC 0 jQ R (Zq_ok u) R ?_)
 rintro _
 refine aC (aG (sL [3]) ?_)
 refine oJ 5 [3] ?_
 refine d1 6 R (lM _ (tE 4 [3,0,1,2]) ?_)
 refine dZ (K:=kT3) (x':=B) 0 L R R cS R R l.1 l.2 ?_ ?_
 exact fun I h s=>(hD).put I h () B s
 refine aC (aG (sL [0]) (dD ?_))
 refine dO ?_
 cases b
 exact qA () (tE 4 [1,2,3,0])
 refine aU ?_
 cases b
 obtain rfl:=D _ R
 have b:=E
 refine aZ ?_
 exact qI (O,()) b tI
 rintro ⟨T,_⟩ σ1 b
 dsimp only [Z0q_J1] at b
 refine aU ?_
 refine aL 0 R R bW R R R R R R (lN (aJ q [(sc A10 g.Dims D10),(sc A11 g.Data D11)] 42::aJ j [(sc A10 g.Dims D10),(sc A11 g.Data D11)] 42::_::ow kT3 3 (.slice A11 g.Data.length D11) T::m) ?_)
 refine aU ?_
 cases b
 exact qS ((A10,g.Dims.length,D10),(A11,g.Data.length,D11)) (tE 5 [2,3])
theorem Zb_ok  {g1:Graph}{g:(List Tensor)}{l:Bool}{r:(List Tensor)×Bool}(j:Zb g1 g l=some r) :
 FnOk Tryz.prog 60 [(.agg [(.slice A2 N2 D2),(.slice A3 N3 D3)].toArray),(.slice A5 N5 D5),(.bool l)] [aQ kT65 (.slice A2 N2 D2) g1.Nodes,aQ kT3 (.slice A3 N3 D3) g1.Outs,aQ dY (.slice A5 N5 D5) g] (fun (h:HH)=>((.tuple [(s3 h),(.bool r.2)].toArray),[ow (dY).share 42 (s3 h) r.1])):=by
 unfold Zb at j
 refine aR Tryz.func60 R 143 R R fun C V=>?_
 refine cL 0 aA ?_
 rintro rfl
 refine cL 1 aA ?_
 rintro rfl
 refine cL 2 aA ?_
 rintro rfl
 let W0:=RR kT65 A2 D2 g1.Nodes::RR kT3 A3 D3 g1.Outs::RR dY A5 D5 g::V
 refine cN W0 ?_
 refine aZ ?_
 refine eA R fun b7=>?_
 refine aU ?_
 let W1:=aJ b7 [(sc A2 g1.Nodes D2),(sc A3 g1.Outs D3)] 31::W0
 refine qN W1 ?_
 refine aU ?_
 refine bU (K:=dY) (xs:=([]:List Tensor)) (vs:=[]) 0 R R gX bW dN R R R R R R ?_ R (fun A8 D8=>?_)
 exact fun I h s=>(xe).list [] I h s
 refine cR ?_
 refine cQ [(1,(sc A5 g D5)),(2,(.bool l)),(3,(pt b7 0)),(8,(sc A8 ([]:List Tensor) D8)),(25,(.bool ((decide ((g1.Nodes.length:Int)>200))||(decide ((g1.Outs.length:Int)>40)))))] (OO dY 42 A8 D8 ([]:List Tensor)::W1) ?_ ?_
 refine cE ?_
 rcases bo (decide ((g1.Nodes.length:Int)>200)) with co | co
 refine cE ?_
 exact qj tI
 refine cE ?_
 exact qj tI
 rintro σ1
 refine cA ?_
 split at j
 refine dA ?_
 cases j
 exact jW (A8,([]:List Tensor).length,D8) (fun w s=>((s.wk 0 R).e 5 [0]))
 refine dC ?_
 refine bE (A:=((List Tensor)×Int)×(HH)) (fun a=>Zb_J5 g1 g l a.1.1 a.1.2=some r) (fun a=>[(1,(sc A5 g D5)),(2,(.bool l)),(3,(pt b7 0)),(8,(s3 a.2)),(9,(iv a.1.2))]) (fun a=>ow (dY).share 42 (s3 a.2) a.1.1::W1) ?_ ?_
 refine cE ?_
 obtain ⟨e1,cr,ax⟩:=bd j
 refine bF (A:=HH) cr (fun s a=>[(1,(sc A5 g D5)),(2,(.bool l)),(3,(pt b7 0)),(8,(s3 a)),(9,(iv s.2.1)),(10,(iv s.2.2))]) (fun s a=>ow (dY).share 42 (s3 a) s.1::W1) (A8,([]:List Tensor).length,D8) (aS R) (fun w s=>(s.wk 0 R)) ?_
 rintro ⟨i,q,b⟩ ⟨u,cb,D⟩ σ1 bl j aw
 dsimp only [Zb_L1] at j
 refine bQ 0 fI (fun (hn:cb=i.length)=>?_)
 subst hn
 refine dA ?_
 split at j
 refine cE ?_
 obtain ⟨a9,j⟩:=gd j
 refine bI ?_
 refine bG 2 aA (show 0<g1.Nodes.length by have:=a9; omega) (fun d8 o110 ha=>?_)
 subst ha
 refine cA ?_
 refine hK (K:=kT65) 2 b dT65.dec R a9.1 a9.2 ?_
 rintro ⟨-,⟨E,F⟩,⟨G,M⟩,⟨J,O⟩,-,⟨L,T⟩⟩
 refine lO (vz (.agg [(iv (ix g1.Nodes b).Op),(sc E ((ix g1.Nodes b).Args) F),(sc G ((ix g1.Nodes b).Dims) M),(sc J ((ix g1.Nodes b).Ints) O),(aH (ix g1.Nodes b).Form),(sc L ((ix g1.Nodes b).Data) T)].toArray) (eJ (fo:=0) 0 ni eY R R R R)) (aY R R kA (fun Y=>(aL 0 R R eY R R R R R R (lN (aJ Y [(iv (ix g1.Nodes b).Op),(sc E ((ix g1.Nodes b).Args) F),(sc G ((ix g1.Nodes b).Dims) M),(sc J ((ix g1.Nodes b).Ints) O),(aH (ix g1.Nodes b).Form),(sc L ((ix g1.Nodes b).Data) T)] 65::_::_::_::_::_::_::W1) ?_))))
 refine bI ?_
 obtain ⟨bm,bz,j⟩:=bd j
 obtain ⟨ck,c0,j⟩:=bd j
 refine cQ [(1,(sc A5 g D5)),(2,(.bool l)),(3,(pt b7 0)),(8,(sc u i D)),(9,(iv q)),(10,(iv b)),(11,(pt Y 0)),(48,(.bool ((!bm)||(!ck))))] (OO (dY).share 42 u D i::aJ Y [(iv (ix g1.Nodes b).Op),(sc E ((ix g1.Nodes b).Args) F),(sc G ((ix g1.Nodes b).Dims) M),(sc J ((ix g1.Nodes b).Ints) O),(aH (ix g1.Nodes b).Form),(sc L ((ix g1.Nodes b).Data) T)] 65::RR kT3 E F ((ix g1.Nodes b).Args)::RR kT3 G M ((ix g1.Nodes b).Dims)::RR kT3 J O ((ix g1.Nodes b).Ints)::RR kT3 L T ((ix g1.Nodes b).Data)::W1) ?_ ?_
 refine aZ ?_
 refine lM _ (fun w s=>(((((s.d 2 R).d 4 R).d 6 R).d 8 R).f 11 [3,1,2,1,1,1,0,1,4,7])) ?_
 refine lC 4 Bc R (Z17_ok bz) R ?_
 rintro _
 refine aZ ?_
 rcases bo (!bm) with a8 | a8
 refine dO ?_
 exact qj (tE 7 [6,0,2,3,4,5])
 refine aU ?_
 refine lM _ (fun w s=>(s.d 2 R)) ?_
 refine bY 1 R (bJ a8) uO R (Z0i_ok (bL c0 (cP a8))) R ?_
 rintro _
 refine aU ?_
 exact qj (tE 7 [6,0,2,3,4,5])
 rintro σ1
 refine cA ?_
 split at j
 refine iY ?_
 cases j
 obtain rfl:=aw _ R
 have j:=ax
 refine aU ?_
 cases j
 exact jW (u,i.length,D) (tE 10 [0])
 refine cR ?_
 refine bU (K:=dY) (xs:=([]:List Tensor)) (vs:=[]) 0 R R gX bW dN R R R R R R ?_ R (fun c7 c9=>?_)
 exact fun I h s=>(xe).list [] I h s
 refine bI ?_
 refine bE (A:=((List Tensor))×(HH)) (fun a=>Zb_J3 g1 g l i q b a.1=some bl) (fun a=>[(1,(sc A5 g D5)),(2,(.bool l)),(3,(pt b7 0)),(8,(sc u i D)),(9,(iv q)),(10,(iv b)),(11,(pt Y 0)),(12,(s3 a.2))]) (fun a=>OO (dY).share 42 u D i::aJ Y [(iv (ix g1.Nodes b).Op),(sc E ((ix g1.Nodes b).Args) F),(sc G ((ix g1.Nodes b).Dims) M),(sc J ((ix g1.Nodes b).Ints) O),(aH (ix g1.Nodes b).Form),(sc L ((ix g1.Nodes b).Data) T)] 65::RR kT3 E F ((ix g1.Nodes b).Args)::RR kT3 G M ((ix g1.Nodes b).Dims)::RR kT3 J O ((ix g1.Nodes b).Ints)::RR kT3 L T ((ix g1.Nodes b).Data)::ow (dY).share 42 (s3 a.2) a.1::W1) ?_ ?_
 refine cE ?_
 obtain ⟨e2,cs,cq⟩:=bd j
 refine bF (A:=HH) cs (fun s a=>[(1,(sc A5 g D5)),(2,(.bool l)),(3,(pt b7 0)),(8,(sc u i D)),(9,(iv q)),(10,(iv b)),(11,(pt Y 0)),(12,(s3 a)),(13,(iv s.2))]) (fun s a=>OO (dY).share 42 u D i::aJ Y [(iv (ix g1.Nodes b).Op),(sc E ((ix g1.Nodes b).Args) F),(sc G ((ix g1.Nodes b).Dims) M),(sc J ((ix g1.Nodes b).Ints) O),(aH (ix g1.Nodes b).Form),(sc L ((ix g1.Nodes b).Data) T)] 65::RR kT3 E F ((ix g1.Nodes b).Args)::RR kT3 G M ((ix g1.Nodes b).Dims)::RR kT3 J O ((ix g1.Nodes b).Ints)::RR kT3 L T ((ix g1.Nodes b).Data)::ow (dY).share 42 (s3 a) s.1::W1) (c7,([]:List Tensor).length,c9) (aS R) (fun w s=>((s.wk 0 R).f 7 [1,6,0,1])) ?_
 rintro ⟨a6,a0⟩ ⟨c8,cc,ca⟩ σ1 db j cp
 dsimp only [Zb_L2] at j
 refine bQ 6 fI (fun (hn:cc=a6.length)=>?_)
 subst hn
 refine dA ?_
 split at j
 refine cR ?_
 obtain ⟨bs,j⟩:=gd j
 obtain ⟨aa,j⟩:=gd j
 obtain ⟨bu,j⟩:=gd j
 refine cE ?_
 refine bG 2 aA (show 0<((ix g1.Nodes b).Args).length by have:=bs; omega) (fun d9 o141 ha=>?_)
 subst ha
 refine aZ ?_
 refine bG 0 fI (show 0<i.length by have:=aa; omega) (fun da o144 ha=>?_)
 subst ha
 refine cA ?_
 refine yJ (K:=(dY).share) 0 (ix ((ix g1.Nodes b).Args) a0) R R eR bW dT42.own R R aa.1 aa.2 ?_
 rintro ⟨⟨ay,b9⟩,⟨az,ba⟩⟩
 refine lM _ (fun w s=>(((s.d 0 R).d 2 R).f 11 [1,1,0,1,2,9])) ?_
 refine bU (K:=(dY).share) (xs:=([(ix i (ix ((ix g1.Nodes b).Args) a0))]:List Tensor)) (vs:=[(.agg [(sc ay ((ix i (ix ((ix g1.Nodes b).Args) a0)).Dims) b9),(sc az ((ix i (ix ((ix g1.Nodes b).Args) a0)).Data) ba)].toArray)]) 2 R R gX bW dN R R R R R R ?_ R (fun ct cx=>?_)
 exact fun I h s=>(yY).list [(((sc ay ((ix i (ix ((ix g1.Nodes b).Args) a0)).Dims) b9),(sc az ((ix i (ix ((ix g1.Nodes b).Args) a0)).Data) ba)),(ix i (ix ((ix g1.Nodes b).Args) a0)))] I h s
 refine lM _ (fun w s=>(s.f 10 [9,1,0,9])) ?_
 refine eO (K:=(dY).share) 2932031007402 R R gX bW z6 (Zr.zk (Zr.share yZ) dN) R R R R R R dQ bu (fun b0 bb=>(lN (OO (dY).share 42 b0 bb (a6++([(ix i (ix ((ix g1.Nodes b).Args) a0))]:List Tensor))::_::_::_::_::_::_::_::_::W1) ?_))
 refine dC ?_
 cases j
 exact qA (b0,(a6++([(ix i (ix ((ix g1.Nodes b).Args) a0))]:List Tensor)).length,bb) (fun w s=>(s.f 9 [3,6,0,1]))
 refine aU ?_
 cases j
 obtain rfl:=cp _ R
 have j:=cq
 refine aZ ?_
 exact qI (a6,(c8,a6.length,ca)) j tI
 rintro ⟨a7,⟨ac,cf,ae⟩⟩ σ1 j
 dsimp only [Zb_J3] at j
 refine bQ 6 fI (fun (hn:cf=a7.length)=>?_)
 subst hn
 refine aZ ?_
 refine lO (vz (.agg [(.slice none 0 0),(.slice none 0 0)].toArray) (aV hG dN R R)) (aY R R dN (fun a1=>(aL 0 R R bW R R R R R R (lN (_::OO (dY).share 42 u D i::aJ Y [(iv (ix g1.Nodes b).Op),(sc E ((ix g1.Nodes b).Args) F),(sc G ((ix g1.Nodes b).Dims) M),(sc J ((ix g1.Nodes b).Ints) O),(aH (ix g1.Nodes b).Form),(sc L ((ix g1.Nodes b).Data) T)] 65::RR kT3 E F ((ix g1.Nodes b).Args)::_::_::_::OO (dY).share 42 ac ae a7::W1) ?_))))
 refine aU ?_
 refine bE (A:=(Int×(List Int)×(List Int))×(HH×HH)) (fun a=>Zb_J4 i b a.1.1 a.1.2.1 a.1.2.2=some bl) (fun a=>[(1,(sc A5 g D5)),(2,(.bool l)),(3,(pt b7 0)),(8,(sc u i D)),(9,(iv a.1.1)),(10,(iv b)),(14,(pt a1 0))]) (fun a=>OO (dY).share 42 u D i::aJ a1 [(s3 a.2.1),(s3 a.2.2)] 42::ow kT3 3 (s3 a.2.1) a.1.2.1::ow kT3 3 (s3 a.2.2) a.1.2.2::W1) ?_ ?_
 refine dC ?_
 split at j
 refine cA ?_
 obtain ⟨a4,c1,j⟩:=bd j
 refine aU ?_
 refine lM _ (fun w s=>(((((s.d 3 R).d 5 R).d 7 R).d 9 R).e 12 [11,3,2,1,0,4,5,6,7,8,9,10])) ?_
 refine lC 5 Bn R (FnOk.lends (A':=[OO (dY).share 42 ac ae a7]) (A:=[RR dY ac ae a7]) (B:=[RR kT3 E F ((ix g1.Nodes b).Args),RR kT3 G M ((ix g1.Nodes b).Dims),RR kT3 J O ((ix g1.Nodes b).Ints),RR kT3 L T ((ix g1.Nodes b).Data)]) (FnOk.perm (Z1_ok c1) (Pre':=[RR dY ac ae a7,RR kT3 E F ((ix g1.Nodes b).Args),RR kT3 G M ((ix g1.Nodes b).Dims),RR kT3 J O ((ix g1.Nodes b).Ints),RR kT3 L T ((ix g1.Nodes b).Data)]) (fun _ _ _ s=>(s.f 5 [1,4,0,1]))) ⟨qw,trivial⟩ (fun _=>⟨(bB iF),(bB iF),trivial⟩)) R ?_
 rintro ⟨⟨b1,d2,bc⟩,⟨b2,d3,be⟩⟩
 refine aM 1 aB ?_
 rintro rfl
 refine aM 2 aB ?_
 rintro rfl
 refine aL 3 R R bW R R R R R R (lN (_::_::_::aJ a1 [(sc b1 a4.Dims bc),(sc b2 a4.Data be)] 42::_::_::_::_::_::_::W1) ?_)
 refine aZ ?_
 exact qI ((q,a4.Dims,a4.Data),((b1,a4.Dims.length,bc),(b2,a4.Data.length,be))) j (tE 10 [4,3,1,2])
 refine dO ?_
 split at j
 refine cA ?_
 obtain ⟨a5,c2,j⟩:=bd j
 refine aU ?_
 refine lM _ (fun w s=>(s.d 4 R)) ?_
 refine lC 1 Bo R (Z0q_ok c2) R ?_
 rintro ⟨⟨b3,d4,bf⟩,⟨b4,d5,bg⟩⟩
 refine aM 0 aB ?_
 rintro rfl
 refine aM 1 aB ?_
 rintro rfl
 refine aL 2 R R bW R R R R R R (lN (_::_::aJ a1 [(sc b3 a5.Dims bf),(sc b4 a5.Data bg)] 42::_::_::_::_::_::_::_::W1) ?_)
 refine aZ ?_
 exact qI ((q,a5.Dims,a5.Data),((b3,a5.Dims.length,bf),(b4,a5.Data.length,bg))) j (tE 10 [3,2,0,1])
 refine aU ?_
 obtain ⟨U,j⟩:=gd j
 obtain ⟨bn,av,j⟩:=bd j
 obtain ⟨bv,j⟩:=gd j
 obtain ⟨cm,c3,j⟩:=bd j
 refine cQ [(1,(sc A5 g D5)),(2,(.bool l)),(3,(pt b7 0)),(8,(sc u i D)),(9,(iv q)),(10,(iv b)),(11,(pt Y 0)),(14,(pt a1 0)),(92,(.bool (((decide (q≥(g.length:Int)))||(!bn))||(!cm))))] (OO (dY).share 42 u D i::aJ Y [(iv (ix g1.Nodes b).Op),(sc E ((ix g1.Nodes b).Args) F),(sc G ((ix g1.Nodes b).Dims) M),(sc J ((ix g1.Nodes b).Ints) O),(aH (ix g1.Nodes b).Form),(sc L ((ix g1.Nodes b).Data) T)] 65::RR kT3 E F ((ix g1.Nodes b).Args)::RR kT3 G M ((ix g1.Nodes b).Dims)::RR kT3 J O ((ix g1.Nodes b).Ints)::RR kT3 L T ((ix g1.Nodes b).Data)::aJ a1 [(.slice none 0 0),(.slice none 0 0)] 42::W1) ?_ ?_
 rcases bo (decide (q≥(g.length:Int))) with m | m
 refine cX 23 [] bM fun ht hn=>?_
 refine B0 0 [] ?_
 refine dD ?_
 exact qj (fun w s=>(s.f 8 [1,6,0,1]))
 rcases bo ((decide (q≥(g.length:Int)))||(!bn)) with Z | Z
 refine bA 11 aA (show 0<g.length by have:=(U m); omega) (fun bk o168 ha=>?_)
 subst ha
 refine dG (K:=dY) 11 q dT42.dec R (U m).1 (U m).2 ?_
 rintro ⟨⟨aj,ao⟩,⟨ak,ap⟩⟩
 refine cX 23 [] bM fun ht hn=>?_
 refine sU 0 [] ?_
 refine dW 7 R (bJ m) (eE gX bW R R (U m)) (dW 8 R (bJ m) (vz (.agg [(sc aj ((ix g q).Dims) ao),(sc ak ((ix g q).Data) ap)].toArray) (eJ (fo:=0) 0 eR bW R R R R)) (d1 9 R (lM _ (fun w s=>(((s.d 1 R).d 3 R).f 13 [1,1,0,1,2,11])) ?_)))
 refine bY 2 R (bJ m) mL R (Zi_ok (bL av (cP m))) R ?_
 rintro _
 refine aC (aG (sL []) ?_)
 refine mI 10 [] ?_
 refine dD ?_
 exact qj (fun w s=>(s.f 11 [4,6,3,1]))
 refine bA 11 aA (show 0<g.length by have:=(U m); omega) (fun bk o168 ha=>?_)
 subst ha
 refine dG (K:=dY) 11 q dT42.dec R (U m).1 (U m).2 ?_
 rintro ⟨⟨aj,ao⟩,⟨ak,ap⟩⟩
 refine cX 23 [] bM fun ht hn=>?_
 refine sU 0 [] ?_
 refine dW 7 R (bJ m) (eE gX bW R R (U m)) (dW 8 R (bJ m) (vz (.agg [(sc aj ((ix g q).Dims) ao),(sc ak ((ix g q).Data) ap)].toArray) (eJ (fo:=0) 0 eR bW R R R R)) (d1 9 R (lM _ (fun w s=>(((s.d 1 R).d 3 R).f 13 [1,1,0,1,2,11])) ?_)))
 refine bY 2 R (bJ m) mL R (Zi_ok (bL av (cP m))) R ?_
 rintro _
 refine aC (aG (sL []) ?_)
 refine kz 10 [] ?_
 refine dW 15 R (bJ Z) (eE gX bW R R (bv Z)) (dW 16 R (bJ Z) (vz (.pointer (some ⟨bk,o168+q.toNat*2,none⟩)) (gN fT R R)) (dW 17 R (bJ Z) (eD (fo:=0) 0 cB R R R) ?_))
 refine hY 18 [] ?_
 refine d1 20 R (lM _ (fun w s=>(((s.d 1 R).d 8 R).f 13 [1,1,0,1,2,11])) ?_)
 refine bY 2 R (bJ Z) uP R (Zv_ok (bL c3 (cP Z))) R ?_
 rintro _
 refine aC (aG (sL []) ?_)
 refine hY 21 [] ?_
 refine dD ?_
 exact qj (fun w s=>(s.f 11 [4,6,3,1]))
 rintro σ1
 refine cA ?_
 split at j
 refine oH ?_
 cases j
 obtain rfl:=aw _ R
 have j:=ax
 refine aU ?_
 cases j
 exact jW (u,i.length,D) (tE 11 [0])
 refine bI ?_
 obtain ⟨ag,c4,j⟩:=bd j
 obtain ⟨ab,j⟩:=gd j
 obtain ⟨ah,c5,j⟩:=bd j
 refine bA 10 aA (show 0<g.length by have:=ab; omega) (fun cj o184 ha=>?_)
 subst ha
 refine dG (K:=dY) 10 q dT42.dec R ab.1 ab.2 ?_
 rintro ⟨⟨cu,cy⟩,⟨cv,cz⟩⟩
 refine cX 11 [9] bM fun ht hn=>?_
 refine hY 0 [9] ?_
 refine iJ 3 [9] ?_
 refine dR 6 R (vz (.pointer (some ⟨cj,o184+q.toNat*2+1,none⟩)) (gN ka R R)) (hS:=(sL [9])) (dR 7 R (eD (fo:=1) 0 cB R R R) (hS:=(sL [9])) (d1 2 R (lM _ (fun w s=>(s.d 6 R)) ?_)))
 refine lC 1 iP R (Z9_ok c4) R ?_
 rintro ⟨al,d6,aq⟩
 refine aM 0 aB ?_
 rintro rfl
 refine aC (aG (sL [10,0]) (d1 8 R (lM _ (fun w s=>(s.d 3 R)) ?_)))
 refine lC 1 iP R (Z9_ok c5) R ?_
 rintro ⟨am,d7,ar⟩
 refine aM 0 aB ?_
 rintro rfl
 refine aC (aG (sL [11,1,0]) (dR 9 R (vz (.agg [(sc al ag aq),(sc am ah ar)].toArray) (aV hG dN R R)) (hS:=(sL [11,1,0])) (d1 10 R (aL 11 R R bW R R R R R R (lN (_::_::_::_::_::_::_::_::_::_::_::aJ a1 [(sc al ag aq),(sc am ah ar)] 42::W1) ?_)))))
 refine aC (aG (sL [11,1,0]) (dD ?_))
 refine dO ?_
 exact qI (((aK (q+1)),ag,ah),((al,ag.length,aq),(am,ah.length,ar))) j (tE 12 [5,11,1,0])
 rintro ⟨⟨dc,a2,a3⟩,⟨⟨b5,cg,bh⟩,⟨b6,ch,bi⟩⟩⟩ σ1 j
 dsimp only [Zb_J4] at j
 refine bQ 2 aB (fun (hn:cg=a2.length)=>?_)
 subst hn
 refine bQ 3 aB (fun (hn:ch=a3.length)=>?_)
 subst hn
 refine dC ?_
 split at j
 refine iY ?_
 cases j
 obtain rfl:=aw _ R
 have j:=ax
 refine aU ?_
 cases j
 exact jW (u,i.length,D) (tE 8 [0])
 refine aU ?_
 obtain ⟨bw,j⟩:=gd j
 refine aU ?_
 refine lM _ (fun w s=>(((((s.shr 2 R).d 0 R).shr 4 R).d 0 R).e 6 [2,0,1,3,4,5])) ?_
 refine bU (K:=(dY).share) (xs:=([(⟨a2,a3⟩:Tensor)]:List Tensor)) (vs:=[(.agg [(sc b5 a2 bh),(sc b6 a3 bi)].toArray)]) 2 R R gX bW dN R R R R R R ?_ R (fun cw d0=>?_)
 exact fun I h s=>(yY).list [(((sc b5 a2 bh),(sc b6 a3 bi)),(⟨a2,a3⟩:Tensor))] I h s
 refine lM _ (tE 5 [3,0,1,2,4]) ?_
 refine eO (K:=(dY).share) 2932031007402 R R gX bW z6 (Zr.zk (Zr.share yZ) dN) R R R R R R dQ bw (fun b8 bj=>(lN (OO (dY).share 42 b8 bj (i++([(⟨a2,a3⟩:Tensor)]:List Tensor))::_::_::_::W1) ?_))
 refine dC ?_
 cases j
 exact qA (b8,(i++([(⟨a2,a3⟩:Tensor)]:List Tensor)).length,bj) (tE 4 [0])
 refine aU ?_
 cases j
 obtain rfl:=aw _ R
 have j:=ax
 refine aZ ?_
 exact qI ((i,q),(u,i.length,D)) j tI
 rintro ⟨⟨ai,cn⟩,⟨an,ci,au⟩⟩ σ1 j
 dsimp only [Zb_J5] at j
 refine bQ 0 fI (fun (hn:ci=ai.length)=>?_)
 subst hn
 refine cA ?_
 obtain ⟨bp,c6,j⟩:=bd j
 refine cQ [(6,(sc an ai au)),(7,(.bool (bp&&(l||(cn==(g.length:Int))))))] (OO (dY).share 42 an au ai::W1) ?_ ?_
 refine dO ?_
 refine lM _ (fun w s=>(s.d 3 R)) ?_
 refine lC 1 uO R (Z0i_ok c6) R ?_
 rintro _
 refine cA ?_
 rcases bo bp with bq | bq
 refine aZ ?_
 rcases bo l with br | br
 refine dC ?_
 exact qj tI
 refine dC ?_
 exact qj tI
 refine j7 ?_
 exact qj tI
 rintro σ1
 refine aZ ?_
 cases j
 exact jW (an,ai.length,au) (tE 5 [0])
theorem Z1v_ok  {g1:Graph}{r:Bool}(a:Z1v g1=some r) :
 FnOk Tryz.prog 34 [(.agg [(.slice A2 N2 D2),(.slice A3 N3 D3)].toArray)] [aQ kT65 (.slice A2 N2 D2) g1.Nodes,aQ kT3 (.slice A3 N3 D3) g1.Outs] (fun (h:Unit)=>((.bool r),[])):=by
 unfold Z1v at a
 refine aR Tryz.func34 R 12 R R fun C V=>?_
 refine cL 0 aA ?_
 rintro rfl
 refine cL 1 aA ?_
 rintro rfl
 let g:=RR kT65 A2 D2 g1.Nodes::RR kT3 A3 D3 g1.Outs::V
 refine cN g ?_
 refine aZ ?_
 refine eA R fun j=>?_
 refine aZ ?_
 let i:=aJ j [(sc A2 g1.Nodes D2),(sc A3 g1.Outs D3)] 31::g
 refine qN i ?_
 refine aZ ?_
 obtain ⟨l,b,a⟩:=bd a
 refine aZ ?_
 refine bU (K:=dY) (xs:=([]:List Tensor)) (vs:=[]) 0 R R gX bW dN R R R R R R ?_ R (fun A5 D5=>?_)
 exact fun I h s=>(xe).list [] I h s
 refine je (fun w s=>s.shr 0 R) (lM _ (fun w s=>((((s.d 2 R).d 4 R).d 2 R).e 4 [2,1,0,3])) ?_)
 refine lC 3 Bp R (Zb_ok b) R ?_
 rintro ⟨A8,N8,D8⟩
 refine aM 0 fI ?_
 rintro rfl
 refine lO (vT R) ?_
 refine lv ?_
 cases a
 exact qF () (tE 5 [])
theorem Z35_ok  {a:Node}{r:Node}(E:Z35 a=some r) :
 FnOk Tryz.prog 38 [(.agg [(iv a.Op),(.slice A2 N2 D2),(.slice A3 N3 D3),(.slice A4 N4 D4),(aH a.Form),(.slice A5 N5 D5)].toArray)] [aQ kT3 (.slice A2 N2 D2) a.Args,aQ kT3 (.slice A3 N3 D3) a.Dims,aQ kT3 (.slice A4 N4 D4) a.Ints,aQ kT3 (.slice A5 N5 D5) a.Data] (fun (h:HH×HH×HH×HH)=>((.agg [(iv r.Op),(.slice h.1.1 h.1.2.1 h.1.2.2),(.slice h.2.1.1 h.2.1.2.1 h.2.1.2.2),(.slice h.2.2.1.1 h.2.2.1.2.1 h.2.2.1.2.2),(aH r.Form),(.slice h.2.2.2.1 h.2.2.2.2.1 h.2.2.2.2.2)].toArray),[ow kT3 3 (.slice h.1.1 h.1.2.1 h.1.2.2) r.Args,ow kT3 3 (.slice h.2.1.1 h.2.1.2.1 h.2.1.2.2) r.Dims,ow kT3 3 (.slice h.2.2.1.1 h.2.2.1.2.1 h.2.2.1.2.2) r.Ints,ow kT3 3 (.slice h.2.2.2.1 h.2.2.2.2.1 h.2.2.2.2.2) r.Data])):=by
 unfold Z35 at E
 refine aR Tryz.func38 R 20 R R fun C V=>?_
 refine cN (_::_::_::_::V) ?_
 refine cL 0 aA ?_
 rintro rfl
 refine cL 1 aA ?_
 rintro rfl
 refine cL 2 aA ?_
 rintro rfl
 refine cL 3 aA ?_
 rintro rfl
 let U:List HP:=RR kT3 A2 D2 a.Args::RR kT3 A3 D3 a.Dims::RR kT3 A4 D4 a.Ints::RR kT3 A5 D5 a.Data::V
 refine cN U ?_
 refine aI (aD (eA R (fun Z=>(aY R R kA (fun Y=>(aC ?_))))))
 let D:List HP:=aJ Z [(iv a.Op),(sc A2 a.Args D2),(sc A3 a.Dims D3),(sc A4 a.Ints D4),(aH a.Form),(sc A5 a.Data D5)] 65::U
 refine qN (_::D) ?_
 refine aE (aI ?_)
 obtain ⟨J,T,E⟩:=bd E
 obtain ⟨q,F,E⟩:=bd E
 obtain ⟨u,G,E⟩:=bd E
 obtain ⟨B,I,E⟩:=bd E
 refine cX 18 [0] bM (fun ht hn=>(dR 0 R (dS 0 fS R) (hS:=(sL [0])) (dR 1 R (dV 0 fR R R R) (hS:=(sL [0])) (dR 2 R (dS 1 mK R) (hS:=(sL [0])) (dR 3 R (dV 0 cB R R R) (hS:=(sL [0])) (dR 5 R (dS 2 iG R) (hS:=(sL [0])) (dR 6 R (dV 0 cB R R R) (hS:=(sL [0])) (dR 8 R (dS 3 gJ R) (hS:=(sL [0])) (dR 9 R (dV 0 cB R R R) (hS:=(sL [0])) (dR 11 R (dS 4 lx R) (hS:=(sL [0])) (dR 12 R (dV 0 pl R R R) (hS:=(sL [0])) (dR 13 R (dS 5 kB R) (hS:=(sL [0])) (dR 14 R (dV 0 cB R R R) (hS:=(sL [0])) (d1 4 R (lM (RR kT3 A2 D2 a.Args::_::D) (fun w s=>(s.d 2 R)) ?_)))))))))))))))
 refine lC 1 iP R (Z9_ok T) R ?_
 rintro ⟨A10,N10,D10⟩
 refine lN (ow kT3 3 (.slice A10 N10 D10) J::_::D) ?_
 refine aM 0 aB ?_
 rintro rfl
 refine aC (aG (sL [1,0]) (d1 7 R (lM (RR kT3 A3 D3 a.Dims::_::_::D) (fun w s=>(s.d 4 R)) ?_)))
 refine lC 1 iP R (Z9_ok F) R ?_
 rintro ⟨b,L,j⟩
 refine lN (ow kT3 3 (.slice b L j) q::_::_::D) ?_
 refine aM 0 aB ?_
 rintro rfl
 refine aC (aG (sL [2,1,0]) (d1 10 R (lM (RR kT3 A4 D4 a.Ints::_::_::_::D) (fun w s=>(s.d 6 R)) ?_)))
 refine lC 1 iP R (Z9_ok G) R ?_
 rintro ⟨g,M,l⟩
 refine lN (ow kT3 3 (.slice g M l) u::_::_::_::D) ?_
 refine aM 0 aB ?_
 rintro rfl
 refine aC (aG (sL [3,2,1,0]) (d1 15 R (lM (RR kT3 A5 D5 a.Data::_::_::_::_::D) (fun w s=>(s.d 8 R)) ?_)))
 refine lC 1 iP R (Z9_ok I) R ?_
 rintro ⟨i,O,m⟩
 refine lN (ow kT3 3 (.slice i O m) B::_::_::_::_::D) ?_
 refine aM 0 aB ?_
 rintro rfl
 refine aC (aG (sL [4,3,2,1,0]) (dR 16 R (vz (.agg [(iv a.Op),(sc A10 J D10),(sc b q j),(sc g u l),(aH a.Form),(sc i B m)].toArray) (aV uV kA R R)) (hS:=(sL [4,3,2,1,0])) (d1 17 R (aL 4 R R eY R R R R R R (lN (_::_::_::_::aJ Y [(iv a.Op),(sc A10 J D10),(sc b q j),(sc g u l),(aH a.Form),(sc i B m)] 65::D) ?_)))))
 refine aC (aG (sL [4,3,2,1,0]) (dD (aE (bO ?_))))
 obtain rfl:=so E
 exact cY (vs:=[(.agg [(iv a.Op),(sc A10 J D10),(sc b q j),(sc g u l),(aH a.Form),(sc i B m)].toArray)]) (.inl R) ((A10,J.length,D10),(b,q.length,j),(g,u.length,l),(i,B.length,m)) R ⟨⟨4,Y,_,_,R,R,.inl ⟨ni,eY,R⟩⟩,trivial⟩ R (fun w s=>(s.e 10 [3,2,1,0]))
end Go.Proofs.YthelanpdjajnbaaGreat
