import Derived.Test.YthelanpdjajnbaaGreatMeF
import Derived.Test.YthelanpdjajnbaaGreatMeW2
import Derived.Test.YthelanpdjajnbaaGreatMeW3
set_option linter.unusedVariables false
set_option maxRecDepth 20000
namespace Go.Proofs.YthelanpdjajnbaaGreat
open Go Go.Pg
variable {A2 A3 A4 A5 A7:Option Addr}{D2 D3 D4 D5 D7 N2 N3 N4 N5 N7:Nat}
theorem Z0f_ok  {v1:View}{g:Int}{b:Int}{l:Int}{r:View}(q:Z0f v1 g b l=some r) :
 FnOk Tryz.prog 100 [(.agg [(.slice A2 N2 D2),(.slice A3 N3 D3),(iv v1.Offset),(iv v1.Base)].toArray),(iv g),(iv b),(iv l)] [aO kT3 (.slice A2 N2 D2) v1.Dims,aO kT3 (.slice A3 N3 D3) v1.Strides] (fun (h:HH×HH)=>((.agg [(.slice h.1.1 h.1.2.1 h.1.2.2),(.slice h.2.1 h.2.2.1 h.2.2.2),(iv r.Offset),(iv r.Base)].toArray),[aO kT3 (.slice h.1.1 h.1.2.1 h.1.2.2) r.Dims,aO kT3 (.slice h.2.1 h.2.2.1 h.2.2.2) r.Strides])):=by
 unfold Z0f at q
 refine aR Tryz.func100 R 85 R R fun C V=>?_
 refine cN (_::_::V) ?_
 refine cL 0 aA ?_
 rintro rfl
 refine cL 1 aA ?_
 rintro rfl
 let W0:List HP:=RR kT3 A2 D2 v1.Dims::RR kT3 A3 D3 v1.Strides::V
 refine cN W0 ?_
 refine aI (aD (eJ R (fun b7=>(aY R R cF (fun b8=>(aB ?_))))))
 let E:List HP:=aJ b7 [(sc A2 v1.Dims D2),(sc A3 v1.Strides D3),(iv v1.Offset),(iv v1.Base)] 111::W0
 refine qN (_::E) ?_
 refine aE (aI (aI ?_))
 obtain ⟨r9,am,q⟩:=bd q
 obtain ⟨a6,q⟩:=gd q
 refine cQ [(1,(iv g)),(2,(iv b)),(3,(iv l)),(4,(pt b7 0)),(8,(pt b8 0)),(32,(.bool ((((!r9)||(decide (b<(1:Int))))||(decide (l<(1:Int))))||(decide (b>(ix v1.Dims g))))))] (aJ b8 [(.slice none 0 0),(.slice none 0 0),(iv 0),(iv 0)] 111::E) ?_ ?_
 refine aD (lO (vz (.agg [(sc A2 v1.Dims D2),(sc A3 v1.Strides D3),(iv v1.Offset),(iv v1.Base)].toArray) (bN 1 eY bW R R R R)) (lI R (lM (RR kT3 A2 D2 v1.Dims::RR kT3 A3 D3 v1.Strides::aJ _ _ _::E) (fun w s=>(((s.d 2 R).d 4 R).e 3 [1,0,2])) ?_)))
 refine lC 2 wC R (Z2g_ok am) R ?_
 rintro _
 refine lN (_::E) ?_
 refine lO (mf R) (lB R ?_)
 rcases bo (!r9) with m | m
 refine lf (dK m) (lf (dK m) (lO (fE (decide (b<(1:Int))) R m) (lB R (lf (dK (oT m)) (lf (dK (oT m)) (lO (fE (decide (l<(1:Int))) R (oT m)) (lB R (lf (dK (oT (oT m))) (lf (dK (oT (oT m))) (lf (dK (oT (oT m))) (lf (dK (oT (oT m))) (lf (dK (oT (oT m))) (lf (dK (oT (oT m))) (lf (dK (oT (oT m))) (lO (fE (decide (b>(ix v1.Dims g))) R (oT (oT m))) (aB ?_))))))))))))))))
 exact qJ (fun w s=>s)
 refine lW (cG m) (vI R) (lW (cG m) (jz R R) (lO (fZ R m R) (lB R ?_)))
 rcases bo ((!r9)||(decide (b<(1:Int)))) with u | u
 refine lf (dK u) (lf (dK u) (lO (fE (decide (l<(1:Int))) R u) (lB R (lf (dK (oT u)) (lf (dK (oT u)) (lf (dK (oT u)) (lf (dK (oT u)) (lf (dK (oT u)) (lf (dK (oT u)) (lf (dK (oT u)) (lO (fE (decide (b>(ix v1.Dims g))) R (oT u)) (aB ?_))))))))))))
 exact qJ (fun w s=>s)
 refine lW (cG u) (vI R) (lW (cG u) (jz R R) (lO (fZ R u R) (lB R ?_)))
 rcases bo (((!r9)||(decide (b<(1:Int))))||(decide (l<(1:Int)))) with j | j
 refine lf (dK j) (lf (dK j) (lf (dK j) (lf (dK j) (lf (dK j) (lf (dK j) (lf (dK j) (lO (fE (decide (b>(ix v1.Dims g))) R j) (aB ?_))))))))
 exact qJ (fun w s=>s)
 refine lW (cG j) (vI R) (lW (cG j) (eC 0 f' R) (lW (cG j) (eH 1 bZ R R R) (lW (cG j) (vI R) (bC 2 aA (show 0<v1.Dims.length by have:=(a6 j); omega) (fun b0 o13 ha=>?_)))))
 subst ha
 refine lW (cG j) (eA bI cI R R (a6 j)) (lW (cG j) (gP 2 fC aA R (a6 j)) (lW (cG j) (z8 R R) (lO (fZ R j R) (aB ?_))))
 exact qJ (fun w s=>s)
 rintro σ1
 refine aE ?_
 rcases bY q with ⟨a3,q⟩|⟨a3,q⟩
 refine bM R a3 (aI (aD (lO (vz (.agg [(.slice none 0 0),(.slice none 0 0),(iv 0),(iv 0)].toArray) (aV eE cF R R)) (aL 0 R R bW R R R R R R (aB (aE (bO (bP ?_))))))))
 obtain rfl:=so q
 exact cX (vs:=[(.agg [(.slice none 0 0),(.slice none 0 0),(iv 0),(iv 0)].toArray)]) (.inl R) ((none,0,0),(none,0,0)) R ⟨⟨0,b8,_,_,R,R,.inl ⟨eY,bW,R⟩⟩,trivial⟩ R (fun w s=>(((s.nilr kT3).nilr kT3).e 6 [1,0]))
 refine aX R a3 (bS (aE (aI ?_)))
 obtain ⟨i,an,q⟩:=bd q
 refine aD (lO (vz (.agg [(sc A2 v1.Dims D2),(sc A3 v1.Strides D3),(iv v1.Offset),(iv v1.Base)].toArray) (bN 1 eY bW R R R R)) (lM (RR kT3 A2 D2 v1.Dims::RR kT3 A3 D3 v1.Strides::aJ _ _ _::E) (fun w s=>(((s.d 2 R).d 4 R).e 3 [1,0,2])) ?_))
 refine lC 2 wD R (Z2i_ok an) R ?_
 rintro ⟨⟨ai,aw,O⟩,⟨ah,ax,D⟩⟩
 refine lN (ow kT3 3 (.slice ai aw O) i.Dims::ow kT3 3 (.slice ah ax D) i.Strides::_::E) ?_
 refine aM 0 aC ?_
 rintro rfl
 refine aM 1 aC ?_
 rintro rfl
 refine aY R R cF (fun T=>(aL 0 R R bW R R R R R R (lN (aJ T [(sc ai i.Dims O),(sc ah i.Strides D),(iv i.Offset),(iv i.Base)] 111::_::_::_::E) ?_)))
 refine aB (aE (aI ?_))
 obtain ⟨a7,q⟩:=gd q
 obtain ⟨aj,q⟩:=gd q
 refine aD (lO (eC 0 f' R) (lO (eH 4 bZ R R R) (lI R (bC 5 aA (show 0<v1.Dims.length by have:=a7; omega) (fun b1 o25 ha=>?_)))))
 subst ha
 refine lO (eA bI cI R R a7) (lO (gP 5 fC aA R a7) (lI R (lO (xl R R) (lI R (lO (vz (iv (aK ((aK ((ix v1.Dims g) - b)).tdiv l))) (mT R R aj)) (lO (jy R R) (lI R (aB (aE (aI ?_))))))))))
 obtain ⟨a8,q⟩:=gd q
 refine aD (lO (eC 1 fN R) (lO (eH 4 bZ R R R) (lI R (bC 6 aA (show 0<v1.Strides.length by have:=a8; omega) (fun b2 o29 ha=>?_)))))
 subst ha
 refine lO (eA bI cI R R a8) (lO (gP 6 fC aA R a8) (lI R (aB (aE (aI ?_)))))
 obtain ⟨a0,q⟩:=gd q
 refine aD (lO (eC 0 f' R) (lO (eH 0 bZ R R R) (lI R (lI R (bC 1 aC (show 0<i.Dims.length by have:=a0; omega) (fun Z o32 ha=>?_))))))
 subst ha
 refine lO (eA bI cI R R a0) (lM (OO kT3 3 (ad Z o32) O i.Dims::aJ T [(sc (ad Z o32) i.Dims O),(sc ah i.Strides D),(iv i.Offset),(iv i.Base)] 111::ow _ _ _ _::aJ _ _ _::E) (fun w s=>(s.e 4 [1,0,2,3])) ?_)
 refine eB (K:=kT3) (x':=(aK ((aK ((aK ((ix v1.Dims g) - b)).tdiv l))+(1:Int)))) 0 g R R cI R R a0.1 a0.2 ?_ ?_
 exact fun I h s=>(gF).put I h () (aK ((aK ((aK ((ix v1.Dims g) - b)).tdiv l))+(1:Int))) s
 refine lN (ow kT3 3 (.slice (ad Z o32) i.Dims.length O) (i.Dims.set g.toNat (aK ((aK ((aK ((ix v1.Dims g) - b)).tdiv l))+(1:Int))))::_::_::_::E) ?_
 refine aB ?_
 obtain ⟨B,a9,q⟩:=bd q
 replace a9:=Option.some.inj a9
 refine qM (ow kT3 3 (.slice (ad Z o32) i.Dims.length O) B::_::_::_::E) (fun w s=>by rw [← a9]; exact s) ?_
 refine aE (aI ?_)
 obtain ⟨J,q⟩:=gd q
 refine aD (lO (eC 1 fN R) (lO (eH 1 bZ R R R) (lI R (bC 2 aC (show 0<i.Strides.length by have:=J; omega) (fun G o37 ha=>?_)))))
 subst ha
 refine lO (eA bI cI R R J) (lM (OO kT3 3 (ad G o37) D i.Strides::ow _ _ _ _::aJ T [(sc (ad Z o32) i.Dims O),(sc (ad G o37) i.Strides D),(iv i.Offset),(iv i.Base)] 111::aJ _ _ _::E) (fun w s=>(s.e 4 [2,0,1,3])) ?_)
 refine eB (K:=kT3) (x':=(0:Int)) 0 g R R cI R R J.1 J.2 ?_ ?_
 exact fun I h s=>(gF).put I h () (0:Int) s
 refine lN (ow kT3 3 (.slice (ad G o37) i.Strides.length D) (i.Strides.set g.toNat (0:Int))::_::_::_::E) ?_
 refine aB (aE (aI (bD (A:=((List Int))×(Unit)) (fun a=>Z0f_J1 v1 g b i B a.1=some r) (fun a=>[(2,(iv b)),(8,(pt b8 0)),(9,(pt T 0)),(11,(iv (ix v1.Strides g)))]) (fun a=>aJ b8 [(.slice none 0 0),(.slice none 0 0),(iv 0),(iv 0)] 111::aJ T [(sc (ad Z o32) i.Dims O),(sc (ad G o37) i.Strides D),(iv i.Offset),(iv i.Base)] 111::ow kT3 3 (.slice (ad Z o32) i.Dims.length O) B::ow kT3 3 (.slice (ad G o37) i.Strides.length D) a.1::E) ?_ ?_)))
 refine aI (aD (lI R (lO (z8 R R) (aB (aE ?_)))))
 rcases bY q with ⟨a4,q⟩|⟨a4,q⟩
 refine bM R a4 (aD (lO (eC 1 fN R) (lO (eH 2 bZ R R R) (lI R (lI R (lI R (lO (sg R R) (lO (eA bI cI R R J) (eB (K:=kT3) (x':=(aK ((ix v1.Strides g)*l))) 0 g R R cI R R J.1 J.2 ?_ ?_)))))))))
 exact fun I h s=>(gF).put I h () (aK ((ix v1.Strides g)*l)) s
 refine lN (ow kT3 3 (.slice (ad G o37) i.Strides.length D) ((i.Strides.set g.toNat (0:Int)).set g.toNat (aK ((ix v1.Strides g)*l)))::_::_::_::E) ?_
 refine aB ?_
 obtain ⟨ap,aa,q⟩:=bd q
 replace aa:=Option.some.inj aa
 refine qM (ow kT3 3 (.slice (ad G o37) i.Strides.length D) ap::_::_::_::E) (fun w s=>by rw [← aa]; exact s) ?_
 exact qI (ap,()) q (fun w s=>(s.e 4 [3,2,1,0]))
 refine aX R a4 (bS ?_)
 exact qI ((i.Strides.set g.toNat (0:Int)),()) q (fun w s=>(s.e 4 [3,2,1,0]))
 rintro ⟨L,_⟩ σ1 q
 replace q:Z0f_J1 v1 g b i B L=some r:=q
 unfold Z0f_J1 at q
 refine aI ?_
 obtain ⟨ak,q⟩:=gd q
 refine aD (lO (eC 0 f' R) (lO (eH 1 bZ R R R) (lI R (bK (K:=kT3) (xs:=([b]:List Int)) (vs:=[(iv b)]) 0 R R bI cI gB R R R R R R ?_ R (fun aq au=>?_)))))
 exact fun I h s=>(gF).list [((),b)] I h s
 refine lN (OO kT3 3 aq au ([b]:List Int)::_::_::_::ow kT3 3 (.slice (ad G o37) i.Strides.length D) L::E) ?_
 refine lM (ow _ _ _ _::ow _ _ _ _::aJ _ _ _::aJ _ _ _::ow _ _ _ _::E) (fun w s=>(s.e 5 [3,0,1,2,4])) ?_
 refine dV (K:=kT3) 17592186044416 R R bI cI jN (Zr.zk zT3 gB) R R R R R R dA ak (fun U Y=>(lN (OO kT3 3 U Y (B++([b]:List Int))::_::_::_::E) ?_))
 refine lO (eC 0 f' R) (cO 2 R R eX R R R R R (lN (_::_::aJ T [(sc U (B++([b]:List Int)) Y),(sc (ad G o37) i.Strides D),(iv i.Offset),(iv i.Base)] 111::_::E) ?_))
 refine aB (aE (aI (bD (A:=(Int)×(Unit)) (fun a=>Z0f_J2 b i B L a.1=some r) (fun a=>[(8,(pt b8 0)),(9,(pt T 0)),(11,(iv a.1))]) (fun a=>aJ b8 [(.slice none 0 0),(.slice none 0 0),(iv 0),(iv 0)] 111::aJ T [(sc U (B++([b]:List Int)) Y),(sc (ad G o37) i.Strides D),(iv i.Offset),(iv i.Base)] 111::OO kT3 3 U Y (B++([b]:List Int))::ow kT3 3 (.slice (ad G o37) i.Strides.length D) L::E) ?_ ?_)))
 refine aI (aD (lI R (lO (l8 R R) (aB (aE ?_)))))
 rcases bY q with ⟨a5,q⟩|⟨a5,q⟩
 refine bM R a5 (aD (lI R (aB ?_)))
 exact qI ((0:Int),()) q (fun w s=>(s.e 4 [1,2,0,3]))
 refine aX R a5 (bS ?_)
 exact qI ((ix v1.Strides g),()) q (fun w s=>(s.e 4 [1,2,0,3]))
 rintro ⟨M,_⟩ σ1 q
 replace q:Z0f_J2 b i B L M=some r:=q
 unfold Z0f_J2 at q
 refine aI ?_
 obtain ⟨al,q⟩:=gd q
 refine aD (lO (eC 1 fN R) (lO (eH 1 bZ R R R) (lI R (bK (K:=kT3) (xs:=([M]:List Int)) (vs:=[(iv M)]) 0 R R bI cI gB R R R R R R ?_ R (fun ar av=>?_)))))
 exact fun I h s=>(gF).list [((),M)] I h s
 refine lN (OO kT3 3 ar av ([M]:List Int)::_::_::_::_::E) ?_
 refine lM (ow _ _ _ _::ow _ _ _ _::aJ _ _ _::aJ _ _ _::ow _ _ _ _::E) (fun w s=>(s.f 5 [4,1,0,4])) ?_
 refine dV (K:=kT3) 17592186044416 R R bI cI jN (Zr.zk zT3 gB) R R R R R R dA al (fun a1 a2=>(lN (OO kT3 3 a1 a2 (L++([M]:List Int))::_::_::_::E) ?_))
 refine lO (eC 1 fN R) (cO 2 R R eX R R R R R (lN (_::_::aJ T [(sc U (B++([b]:List Int)) Y),(sc a1 (L++([M]:List Int)) a2),(iv i.Offset),(iv i.Base)] 111::_::E) ?_))
 refine aB (aE (aI ?_))
 obtain ⟨F,ao,q⟩:=bd q
 refine aD (lO (vz (.agg [(sc U (B++([b]:List Int)) Y),(sc a1 (L++([M]:List Int)) a2),(iv i.Offset),(iv i.Base)].toArray) (bN 2 eY bW R R R R)) (fS (fun w s=>s.shr 3 R) (fS (fun w s=>s.shr 1 R) (lM (RR kT3 U Y (B++([b]:List Int))::RR kT3 a1 a2 (L++([M]:List Int))::RR kT3 a1 a2 (L++([M]:List Int))::RR kT3 U Y (B++([b]:List Int))::aJ _ _ _::aJ _ _ _::E) (fun w s=>(((s.d 1 R).d 1 R).e 6 [1,0,2,3,4,5])) ?_))))
 refine lC 2 wE R (Z2j_ok (v1:=(⟨(B++([b]:List Int)),(L++([M]:List Int)),i.Offset,i.Base⟩:View)) ao) R ?_
 rintro ⟨⟨ab,ay,ae⟩,⟨ac,az,ag⟩⟩
 refine lN (aO kT3 (.slice ab ay ae) F.Dims::aO kT3 (.slice ac az ag) F.Strides::_::_::_::_::E) ?_
 refine aM 0 aA ?_
 rintro rfl
 refine aM 1 aA ?_
 rintro rfl
 refine aL 4 R R bW R R R R R R (lN (_::_::_::_::aJ b8 [(sc ab F.Dims ae),(sc ac F.Strides ag),(iv F.Offset),(iv F.Base)] 111::_::E) ?_)
 refine aB (aE (bO ?_))
 obtain rfl:=so q
 exact cX (vs:=[(.agg [(sc ab F.Dims ae),(sc ac F.Strides ag),(iv F.Offset),(iv F.Base)].toArray)]) (.inl R) ((ab,F.Dims.length,ae),(ac,F.Strides.length,ag)) R ⟨⟨4,b8,_,_,R,R,.inl ⟨eY,bW,R⟩⟩,trivial⟩ R (fun w s=>(s.e 9 [0,1]))
theorem Z0z_ok  {t1:Tensor}{i:Int}{j:Int}{J:Int}{r:Tensor}(b:Z0z t1 i j J=some r) :
 FnOk Tryz.prog 101 [(.agg [(.slice A2 N2 D2),(.slice A3 N3 D3)].toArray),(iv i),(iv j),(iv J)] [aO kT3 (.slice A2 N2 D2) t1.Dims,aO kT3 (.slice A3 N3 D3) t1.Data] (fun (h:HH×HH)=>((.agg [(s3 h.1),(s3 h.2)].toArray),[ow kT3 3 (s3 h.1) r.Dims,ow kT3 3 (s3 h.2) r.Data])):=by
 unfold Z0z at b
 refine aR Tryz.func101 R 118 R R fun C V=>?_
 refine cL 0 aA ?_
 rintro rfl
 refine cL 1 aA ?_
 rintro rfl
 let W0:=RR kT3 A2 D2 t1.Dims::RR kT3 A3 D3 t1.Data::V
 refine cN W0 ?_
 refine bA ?_
 refine eJ R fun b7=>?_
 refine aY R R dZ (fun L=>(aB ?_))
 let T:=aJ b7 [(sc A2 t1.Dims D2),(sc A3 t1.Data D3)] 42::W0
 refine iZ ?_
 obtain ⟨r9,a9,b⟩:=bd b
 refine cQ [(1,(iv i)),(2,(iv j)),(3,(iv J)),(4,(pt b7 0)),(8,(pt L 0)),(9,(iv (aK ((t1.Dims.length:Int) - 1)))),(40,(.bool (((((!r9)||(i==(aK ((t1.Dims.length:Int) - 1))))||(decide (j<1)))||(decide (J<1)))||(decide (J>4096)))))] (aJ L [(.slice none 0 0),(.slice none 0 0)] 42::T) ?_ ?_
 refine aW ?_
 refine lM _ (fun w s=>(((s.d 2 R).d 4 R).e 3 [1,0,2])) ?_
 refine lC 2 pl R (Z1m_ok a9) R ?_
 rintro _
 refine bA ?_
 rcases bo (!r9) with a1 | a1
 refine rL ?_
 exact qj tI
 refine cU ?_
 rcases bo ((!r9)||(i==(aK ((t1.Dims.length:Int) - 1)))) with a2 | a2
 refine iZ ?_
 exact qj tI
 refine bL ?_
 rcases bo (((!r9)||(i==(aK ((t1.Dims.length:Int) - 1))))||(decide (j<1))) with a3 | a3
 refine dM ?_
 exact qj tI
 refine bL ?_
 rcases bo ((((!r9)||(i==(aK ((t1.Dims.length:Int) - 1))))||(decide (j<1)))||(decide (J<1))) with a4 | a4
 refine bL ?_
 exact qj tI
 refine bL ?_
 exact qj tI
 rintro σ1
 refine cE ?_
 split at b
 refine aW ?_
 refine lO (vz (.agg [(.slice none 0 0),(.slice none 0 0)].toArray) (aV hM dZ R R)) (aL 0 R R bX R R R R R R (aB (aE (bO (bP ?_)))))
 cases b
 exact qS ((none,0,0),(none,0,0)) (fun w s=>(((s.nilo kT3 3).nilo kT3 3).e 6 [1,0]))
 refine bL ?_
 obtain ⟨a5,b⟩:=gd b
 refine bL ?_
 refine bC 2 aA (show 0<t1.Dims.length by have:=a5; omega) (fun b4 o18 ha=>?_)
 subst ha
 refine dX ?_
 obtain ⟨a6,b⟩:=gd b
 obtain ⟨M,b⟩:=gd b
 refine cQ [(1,(iv i)),(2,(iv j)),(3,(iv J)),(4,(pt b7 0)),(8,(pt L 0)),(9,(iv (aK ((t1.Dims.length:Int) - 1)))),(63,(.bool ((decide ((ix t1.Dims (aK ((t1.Dims.length:Int) - 1)))>J))||((aK ((aK ((aK (J - (ix t1.Dims (aK ((t1.Dims.length:Int) - 1))))).tdiv j))+1)) != (ix t1.Dims i)))))] (aJ L [(.slice none 0 0),(.slice none 0 0)] 42::T) ?_ ?_
 rcases bo (decide ((ix t1.Dims (aK ((t1.Dims.length:Int) - 1)))>J)) with D | D
 refine dE 17 [] bQ fun ht hn=>?_
 refine zj 0 [] ?_
 refine dD ?_
 exact qj tI
 refine dE 17 [] bQ fun ht hn=>?_
 refine v6 0 [] ?_
 refine dW 8 R (cG D) (vz (iv (aK ((aK (J - (ix t1.Dims (aK ((t1.Dims.length:Int) - 1))))).tdiv j))) (mT R R (a6 D))) ?_
 refine pd 9 [] ?_
 refine dW 13 R (cG D) (eA bI cI R R (M D)) (dW 14 R (cG D) (gP 2 fC aA R (M D)) ?_)
 refine iC 15 [] ?_
 refine dD ?_
 exact qj tI
 rintro σ1
 refine cE ?_
 split at b
 refine aW ?_
 refine lO (vz (.agg [(.slice none 0 0),(.slice none 0 0)].toArray) (aV hM dZ R R)) (aL 0 R R bX R R R R R R (aB (aE (bO (bP ?_)))))
 cases b
 exact qS ((none,0,0),(none,0,0)) (fun w s=>(((s.nilo kT3 3).nilo kT3 3).e 6 [1,0]))
 refine bL ?_
 obtain ⟨b9,aa,b⟩:=bd b
 obtain ⟨G,b⟩:=gd b
 refine cU ?_
 refine lM _ (fun w s=>(s.d 2 R)) ?_
 refine lC 1 lb R (Z0l_ok aa) R ?_
 rintro ⟨aq,az,aw⟩
 refine aM 0 aC ?_
 rintro rfl
 refine lI R (fS (fun w s=>s.shr 0 R) (gZ (K:=kT3) (0:Int) (aK ((t1.Dims.length:Int) - 1)) 0 R R bI cI R R R R G.1 G.2.1 G.2.2 (fun ar ax=>(lS R (aB (aE (aI (aI ?_))))))))
 obtain ⟨ba,ab,b⟩:=bd b
 refine bA ?_
 refine lM _ (fun w s=>(s.d 0 R)) ?_
 refine lC 1 kD R (Zp_ok ab) R ?_
 rintro _
 refine aW ?_
 split at b
 refine aW ?_
 refine lO (vz (.agg [(.slice none 0 0),(.slice none 0 0)].toArray) (aV hM dZ R R)) (aL 2 R R bX R R R R R R (aB (aE (bO (bP ?_)))))
 cases b
 exact qS ((none,0,0),(none,0,0)) (fun w s=>(((s.nilo kT3 3).nilo kT3 3).e 8 [1,0]))
 refine bL ?_
 obtain ⟨g,ac,b⟩:=bd b
 refine bA ?_
 refine lM _ (fun w s=>(s.d 0 R)) ?_
 refine lC 1 la R (Z0k_ok ac) R ?_
 rintro ⟨⟨l,b0,q⟩,⟨m,b1,u⟩⟩
 refine aM 0 aC ?_
 rintro rfl
 refine aM 1 aC ?_
 rintro rfl
 refine aY R R dZ (fun F=>(aL 0 R R bX R R R R R R (lN (aJ F [(sc l g.Dims q),(sc m g.Data u)] 42::_::_::_::_::_::T) ?_)))
 refine aW ?_
 refine bD (A:=((List Int))×(Unit)) (fun a=>Z0z_J1 g a.1=some r) (fun a=>[(8,(pt L 0)),(12,(pt F 0))]) (fun a=>aJ L [(.slice none 0 0),(.slice none 0 0)] 42::aJ F [(sc l g.Dims q),(sc m g.Data u)] 42::OO kT3 3 l q g.Dims::ow kT3 3 (.slice m g.Data.length u) a.1::T) ?_ ?_
 refine cH ?_
 obtain ⟨e1,an,am⟩:=bd b
 refine bE (A:=Unit) an (fun s a=>[(1,(iv i)),(2,(iv j)),(4,(pt b7 0)),(8,(pt L 0)),(9,(iv (aK ((t1.Dims.length:Int) - 1)))),(12,(pt F 0)),(13,(iv s.2))]) (fun s a=>aJ L [(.slice none 0 0),(.slice none 0 0)] 42::aJ F [(sc l g.Dims q),(sc m g.Data u)] 42::OO kT3 3 l q g.Dims::ow kT3 3 (.slice m g.Data.length u) s.1::T) () (aS R) (tE 6 [5,0,1,2]) ?_
 rintro ⟨E,b6⟩ _ σ1 ap b al
 dsimp only [Z0z_L1] at b
 refine dH ?_
 split at b
 refine cH ?_
 obtain ⟨O,ae,b⟩:=bd b
 refine bL ?_
 refine lM _ (fun w s=>(s.d 5 R)) ?_
 refine lC 1 mh R (Zl_ok ae) R ?_
 rintro ⟨au,b2,Y⟩
 refine aM 0 aC ?_
 rintro rfl
 refine bL ?_
 obtain ⟨a7,b⟩:=gd b
 obtain ⟨_,b⟩:=gd b
 obtain ⟨ak,ag,b⟩:=bd b
 obtain ⟨I,b⟩:=gd b
 refine bB 0 aC (show 0<O.length by have:=a7; omega) (fun a0 o66 ha=>?_)
 subst ha
 refine dE 17 [] bQ fun ht hn=>?_
 refine mY 0 [] ?_
 refine dR 14 R (vI R) (d1 13 R (lC 1 lb R (FnOk.lends (A':=[OO kT3 3 (ad a0 o66) Y O]) (A:=[RR kT3 (ad a0 o66) Y O]) (B:=[]) (Z0l_ok ag) ⟨aQ,trivial⟩ (fun _=>⟨(bH iP),trivial⟩)) R ?_))
 rintro ⟨av,b3,ay⟩
 refine aM 1 aC ?_
 rintro rfl
 refine aB (aG (sL [1]) (d1 15 R (fS (fun w s=>s.shr 1 R) (gZ (K:=kT3) (0:Int) (aK ((t1.Dims.length:Int) - 1)) 0 R R bI cI R R R R I.1 I.2.1 I.2.2 (fun U Z=>(aB (aG (sL [1,0]) (dR 16 R (vS R) (hS:=(sL [1,0])) (dD (aE ?_))))))))))
 obtain ⟨bb,ah,b⟩:=bd b
 obtain ⟨a8,b⟩:=gd b
 obtain ⟨bc,ai,b⟩:=bd b
 obtain ⟨be,aj,b⟩:=bd b
 refine bB 9 aA (show 0<t1.Data.length by have:=a8; omega) (fun b5 o77 ha=>?_)
 subst ha
 refine dE 12 [6] bQ fun ht hn=>?_
 refine pd 0 [6] ?_
 refine kM 5 [6] ?_
 refine d1 4 R (lM _ (fun w s=>((s.d 0 R).f 8 [6,2,0,6])) ?_)
 refine lC 3 nO R (FnOk.lends (A':=[OO kT3 3 l q g.Dims,ow kT3 3 (.slice m g.Data.length u) E]) (A:=[RR kT3 l q g.Dims,aO kT3 (.slice m g.Data.length u) E]) (B:=[RR kT3 U Z (sub ak (0:Int) (aK ((t1.Dims.length:Int) - 1)))]) (Z1c_ok (t1:=(⟨g.Dims,E⟩:Tensor)) ah) ⟨aQ,aQ,trivial⟩ (fun _=>trivial)) R ?_
 rintro _
 refine aB (aG (fun w s=>(s.f 7 [2,5,0,1])) (d1 10 R (lC 0 qT R (Z1s_ok ai) R ?_)))
 rintro _
 refine aB (aG (fun w s=>(s.f 7 [2,5,0,1])) (d1 11 R (lM _ (fun w s=>((s.d 2 R).f 8 [1,2,0,1,3,5])) ?_)))
 refine lC 3 tl R (FnOk.lends (A':=[OO kT3 3 l q g.Dims]) (A:=[RR kT3 l q g.Dims]) (B:=[ow kT3 3 (.slice m g.Data.length u) E,RR kT3 U Z (sub ak (0:Int) (aK ((t1.Dims.length:Int) - 1)))]) (Z21_ok (t1:=(⟨g.Dims,E⟩:Tensor)) aj) ⟨aQ,trivial⟩ (fun _=>⟨(bH iP),trivial⟩)) R ?_
 rintro _
 refine aB (aG (fun w s=>(s.f 7 [2,5,0,1])) (dD ?_))
 refine dX ?_
 cases b
 exact qA () (tE 7 [5,6,0,1])
 refine aW ?_
 cases b
 obtain rfl:=al _ R
 have b:=am
 refine bA ?_
 exact qI (E,()) b tI
 rintro ⟨ao,_⟩ σ1 b
 dsimp only [Z0z_J1] at b
 refine aW ?_
 refine aL 0 R R bX R R R R R R (lN (aJ L [(sc l g.Dims q),(sc m g.Data u)] 42::_::_::ow kT3 3 (.slice m g.Data.length u) ao::T) ?_)
 refine aW ?_
 cases b
 exact qS ((l,g.Dims.length,q),(m,g.Data.length,u)) (tE 7 [2,3])
theorem Z2_ok  {j:Node}{g:(List Tensor)}{r:Tensor}(b:Z2 j g=some r) :
 FnOk Tryz.prog 78 [(.agg [(iv j.Op),(.slice A2 N2 D2),(.slice A3 N3 D3),(.slice A4 N4 D4),(aH j.Form),(.slice A5 N5 D5)].toArray),(.slice A7 N7 D7)] [aO kT3 (.slice A2 N2 D2) j.Args,aO kT3 (.slice A3 N3 D3) j.Dims,aO kT3 (.slice A4 N4 D4) j.Ints,aO kT3 (.slice A5 N5 D5) j.Data,aO dQ (.slice A7 N7 D7) g] (fun (h:HH×HH)=>((.agg [(.slice h.1.1 h.1.2.1 h.1.2.2),(.slice h.2.1 h.2.2.1 h.2.2.2)].toArray),[ow kT3 3 (.slice h.1.1 h.1.2.1 h.1.2.2) r.Dims,ow kT3 3 (.slice h.2.1 h.2.2.1 h.2.2.2) r.Data])):=by
 unfold Z2 at b
 refine aR Tryz.func78 R 217 R R fun C V=>?_
 refine cN (_::_::_::_::_::V) ?_
 refine cL 0 aA ?_
 rintro rfl
 refine cL 1 aA ?_
 rintro rfl
 refine cL 2 aA ?_
 rintro rfl
 refine cL 3 aA ?_
 rintro rfl
 refine cL 4 aA ?_
 rintro rfl
 let W0:List HP:=RR kT3 A2 D2 j.Args::RR kT3 A3 D3 j.Dims::RR kT3 A4 D4 j.Ints::RR kT3 A5 D5 j.Data::RR dQ A7 D7 g::V
 refine cN W0 ?_
 refine aI (aD (eJ R (fun b8=>(aY R R dZ (fun l=>(aB ?_))))))
 let i:List HP:=aJ b8 [(iv j.Op),(sc A2 j.Args D2),(sc A3 j.Dims D3),(sc A4 j.Ints D4),(aH j.Form),(sc A5 j.Data D5)] 65::W0
 refine qN (_::i) ?_
 refine aE (aI (aD (lO (eC 3 gS R) (lO (eH 1 bZ R R R) (lS R (aB (aE (aI (aI (aD (lO (eC 0 gR R) (lO (eH 1 fC R R R) (aB (aE (cB (aI (aD (lO (l8 R R) (lB R (aB (aE ?_)))))))))))))))))))))
 rcases bY b with ⟨d9,b⟩|⟨d9,b⟩
 refine bM R d9 (aI (aD (lO (eC 2 i' R) (lO (eH 1 bZ R R R) (lO (eC 5 kN R) (lO (eH 1 bZ R R R) (lO (vz (.agg [(sc A3 j.Dims D3),(sc A5 j.Data D5)].toArray) (aV hM dZ R R)) (aY R R dZ (fun ic=>(aL 0 R R bX R R R R R R (lN (aJ ic [(sc A3 j.Dims D3),(sc A5 j.Data D5)] 42::_::i) ?_)))))))))))
 refine aB (aE (aI (aI ?_)))
 obtain ⟨ir,he,b⟩:=bd b
 refine aD (lO (vz (.agg [(sc A3 j.Dims D3),(sc A5 j.Data D5)].toArray) (bN 0 gA bX R R R R)) (lM (RR kT3 A3 D3 j.Dims::RR kT3 A5 D5 j.Data::aJ _ _ _::aJ _ _ _::i) (fun w s=>(((s.d 4 R).d 7 R).e 4 [1,0,2,3])) ?_))
 refine lC 2 og R (Zs_ok (t1:=(⟨j.Dims,j.Data⟩:Tensor)) he) R ?_
 rintro _
 refine lN (_::_::i) ?_
 refine lO (mf R) (aB (aE ?_))
 rcases bY b with ⟨da,b⟩|⟨da,b⟩
 refine bM R da (aI (aD (lO (vz (.agg [(.slice none 0 0),(.slice none 0 0)].toArray) (aV hM dZ R R)) (aL 1 R R bX R R R R R R (aB (aE (bO (bP (b' (bP ?_))))))))))
 obtain rfl:=so b
 exact cX (vs:=[(.agg [(.slice none 0 0),(.slice none 0 0)].toArray)]) (.inl R) ((none,0,0),(none,0,0)) R ⟨⟨1,l,_,_,R,R,.inl ⟨gA,bX,R⟩⟩,trivial⟩ R (fun w s=>(((s.nilo kT3 3).nilo kT3 3).e 10 [1,0]))
 refine aX R da (bS (aE (aI ?_)))
 obtain ⟨e1,hf,b⟩:=bd b
 obtain ⟨e2,hg,b⟩:=bd b
 refine dE 8 [1] bQ (fun ht hn=>(dR 0 R (eC 2 i' R) (hS:=(sL [1])) (dR 1 R (eH 1 bZ R R R) (hS:=(sL [1])) (dR 3 R (eC 5 kN R) (hS:=(sL [1])) (dR 4 R (eH 1 bZ R R R) (hS:=(sL [1])) (d1 2 R (lM (RR kT3 A3 D3 j.Dims::_::_::i) (fun w s=>(s.d 4 R)) ?_)))))))
 refine lC 1 jr R (Ze_ok hf) R ?_
 rintro ⟨ca,hs,cx⟩
 refine lN (ow kT3 3 (.slice ca hs cx) e1::_::_::i) ?_
 refine aM 0 aC ?_
 rintro rfl
 refine aB (aG (sL [2,0]) (d1 5 R (lM (RR kT3 A5 D5 j.Data::_::_::_::i) (fun w s=>(s.d 7 R)) ?_)))
 refine lC 1 jr R (Ze_ok hg) R ?_
 rintro ⟨cg,hu,d2⟩
 refine lN (ow kT3 3 (.slice cg hu d2) e2::_::_::_::i) ?_
 refine aM 0 aC ?_
 rintro rfl
 refine aB (aG (sL [3,1,0]) (dR 6 R (vz (.agg [(sc ca e1 cx),(sc cg e2 d2)].toArray) (aV hM dZ R R)) (hS:=(sL [3,1,0])) (d1 7 R (aL 3 R R bX R R R R R R (lN (_::_::_::aJ l [(sc ca e1 cx),(sc cg e2 d2)] 42::i) ?_)))))
 refine aB (aG (sL [3,1,0]) (dD (aE (bO (b' (bP ?_))))))
 obtain rfl:=so b
 exact cX (vs:=[(.agg [(sc ca e1 cx),(sc cg e2 d2)].toArray)]) (.inl R) ((ca,e1.length,cx),(cg,e2.length,d2)) R ⟨⟨3,l,_,_,R,R,.inl ⟨gA,bX,R⟩⟩,trivial⟩ R (fun w s=>(s.e 10 [1,0]))
 refine aX R d9 (aI (bD (A:=(Bool)×(Unit)) (fun a=>Z2_J1 j g a.1=some r) (fun a=>[(1,(sc A7 g D7)),(2,(pt b8 0)),(4,(pt l 0)),(5,(sc A4 j.Ints D4)),(10,(iv j.Op)),(29,(.bool a.1))]) (fun a=>aJ l [(.slice none 0 0),(.slice none 0 0)] 42::i) ?_ ?_))
 refine aI (aD (lO (l8 R R) (lB R (aB (aE ?_)))))
 rcases bY b with ⟨db,b⟩|⟨db,b⟩
 refine bM R db (bS ?_)
 exact qI ((j.Op==(3:Int)),()) b (fun w s=>s)
 refine aX R db (aI (aD (lO (l8 R R) (lB R (aB (aE ?_))))))
 rcases bY b with ⟨dc,b⟩|⟨dc,b⟩
 refine bM R dc (bS ?_)
 exact qI ((j.Op==(4:Int)),()) b (fun w s=>s)
 refine aX R dc (aD (lO (l8 R R) (lB R (aB ?_))))
 exact qI ((j.Op==(5:Int)),()) b (fun w s=>s)
 rintro ⟨ig,_⟩ σ1 b
 replace b:Z2_J1 j g ig=some r:=b
 unfold Z2_J1 at b
 rcases bY b with ⟨dd,b⟩|⟨dd,b⟩
 refine bM R dd (aI (aI ?_))
 obtain ⟨a0,b⟩:=gd b
 obtain ⟨bu,b⟩:=gd b
 obtain ⟨it,hh,b⟩:=bd b
 refine bB 6 aA (show 0<g.length by have:=a0; omega) (fun ew o27 m=>?_)
 subst m
 refine dP (K:=dQ) 6 (0:Int) dT42.dec R a0.1 a0.2 ?_
 rintro ⟨⟨f6,fg⟩,⟨f7,fh⟩⟩
 refine cN (cl ew (o27+(0:Int).toNat*2) [(sc f6 ((ix g (0:Int)).Dims) fg),(sc f7 ((ix g (0:Int)).Data) fh)]::RR kT3 f6 fg ((ix g (0:Int)).Dims)::RR kT3 f7 fh ((ix g (0:Int)).Data)::aJ l [(.slice none 0 0),(.slice none 0 0)] 42::i) ?_
 refine dP (K:=dQ) 9 (1:Int) dT42.dec R bu.1 bu.2 ?_
 rintro ⟨⟨f8,fi⟩,⟨f9,fj⟩⟩
 refine cN (cl ew (o27+(1:Int).toNat*2) [(sc f8 ((ix g (1:Int)).Dims) fi),(sc f9 ((ix g (1:Int)).Data) fj)]::RR kT3 f8 fi ((ix g (1:Int)).Dims)::RR kT3 f9 fj ((ix g (1:Int)).Data)::_::_::_::_::i) ?_
 refine dE 10 [] bQ (fun ht hn=>(dR 0 R (vS R) (dR 1 R (eA gX bX R R a0) (dR 2 R (vz (.pointer (some ⟨ew,o27+(0:Int).toNat*2,none⟩)) (iI j0 R R)) (dR 3 R (eO (fo:=0) 3 bZ R R R) (dR 4 R (vS R) (dR 5 R (eA gX bX R R bu) (dR 6 R (vz (.pointer (some ⟨ew,o27+(1:Int).toNat*2,none⟩)) (iI j0 R R)) (dR 7 R (eO (fo:=0) 0 bZ R R R) (d1 8 R (lM (aO _ _ _::aO _ _ _::cl _ _ _::aO _ _ _::aO _ _ _::cl _ _ _::aO _ _ _::aO _ _ _::aJ _ _ _::i) (fun w s=>(((s.d 4 R).d 2 R).f 9 [1,1,0,1,2,7])) ?_)))))))))))
 refine lC 2 vf R (Zw_ok hh) R ?_
 rintro _
 refine lN (_::_::_::_::_::_::_::i) ?_
 refine aB (aG (sL []) (dR 9 R (mf R) (dD (aE ?_))))
 rcases bY b with ⟨de,b⟩|⟨de,b⟩
 refine bM R de (aI (aD (lO (vz (.agg [(.slice none 0 0),(.slice none 0 0)].toArray) (aV hM dZ R R)) (aL 6 R R bX R R R R R R (aB (aE (bO (bP (b' (bP ?_))))))))))
 obtain rfl:=so b
 exact cX (vs:=[(.agg [(.slice none 0 0),(.slice none 0 0)].toArray)]) (.inl R) ((none,0,0),(none,0,0)) R ⟨⟨6,l,_,_,R,R,.inl ⟨gA,bX,R⟩⟩,trivial⟩ R (fun w s=>(((s.nilo kT3 3).nilo kT3 3).e 15 [1,0]))
 refine aX R de (bS (aE (aI ?_)))
 obtain ⟨a3,hi,b⟩:=bd b
 refine dE 12 [6] bQ (fun ht hn=>(dR 0 R (eC 0 gR R) (hS:=(sL [6])) (dR 1 R (eH 6 fC R R R) (hS:=(sL [6])) (dR 2 R (xl R R) (hS:=(sL [6])) (dR 3 R (jy R R) (hS:=(sL [6])) (dR 4 R (vS R) (hS:=(sL [6])) (dR 5 R (eA gX bX R R a0) (hS:=(sL [6])) (dR 6 R (vz (.agg [(sc f6 ((ix g (0:Int)).Dims) fg),(sc f7 ((ix g (0:Int)).Data) fh)].toArray) (eF (fo:=0) 3 gA bX R R R R)) (hS:=(sL [6])) (dR 7 R (vS R) (hS:=(sL [6])) (dR 8 R (eA gX bX R R bu) (hS:=(sL [6])) (dR 9 R (vz (.agg [(sc f8 ((ix g (1:Int)).Dims) fi),(sc f9 ((ix g (1:Int)).Data) fj)].toArray) (eF (fo:=0) 0 gA bX R R R R)) (hS:=(sL [6])) (d1 10 R (lM (aO _ _ _::aO _ _ _::aO _ _ _::aO _ _ _::cl _ _ _::aO _ _ _::aO _ _ _::cl _ _ _::aO _ _ _::aO _ _ _::aJ _ _ _::i) (fun w s=>(((((s.d 4 R).d 6 R).d 3 R).d 5 R).f 11 [3,1,2,1,1,1,0,1,4,7])) ?_)))))))))))))
 refine lC 4 BF R (Z19_ok hi) R ?_
 rintro ⟨⟨e3,hv,eh⟩,⟨e4,hx,ei⟩⟩
 refine lN (ow kT3 3 (.slice e3 hv eh) a3.Dims::ow kT3 3 (.slice e4 hx ei) a3.Data::_::_::_::_::_::_::_::i) ?_
 refine aM 0 aC ?_
 rintro rfl
 refine aM 1 aC ?_
 rintro rfl
 refine aB (aG (sL [8,1,0]) (d1 11 R (aL 8 R R bX R R R R R R (lN (_::_::_::_::_::_::_::_::aJ l [(sc e3 a3.Dims eh),(sc e4 a3.Data ei)] 42::i) ?_))))
 refine aB (aG (sL [8,1,0]) (dD (aE (bO (b' (bP ?_))))))
 obtain rfl:=so b
 exact cX (vs:=[(.agg [(sc e3 a3.Dims eh),(sc e4 a3.Data ei)].toArray)]) (.inl R) ((e3,a3.Dims.length,eh),(e4,a3.Data.length,ei)) R ⟨⟨8,l,_,_,R,R,.inl ⟨gA,bX,R⟩⟩,trivial⟩ R (fun w s=>(s.e 15 [0,1]))
 refine aX R dd (aI (bD (A:=(Bool)×(Unit)) (fun a=>Z2_J2 j g a.1=some r) (fun a=>[(1,(sc A7 g D7)),(2,(pt b8 0)),(4,(pt l 0)),(5,(sc A4 j.Ints D4)),(10,(iv j.Op)),(55,(.bool a.1))]) (fun a=>aJ l [(.slice none 0 0),(.slice none 0 0)] 42::i) ?_ ?_))
 refine aI (aD (lO (l8 R R) (lB R (aB (aE ?_)))))
 rcases bY b with ⟨df,b⟩|⟨df,b⟩
 refine bM R df (bS ?_)
 exact qI ((j.Op==(6:Int)),()) b (fun w s=>s)
 refine aX R df (aI (aD (lO (l8 R R) (lB R (aB (aE ?_))))))
 rcases bY b with ⟨dg,b⟩|⟨dg,b⟩
 refine bM R dg (bS ?_)
 exact qI ((j.Op==(7:Int)),()) b (fun w s=>s)
 refine aX R dg (aI (aD (lO (l8 R R) (lB R (aB (aE ?_))))))
 rcases bY b with ⟨dh,b⟩|⟨dh,b⟩
 refine bM R dh (bS ?_)
 exact qI ((j.Op==(8:Int)),()) b (fun w s=>s)
 refine aX R dh (aD (lO (l8 R R) (lB R (aB ?_))))
 exact qI ((j.Op==(9:Int)),()) b (fun w s=>s)
 rintro ⟨ih,_⟩ σ1 b
 replace b:Z2_J2 j g ih=some r:=b
 unfold Z2_J2 at b
 rcases bY b with ⟨di,b⟩|⟨di,b⟩
 refine bM R di (aI ?_)
 obtain ⟨bv,b⟩:=gd b
 obtain ⟨a4,hj,b⟩:=bd b
 refine bB 6 aA (show 0<g.length by have:=bv; omega) (fun id o47 m=>?_)
 subst m
 refine dP (K:=dQ) 6 (0:Int) dT42.dec R bv.1 bv.2 ?_
 rintro ⟨⟨fa,fk⟩,⟨fb,fl⟩⟩
 refine cN (cl id (o47+(0:Int).toNat*2) [(sc fa ((ix g (0:Int)).Dims) fk),(sc fb ((ix g (0:Int)).Data) fl)]::RR kT3 fa fk ((ix g (0:Int)).Dims)::RR kT3 fb fl ((ix g (0:Int)).Data)::aJ l [(.slice none 0 0),(.slice none 0 0)] 42::i) ?_
 refine dE 9 [3] bQ (fun ht hn=>(dR 0 R (eC 0 gR R) (hS:=(sL [3])) (dR 1 R (eH 3 fC R R R) (hS:=(sL [3])) (dR 2 R (xl R R) (hS:=(sL [3])) (dR 3 R (jy R R) (hS:=(sL [3])) (dR 4 R (vS R) (hS:=(sL [3])) (dR 5 R (eA gX bX R R bv) (hS:=(sL [3])) (dR 6 R (vz (.agg [(sc fa ((ix g (0:Int)).Dims) fk),(sc fb ((ix g (0:Int)).Data) fl)].toArray) (eF (fo:=0) 0 gA bX R R R R)) (hS:=(sL [3])) (d1 7 R (lM (aO _ _ _::aO _ _ _::cl _ _ _::aO _ _ _::aO _ _ _::aJ _ _ _::i) (fun w s=>(((s.d 1 R).d 3 R).e 6 [1,0,2,3,4,5])) ?_))))))))))
 refine lC 2 BG R (Z18_ok hj) R ?_
 rintro ⟨⟨e5,hy,ej⟩,⟨e6,hz,ek⟩⟩
 refine lN (ow kT3 3 (.slice e5 hy ej) a4.Dims::ow kT3 3 (.slice e6 hz ek) a4.Data::_::_::_::_::i) ?_
 refine aM 0 aC ?_
 rintro rfl
 refine aM 1 aC ?_
 rintro rfl
 refine aB (aG (sL [5,1,0]) (d1 8 R (aL 5 R R bX R R R R R R (lN (_::_::_::_::_::aJ l [(sc e5 a4.Dims ej),(sc e6 a4.Data ek)] 42::i) ?_))))
 refine aB (aG (sL [5,1,0]) (dD (aE (bO (b' (bP ?_))))))
 obtain rfl:=so b
 exact cX (vs:=[(.agg [(sc e5 a4.Dims ej),(sc e6 a4.Data ek)].toArray)]) (.inl R) ((e5,a4.Dims.length,ej),(e6,a4.Data.length,ek)) R ⟨⟨5,l,_,_,R,R,.inl ⟨gA,bX,R⟩⟩,trivial⟩ R (fun w s=>(s.e 12 [0,1]))
 refine aX R di (aI (aD (lO (l8 R R) (lB R (aB (aE ?_))))))
 rcases bY b with ⟨dj,b⟩|⟨dj,b⟩
 refine bM R dj (aI ?_)
 obtain ⟨bw,b⟩:=gd b
 obtain ⟨e0,b⟩:=gd b
 obtain ⟨a5,hk,b⟩:=bd b
 refine bB 6 aA (show 0<g.length by have:=bw; omega) (fun ie o57 m=>?_)
 subst m
 refine dP (K:=dQ) 6 (0:Int) dT42.dec R bw.1 bw.2 ?_
 rintro ⟨⟨fc,fm⟩,⟨fd,fn⟩⟩
 refine cN (cl ie (o57+(0:Int).toNat*2) [(sc fc ((ix g (0:Int)).Dims) fm),(sc fd ((ix g (0:Int)).Data) fn)]::RR kT3 fc fm ((ix g (0:Int)).Dims)::RR kT3 fd fn ((ix g (0:Int)).Data)::aJ l [(.slice none 0 0),(.slice none 0 0)] 42::i) ?_
 refine bB 7 aA (show 0<j.Ints.length by have:=e0; omega) (fun iq o62 m=>?_)
 subst m
 refine dE 8 [3] bQ (fun ht hn=>(dR 0 R (vS R) (hS:=(sL [3])) (dR 1 R (eA gX bX R R bw) (hS:=(sL [3])) (dR 2 R (vz (.agg [(sc fc ((ix g (0:Int)).Dims) fm),(sc fd ((ix g (0:Int)).Data) fn)].toArray) (eF (fo:=0) 0 gA bX R R R R)) (hS:=(sL [3])) (dR 3 R (vS R) (hS:=(sL [3])) (dR 4 R (eA bI cI R R e0) (hS:=(sL [3])) (dR 5 R (gP 6 fC aA R e0) (hS:=(sL [3])) (d1 6 R (lM (aO _ _ _::aO _ _ _::cl _ _ _::aO _ _ _::aO _ _ _::aJ _ _ _::i) (fun w s=>(((s.d 1 R).d 3 R).e 6 [1,0,2,3,4,5])) ?_)))))))))
 refine lC 2 BH R (Zd_ok hk) R ?_
 rintro ⟨⟨e7,i0,el⟩,⟨e8,i1,em⟩⟩
 refine lN (ow kT3 3 (.slice e7 i0 el) a5.Dims::ow kT3 3 (.slice e8 i1 em) a5.Data::_::_::_::_::i) ?_
 refine aM 0 aC ?_
 rintro rfl
 refine aM 1 aC ?_
 rintro rfl
 refine aB (aG (sL [5,1,0]) (d1 7 R (aL 5 R R bX R R R R R R (lN (_::_::_::_::_::aJ l [(sc e7 a5.Dims el),(sc e8 a5.Data em)] 42::i) ?_))))
 refine aB (aG (sL [5,1,0]) (dD (aE (bO (b' (bP ?_))))))
 obtain rfl:=so b
 exact cX (vs:=[(.agg [(sc e7 a5.Dims el),(sc e8 a5.Data em)].toArray)]) (.inl R) ((e7,a5.Dims.length,el),(e8,a5.Data.length,em)) R ⟨⟨5,l,_,_,R,R,.inl ⟨gA,bX,R⟩⟩,trivial⟩ R (fun w s=>(s.e 12 [0,1]))
 refine aX R dj (aI (aD (lO (l8 R R) (lB R (aB (aE ?_))))))
 rcases bY b with ⟨dk,b⟩|⟨dk,b⟩
 refine bM R dk (aI ?_)
 obtain ⟨a7,hl,b⟩:=bd b
 refine aD (lO (eC 4 lQ R) (lO (eH 1 pI R R R) (lS R (lM (RR dQ A7 D7 g::aJ l [(.slice none 0 0),(.slice none 0 0)] 42::i) (fun w s=>(s.d 6 R)) ?_))))
 refine lC 1 BI R (Z6_ok hl) R ?_
 rintro ⟨⟨e9,i2,en⟩,⟨ea,i3,eo⟩⟩
 refine lN (ow kT3 3 (.slice e9 i2 en) a7.Dims::ow kT3 3 (.slice ea i3 eo) a7.Data::_::i) ?_
 refine aM 0 aC ?_
 rintro rfl
 refine aM 1 aC ?_
 rintro rfl
 refine aL 2 R R bX R R R R R R (lN (_::_::aJ l [(sc e9 a7.Dims en),(sc ea a7.Data eo)] 42::i) ?_)
 refine aB (aE (bO (b' (bP ?_))))
 obtain rfl:=so b
 exact cX (vs:=[(.agg [(sc e9 a7.Dims en),(sc ea a7.Data eo)].toArray)]) (.inl R) ((e9,a7.Dims.length,en),(ea,a7.Data.length,eo)) R ⟨⟨2,l,_,_,R,R,.inl ⟨gA,bX,R⟩⟩,trivial⟩ R (fun w s=>(s.e 9 [0,1]))
 refine aX R dk (aI (aD (lO (l8 R R) (lB R (aB (aE ?_))))))
 rcases bY b with ⟨dl,b⟩|⟨dl,b⟩
 refine bM R dl (aI ?_)
 obtain ⟨a1,b⟩:=gd b
 obtain ⟨ap,hm,b⟩:=bd b
 obtain ⟨a8,ho,b⟩:=bd b
 obtain ⟨a9,hp,b⟩:=bd b
 refine bB 6 aA (show 0<g.length by have:=a1; omega) (fun hc o75 m=>?_)
 subst m
 refine dP (K:=dQ) 6 (0:Int) dT42.dec R a1.1 a1.2 ?_
 rintro ⟨⟨cj,d5⟩,⟨ck,d6⟩⟩
 refine cN (cl hc (o75+(0:Int).toNat*2) [(sc cj ((ix g (0:Int)).Dims) d5),(sc ck ((ix g (0:Int)).Data) d6)]::RR kT3 cj d5 ((ix g (0:Int)).Dims)::RR kT3 ck d6 ((ix g (0:Int)).Data)::aJ l [(.slice none 0 0),(.slice none 0 0)] 42::i) ?_
 refine dE 13 [3] bQ (fun ht hn=>(dR 0 R (vS R) (hS:=(sL [3])) (dR 1 R (eA gX bX R R a1) (hS:=(sL [3])) (dR 2 R (vz (.agg [(sc cj ((ix g (0:Int)).Dims) d5),(sc ck ((ix g (0:Int)).Data) d6)].toArray) (eF (fo:=0) 0 gA bX R R R R)) (hS:=(sL [3])) (dR 3 R (vS R) (hS:=(sL [3])) (dR 4 R (eA gX bX R R a1) (hS:=(sL [3])) (dR 5 R (vz (.pointer (some ⟨hc,o75+(0:Int).toNat*2,none⟩)) (iI j0 R R)) (hS:=(sL [3])) (dR 6 R (eO (fo:=0) 0 bZ R R R) (hS:=(sL [3])) (dR 8 R (eC 2 i' R) (hS:=(sL [3])) (dR 9 R (eH 3 bZ R R R) (hS:=(sL [3])) (d1 7 R (lM (_::_::_::_::_::i) (fun w s=>(s.d 1 R)) ?_))))))))))))
 refine lC 1 vi R (Zv_ok hm) R ?_
 rintro ⟨⟨fe,i4,fp⟩,⟨eb,i5,ep⟩⟩
 refine lN (aO kT3 (.slice fe i4 fp) ap.Dims::ow kT3 3 (.slice eb i5 ep) ap.Strides::_::_::_::_::i) ?_
 refine aM 0 aA ?_
 rintro rfl
 refine aM 1 aC ?_
 rintro rfl
 refine aB (aG (sL [5,1,0]) (d1 10 R (lM (ow _ _ _ _::aO _ _ _::RR kT3 A3 D3 j.Dims::aO _ _ _::cl _ _ _::aO _ _ _::aO _ _ _::aJ _ _ _::i) (fun w s=>(((s.d 0 R).d 9 R).e 8 [3,1,0,2,4,5,6,7])) ?_)))
 refine lC 3 BJ R (FnOk.lends (A':=[OO kT3 3 eb ep ap.Strides]) (A:=[RR kT3 eb ep ap.Strides]) (B:=[RR kT3 fe fp ap.Dims,RR kT3 A3 D3 j.Dims]) (FnOk.perm (Z05_ok ho) (Pre':=[RR kT3 eb ep ap.Strides,RR kT3 fe fp ap.Dims,RR kT3 A3 D3 j.Dims]) (fun _ _ _ s=>(s.e 3 [1,0,2]))) ⟨aQ,trivial⟩ (fun _=>⟨(bH iP),(bH iP),trivial⟩)) R ?_
 rintro ⟨⟨ec,i6,eq⟩,⟨ed,i7,er⟩⟩
 refine lN (_::ow kT3 3 (.slice ec i6 eq) a8.Dims::ow kT3 3 (.slice ed i7 er) a8.Strides::_::_::_::_::_::i) ?_
 refine aM 1 aC ?_
 rintro rfl
 refine aM 2 aC ?_
 rintro rfl
 refine aB (aG (sL [7,3,2,1,0]) (d1 11 R (lM (ow _ _ _ _::ow _ _ _ _::aO _ _ _::aO _ _ _::ow _ _ _ _::aO _ _ _::cl _ _ _::aO _ _ _::aO _ _ _::aJ _ _ _::i) (fun w s=>(((s.d 5 R).d 7 R).e 10 [3,4,1,0,2,5,6,7,8,9])) ?_)))
 refine lC 4 vj R (FnOk.lends (A':=[OO kT3 3 ec eq a8.Dims,OO kT3 3 ed er a8.Strides]) (A:=[RR kT3 ec eq a8.Dims,RR kT3 ed er a8.Strides]) (B:=[RR kT3 cj d5 ((ix g (0:Int)).Dims),RR kT3 ck d6 ((ix g (0:Int)).Data)]) (FnOk.perm (Z02_ok hp) (Pre':=[RR kT3 ec eq a8.Dims,RR kT3 ed er a8.Strides,RR kT3 cj d5 ((ix g (0:Int)).Dims),RR kT3 ck d6 ((ix g (0:Int)).Data)]) (fun _ _ _ s=>(s.e 4 [2,3,0,1]))) ⟨aQ,aQ,trivial⟩ (fun _=>⟨(bH iP),(bH iP),trivial⟩)) R ?_
 rintro ⟨⟨ee,i8,es⟩,⟨ef,i9,et⟩⟩
 refine lN (_::_::ow kT3 3 (.slice ee i8 es) a9.Dims::ow kT3 3 (.slice ef i9 et) a9.Data::_::_::_::_::_::_::i) ?_
 refine aM 2 aC ?_
 rintro rfl
 refine aM 3 aC ?_
 rintro rfl
 refine aB (aG (sL [9,5,4,3,2,1,0]) (d1 12 R (aL 9 R R bX R R R R R R (lN (_::_::_::_::_::_::_::_::_::aJ l [(sc ee a9.Dims es),(sc ef a9.Data et)] 42::i) ?_))))
 refine aB (aG (sL [9,5,4,3,2,1,0]) (dD (aE (bO (b' (bP ?_))))))
 obtain rfl:=so b
 exact cX (vs:=[(.agg [(sc ee a9.Dims es),(sc ef a9.Data et)].toArray)]) (.inl R) ((ee,a9.Dims.length,es),(ef,a9.Data.length,et)) R ⟨⟨9,l,_,_,R,R,.inl ⟨gA,bX,R⟩⟩,trivial⟩ R (fun w s=>(s.e 16 [2,3]))
 refine aX R dl (aI (aD (lO (l8 R R) (lB R (aB (aE ?_))))))
 rcases bY b with ⟨dm,b⟩|⟨dm,b⟩
 refine bM R dm (aI ?_)
 obtain ⟨a2,b⟩:=gd b
 obtain ⟨aq,hq,b⟩:=bd b
 obtain ⟨q,fr,b⟩:=bd b
 obtain ⟨u,fs,b⟩:=bd b
 refine bB 6 aA (show 0<g.length by have:=a2; omega) (fun hd o93 m=>?_)
 subst m
 refine dP (K:=dQ) 6 (0:Int) dT42.dec R a2.1 a2.2 ?_
 rintro ⟨⟨cm,d7⟩,⟨cn,d8⟩⟩
 refine cN (cl hd (o93+(0:Int).toNat*2) [(sc cm ((ix g (0:Int)).Dims) d7),(sc cn ((ix g (0:Int)).Data) d8)]::RR kT3 cm d7 ((ix g (0:Int)).Dims)::RR kT3 cn d8 ((ix g (0:Int)).Data)::aJ l [(.slice none 0 0),(.slice none 0 0)] 42::i) ?_
 refine dE 13 [3] bQ (fun ht hn=>(dR 0 R (vS R) (hS:=(sL [3])) (dR 1 R (eA gX bX R R a2) (hS:=(sL [3])) (dR 2 R (vz (.agg [(sc cm ((ix g (0:Int)).Dims) d7),(sc cn ((ix g (0:Int)).Data) d8)].toArray) (eF (fo:=0) 0 gA bX R R R R)) (hS:=(sL [3])) (dR 3 R (vS R) (hS:=(sL [3])) (dR 4 R (eA gX bX R R a2) (hS:=(sL [3])) (dR 5 R (vz (.pointer (some ⟨hd,o93+(0:Int).toNat*2,none⟩)) (iI j0 R R)) (hS:=(sL [3])) (dR 6 R (eO (fo:=0) 0 bZ R R R) (hS:=(sL [3])) (dR 8 R (eC 2 i' R) (hS:=(sL [3])) (dR 9 R (eH 3 bZ R R R) (hS:=(sL [3])) (d1 7 R (lM (_::_::_::_::_::i) (fun w s=>(s.d 1 R)) ?_))))))))))))
 refine lC 1 vi R (Zv_ok hq) R ?_
 rintro ⟨⟨ff,ia,fq⟩,⟨eg,ib,eu⟩⟩
 refine lN (aO kT3 (.slice ff ia fq) aq.Dims::ow kT3 3 (.slice eg ib eu) aq.Strides::_::_::_::_::i) ?_
 refine aM 0 aA ?_
 rintro rfl
 refine aM 1 aC ?_
 rintro rfl
 refine aB (aG (sL [5,1,0]) (d1 10 R (lM (ow _ _ _ _::aO _ _ _::RR kT3 A3 D3 j.Dims::aO _ _ _::cl _ _ _::aO _ _ _::aO _ _ _::aJ _ _ _::i) (fun w s=>(((s.d 0 R).d 9 R).e 8 [3,1,0,2,4,5,6,7])) ?_)))
 refine lC 3 BK R (FnOk.lends (A':=[OO kT3 3 eg eu aq.Strides]) (A:=[RR kT3 eg eu aq.Strides]) (B:=[RR kT3 ff fq aq.Dims,RR kT3 A3 D3 j.Dims]) (FnOk.perm (Z0d_ok fr) (Pre':=[RR kT3 eg eu aq.Strides,RR kT3 ff fq aq.Dims,RR kT3 A3 D3 j.Dims]) (fun _ _ _ s=>(s.e 3 [1,0,2]))) ⟨aQ,trivial⟩ (fun _=>⟨(bH iP),(bH iP),trivial⟩)) R ?_
 rintro ⟨⟨ar,gg,bb⟩,⟨au,gh,bc⟩⟩
 refine lN (_::ow kT3 3 (.slice ar gg bb) q.Dims::ow kT3 3 (.slice au gh bc) q.Strides::_::_::_::_::_::i) ?_
 refine aM 1 aC ?_
 rintro rfl
 refine aM 2 aC ?_
 rintro rfl
 refine aB (aG (sL [7,3,2,1,0]) (d1 11 R (lM (ow _ _ _ _::ow _ _ _ _::aO _ _ _::aO _ _ _::ow _ _ _ _::aO _ _ _::cl _ _ _::aO _ _ _::aO _ _ _::aJ _ _ _::i) (fun w s=>(((s.d 5 R).d 7 R).e 10 [3,4,1,0,2,5,6,7,8,9])) ?_)))
 refine lC 4 vj R (FnOk.lends (A':=[OO kT3 3 ar bb q.Dims,OO kT3 3 au bc q.Strides]) (A:=[RR kT3 ar bb q.Dims,RR kT3 au bc q.Strides]) (B:=[RR kT3 cm d7 ((ix g (0:Int)).Dims),RR kT3 cn d8 ((ix g (0:Int)).Data)]) (FnOk.perm (Z02_ok fs) (Pre':=[RR kT3 ar bb q.Dims,RR kT3 au bc q.Strides,RR kT3 cm d7 ((ix g (0:Int)).Dims),RR kT3 cn d8 ((ix g (0:Int)).Data)]) (fun _ _ _ s=>(s.e 4 [2,3,0,1]))) ⟨aQ,aQ,trivial⟩ (fun _=>⟨(bH iP),(bH iP),trivial⟩)) R ?_
 rintro ⟨⟨av,gi,be⟩,⟨aw,gj,bf⟩⟩
 refine lN (_::_::ow kT3 3 (.slice av gi be) u.Dims::ow kT3 3 (.slice aw gj bf) u.Data::_::_::_::_::_::_::i) ?_
 refine aM 2 aC ?_
 rintro rfl
 refine aM 3 aC ?_
 rintro rfl
 refine aB (aG (sL [9,5,4,3,2,1,0]) (d1 12 R (aL 9 R R bX R R R R R R (lN (_::_::_::_::_::_::_::_::_::aJ l [(sc av u.Dims be),(sc aw u.Data bf)] 42::i) ?_))))
 refine aB (aG (sL [9,5,4,3,2,1,0]) (dD (aE (bO (b' (bP ?_))))))
 obtain rfl:=so b
 exact cX (vs:=[(.agg [(sc av u.Dims be),(sc aw u.Data bf)].toArray)]) (.inl R) ((av,u.Dims.length,be),(aw,u.Data.length,bf)) R ⟨⟨9,l,_,_,R,R,.inl ⟨gA,bX,R⟩⟩,trivial⟩ R (fun w s=>(s.e 16 [2,3]))
 refine aX R dm (aI (aD (lO (l8 R R) (lB R (aB (aE ?_))))))
 rcases bY b with ⟨aa,b⟩|⟨aa,b⟩
 refine bM R aa (aI (aI ?_))
 obtain ⟨L,b⟩:=gd b
 refine aD (lS R (bC 4 aA (show 0<j.Ints.length by have:=L; omega) (fun ii o111 m=>?_)))
 subst m
 refine lO (eA bI cI R R L) (lO (gP 4 fC aA R L) (lO (jz R R) (aB (aE ?_))))
 rcases bY b with ⟨ab,b⟩|⟨ab,b⟩
 refine bM R ab (aI (aD (lO (vz (.agg [(.slice none 0 0),(.slice none 0 0)].toArray) (aV hM dZ R R)) (aL 0 R R bX R R R R R R (lN (aJ l [(.slice none 0 0),(.slice none 0 0)] 42::i) ?_)))))
 refine aB (aE (bO (bP (b' (bP ?_)))))
 obtain rfl:=so b
 exact cX (vs:=[(.agg [(.slice none 0 0),(.slice none 0 0)].toArray)]) (.inl R) ((none,0,0),(none,0,0)) R ⟨⟨0,l,_,_,R,R,.inl ⟨gA,bX,R⟩⟩,trivial⟩ R (fun w s=>(((s.nilo kT3 3).nilo kT3 3).e 9 [1,0]))
 refine aX R ab (bS (aE (aI ?_)))
 obtain ⟨M,b⟩:=gd b
 obtain ⟨bz,ft,b⟩:=bd b
 obtain ⟨dn,b⟩:=gd b
 obtain ⟨dq,b⟩:=gd b
 obtain ⟨dr,b⟩:=gd b
 obtain ⟨f4,fu,b⟩:=bd b
 obtain ⟨D,fv,b⟩:=bd b
 refine bB 6 aA (show 0<g.length by have:=M; omega) (fun f2 o115 m=>?_)
 subst m
 refine dP (K:=dQ) 6 (0:Int) dT42.dec R M.1 M.2 ?_
 rintro ⟨⟨c1,co⟩,⟨c2,cp⟩⟩
 refine cN (cl f2 (o115+(0:Int).toNat*2) [(sc c1 ((ix g (0:Int)).Dims) co),(sc c2 ((ix g (0:Int)).Data) cp)]::RR kT3 c1 co ((ix g (0:Int)).Dims)::RR kT3 c2 cp ((ix g (0:Int)).Data)::_::i) ?_
 refine dE 23 [3] bQ (fun ht hn=>(dR 0 R (vS R) (hS:=(sL [3])) (dR 1 R (eA gX bX R R M) (hS:=(sL [3])) (dR 2 R (vz (.agg [(sc c1 ((ix g (0:Int)).Dims) co),(sc c2 ((ix g (0:Int)).Data) cp)].toArray) (eF (fo:=0) 0 gA bX R R R R)) (hS:=(sL [3])) (dR 3 R (vS R) (hS:=(sL [3])) (dR 4 R (eA gX bX R R M) (hS:=(sL [3])) (dR 5 R (vz (.pointer (some ⟨f2,o115+(0:Int).toNat*2,none⟩)) (iI j0 R R)) (hS:=(sL [3])) (dR 6 R (eO (fo:=0) 0 bZ R R R) (hS:=(sL [3])) (dR 8 R (vS R) (hS:=(sL [3])) (dR 9 R (eA bI cI R R dn) (hS:=(sL [3])) (dR 10 R (gP 6 fC aA R dn) (hS:=(sL [3])) (dR 11 R (vS R) (hS:=(sL [3])) (dR 12 R (eA bI cI R R dq) (hS:=(sL [3])) (dR 13 R (gP 6 fC aA R dq) (hS:=(sL [3])) (dR 14 R (vS R) (hS:=(sL [3])) (dR 15 R (eA bI cI R R dr) (hS:=(sL [3])) (dR 16 R (gP 6 fC aA R dr) (hS:=(sL [3])) (dR 17 R (vS R) (hS:=(sL [3])) (dR 18 R (eA bI cI R R L) (hS:=(sL [3])) (dR 19 R (gP 6 fC aA R L) (hS:=(sL [3])) (d1 7 R (lM (_::_::_::_::_::i) (fun w s=>(s.d 1 R)) ?_))))))))))))))))))))))
 refine lC 1 vi R (Zv_ok ft) R ?_
 rintro ⟨⟨g3,gk,g9⟩,⟨c3,gm,cq⟩⟩
 refine lN (aO kT3 (.slice g3 gk g9) bz.Dims::ow kT3 3 (.slice c3 gm cq) bz.Strides::_::_::_::_::i) ?_
 refine aM 0 aA ?_
 rintro rfl
 refine aM 1 aC ?_
 rintro rfl
 refine aB (aG (sL [5,1,0]) (d1 20 R (fS (fun w s=>s.shr 1 R) (lM (aO _ _ _::RR kT3 c3 cq bz.Strides::RR kT3 c3 cq bz.Strides::aO _ _ _::cl _ _ _::aO _ _ _::aO _ _ _::aJ _ _ _::i) (fun w s=>(((s.d 1 R).d 1 R).f 8 [1,1,0,1,2,6])) ?_))))
 refine lC 2 BL R (Z1f_ok fu) R ?_
 rintro ⟨⟨g4,gn,ga⟩,⟨g5,gp,gb⟩⟩
 refine lN (aO kT3 (.slice g4 gn ga) f4.Dims::aO kT3 (.slice g5 gp gb) f4.Strides::_::_::_::_::_::_::i) ?_
 refine aM 0 aA ?_
 rintro rfl
 refine aM 1 aA ?_
 rintro rfl
 refine aB (aG (sL [7,3,2,1,0]) (d1 21 R (lM (aO _ _ _::aO _ _ _::aO _ _ _::aO _ _ _::aO _ _ _::aO _ _ _::aO _ _ _::aO _ _ _::cl _ _ _::aO _ _ _::aO _ _ _::aJ _ _ _::i) (fun w s=>(((((s.d 5 R).d 7 R).d 2 R).d 4 R).f 12 [3,1,2,1,1,1,0,1,4,8])) ?_)))
 refine lC 4 vj R (Z02_ok fv) R ?_
 rintro ⟨⟨ax,gq,bg⟩,⟨ay,gr,bh⟩⟩
 refine lN (ow kT3 3 (.slice ax gq bg) D.Dims::ow kT3 3 (.slice ay gr bh) D.Data::_::_::_::_::_::_::_::_::i) ?_
 refine aM 0 aC ?_
 rintro rfl
 refine aM 1 aC ?_
 rintro rfl
 refine aB (aG (sL [9,5,4,3,2,1,0]) (d1 22 R (aL 9 R R bX R R R R R R (lN (_::_::_::_::_::_::_::_::_::aJ l [(sc ax D.Dims bg),(sc ay D.Data bh)] 42::i) ?_))))
 refine aB (aG (sL [9,5,4,3,2,1,0]) (dD (aE (bO (b' (bP ?_))))))
 obtain rfl:=so b
 exact cX (vs:=[(.agg [(sc ax D.Dims bg),(sc ay D.Data bh)].toArray)]) (.inl R) ((ax,D.Dims.length,bg),(ay,D.Data.length,bh)) R ⟨⟨9,l,_,_,R,R,.inl ⟨gA,bX,R⟩⟩,trivial⟩ R (fun w s=>(s.e 16 [0,1]))
 refine aX R aa (aI (aD (lO (l8 R R) (lB R (aB (aE ?_))))))
 rcases bY b with ⟨ac,b⟩|⟨ac,b⟩
 refine bM R ac (aI ?_)
 obtain ⟨T,b⟩:=gd b
 obtain ⟨ai,b⟩:=gd b
 obtain ⟨ds,b⟩:=gd b
 obtain ⟨dt,b⟩:=gd b
 obtain ⟨du,b⟩:=gd b
 obtain ⟨E,fw,b⟩:=bd b
 refine bB 6 aA (show 0<g.length by have:=T; omega) (fun h7 o136 m=>?_)
 subst m
 refine dP (K:=dQ) 6 (0:Int) dT42.dec R T.1 T.2 ?_
 rintro ⟨⟨c4,cr⟩,⟨c5,cs⟩⟩
 refine cN (cl h7 (o136+(0:Int).toNat*2) [(sc c4 ((ix g (0:Int)).Dims) cr),(sc c5 ((ix g (0:Int)).Data) cs)]::RR kT3 c4 cr ((ix g (0:Int)).Dims)::RR kT3 c5 cs ((ix g (0:Int)).Data)::aJ l [(.slice none 0 0),(.slice none 0 0)] 42::i) ?_
 refine bB 7 aA (show 0<j.Ints.length by have:=ai; omega) (fun ij o141 m=>?_)
 subst m
 refine dE 17 [3] bQ (fun ht hn=>(dR 0 R (vS R) (hS:=(sL [3])) (dR 1 R (eA gX bX R R T) (hS:=(sL [3])) (dR 2 R (vz (.agg [(sc c4 ((ix g (0:Int)).Dims) cr),(sc c5 ((ix g (0:Int)).Data) cs)].toArray) (eF (fo:=0) 0 gA bX R R R R)) (hS:=(sL [3])) (dR 3 R (vS R) (hS:=(sL [3])) (dR 4 R (eA bI cI R R ai) (hS:=(sL [3])) (dR 5 R (gP 6 fC aA R ai) (hS:=(sL [3])) (dR 6 R (vS R) (hS:=(sL [3])) (dR 7 R (eA bI cI R R ds) (hS:=(sL [3])) (dR 8 R (gP 6 fC aA R ds) (hS:=(sL [3])) (dR 9 R (vS R) (hS:=(sL [3])) (dR 10 R (eA bI cI R R dt) (hS:=(sL [3])) (dR 11 R (gP 6 fC aA R dt) (hS:=(sL [3])) (dR 12 R (vS R) (hS:=(sL [3])) (dR 13 R (eA bI cI R R du) (hS:=(sL [3])) (dR 14 R (gP 6 fC aA R du) (hS:=(sL [3])) (d1 15 R (lM (aO _ _ _::aO _ _ _::cl _ _ _::aO _ _ _::aO _ _ _::aJ _ _ _::i) (fun w s=>(((s.d 1 R).d 3 R).e 6 [1,0,2,3,4,5])) ?_))))))))))))))))))
 refine lC 2 BM R (Z11_ok fw) R ?_
 rintro ⟨⟨az,gs,bi⟩,⟨b0,gt,bj⟩⟩
 refine lN (ow kT3 3 (.slice az gs bi) E.Dims::ow kT3 3 (.slice b0 gt bj) E.Data::_::_::_::_::i) ?_
 refine aM 0 aC ?_
 rintro rfl
 refine aM 1 aC ?_
 rintro rfl
 refine aB (aG (sL [5,1,0]) (d1 16 R (aL 5 R R bX R R R R R R (lN (_::_::_::_::_::aJ l [(sc az E.Dims bi),(sc b0 E.Data bj)] 42::i) ?_))))
 refine aB (aG (sL [5,1,0]) (dD (aE (bO (b' (bP ?_))))))
 obtain rfl:=so b
 exact cX (vs:=[(.agg [(sc az E.Dims bi),(sc b0 E.Data bj)].toArray)]) (.inl R) ((az,E.Dims.length,bi),(b0,E.Data.length,bj)) R ⟨⟨5,l,_,_,R,R,.inl ⟨gA,bX,R⟩⟩,trivial⟩ R (fun w s=>(s.e 12 [0,1]))
 refine aX R ac (aI (aD (lO (l8 R R) (lB R (aB (aE ?_))))))
 rcases bY b with ⟨ae,b⟩|⟨ae,b⟩
 refine bM R ae (aI ?_)
 obtain ⟨U,b⟩:=gd b
 obtain ⟨aj,b⟩:=gd b
 obtain ⟨ak,b⟩:=gd b
 obtain ⟨F,fx,b⟩:=bd b
 refine bB 6 aA (show 0<g.length by have:=U; omega) (fun h8 o152 m=>?_)
 subst m
 refine dP (K:=dQ) 6 (0:Int) dT42.dec R U.1 U.2 ?_
 rintro ⟨⟨c6,ct⟩,⟨c7,cu⟩⟩
 refine cN (cl h8 (o152+(0:Int).toNat*2) [(sc c6 ((ix g (0:Int)).Dims) ct),(sc c7 ((ix g (0:Int)).Data) cu)]::RR kT3 c6 ct ((ix g (0:Int)).Dims)::RR kT3 c7 cu ((ix g (0:Int)).Data)::aJ l [(.slice none 0 0),(.slice none 0 0)] 42::i) ?_
 refine bB 7 aA (show 0<j.Ints.length by have:=aj; omega) (fun ik o157 m=>?_)
 subst m
 refine dE 10 [3] bQ (fun ht hn=>(dR 0 R (vS R) (hS:=(sL [3])) (dR 1 R (eA gX bX R R U) (hS:=(sL [3])) (dR 2 R (vz (.agg [(sc c6 ((ix g (0:Int)).Dims) ct),(sc c7 ((ix g (0:Int)).Data) cu)].toArray) (eF (fo:=0) 0 gA bX R R R R)) (hS:=(sL [3])) (dR 3 R (vS R) (hS:=(sL [3])) (dR 4 R (eA bI cI R R aj) (hS:=(sL [3])) (dR 5 R (gP 6 fC aA R aj) (hS:=(sL [3])) (dR 6 R (vS R) (hS:=(sL [3])) (d1 7 R (gZ (K:=kT3) (1:Int) (j.Ints.length:Int) 7 R R bI cI R R R R ak.1 ak.2.1 ak.2.2 (fun ey f0=>(aB (aG (sL [4,0]) (d1 8 R (lM (aO _ _ _::aO _ _ _::RR kT3 ey f0 (sub j.Ints (1:Int) (j.Ints.length:Int))::RR kT3 ey f0 (sub j.Ints (1:Int) (j.Ints.length:Int))::cl _ _ _::aO _ _ _::aO _ _ _::aJ _ _ _::i) (fun w s=>((((s.d 2 R).d 4 R).d 2 R).e 8 [2,1,0,3,4,5,6,7])) ?_)))))))))))))))
 refine lC 3 BN R (Z10_ok fx) R ?_
 rintro ⟨⟨b1,gu,bk⟩,⟨b2,gw,bl⟩⟩
 refine lN (ow kT3 3 (.slice b1 gu bk) F.Dims::ow kT3 3 (.slice b2 gw bl) F.Data::_::_::_::_::_::i) ?_
 refine aM 0 aC ?_
 rintro rfl
 refine aM 1 aC ?_
 rintro rfl
 refine aB (aG (sL [6,2,1,0]) (d1 9 R (aL 6 R R bX R R R R R R (lN (_::_::_::_::_::_::aJ l [(sc b1 F.Dims bk),(sc b2 F.Data bl)] 42::i) ?_))))
 refine aB (aG (sL [6,2,1,0]) (dD (aE (bO (b' (bP ?_))))))
 obtain rfl:=so b
 exact cX (vs:=[(.agg [(sc b1 F.Dims bk),(sc b2 F.Data bl)].toArray)]) (.inl R) ((b1,F.Dims.length,bk),(b2,F.Data.length,bl)) R ⟨⟨6,l,_,_,R,R,.inl ⟨gA,bX,R⟩⟩,trivial⟩ R (fun w s=>(s.e 13 [0,1]))
 refine aX R ae (aI (aD (lO (l8 R R) (lB R (aB (aE ?_))))))
 rcases bY b with ⟨ag,b⟩|⟨ag,b⟩
 refine bM R ag (aI ?_)
 obtain ⟨Y,b⟩:=gd b
 obtain ⟨al,b⟩:=gd b
 obtain ⟨am,b⟩:=gd b
 obtain ⟨dv,b⟩:=gd b
 obtain ⟨G,fy,b⟩:=bd b
 refine bB 6 aA (show 0<g.length by have:=Y; omega) (fun h9 o167 m=>?_)
 subst m
 refine dP (K:=dQ) 6 (0:Int) dT42.dec R Y.1 Y.2 ?_
 rintro ⟨⟨c8,cv⟩,⟨c9,cw⟩⟩
 refine cN (cl h9 (o167+(0:Int).toNat*2) [(sc c8 ((ix g (0:Int)).Dims) cv),(sc c9 ((ix g (0:Int)).Data) cw)]::RR kT3 c8 cv ((ix g (0:Int)).Dims)::RR kT3 c9 cw ((ix g (0:Int)).Data)::aJ l [(.slice none 0 0),(.slice none 0 0)] 42::i) ?_
 refine bB 7 aA (show 0<j.Ints.length by have:=al; omega) (fun im o172 m=>?_)
 subst m
 refine dE 13 [3] bQ (fun ht hn=>(dR 0 R (vS R) (hS:=(sL [3])) (dR 1 R (eA gX bX R R Y) (hS:=(sL [3])) (dR 2 R (vz (.agg [(sc c8 ((ix g (0:Int)).Dims) cv),(sc c9 ((ix g (0:Int)).Data) cw)].toArray) (eF (fo:=0) 0 gA bX R R R R)) (hS:=(sL [3])) (dR 3 R (vS R) (hS:=(sL [3])) (dR 4 R (eA bI cI R R al) (hS:=(sL [3])) (dR 5 R (gP 6 fC aA R al) (hS:=(sL [3])) (dR 6 R (vS R) (hS:=(sL [3])) (dR 8 R (vS R) (hS:=(sL [3])) (dR 9 R (eA bI cI R R dv) (hS:=(sL [3])) (dR 10 R (gP 6 fC aA R dv) (hS:=(sL [3])) (d1 7 R (gZ (K:=kT3) (2:Int) (j.Ints.length:Int) 7 R R bI cI R R R R am.1 am.2.1 am.2.2 (fun ez f1=>(aB (aG (sL [4,0]) (d1 11 R (lM (aO _ _ _::aO _ _ _::RR kT3 ez f1 (sub j.Ints (2:Int) (j.Ints.length:Int))::RR kT3 ez f1 (sub j.Ints (2:Int) (j.Ints.length:Int))::cl _ _ _::aO _ _ _::aO _ _ _::aJ _ _ _::i) (fun w s=>((((s.d 2 R).d 4 R).d 2 R).e 8 [2,1,0,3,4,5,6,7])) ?_))))))))))))))))))
 refine lC 3 BO R (Z12_ok fy) R ?_
 rintro ⟨⟨b3,gx,bm⟩,⟨b4,gy,bn⟩⟩
 refine lN (ow kT3 3 (.slice b3 gx bm) G.Dims::ow kT3 3 (.slice b4 gy bn) G.Data::_::_::_::_::_::i) ?_
 refine aM 0 aC ?_
 rintro rfl
 refine aM 1 aC ?_
 rintro rfl
 refine aB (aG (sL [6,2,1,0]) (d1 12 R (aL 6 R R bX R R R R R R (lN (_::_::_::_::_::_::aJ l [(sc b3 G.Dims bm),(sc b4 G.Data bn)] 42::i) ?_))))
 refine aB (aG (sL [6,2,1,0]) (dD (aE (bO (b' (bP ?_))))))
 obtain rfl:=so b
 exact cX (vs:=[(.agg [(sc b3 G.Dims bm),(sc b4 G.Data bn)].toArray)]) (.inl R) ((b3,G.Dims.length,bm),(b4,G.Data.length,bn)) R ⟨⟨6,l,_,_,R,R,.inl ⟨gA,bX,R⟩⟩,trivial⟩ R (fun w s=>(s.e 13 [0,1]))
 refine aX R ag (aI (aD (lO (l8 R R) (lB R (aB (aE ?_))))))
 rcases bY b with ⟨ah,b⟩|⟨ah,b⟩
 refine bM R ah (aI ?_)
 obtain ⟨O,b⟩:=gd b
 obtain ⟨c0,fz,b⟩:=bd b
 obtain ⟨an,b⟩:=gd b
 obtain ⟨dw,b⟩:=gd b
 obtain ⟨dx,b⟩:=gd b
 obtain ⟨f5,g0,b⟩:=bd b
 obtain ⟨I,g1,b⟩:=bd b
 refine bB 6 aA (show 0<g.length by have:=O; omega) (fun f3 o183 m=>?_)
 subst m
 refine dP (K:=dQ) 6 (0:Int) dT42.dec R O.1 O.2 ?_
 rintro ⟨⟨cb,cy⟩,⟨cc,cz⟩⟩
 refine cN (cl f3 (o183+(0:Int).toNat*2) [(sc cb ((ix g (0:Int)).Dims) cy),(sc cc ((ix g (0:Int)).Data) cz)]::RR kT3 cb cy ((ix g (0:Int)).Dims)::RR kT3 cc cz ((ix g (0:Int)).Data)::aJ l [(.slice none 0 0),(.slice none 0 0)] 42::i) ?_
 refine bB 7 aA (show 0<j.Ints.length by have:=an; omega) (fun io o192 m=>?_)
 subst m
 refine dE 20 [3] bQ (fun ht hn=>(dR 0 R (vS R) (hS:=(sL [3])) (dR 1 R (eA gX bX R R O) (hS:=(sL [3])) (dR 2 R (vz (.agg [(sc cb ((ix g (0:Int)).Dims) cy),(sc cc ((ix g (0:Int)).Data) cz)].toArray) (eF (fo:=0) 0 gA bX R R R R)) (hS:=(sL [3])) (dR 3 R (vS R) (hS:=(sL [3])) (dR 4 R (eA gX bX R R O) (hS:=(sL [3])) (dR 5 R (vz (.pointer (some ⟨f3,o183+(0:Int).toNat*2,none⟩)) (iI j0 R R)) (hS:=(sL [3])) (dR 6 R (eO (fo:=0) 0 bZ R R R) (hS:=(sL [3])) (dR 8 R (vS R) (hS:=(sL [3])) (dR 9 R (eA bI cI R R an) (hS:=(sL [3])) (dR 10 R (gP 6 fC aA R an) (hS:=(sL [3])) (dR 11 R (vS R) (hS:=(sL [3])) (dR 12 R (eA bI cI R R dw) (hS:=(sL [3])) (dR 13 R (gP 6 fC aA R dw) (hS:=(sL [3])) (dR 14 R (vS R) (hS:=(sL [3])) (dR 15 R (eA bI cI R R dx) (hS:=(sL [3])) (dR 16 R (gP 6 fC aA R dx) (hS:=(sL [3])) (d1 7 R (lM (_::_::_::_::_::i) (fun w s=>(s.d 1 R)) ?_)))))))))))))))))))
 refine lC 1 vi R (Zv_ok fz) R ?_
 rintro ⟨⟨g6,gz,gc⟩,⟨cf,h0,d0⟩⟩
 refine lN (aO kT3 (.slice g6 gz gc) c0.Dims::ow kT3 3 (.slice cf h0 d0) c0.Strides::_::_::_::_::i) ?_
 refine aM 0 aA ?_
 rintro rfl
 refine aM 1 aC ?_
 rintro rfl
 refine aB (aG (sL [5,1,0]) (d1 17 R (fS (fun w s=>s.shr 1 R) (lM (aO _ _ _::RR kT3 cf d0 c0.Strides::RR kT3 cf d0 c0.Strides::aO _ _ _::cl _ _ _::aO _ _ _::aO _ _ _::aJ _ _ _::i) (fun w s=>(((s.d 1 R).d 1 R).f 8 [1,1,0,1,2,6])) ?_))))
 refine lC 2 zF R (Z0f_ok g0) R ?_
 rintro ⟨⟨g7,h1,ge⟩,⟨g8,h2,gf⟩⟩
 refine lN (aO kT3 (.slice g7 h1 ge) f5.Dims::aO kT3 (.slice g8 h2 gf) f5.Strides::_::_::_::_::_::_::i) ?_
 refine aM 0 aA ?_
 rintro rfl
 refine aM 1 aA ?_
 rintro rfl
 refine aB (aG (sL [7,3,2,1,0]) (d1 18 R (lM (aO _ _ _::aO _ _ _::aO _ _ _::aO _ _ _::aO _ _ _::aO _ _ _::aO _ _ _::aO _ _ _::cl _ _ _::aO _ _ _::aO _ _ _::aJ _ _ _::i) (fun w s=>(((((s.d 5 R).d 7 R).d 2 R).d 4 R).f 12 [3,1,2,1,1,1,0,1,4,8])) ?_)))
 refine lC 4 vj R (Z02_ok g1) R ?_
 rintro ⟨⟨b5,h3,bp⟩,⟨b6,h4,bq⟩⟩
 refine lN (ow kT3 3 (.slice b5 h3 bp) I.Dims::ow kT3 3 (.slice b6 h4 bq) I.Data::_::_::_::_::_::_::_::_::i) ?_
 refine aM 0 aC ?_
 rintro rfl
 refine aM 1 aC ?_
 rintro rfl
 refine aB (aG (sL [9,5,4,3,2,1,0]) (d1 19 R (aL 9 R R bX R R R R R R (lN (_::_::_::_::_::_::_::_::_::aJ l [(sc b5 I.Dims bp),(sc b6 I.Data bq)] 42::i) ?_))))
 refine aB (aG (sL [9,5,4,3,2,1,0]) (dD (aE (bO (b' (bP ?_))))))
 obtain rfl:=so b
 exact cX (vs:=[(.agg [(sc b5 I.Dims bp),(sc b6 I.Data bq)].toArray)]) (.inl R) ((b5,I.Dims.length,bp),(b6,I.Data.length,bq)) R ⟨⟨9,l,_,_,R,R,.inl ⟨gA,bX,R⟩⟩,trivial⟩ R (fun w s=>(s.e 16 [0,1]))
 refine aX R ah (bS (cT (aE (aI ?_))))
 obtain ⟨Z,b⟩:=gd b
 obtain ⟨ao,b⟩:=gd b
 obtain ⟨dy,b⟩:=gd b
 obtain ⟨dz,b⟩:=gd b
 obtain ⟨J,g2,b⟩:=bd b
 refine bB 6 aA (show 0<g.length by have:=Z; omega) (fun hb o205 m=>?_)
 subst m
 refine dP (K:=dQ) 6 (0:Int) dT42.dec R Z.1 Z.2 ?_
 rintro ⟨⟨ch,d3⟩,⟨ci,d4⟩⟩
 refine cN (cl hb (o205+(0:Int).toNat*2) [(sc ch ((ix g (0:Int)).Dims) d3),(sc ci ((ix g (0:Int)).Data) d4)]::RR kT3 ch d3 ((ix g (0:Int)).Dims)::RR kT3 ci d4 ((ix g (0:Int)).Data)::aJ l [(.slice none 0 0),(.slice none 0 0)] 42::i) ?_
 refine bB 7 aA (show 0<j.Ints.length by have:=ao; omega) (fun ip o210 m=>?_)
 subst m
 refine dE 14 [3] bQ (fun ht hn=>(dR 0 R (vS R) (hS:=(sL [3])) (dR 1 R (eA gX bX R R Z) (hS:=(sL [3])) (dR 2 R (vz (.agg [(sc ch ((ix g (0:Int)).Dims) d3),(sc ci ((ix g (0:Int)).Data) d4)].toArray) (eF (fo:=0) 0 gA bX R R R R)) (hS:=(sL [3])) (dR 3 R (vS R) (hS:=(sL [3])) (dR 4 R (eA bI cI R R ao) (hS:=(sL [3])) (dR 5 R (gP 6 fC aA R ao) (hS:=(sL [3])) (dR 6 R (vS R) (hS:=(sL [3])) (dR 7 R (eA bI cI R R dy) (hS:=(sL [3])) (dR 8 R (gP 6 fC aA R dy) (hS:=(sL [3])) (dR 9 R (vS R) (hS:=(sL [3])) (dR 10 R (eA bI cI R R dz) (hS:=(sL [3])) (dR 11 R (gP 6 fC aA R dz) (hS:=(sL [3])) (d1 12 R (lM (aO _ _ _::aO _ _ _::cl _ _ _::aO _ _ _::aO _ _ _::aJ _ _ _::i) (fun w s=>(((s.d 1 R).d 3 R).e 6 [1,0,2,3,4,5])) ?_)))))))))))))))
 refine lC 2 zG R (Z0z_ok g2) R ?_
 rintro ⟨⟨b7,h5,br⟩,⟨ba,h6,bs⟩⟩
 refine lN (ow kT3 3 (.slice b7 h5 br) J.Dims::ow kT3 3 (.slice ba h6 bs) J.Data::_::_::_::_::i) ?_
 refine aM 0 aC ?_
 rintro rfl
 refine aM 1 aC ?_
 rintro rfl
 refine aB (aG (sL [5,1,0]) (d1 13 R (aL 5 R R bX R R R R R R (lN (_::_::_::_::_::aJ l [(sc b7 J.Dims br),(sc ba J.Data bs)] 42::i) ?_))))
 refine aB (aG (sL [5,1,0]) (dD (aE (bO ?_))))
 obtain rfl:=so b
 exact cX (vs:=[(.agg [(sc b7 J.Dims br),(sc ba J.Data bs)].toArray)]) (.inl R) ((b7,J.Dims.length,br),(ba,J.Data.length,bs)) R ⟨⟨5,l,_,_,R,R,.inl ⟨gA,bX,R⟩⟩,trivial⟩ R (fun w s=>(s.e 12 [0,1]))
theorem Z0y_ok  {i:(List Int)}{M:Int}{r:Tensor}(b:Z0y i M=some r) :
 FnOk Tryz.prog 79 [(.slice A2 N2 D2),(iv M)] [aO kT3 (.slice A2 N2 D2) i] (fun (h:HH×HH)=>((.agg [(s3 h.1),(s3 h.2)].toArray),[ow kT3 3 (s3 h.1) r.Dims,ow kT3 3 (s3 h.2) r.Data])):=by
 unfold Z0y at b
 refine aR Tryz.func79 R 27 R R fun C V=>?_
 refine cL 0 aA ?_
 rintro rfl
 let m:=RR kT3 A2 D2 i::V
 refine cN m ?_
 refine bA ?_
 refine aY R R dZ (fun q=>(aB (aE (aI (aI ?_)))))
 obtain ⟨r5,G,b⟩:=bd b
 refine bA ?_
 refine lM _ (fun w s=>(s.d 1 R)) ?_
 refine lC 1 kD R (Zp_ok G) R ?_
 rintro _
 refine aW ?_
 split at b
 refine aW ?_
 refine lO (vz (.agg [(.slice none 0 0),(.slice none 0 0)].toArray) (aV hM dZ R R)) (aL 0 R R bX R R R R R R (aB (aE (bO (bP ?_)))))
 cases b
 exact qS ((none,0,0),(none,0,0)) (fun w s=>(((s.nilo kT3 3).nilo kT3 3).e 4 [1,0]))
 refine bL ?_
 obtain ⟨g,J,b⟩:=bd b
 refine bA ?_
 refine lM _ (fun w s=>(s.d 1 R)) ?_
 refine lC 1 la R (Z0k_ok J) R ?_
 rintro ⟨⟨A10,N10,D10⟩,⟨A11,N11,D11⟩⟩
 refine aM 0 aC ?_
 rintro rfl
 refine aM 1 aC ?_
 rintro rfl
 refine aY R R dZ (fun j=>(aL 0 R R bX R R R R R R (lN (aJ j [(sc A10 g.Dims D10),(sc A11 g.Data D11)] 42::_::_::_::m) ?_)))
 refine aW ?_
 refine bD (A:=((List Int))×(Unit)) (fun a=>Z0y_J1 g a.1=some r) (fun a=>[(4,(pt q 0)),(5,(pt j 0))]) (fun a=>aJ q [(.slice none 0 0),(.slice none 0 0)] 42::aJ j [(sc A10 g.Dims D10),(sc A11 g.Data D11)] 42::OO kT3 3 A10 D10 g.Dims::ow kT3 3 (.slice A11 g.Data.length D11) a.1::m) ?_ ?_
 refine cH ?_
 obtain ⟨e1,F,E⟩:=bd b
 refine bE (A:=Unit) F (fun s a=>[(1,(iv M)),(4,(pt q 0)),(5,(pt j 0)),(6,(iv s.2))]) (fun s a=>aJ q [(.slice none 0 0),(.slice none 0 0)] 42::aJ j [(sc A10 g.Dims D10),(sc A11 g.Data D11)] 42::OO kT3 3 A10 D10 g.Dims::ow kT3 3 (.slice A11 g.Data.length D11) s.1::m) () (aS R) (tE 4 [3,0,1,2]) ?_
 rintro ⟨O,L⟩ _ σ1 U b D
 dsimp only [Z0y_L1] at b
 refine dH ?_
 split at b
 refine cU ?_
 obtain ⟨B,u,b⟩:=bd b
 obtain ⟨l,b⟩:=gd b
 refine bB 3 aC (show 0<g.Data.length by have:=l; omega) (fun Y o26 Z=>?_)
 subst Z
 refine dE 7 [3] bQ fun ht hn=>?_
 refine pd 0 [3] ?_
 refine d1 4 R (lC 0 jX R (Zq_ok u) R ?_)
 rintro _
 refine aB (aG (sL [3]) ?_)
 refine pc 5 [3] ?_
 refine d1 6 R (lM _ (tE 4 [3,0,1,2]) ?_)
 refine eB (K:=kT3) (x':=B) 0 L R R cI R R l.1 l.2 ?_ ?_
 exact fun I h s=>(gF).put I h () B s
 refine aB (aG (sL [0]) (dD ?_))
 refine dX ?_
 cases b
 exact qA () (tE 4 [1,2,3,0])
 refine aW ?_
 cases b
 obtain rfl:=D _ R
 have b:=E
 refine bA ?_
 exact qI (O,()) b tI
 rintro ⟨T,_⟩ σ1 b
 dsimp only [Z0y_J1] at b
 refine aW ?_
 refine aL 0 R R bX R R R R R R (lN (aJ q [(sc A10 g.Dims D10),(sc A11 g.Data D11)] 42::aJ j [(sc A10 g.Dims D10),(sc A11 g.Data D11)] 42::_::ow kT3 3 (.slice A11 g.Data.length D11) T::m) ?_)
 refine aW ?_
 cases b
 exact qS ((A10,g.Dims.length,D10),(A11,g.Data.length,D11)) (tE 5 [2,3])
theorem Za_ok  {g1:Graph}{g:(List Tensor)}{l:Bool}{r:(List Tensor)×Bool}(j:Za g1 g l=some r) :
 FnOk Tryz.prog 60 [(.agg [(.slice A2 N2 D2),(.slice A3 N3 D3)].toArray),(.slice A5 N5 D5),(.bool l)] [aO kT65 (.slice A2 N2 D2) g1.Nodes,aO kT3 (.slice A3 N3 D3) g1.Outs,aO dQ (.slice A5 N5 D5) g] (fun (h:HH)=>((.tuple [(s3 h),(.bool r.2)].toArray),[ow (dQ).share 42 (s3 h) r.1])):=by
 unfold Za at j
 refine aR Tryz.func60 R 143 R R fun C V=>?_
 refine cL 0 aA ?_
 rintro rfl
 refine cL 1 aA ?_
 rintro rfl
 refine cL 2 aA ?_
 rintro rfl
 let W0:=RR kT65 A2 D2 g1.Nodes::RR kT3 A3 D3 g1.Outs::RR dQ A5 D5 g::V
 refine cN W0 ?_
 refine bA ?_
 refine eJ R fun b7=>?_
 refine aW ?_
 let W1:=aJ b7 [(sc A2 g1.Nodes D2),(sc A3 g1.Outs D3)] 31::W0
 refine qN W1 ?_
 refine aW ?_
 refine bK (K:=dQ) (xs:=([]:List Tensor)) (vs:=[]) 0 R R gX bX dZ R R R R R R ?_ R (fun A8 D8=>?_)
 exact fun I h s=>(vd).list [] I h s
 refine cU ?_
 refine cQ [(1,(sc A5 g D5)),(2,(.bool l)),(3,(pt b7 0)),(8,(sc A8 ([]:List Tensor) D8)),(25,(.bool ((decide ((g1.Nodes.length:Int)>200))||(decide ((g1.Outs.length:Int)>40)))))] (OO dQ 42 A8 D8 ([]:List Tensor)::W1) ?_ ?_
 refine cH ?_
 rcases bo (decide ((g1.Nodes.length:Int)>200)) with co | co
 refine cH ?_
 exact qj tI
 refine cH ?_
 exact qj tI
 rintro σ1
 refine cE ?_
 split at j
 refine dH ?_
 cases j
 exact ka (A8,([]:List Tensor).length,D8) (fun w s=>((s.wk 0 R).e 5 [0]))
 refine dJ ?_
 refine bD (A:=((List Tensor)×Int)×(HH)) (fun a=>Za_J5 g1 g l a.1.1 a.1.2=some r) (fun a=>[(1,(sc A5 g D5)),(2,(.bool l)),(3,(pt b7 0)),(8,(s3 a.2)),(9,(iv a.1.2))]) (fun a=>ow (dQ).share 42 (s3 a.2) a.1.1::W1) ?_ ?_
 refine cH ?_
 obtain ⟨e1,cr,ax⟩:=bd j
 refine bE (A:=HH) cr (fun s a=>[(1,(sc A5 g D5)),(2,(.bool l)),(3,(pt b7 0)),(8,(s3 a)),(9,(iv s.2.1)),(10,(iv s.2.2))]) (fun s a=>ow (dQ).share 42 (s3 a) s.1::W1) (A8,([]:List Tensor).length,D8) (aS R) (fun w s=>(s.wk 0 R)) ?_
 rintro ⟨i,q,b⟩ ⟨u,cb,D⟩ σ1 bl j aw
 dsimp only [Za_L1] at j
 refine bJ 0 cV (fun (hn:cb=i.length)=>?_)
 subst hn
 refine dH ?_
 split at j
 refine cH ?_
 obtain ⟨a9,j⟩:=gd j
 refine bL ?_
 refine bC 2 aA (show 0<g1.Nodes.length by have:=a9; omega) (fun d8 o110 ha=>?_)
 subst ha
 refine cE ?_
 refine gO (K:=kT65) 2 b dT65.dec R a9.1 a9.2 ?_
 rintro ⟨-,⟨E,F⟩,⟨G,M⟩,⟨J,O⟩,-,⟨L,T⟩⟩
 refine lO (vz (.agg [(iv (ix g1.Nodes b).Op),(sc E ((ix g1.Nodes b).Args) F),(sc G ((ix g1.Nodes b).Dims) M),(sc J ((ix g1.Nodes b).Ints) O),(aH (ix g1.Nodes b).Form),(sc L ((ix g1.Nodes b).Data) T)].toArray) (eF (fo:=0) 0 kC eN R R R R)) (aY R R jC (fun Y=>(aL 0 R R eN R R R R R R (lN (aJ Y [(iv (ix g1.Nodes b).Op),(sc E ((ix g1.Nodes b).Args) F),(sc G ((ix g1.Nodes b).Dims) M),(sc J ((ix g1.Nodes b).Ints) O),(aH (ix g1.Nodes b).Form),(sc L ((ix g1.Nodes b).Data) T)] 65::_::_::_::_::_::_::W1) ?_))))
 refine bL ?_
 obtain ⟨bm,bz,j⟩:=bd j
 obtain ⟨ck,c0,j⟩:=bd j
 refine cQ [(1,(sc A5 g D5)),(2,(.bool l)),(3,(pt b7 0)),(8,(sc u i D)),(9,(iv q)),(10,(iv b)),(11,(pt Y 0)),(48,(.bool ((!bm)||(!ck))))] (OO (dQ).share 42 u D i::aJ Y [(iv (ix g1.Nodes b).Op),(sc E ((ix g1.Nodes b).Args) F),(sc G ((ix g1.Nodes b).Dims) M),(sc J ((ix g1.Nodes b).Ints) O),(aH (ix g1.Nodes b).Form),(sc L ((ix g1.Nodes b).Data) T)] 65::RR kT3 E F ((ix g1.Nodes b).Args)::RR kT3 G M ((ix g1.Nodes b).Dims)::RR kT3 J O ((ix g1.Nodes b).Ints)::RR kT3 L T ((ix g1.Nodes b).Data)::W1) ?_ ?_
 refine bA ?_
 refine lM _ (fun w s=>(((((s.d 2 R).d 4 R).d 6 R).d 8 R).f 11 [3,1,2,1,1,1,0,1,4,7])) ?_
 refine lC 4 BE R (Z1d_ok bz) R ?_
 rintro _
 refine bA ?_
 rcases bo (!bm) with a8 | a8
 refine dX ?_
 exact qj (tE 7 [6,0,2,3,4,5])
 refine aW ?_
 refine lM _ (fun w s=>(s.d 2 R)) ?_
 refine cD 1 R (cG a8) ve R (Z0m_ok (bR c0 (cY a8))) R ?_
 rintro _
 refine aW ?_
 exact qj (tE 7 [6,0,2,3,4,5])
 rintro σ1
 refine cE ?_
 split at j
 refine iZ ?_
 cases j
 obtain rfl:=aw _ R
 have j:=ax
 refine aW ?_
 cases j
 exact ka (u,i.length,D) (tE 10 [0])
 refine cU ?_
 refine bK (K:=dQ) (xs:=([]:List Tensor)) (vs:=[]) 0 R R gX bX dZ R R R R R R ?_ R (fun c7 c9=>?_)
 exact fun I h s=>(vd).list [] I h s
 refine bL ?_
 refine bD (A:=((List Tensor))×(HH)) (fun a=>Za_J3 g1 g l i q b a.1=some bl) (fun a=>[(1,(sc A5 g D5)),(2,(.bool l)),(3,(pt b7 0)),(8,(sc u i D)),(9,(iv q)),(10,(iv b)),(11,(pt Y 0)),(12,(s3 a.2))]) (fun a=>OO (dQ).share 42 u D i::aJ Y [(iv (ix g1.Nodes b).Op),(sc E ((ix g1.Nodes b).Args) F),(sc G ((ix g1.Nodes b).Dims) M),(sc J ((ix g1.Nodes b).Ints) O),(aH (ix g1.Nodes b).Form),(sc L ((ix g1.Nodes b).Data) T)] 65::RR kT3 E F ((ix g1.Nodes b).Args)::RR kT3 G M ((ix g1.Nodes b).Dims)::RR kT3 J O ((ix g1.Nodes b).Ints)::RR kT3 L T ((ix g1.Nodes b).Data)::ow (dQ).share 42 (s3 a.2) a.1::W1) ?_ ?_
 refine cH ?_
 obtain ⟨e2,cs,cq⟩:=bd j
 refine bE (A:=HH) cs (fun s a=>[(1,(sc A5 g D5)),(2,(.bool l)),(3,(pt b7 0)),(8,(sc u i D)),(9,(iv q)),(10,(iv b)),(11,(pt Y 0)),(12,(s3 a)),(13,(iv s.2))]) (fun s a=>OO (dQ).share 42 u D i::aJ Y [(iv (ix g1.Nodes b).Op),(sc E ((ix g1.Nodes b).Args) F),(sc G ((ix g1.Nodes b).Dims) M),(sc J ((ix g1.Nodes b).Ints) O),(aH (ix g1.Nodes b).Form),(sc L ((ix g1.Nodes b).Data) T)] 65::RR kT3 E F ((ix g1.Nodes b).Args)::RR kT3 G M ((ix g1.Nodes b).Dims)::RR kT3 J O ((ix g1.Nodes b).Ints)::RR kT3 L T ((ix g1.Nodes b).Data)::ow (dQ).share 42 (s3 a) s.1::W1) (c7,([]:List Tensor).length,c9) (aS R) (fun w s=>((s.wk 0 R).f 7 [1,6,0,1])) ?_
 rintro ⟨a6,a0⟩ ⟨c8,cc,ca⟩ σ1 db j cp
 dsimp only [Za_L2] at j
 refine bJ 6 cV (fun (hn:cc=a6.length)=>?_)
 subst hn
 refine dH ?_
 split at j
 refine cU ?_
 obtain ⟨bs,j⟩:=gd j
 obtain ⟨aa,j⟩:=gd j
 obtain ⟨bu,j⟩:=gd j
 refine cH ?_
 refine bC 2 aA (show 0<((ix g1.Nodes b).Args).length by have:=bs; omega) (fun d9 o141 ha=>?_)
 subst ha
 refine bA ?_
 refine bC 0 cV (show 0<i.length by have:=aa; omega) (fun da o144 ha=>?_)
 subst ha
 refine cE ?_
 refine y' (K:=(dQ).share) 0 (ix ((ix g1.Nodes b).Args) a0) R R gA bX dT42.own R R aa.1 aa.2 ?_
 rintro ⟨⟨ay,b9⟩,⟨az,ba⟩⟩
 refine lM _ (fun w s=>(((s.d 0 R).d 2 R).f 11 [1,1,0,1,2,9])) ?_
 refine bK (K:=(dQ).share) (xs:=([(ix i (ix ((ix g1.Nodes b).Args) a0))]:List Tensor)) (vs:=[(.agg [(sc ay ((ix i (ix ((ix g1.Nodes b).Args) a0)).Dims) b9),(sc az ((ix i (ix ((ix g1.Nodes b).Args) a0)).Data) ba)].toArray)]) 2 R R gX bX dZ R R R R R R ?_ R (fun ct cx=>?_)
 exact fun I h s=>(zn).list [(((sc ay ((ix i (ix ((ix g1.Nodes b).Args) a0)).Dims) b9),(sc az ((ix i (ix ((ix g1.Nodes b).Args) a0)).Data) ba)),(ix i (ix ((ix g1.Nodes b).Args) a0)))] I h s
 refine lM _ (fun w s=>(s.f 10 [9,1,0,9])) ?_
 refine dV (K:=(dQ).share) 2932031007402 R R gX bX zr (Zr.zk (Zr.share zo) dZ) R R R R R R dA bu (fun b0 bb=>(lN (OO (dQ).share 42 b0 bb (a6++([(ix i (ix ((ix g1.Nodes b).Args) a0))]:List Tensor))::_::_::_::_::_::_::_::_::W1) ?_))
 refine dJ ?_
 cases j
 exact qA (b0,(a6++([(ix i (ix ((ix g1.Nodes b).Args) a0))]:List Tensor)).length,bb) (fun w s=>(s.f 9 [3,6,0,1]))
 refine aW ?_
 cases j
 obtain rfl:=cp _ R
 have j:=cq
 refine bA ?_
 exact qI (a6,(c8,a6.length,ca)) j tI
 rintro ⟨a7,⟨ac,cf,ae⟩⟩ σ1 j
 dsimp only [Za_J3] at j
 refine bJ 6 cV (fun (hn:cf=a7.length)=>?_)
 subst hn
 refine bA ?_
 refine lO (vz (.agg [(.slice none 0 0),(.slice none 0 0)].toArray) (aV hM dZ R R)) (aY R R dZ (fun a1=>(aL 0 R R bX R R R R R R (lN (_::OO (dQ).share 42 u D i::aJ Y [(iv (ix g1.Nodes b).Op),(sc E ((ix g1.Nodes b).Args) F),(sc G ((ix g1.Nodes b).Dims) M),(sc J ((ix g1.Nodes b).Ints) O),(aH (ix g1.Nodes b).Form),(sc L ((ix g1.Nodes b).Data) T)] 65::RR kT3 E F ((ix g1.Nodes b).Args)::_::_::_::OO (dQ).share 42 ac ae a7::W1) ?_))))
 refine aW ?_
 refine bD (A:=(Int×(List Int)×(List Int))×(HH×HH)) (fun a=>Za_J4 i b a.1.1 a.1.2.1 a.1.2.2=some bl) (fun a=>[(1,(sc A5 g D5)),(2,(.bool l)),(3,(pt b7 0)),(8,(sc u i D)),(9,(iv a.1.1)),(10,(iv b)),(14,(pt a1 0))]) (fun a=>OO (dQ).share 42 u D i::aJ a1 [(s3 a.2.1),(s3 a.2.2)] 42::ow kT3 3 (s3 a.2.1) a.1.2.1::ow kT3 3 (s3 a.2.2) a.1.2.2::W1) ?_ ?_
 refine dJ ?_
 split at j
 refine cE ?_
 obtain ⟨a4,c1,j⟩:=bd j
 refine aW ?_
 refine lM _ (fun w s=>(((((s.d 3 R).d 5 R).d 7 R).d 9 R).e 12 [11,3,2,1,0,4,5,6,7,8,9,10])) ?_
 refine lC 5 BP R (FnOk.lends (A':=[OO (dQ).share 42 ac ae a7]) (A:=[RR dQ ac ae a7]) (B:=[RR kT3 E F ((ix g1.Nodes b).Args),RR kT3 G M ((ix g1.Nodes b).Dims),RR kT3 J O ((ix g1.Nodes b).Ints),RR kT3 L T ((ix g1.Nodes b).Data)]) (FnOk.perm (Z2_ok c1) (Pre':=[RR dQ ac ae a7,RR kT3 E F ((ix g1.Nodes b).Args),RR kT3 G M ((ix g1.Nodes b).Dims),RR kT3 J O ((ix g1.Nodes b).Ints),RR kT3 L T ((ix g1.Nodes b).Data)]) (fun _ _ _ s=>(s.f 5 [1,4,0,1]))) ⟨kt,trivial⟩ (fun _=>⟨(bH iP),(bH iP),trivial⟩)) R ?_
 rintro ⟨⟨b1,d2,bc⟩,⟨b2,d3,be⟩⟩
 refine aM 1 aC ?_
 rintro rfl
 refine aM 2 aC ?_
 rintro rfl
 refine aL 3 R R bX R R R R R R (lN (_::_::_::aJ a1 [(sc b1 a4.Dims bc),(sc b2 a4.Data be)] 42::_::_::_::_::_::_::W1) ?_)
 refine bA ?_
 exact qI ((q,a4.Dims,a4.Data),((b1,a4.Dims.length,bc),(b2,a4.Data.length,be))) j (tE 10 [4,3,1,2])
 refine dX ?_
 split at j
 refine cE ?_
 obtain ⟨a5,c2,j⟩:=bd j
 refine aW ?_
 refine lM _ (fun w s=>(s.d 4 R)) ?_
 refine lC 1 BQ R (Z0y_ok c2) R ?_
 rintro ⟨⟨b3,d4,bf⟩,⟨b4,d5,bg⟩⟩
 refine aM 0 aC ?_
 rintro rfl
 refine aM 1 aC ?_
 rintro rfl
 refine aL 2 R R bX R R R R R R (lN (_::_::aJ a1 [(sc b3 a5.Dims bf),(sc b4 a5.Data bg)] 42::_::_::_::_::_::_::_::W1) ?_)
 refine bA ?_
 exact qI ((q,a5.Dims,a5.Data),((b3,a5.Dims.length,bf),(b4,a5.Data.length,bg))) j (tE 10 [3,2,0,1])
 refine aW ?_
 obtain ⟨U,j⟩:=gd j
 obtain ⟨bn,av,j⟩:=bd j
 obtain ⟨bv,j⟩:=gd j
 obtain ⟨cm,c3,j⟩:=bd j
 refine cQ [(1,(sc A5 g D5)),(2,(.bool l)),(3,(pt b7 0)),(8,(sc u i D)),(9,(iv q)),(10,(iv b)),(11,(pt Y 0)),(14,(pt a1 0)),(92,(.bool (((decide (q≥(g.length:Int)))||(!bn))||(!cm))))] (OO (dQ).share 42 u D i::aJ Y [(iv (ix g1.Nodes b).Op),(sc E ((ix g1.Nodes b).Args) F),(sc G ((ix g1.Nodes b).Dims) M),(sc J ((ix g1.Nodes b).Ints) O),(aH (ix g1.Nodes b).Form),(sc L ((ix g1.Nodes b).Data) T)] 65::RR kT3 E F ((ix g1.Nodes b).Args)::RR kT3 G M ((ix g1.Nodes b).Dims)::RR kT3 J O ((ix g1.Nodes b).Ints)::RR kT3 L T ((ix g1.Nodes b).Data)::aJ a1 [(.slice none 0 0),(.slice none 0 0)] 42::W1) ?_ ?_
 rcases bo (decide (q≥(g.length:Int))) with m | m
 refine dE 23 [] bQ fun ht hn=>?_
 refine Br 0 [] ?_
 refine dD ?_
 exact qj (fun w s=>(s.f 8 [1,6,0,1]))
 rcases bo ((decide (q≥(g.length:Int)))||(!bn)) with Z | Z
 refine bB 11 aA (show 0<g.length by have:=(U m); omega) (fun bk o168 ha=>?_)
 subst ha
 refine dP (K:=dQ) 11 q dT42.dec R (U m).1 (U m).2 ?_
 rintro ⟨⟨aj,ao⟩,⟨ak,ap⟩⟩
 refine dE 23 [] bQ fun ht hn=>?_
 refine t6 0 [] ?_
 refine dW 7 R (cG m) (eA gX bX R R (U m)) (dW 8 R (cG m) (vz (.agg [(sc aj ((ix g q).Dims) ao),(sc ak ((ix g q).Data) ap)].toArray) (eF (fo:=0) 0 gA bX R R R R)) (d1 9 R (lM _ (fun w s=>(((s.d 1 R).d 3 R).f 13 [1,1,0,1,2,11])) ?_)))
 refine cD 2 R (cG m) og R (Zs_ok (bR av (cY m))) R ?_
 rintro _
 refine aB (aG (sL []) ?_)
 refine mY 10 [] ?_
 refine dD ?_
 exact qj (fun w s=>(s.f 11 [4,6,3,1]))
 refine bB 11 aA (show 0<g.length by have:=(U m); omega) (fun bk o168 ha=>?_)
 subst ha
 refine dP (K:=dQ) 11 q dT42.dec R (U m).1 (U m).2 ?_
 rintro ⟨⟨aj,ao⟩,⟨ak,ap⟩⟩
 refine dE 23 [] bQ fun ht hn=>?_
 refine t6 0 [] ?_
 refine dW 7 R (cG m) (eA gX bX R R (U m)) (dW 8 R (cG m) (vz (.agg [(sc aj ((ix g q).Dims) ao),(sc ak ((ix g q).Data) ap)].toArray) (eF (fo:=0) 0 gA bX R R R R)) (d1 9 R (lM _ (fun w s=>(((s.d 1 R).d 3 R).f 13 [1,1,0,1,2,11])) ?_)))
 refine cD 2 R (cG m) og R (Zs_ok (bR av (cY m))) R ?_
 rintro _
 refine aB (aG (sL []) ?_)
 refine kM 10 [] ?_
 refine dW 15 R (cG Z) (eA gX bX R R (bv Z)) (dW 16 R (cG Z) (vz (.pointer (some ⟨bk,o168+q.toNat*2,none⟩)) (iI j0 R R)) (dW 17 R (cG Z) (eO (fo:=0) 0 bZ R R R) ?_))
 refine iC 18 [] ?_
 refine d1 20 R (lM _ (fun w s=>(((s.d 1 R).d 8 R).f 13 [1,1,0,1,2,11])) ?_)
 refine cD 2 R (cG Z) vf R (Zw_ok (bR c3 (cY Z))) R ?_
 rintro _
 refine aB (aG (sL []) ?_)
 refine iC 21 [] ?_
 refine dD ?_
 exact qj (fun w s=>(s.f 11 [4,6,3,1]))
 rintro σ1
 refine cE ?_
 split at j
 refine pa ?_
 cases j
 obtain rfl:=aw _ R
 have j:=ax
 refine aW ?_
 cases j
 exact ka (u,i.length,D) (tE 11 [0])
 refine bL ?_
 obtain ⟨ag,c4,j⟩:=bd j
 obtain ⟨ab,j⟩:=gd j
 obtain ⟨ah,c5,j⟩:=bd j
 refine bB 10 aA (show 0<g.length by have:=ab; omega) (fun cj o184 ha=>?_)
 subst ha
 refine dP (K:=dQ) 10 q dT42.dec R ab.1 ab.2 ?_
 rintro ⟨⟨cu,cy⟩,⟨cv,cz⟩⟩
 refine dE 11 [9] bQ fun ht hn=>?_
 refine iC 0 [9] ?_
 refine iM 3 [9] ?_
 refine dR 6 R (vz (.pointer (some ⟨cj,o184+q.toNat*2+1,none⟩)) (iI tg R R)) (hS:=(sL [9])) (dR 7 R (eO (fo:=1) 0 bZ R R R) (hS:=(sL [9])) (d1 2 R (lM _ (fun w s=>(s.d 6 R)) ?_)))
 refine lC 1 jr R (Ze_ok c4) R ?_
 rintro ⟨al,d6,aq⟩
 refine aM 0 aC ?_
 rintro rfl
 refine aB (aG (sL [10,0]) (d1 8 R (lM _ (fun w s=>(s.d 3 R)) ?_)))
 refine lC 1 jr R (Ze_ok c5) R ?_
 rintro ⟨am,d7,ar⟩
 refine aM 0 aC ?_
 rintro rfl
 refine aB (aG (sL [11,1,0]) (dR 9 R (vz (.agg [(sc al ag aq),(sc am ah ar)].toArray) (aV hM dZ R R)) (hS:=(sL [11,1,0])) (d1 10 R (aL 11 R R bX R R R R R R (lN (_::_::_::_::_::_::_::_::_::_::_::aJ a1 [(sc al ag aq),(sc am ah ar)] 42::W1) ?_)))))
 refine aB (aG (sL [11,1,0]) (dD ?_))
 refine dX ?_
 exact qI (((aK (q+1)),ag,ah),((al,ag.length,aq),(am,ah.length,ar))) j (tE 12 [5,11,1,0])
 rintro ⟨⟨dc,a2,a3⟩,⟨⟨b5,cg,bh⟩,⟨b6,ch,bi⟩⟩⟩ σ1 j
 dsimp only [Za_J4] at j
 refine bJ 2 aC (fun (hn:cg=a2.length)=>?_)
 subst hn
 refine bJ 3 aC (fun (hn:ch=a3.length)=>?_)
 subst hn
 refine dJ ?_
 split at j
 refine iZ ?_
 cases j
 obtain rfl:=aw _ R
 have j:=ax
 refine aW ?_
 cases j
 exact ka (u,i.length,D) (tE 8 [0])
 refine aW ?_
 obtain ⟨bw,j⟩:=gd j
 refine aW ?_
 refine lM _ (fun w s=>(((((s.shr 2 R).d 0 R).shr 4 R).d 0 R).e 6 [2,0,1,3,4,5])) ?_
 refine bK (K:=(dQ).share) (xs:=([(⟨a2,a3⟩:Tensor)]:List Tensor)) (vs:=[(.agg [(sc b5 a2 bh),(sc b6 a3 bi)].toArray)]) 2 R R gX bX dZ R R R R R R ?_ R (fun cw d0=>?_)
 exact fun I h s=>(zn).list [(((sc b5 a2 bh),(sc b6 a3 bi)),(⟨a2,a3⟩:Tensor))] I h s
 refine lM _ (tE 5 [3,0,1,2,4]) ?_
 refine dV (K:=(dQ).share) 2932031007402 R R gX bX zr (Zr.zk (Zr.share zo) dZ) R R R R R R dA bw (fun b8 bj=>(lN (OO (dQ).share 42 b8 bj (i++([(⟨a2,a3⟩:Tensor)]:List Tensor))::_::_::_::W1) ?_))
 refine dJ ?_
 cases j
 exact qA (b8,(i++([(⟨a2,a3⟩:Tensor)]:List Tensor)).length,bj) (tE 4 [0])
 refine aW ?_
 cases j
 obtain rfl:=aw _ R
 have j:=ax
 refine bA ?_
 exact qI ((i,q),(u,i.length,D)) j tI
 rintro ⟨⟨ai,cn⟩,⟨an,ci,au⟩⟩ σ1 j
 dsimp only [Za_J5] at j
 refine bJ 0 cV (fun (hn:ci=ai.length)=>?_)
 subst hn
 refine cE ?_
 obtain ⟨bp,c6,j⟩:=bd j
 refine cQ [(6,(sc an ai au)),(7,(.bool (bp&&(l||(cn==(g.length:Int))))))] (OO (dQ).share 42 an au ai::W1) ?_ ?_
 refine dX ?_
 refine lM _ (fun w s=>(s.d 3 R)) ?_
 refine lC 1 ve R (Z0m_ok c6) R ?_
 rintro _
 refine cE ?_
 rcases bo bp with bq | bq
 refine bA ?_
 rcases bo l with br | br
 refine dJ ?_
 exact qj tI
 refine dJ ?_
 exact qj tI
 refine j9 ?_
 exact qj tI
 rintro σ1
 refine bA ?_
 cases j
 exact ka (an,ai.length,au) (tE 5 [0])
theorem Z0v_ok  {g1:Graph}{r:(List (List Int))}(g:Z0v g1=some r) :
 FnOk Tryz.prog 27 [(.agg [(.slice A2 N2 D2),(.slice A3 N3 D3)].toArray)] [aO kT65 (.slice A2 N2 D2) g1.Nodes,aO kT3 (.slice A3 N3 D3) g1.Outs] (fun (h:HH)=>((.slice h.1 h.2.1 h.2.2),[ow (kT23).share 23 (.slice h.1 h.2.1 h.2.2) r])):=by
 unfold Z0v at g
 refine aR Tryz.func27 R 32 R R fun C V=>?_
 refine cN (_::_::V) ?_
 refine cL 0 aA ?_
 rintro rfl
 refine cL 1 aA ?_
 rintro rfl
 let W0:List HP:=RR kT65 A2 D2 g1.Nodes::RR kT3 A3 D3 g1.Outs::V
 refine cN W0 ?_
 refine aI (aD (eJ R (fun b4=>(lS R (aB ?_)))))
 let q:List HP:=aJ b4 [(sc A2 g1.Nodes D2),(sc A3 g1.Outs D3)] 31::W0
 refine qN q ?_
 refine aE (aI (aD (bK (K:=kT23) (xs:=([]:List (List Int))) (vs:=[]) 0 R R jp eX kO R R R R R R ?_ R (fun A5 D5=>?_))))
 exact fun I h s=>(mZ).list [] I h s
 refine lN (OO kT23 23 A5 D5 ([]:List (List Int))::q) ?_
 refine lS R (aB (aE (aI ?_)))
 obtain ⟨i,a8,g⟩:=bd g
 refine aD (lO (vz (.agg [(sc A2 g1.Nodes D2),(sc A3 g1.Outs D3)].toArray) (bN 1 fB dN R R R R)) (bK (K:=dQ) (xs:=([]:List Tensor)) (vs:=[]) 0 R R gX bX dZ R R R R R R ?_ R (fun A6 D6=>?_)))
 exact fun I h s=>(vd).list [] I h s
 refine lN (OO dQ 42 A6 D6 ([]:List Tensor)::_::q) ?_
 refine fS (fun w s=>s.shr 0 R) (lM (RR kT65 A2 D2 g1.Nodes::RR kT3 A3 D3 g1.Outs::RR dQ A6 D6 ([]:List Tensor)::RR dQ A6 D6 ([]:List Tensor)::ow _ _ _ _::q) (fun w s=>((((s.d 3 R).d 5 R).d 2 R).e 5 [2,1,0,3,4])) ?_)
 refine lC 3 zH R (Za_ok a8) R ?_
 rintro ⟨A9,N9,D9⟩
 refine lN (ow (dQ).share 42 (.slice A9 N9 D9) i.1::_::_::q) ?_
 refine aM 0 cV ?_
 rintro rfl
 refine lO (vT R) (lS R (lB R (lS R (lB R (aB (aE (aI (bD (A:=((List (List Int)))×(HH)) (fun a=>Z0v_J1 a.1=some r) (fun a=>[(3,(.slice a.2.1 a.2.2.1 a.2.2.2))]) (fun a=>ow (kT23).share 23 (.slice a.2.1 a.2.2.1 a.2.2.2) a.1::q) ?_ ?_))))))))
 refine aI (aD (lI R (aB (aE (cB ?_)))))
 obtain ⟨e1,a7,a6⟩:=bd g
 refine bE (A:=HH) a7 (fun s a=>[(3,(.slice a.1 a.2.1 a.2.2)),(4,(sc A9 i.1 D9)),(5,(.bool i.2)),(6,(iv s.2))]) (fun s a=>ow (kT23).share 23 (.slice a.1 a.2.1 a.2.2) s.1::OO (dQ).share 42 A9 D9 i.1::q) (A5,([]:List (List Int)).length,D5) (aS R) (fun w s=>((s.wk 2 R).e 3 [0,1])) ?_
 rintro ⟨j,b⟩ ⟨B,a3,D⟩ σ1 T g a5
 replace g:Z0v_L1 i j b=some T:=g
 unfold Z0v_L1 at g
 refine bJ 0 cV (fun (hn:a3=j.length)=>?_)
 subst hn
 refine aI (aI (cQ [(3,(sc B j D)),(4,(sc A9 i.1 D9)),(5,(.bool i.2)),(6,(iv b)),(20,(.bool ((decide (b<(i.1.length:Int)))&&i.2)))] (OO (kT23).share 23 B D j::OO (dQ).share 42 A9 D9 i.1::q) ?_ ?_))
 refine aD (lI R (lS R (lO (eT gX R) (lO (jz R R) (lB R ?_)))))
 rcases bo (decide (b<(i.1.length:Int))) with l | l
 refine lW (eM l) (vB R) (lO (ji R l R) (aB ?_))
 exact qJ (fun w s=>s)
 refine lf (nN l) (lO (kA i.2 R l) (aB ?_))
 exact qJ (fun w s=>s)
 rintro σ1
 refine aE ?_
 rcases bY g with ⟨u,g⟩|⟨u,g⟩
 refine bM R u (bS (aE (aI (cB ?_))))
 obtain ⟨m,g⟩:=gd g
 obtain ⟨O,g⟩:=gd g
 refine aD (lS R (lS R (lI R (bC 1 cV (show 0<i.1.length by have:=m; omega) (fun M o27 ha=>?_)))))
 subst ha
 refine lO (eA gX bX R R m) (lO (vz (.pointer (some ⟨M,o27+b.toNat*2,none⟩)) (iI j0 R R)) (kL (K:=(dQ).share) (fo:=0) 1 b R R bZ dT42.own (fun _ _=>R) R R m.1 m.2 ?_))
 rintro ⟨⟨E,F⟩,⟨U,a0⟩⟩
 refine lN (RR kT3 E F ((ix i.1 b).Dims)::RR kT3 U a0 ((ix i.1 b).Data)::OO (kT23).share 23 B D j::OO (dQ).share 42 (ad M o27) D9 i.1::q) ?_
 refine lM (_::_::_::_::_::q) (fun w s=>(s.d 0 R)) ?_
 refine bK (K:=(kT23).share) (xs:=([(ix i.1 b).Dims]:List (List Int))) (vs:=[(sc E ((ix i.1 b).Dims) F)]) 1 R R jp eX kO R R R R R R ?_ R (fun Y a1=>?_)
 exact fun I h s=>(nD).list [((sc E ((ix i.1 b).Dims) F),(ix i.1 b).Dims)] I h s
 refine lN (OO (kT23).share 23 Y a1 ([(ix i.1 b).Dims]:List (List Int))::_::_::_::_::q) ?_
 refine lM (ow _ _ _ _::ow _ _ _ _::aO _ _ _::aO _ _ _::ow _ _ _ _::q) (fun w s=>(s.e 5 [3,0,1,2,4])) ?_
 refine dV (K:=(kT23).share) 5864062014805 R R jp eX tj (Zr.zk (Zr.share zT23) kO) R R R R R R dA O (fun J L=>(lN (OO (kT23).share 23 J L (j++([(ix i.1 b).Dims]:List (List Int)))::_::_::_::q) ?_))
 refine lS R (aB (cT (aE (aD (lI R (lO (jy R R) (lI R (aB ?_))))))))
 obtain rfl:=so g
 exact qA (J,(j++([(ix i.1 b).Dims]:List (List Int))).length,L) (fun w s=>(s.e 4 [0,3]))
 refine aX R u (eL (cR ?_))
 obtain rfl:=so g
 obtain rfl:=a5 _ R
 have g:=a6
 refine cR (dU ?_)
 exact qI (j,(B,j.length,D)) g (fun w s=>(s.e 2 [0]))
 rintro ⟨G,⟨Z,a4,a2⟩⟩ σ1 g
 replace g:Z0v_J1 G=some r:=g
 unfold Z0v_J1 at g
 refine bJ 0 cV (fun (hn:a4=G.length)=>?_)
 subst hn
 refine aI (aD (lS R (lS R (aB (aE (bO ?_))))))
 obtain rfl:=so g
 exact qF (Z,G.length,a2) (fun w s=>(s.e 4 [0]))
theorem Z0p_ok  {g1:Graph}{r:Bool}(a:Z0p g1=some r) :
 FnOk Tryz.prog 34 [(.agg [(.slice A2 N2 D2),(.slice A3 N3 D3)].toArray)] [aO kT65 (.slice A2 N2 D2) g1.Nodes,aO kT3 (.slice A3 N3 D3) g1.Outs] (fun (h:Unit)=>((.bool r),[])):=by
 unfold Z0p at a
 refine aR Tryz.func34 R 12 R R fun C V=>?_
 refine cL 0 aA ?_
 rintro rfl
 refine cL 1 aA ?_
 rintro rfl
 let g:=RR kT65 A2 D2 g1.Nodes::RR kT3 A3 D3 g1.Outs::V
 refine cN g ?_
 refine bA ?_
 refine eJ R fun j=>?_
 refine bA ?_
 let i:=aJ j [(sc A2 g1.Nodes D2),(sc A3 g1.Outs D3)] 31::g
 refine qN i ?_
 refine bA ?_
 obtain ⟨l,b,a⟩:=bd a
 refine bA ?_
 refine bK (K:=dQ) (xs:=([]:List Tensor)) (vs:=[]) 0 R R gX bX dZ R R R R R R ?_ R (fun A5 D5=>?_)
 exact fun I h s=>(vd).list [] I h s
 refine fS (fun w s=>s.shr 0 R) (lM _ (fun w s=>((((s.d 2 R).d 4 R).d 2 R).e 4 [2,1,0,3])) ?_)
 refine lC 3 zH R (Za_ok b) R ?_
 rintro ⟨A8,N8,D8⟩
 refine aM 0 cV ?_
 rintro rfl
 refine lO (vT R) ?_
 refine lL ?_
 cases a
 exact qF () (tE 5 [])
theorem Z00_ok  {g1:Graph}{r:(List Int)}(g:Z00 g1=some r) :
 FnOk Tryz.prog 48 [(.agg [(.slice A2 N2 D2),(.slice A3 N3 D3)].toArray)] [aO kT65 (.slice A2 N2 D2) g1.Nodes,aO kT3 (.slice A3 N3 D3) g1.Outs] (fun (h:HH)=>((.slice h.1 h.2.1 h.2.2),[ow kT3 3 (.slice h.1 h.2.1 h.2.2) r])):=by
 unfold Z00 at g
 refine aR Tryz.func48 R 31 R R fun C V=>?_
 refine cN (_::_::V) ?_
 refine cL 0 aA ?_
 rintro rfl
 refine cL 1 aA ?_
 rintro rfl
 let W0:List HP:=RR kT65 A2 D2 g1.Nodes::RR kT3 A3 D3 g1.Outs::V
 refine cN W0 ?_
 refine aI (aD (eJ R (fun U=>(lS R (aB ?_)))))
 let u:List HP:=aJ U [(sc A2 g1.Nodes D2),(sc A3 g1.Outs D3)] 31::W0
 refine qN u ?_
 refine aE (aI (aD (bK (K:=kT3) (xs:=([]:List Int)) (vs:=[]) 0 R R bI cI gB R R R R R R ?_ R (fun A5 D5=>?_))))
 exact fun I h s=>(gF).list [] I h s
 refine lN (OO kT3 3 A5 D5 ([]:List Int)::u) ?_
 refine lS R (aB (aE (aI ?_)))
 obtain ⟨J,ab,g⟩:=bd g
 refine aD (lO (vz (.agg [(sc A2 g1.Nodes D2),(sc A3 g1.Outs D3)].toArray) (bN 1 fB dN R R R R)) (lM (RR kT65 A2 D2 g1.Nodes::RR kT3 A3 D3 g1.Outs::ow _ _ _ _::u) (fun w s=>(((s.d 2 R).d 4 R).e 3 [1,0,2])) ?_))
 refine lC 2 pT R (Z0p_ok ab) R ?_
 rintro _
 refine lN (_::u) ?_
 refine lB R (aB (aE (aI (bD (A:=((List Int))×(HH)) (fun a=>Z00_J3 a.1=some r) (fun a=>[(3,(.slice a.2.1 a.2.2.1 a.2.2.2))]) (fun a=>ow kT3 3 (.slice a.2.1 a.2.2.1 a.2.2.2) a.1::u) ?_ ?_))))
 refine aI (aD (lI R (aB (aE (cB ?_)))))
 obtain ⟨e1,aa,a9⟩:=bd g
 refine bE (A:=HH) aa (fun s a=>[(1,(pt U 0)),(3,(.slice a.1 a.2.1 a.2.2)),(4,(.bool J)),(5,(iv s.2))]) (fun s a=>ow kT3 3 (.slice a.1 a.2.1 a.2.2) s.1::u) (A5,([]:List Int).length,D5) (aS R) (fun w s=>s) ?_
 rintro ⟨i,b⟩ ⟨m,a4,q⟩ σ1 E g a8
 replace g:Z00_L1 g1 J i b=some E:=g
 unfold Z00_L1 at g
 refine bJ 0 aC (fun (T:a4=i.length)=>?_)
 subst T
 refine aI (aI (cQ [(1,(pt U 0)),(3,(sc m i q)),(4,(.bool J)),(5,(iv b)),(16,(.bool ((decide (b<(g1.Nodes.length:Int)))&&J)))] (OO kT3 3 m q i::u) ?_ ?_))
 refine aD (lI R (lO (eC 0 fI R) (lO (eH 1 kh R R R) (lO (eT gQ R) (lO (jz R R) (lB R ?_))))))
 rcases bo (decide (b<(g1.Nodes.length:Int))) with j | j
 refine lW (eM j) (vB R) (lO (ji R j R) (aB ?_))
 exact qJ (fun w s=>s)
 refine lf (nN j) (lO (kA J R j) (aB ?_))
 exact qJ (fun w s=>s)
 rintro σ1
 refine aE ?_
 rcases bY g with ⟨B,g⟩|⟨B,g⟩
 refine bM R B (bS (aE (aI (bD (A:=((List Int))×(HH)) (fun a=>Z00_J2 b a.1=some E) (fun a=>[(1,(pt U 0)),(3,(.slice a.2.1 a.2.2.1 a.2.2.2)),(4,(.bool J)),(5,(iv b))]) (fun a=>ow kT3 3 (.slice a.2.1 a.2.2.1 a.2.2.2) a.1::u) ?_ ?_))))
 refine cB (aI ?_)
 obtain ⟨l,g⟩:=gd g
 refine aD (lO (eC 0 fI R) (lO (eH 1 kh R R R) (lI R (bC 2 aA (show 0<g1.Nodes.length by have:=l; omega) (fun a7 o26 ha=>?_)))))
 subst ha
 refine lO (eA gQ eN R R l) (lO (vz (.pointer (some ⟨a7,o26+b.toNat*6,none⟩)) (iI gR R R)) (lO (vz (iv (ix g1.Nodes b).Op) (ja (K:=kT65) (fo:=0) (pr:=fun x=>(iv x.Op)) 2 b fC (dT65.leaf fun _ _=>R) aA R l.1 l.2)) (lO (l8 R R) (aB (aE ?_)))))
 rcases bY g with ⟨D,g⟩|⟨D,g⟩
 refine bM R D ?_
 obtain ⟨O,g⟩:=gd g
 refine aD (lS R (lI R (bK (K:=kT3) (xs:=([b]:List Int)) (vs:=[(iv b)]) 0 R R bI cI gB R R R R R R ?_ R (fun Y a1=>?_))))
 exact fun I h s=>(gF).list [((),b)] I h s
 refine lN (OO kT3 3 Y a1 ([b]:List Int)::OO kT3 3 m q i::u) ?_
 refine lM (ow _ _ _ _::ow _ _ _ _::u) (fun w s=>(s.e 2 [1,0])) ?_
 refine dV (K:=kT3) 17592186044416 R R bI cI jN (Zr.zk zT3 gB) R R R R R R dA O (fun L M=>(lN (OO kT3 3 L M (i++([b]:List Int))::u) ?_))
 refine lS R (aB (cT ?_))
 exact qI ((i++([b]:List Int)),(L,(i++([b]:List Int)).length,M)) g (fun w s=>s)
 refine aX R D (bS (cT ?_))
 exact qI (i,(m,i.length,q)) g (fun w s=>s)
 rintro ⟨F,⟨Z,a5,a2⟩⟩ σ1 g
 replace g:Z00_J2 b F=some E:=g
 unfold Z00_J2 at g
 refine bJ 0 aC (fun (T:a5=F.length)=>?_)
 subst T
 refine aD (lI R (lO (jy R R) (lI R (aB ?_))))
 obtain rfl:=so g
 exact qA (Z,F.length,a2) (fun w s=>s)
 refine aX R B (eL (cR ?_))
 obtain rfl:=so g
 obtain rfl:=a8 _ R
 have g:=a9
 refine cR (dU ?_)
 exact qI (i,(m,i.length,q)) g (fun w s=>s)
 rintro ⟨G,⟨a0,a6,a3⟩⟩ σ1 g
 replace g:Z00_J3 G=some r:=g
 unfold Z00_J3 at g
 refine bJ 0 aC (fun (T:a6=G.length)=>?_)
 subst T
 refine aI (aD (lS R (lS R (aB (aE (bO ?_))))))
 obtain rfl:=so g
 exact qF (a0,G.length,a3) (fun w s=>(s.e 4 [0]))
theorem Z2k_ok  {a:Node}{r:Node}(E:Z2k a=some r) :
 FnOk Tryz.prog 38 [(.agg [(iv a.Op),(.slice A2 N2 D2),(.slice A3 N3 D3),(.slice A4 N4 D4),(aH a.Form),(.slice A5 N5 D5)].toArray)] [aO kT3 (.slice A2 N2 D2) a.Args,aO kT3 (.slice A3 N3 D3) a.Dims,aO kT3 (.slice A4 N4 D4) a.Ints,aO kT3 (.slice A5 N5 D5) a.Data] (fun (h:HH×HH×HH×HH)=>((.agg [(iv r.Op),(.slice h.1.1 h.1.2.1 h.1.2.2),(.slice h.2.1.1 h.2.1.2.1 h.2.1.2.2),(.slice h.2.2.1.1 h.2.2.1.2.1 h.2.2.1.2.2),(aH r.Form),(.slice h.2.2.2.1 h.2.2.2.2.1 h.2.2.2.2.2)].toArray),[ow kT3 3 (.slice h.1.1 h.1.2.1 h.1.2.2) r.Args,ow kT3 3 (.slice h.2.1.1 h.2.1.2.1 h.2.1.2.2) r.Dims,ow kT3 3 (.slice h.2.2.1.1 h.2.2.1.2.1 h.2.2.1.2.2) r.Ints,ow kT3 3 (.slice h.2.2.2.1 h.2.2.2.2.1 h.2.2.2.2.2) r.Data])):=by
 unfold Z2k at E
 refine aR Tryz.func38 R 20 R R fun C V=>?_
 refine cN (_::_::_::_::V) ?_
 refine cL 0 aA ?_
 rintro rfl
 refine cL 1 aA ?_
 rintro rfl
 refine cL 2 aA ?_
 rintro rfl
 refine cL 3 aA ?_
 rintro rfl
 let U:List HP:=RR kT3 A2 D2 a.Args::RR kT3 A3 D3 a.Dims::RR kT3 A4 D4 a.Ints::RR kT3 A5 D5 a.Data::V
 refine cN U ?_
 refine aI (aD (eJ R (fun Z=>(aY R R jC (fun Y=>(aB ?_))))))
 let D:List HP:=aJ Z [(iv a.Op),(sc A2 a.Args D2),(sc A3 a.Dims D3),(sc A4 a.Ints D4),(aH a.Form),(sc A5 a.Data D5)] 65::U
 refine qN (_::D) ?_
 refine aE (aI ?_)
 obtain ⟨J,T,E⟩:=bd E
 obtain ⟨q,F,E⟩:=bd E
 obtain ⟨u,G,E⟩:=bd E
 obtain ⟨B,I,E⟩:=bd E
 refine dE 18 [0] bQ (fun ht hn=>(dR 0 R (eC 0 gR R) (hS:=(sL [0])) (dR 1 R (eH 0 fC R R R) (hS:=(sL [0])) (dR 2 R (eC 1 jl R) (hS:=(sL [0])) (dR 3 R (eH 0 bZ R R R) (hS:=(sL [0])) (dR 5 R (eC 2 i' R) (hS:=(sL [0])) (dR 6 R (eH 0 bZ R R R) (hS:=(sL [0])) (dR 8 R (eC 3 gS R) (hS:=(sL [0])) (dR 9 R (eH 0 bZ R R R) (hS:=(sL [0])) (dR 11 R (eC 4 lQ R) (hS:=(sL [0])) (dR 12 R (eH 0 pI R R R) (hS:=(sL [0])) (dR 13 R (eC 5 kN R) (hS:=(sL [0])) (dR 14 R (eH 0 bZ R R R) (hS:=(sL [0])) (d1 4 R (lM (RR kT3 A2 D2 a.Args::_::D) (fun w s=>(s.d 2 R)) ?_)))))))))))))))
 refine lC 1 jr R (Ze_ok T) R ?_
 rintro ⟨A10,N10,D10⟩
 refine lN (ow kT3 3 (.slice A10 N10 D10) J::_::D) ?_
 refine aM 0 aC ?_
 rintro rfl
 refine aB (aG (sL [1,0]) (d1 7 R (lM (RR kT3 A3 D3 a.Dims::_::_::D) (fun w s=>(s.d 4 R)) ?_)))
 refine lC 1 jr R (Ze_ok F) R ?_
 rintro ⟨b,L,j⟩
 refine lN (ow kT3 3 (.slice b L j) q::_::_::D) ?_
 refine aM 0 aC ?_
 rintro rfl
 refine aB (aG (sL [2,1,0]) (d1 10 R (lM (RR kT3 A4 D4 a.Ints::_::_::_::D) (fun w s=>(s.d 6 R)) ?_)))
 refine lC 1 jr R (Ze_ok G) R ?_
 rintro ⟨g,M,l⟩
 refine lN (ow kT3 3 (.slice g M l) u::_::_::_::D) ?_
 refine aM 0 aC ?_
 rintro rfl
 refine aB (aG (sL [3,2,1,0]) (d1 15 R (lM (RR kT3 A5 D5 a.Data::_::_::_::_::D) (fun w s=>(s.d 8 R)) ?_)))
 refine lC 1 jr R (Ze_ok I) R ?_
 rintro ⟨i,O,m⟩
 refine lN (ow kT3 3 (.slice i O m) B::_::_::_::_::D) ?_
 refine aM 0 aC ?_
 rintro rfl
 refine aB (aG (sL [4,3,2,1,0]) (dR 16 R (vz (.agg [(iv a.Op),(sc A10 J D10),(sc b q j),(sc g u l),(aH a.Form),(sc i B m)].toArray) (aV zI jC R R)) (hS:=(sL [4,3,2,1,0])) (d1 17 R (aL 4 R R eN R R R R R R (lN (_::_::_::_::aJ Y [(iv a.Op),(sc A10 J D10),(sc b q j),(sc g u l),(aH a.Form),(sc i B m)] 65::D) ?_)))))
 refine aB (aG (sL [4,3,2,1,0]) (dD (aE (bO ?_))))
 obtain rfl:=so E
 exact cX (vs:=[(.agg [(iv a.Op),(sc A10 J D10),(sc b q j),(sc g u l),(aH a.Form),(sc i B m)].toArray)]) (.inl R) ((A10,J.length,D10),(b,q.length,j),(g,u.length,l),(i,B.length,m)) R ⟨⟨4,Y,_,_,R,R,.inl ⟨kC,eN,R⟩⟩,trivial⟩ R (fun w s=>(s.e 10 [3,2,1,0]))
end Go.Proofs.YthelanpdjajnbaaGreat
