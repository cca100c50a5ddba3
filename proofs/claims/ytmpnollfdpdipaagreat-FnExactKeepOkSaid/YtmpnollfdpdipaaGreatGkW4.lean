import Derived.Test.YtmpnollfdpdipaaGreatGkF
import Derived.Test.YtmpnollfdpdipaaGreatGkW2
import Derived.Test.YtmpnollfdpdipaaGreatGkW3
set_option linter.unusedVariables false
set_option maxRecDepth 20000
namespace Go.Proofs.YtmpnollfdpdipaaGreat
open Go Go.Pg
variable {A2 A3 A4 A5 A7:Option Addr}{D2 D3 D4 D5 D7 N2 N3 N4 N5 N7:Nat}
theorem Z0b_ok  {v1:View}{g:Int}{b:Int}{l:Int}{r:View}(q:Z0b v1 g b l=some r) :
 FnOk Tryz.prog 90 [(.agg [(.slice A2 N2 D2),(.slice A3 N3 D3),(iv v1.Offset),(iv v1.Base)].toArray),(iv g),(iv b),(iv l)] [aN kT3 (.slice A2 N2 D2) v1.Dims,aN kT3 (.slice A3 N3 D3) v1.Strides] (fun (h:HH×HH)=>((.agg [(.slice h.1.1 h.1.2.1 h.1.2.2),(.slice h.2.1 h.2.2.1 h.2.2.2),(iv r.Offset),(iv r.Base)].toArray),[aN kT3 (.slice h.1.1 h.1.2.1 h.1.2.2) r.Dims,aN kT3 (.slice h.2.1 h.2.2.1 h.2.2.2) r.Strides])):=by
 unfold Z0b at q
 refine aQ Tryz.func90 R 85 R R fun C V=>?_
 refine cN (_::_::V) ?_
 refine cL 0 aA ?_
 rintro rfl
 refine cL 1 aA ?_
 rintro rfl
 let W0:List HP:=RR kT3 A2 D2 v1.Dims::RR kT3 A3 D3 v1.Strides::V
 refine cN W0 ?_
 refine aO (aH (eA R (fun b7=>(bD R R cX (fun b8=>(aC ?_))))))
 let E:List HP:=aI b7 [(sc A2 v1.Dims D2),(sc A3 v1.Strides D3),(iv v1.Offset),(iv v1.Base)] 96::W0
 refine qN (_::E) ?_
 refine aJ (aO (aO ?_))
 obtain ⟨r9,am,q⟩:=bd q
 obtain ⟨a6,q⟩:=gd q
 refine cQ [(1,(iv g)),(2,(iv b)),(3,(iv l)),(4,(pt b7 0)),(8,(pt b8 0)),(32,(.bool ((((!r9)||(decide (b<(1:Int))))||(decide (l<(1:Int))))||(decide (b>(ix v1.Dims g))))))] (aI b8 [(.slice none 0 0),(.slice none 0 0),(iv 0),(iv 0)] 96::E) ?_ ?_
 refine aH (lO (vz (.agg [(sc A2 v1.Dims D2),(sc A3 v1.Strides D3),(iv v1.Offset),(iv v1.Base)].toArray) (eC 1 gD cD R R R R)) (lI R (lM (RR kT3 A2 D2 v1.Dims::RR kT3 A3 D3 v1.Strides::aI _ _ _::E) (fun w s=>(((s.d 2 R).d 4 R).e 3 [1,0,2])) ?_)))
 refine lC 2 uW R (Z26_ok am) R ?_
 rintro _
 refine lN (_::E) ?_
 refine lO (rE R) (lB R ?_)
 rcases bo (!r9) with m | m
 refine lf (dX m) (lf (dX m) (lO (eW (decide (b<(1:Int))) R m) (lB R (lf (dX (oT m)) (lf (dX (oT m)) (lO (eW (decide (l<(1:Int))) R (oT m)) (lB R (lf (dX (oT (oT m))) (lf (dX (oT (oT m))) (lf (dX (oT (oT m))) (lf (dX (oT (oT m))) (lf (dX (oT (oT m))) (lf (dX (oT (oT m))) (lf (dX (oT (oT m))) (lO (eW (decide (b>(ix v1.Dims g))) R (oT (oT m))) (aC ?_))))))))))))))))
 exact qJ (fun w s=>s)
 refine lW (bZ m) (vI R) (lW (bZ m) (nR R R) (lO (fK R m R) (lB R ?_)))
 rcases bo ((!r9)||(decide (b<(1:Int)))) with u | u
 refine lf (dX u) (lf (dX u) (lO (eW (decide (l<(1:Int))) R u) (lB R (lf (dX (oT u)) (lf (dX (oT u)) (lf (dX (oT u)) (lf (dX (oT u)) (lf (dX (oT u)) (lf (dX (oT u)) (lf (dX (oT u)) (lO (eW (decide (b>(ix v1.Dims g))) R (oT u)) (aC ?_))))))))))))
 exact qJ (fun w s=>s)
 refine lW (bZ u) (vI R) (lW (bZ u) (nR R R) (lO (fK R u R) (lB R ?_)))
 rcases bo (((!r9)||(decide (b<(1:Int))))||(decide (l<(1:Int)))) with j | j
 refine lf (dX j) (lf (dX j) (lf (dX j) (lf (dX j) (lf (dX j) (lf (dX j) (lf (dX j) (lO (eW (decide (b>(ix v1.Dims g))) R j) (aC ?_))))))))
 exact qJ (fun w s=>s)
 refine lW (bZ j) (vI R) (lW (bZ j) (fV 0 gE R) (lW (bZ j) (gH 1 cT R R R) (lW (bZ j) (vI R) (bB 2 aA (show 0<v1.Dims.length by have:=(a6 j); omega) (fun b0 o13 ha=>?_)))))
 subst ha
 refine lW (bZ j) (eI bM cC R R (a6 j)) (lW (bZ j) (gI 2 fM aA R (a6 j)) (lW (bZ j) (xJ R R) (lO (fK R j R) (aC ?_))))
 exact qJ (fun w s=>s)
 rintro σ1
 refine aJ ?_
 rcases cR q with ⟨a3,q⟩|⟨a3,q⟩
 refine cG R a3 (aO (aH (lO (vz (.agg [(.slice none 0 0),(.slice none 0 0),(iv 0),(iv 0)].toArray) (aW fD cX R R)) (aK 0 R R cD R R R R R R (aC (aJ (bY (cE ?_))))))))
 obtain rfl:=so q
 exact dF (vs:=[(.agg [(.slice none 0 0),(.slice none 0 0),(iv 0),(iv 0)].toArray)]) (.inl R) ((none,0,0),(none,0,0)) R ⟨⟨0,b8,_,_,R,R,.inl ⟨gD,cD,R⟩⟩,trivial⟩ R (fun w s=>(((s.nilr kT3).nilr kT3).e 6 [1,0]))
 refine bP R a3 (dL (aJ (aO ?_)))
 obtain ⟨i,an,q⟩:=bd q
 refine aH (lO (vz (.agg [(sc A2 v1.Dims D2),(sc A3 v1.Strides D3),(iv v1.Offset),(iv v1.Base)].toArray) (eC 1 gD cD R R R R)) (lM (RR kT3 A2 D2 v1.Dims::RR kT3 A3 D3 v1.Strides::aI _ _ _::E) (fun w s=>(((s.d 2 R).d 4 R).e 3 [1,0,2])) ?_))
 refine lC 2 uX R (Z28_ok an) R ?_
 rintro ⟨⟨ai,aw,O⟩,⟨ah,ax,D⟩⟩
 refine lN (ow kT3 3 (.slice ai aw O) i.Dims::ow kT3 3 (.slice ah ax D) i.Strides::_::E) ?_
 refine aL 0 aB ?_
 rintro rfl
 refine aL 1 aB ?_
 rintro rfl
 refine bD R R cX (fun T=>(aK 0 R R cD R R R R R R (lN (aI T [(sc ai i.Dims O),(sc ah i.Strides D),(iv i.Offset),(iv i.Base)] 96::_::_::_::E) ?_)))
 refine aC (aJ (aO ?_))
 obtain ⟨a7,q⟩:=gd q
 obtain ⟨aj,q⟩:=gd q
 refine aH (lO (fV 0 gE R) (lO (gH 4 cT R R R) (lI R (bB 5 aA (show 0<v1.Dims.length by have:=a7; omega) (fun b1 o25 ha=>?_)))))
 subst ha
 refine lO (eI bM cC R R a7) (lO (gI 5 fM aA R a7) (lI R (lO (vL R R) (lI R (lO (vz (iv (aG ((aG ((ix v1.Dims g) - b)).tdiv l))) (mL R R aj)) (lO (lF R R) (lI R (aC (aJ (aO ?_))))))))))
 obtain ⟨a8,q⟩:=gd q
 refine aH (lO (fV 1 fW R) (lO (gH 4 cT R R R) (lI R (bB 6 aA (show 0<v1.Strides.length by have:=a8; omega) (fun b2 o29 ha=>?_)))))
 subst ha
 refine lO (eI bM cC R R a8) (lO (gI 6 fM aA R a8) (lI R (aC (aJ (aO ?_)))))
 obtain ⟨a0,q⟩:=gd q
 refine aH (lO (fV 0 gE R) (lO (gH 0 cT R R R) (lI R (lI R (bB 1 aB (show 0<i.Dims.length by have:=a0; omega) (fun Z o32 ha=>?_))))))
 subst ha
 refine lO (eI bM cC R R a0) (lM (OO kT3 3 (ad Z o32) O i.Dims::aI T [(sc (ad Z o32) i.Dims O),(sc ah i.Strides D),(iv i.Offset),(iv i.Base)] 96::ow _ _ _ _::aI _ _ _::E) (fun w s=>(s.e 4 [1,0,2,3])) ?_)
 refine dZ (K:=kT3) (x':=(aG ((aG ((aG ((ix v1.Dims g) - b)).tdiv l))+(1:Int)))) 0 g R R cC R R a0.1 a0.2 ?_ ?_
 exact fun I h s=>(gL).put I h () (aG ((aG ((aG ((ix v1.Dims g) - b)).tdiv l))+(1:Int))) s
 refine lN (ow kT3 3 (.slice (ad Z o32) i.Dims.length O) (i.Dims.set g.toNat (aG ((aG ((aG ((ix v1.Dims g) - b)).tdiv l))+(1:Int))))::_::_::_::E) ?_
 refine aC ?_
 obtain ⟨B,a9,q⟩:=bd q
 replace a9:=Option.some.inj a9
 refine qM (ow kT3 3 (.slice (ad Z o32) i.Dims.length O) B::_::_::_::E) (fun w s=>by rw [← a9]; exact s) ?_
 refine aJ (aO ?_)
 obtain ⟨J,q⟩:=gd q
 refine aH (lO (fV 1 fW R) (lO (gH 1 cT R R R) (lI R (bB 2 aB (show 0<i.Strides.length by have:=J; omega) (fun G o37 ha=>?_)))))
 subst ha
 refine lO (eI bM cC R R J) (lM (OO kT3 3 (ad G o37) D i.Strides::ow _ _ _ _::aI T [(sc (ad Z o32) i.Dims O),(sc (ad G o37) i.Strides D),(iv i.Offset),(iv i.Base)] 96::aI _ _ _::E) (fun w s=>(s.e 4 [2,0,1,3])) ?_)
 refine dZ (K:=kT3) (x':=(0:Int)) 0 g R R cC R R J.1 J.2 ?_ ?_
 exact fun I h s=>(gL).put I h () (0:Int) s
 refine lN (ow kT3 3 (.slice (ad G o37) i.Strides.length D) (i.Strides.set g.toNat (0:Int))::_::_::_::E) ?_
 refine aC (aJ (aO (bA (A:=((List Int))×(Unit)) (fun a=>Z0b_J1 v1 g b i B a.1=some r) (fun a=>[(2,(iv b)),(8,(pt b8 0)),(9,(pt T 0)),(11,(iv (ix v1.Strides g)))]) (fun a=>aI b8 [(.slice none 0 0),(.slice none 0 0),(iv 0),(iv 0)] 96::aI T [(sc (ad Z o32) i.Dims O),(sc (ad G o37) i.Strides D),(iv i.Offset),(iv i.Base)] 96::ow kT3 3 (.slice (ad Z o32) i.Dims.length O) B::ow kT3 3 (.slice (ad G o37) i.Strides.length D) a.1::E) ?_ ?_)))
 refine aO (aH (lI R (lO (xJ R R) (aC (aJ ?_)))))
 rcases cR q with ⟨a4,q⟩|⟨a4,q⟩
 refine cG R a4 (aH (lO (fV 1 fW R) (lO (gH 2 cT R R R) (lI R (lI R (lI R (lO (qW R R) (lO (eI bM cC R R J) (dZ (K:=kT3) (x':=(aG ((ix v1.Strides g)*l))) 0 g R R cC R R J.1 J.2 ?_ ?_)))))))))
 exact fun I h s=>(gL).put I h () (aG ((ix v1.Strides g)*l)) s
 refine lN (ow kT3 3 (.slice (ad G o37) i.Strides.length D) ((i.Strides.set g.toNat (0:Int)).set g.toNat (aG ((ix v1.Strides g)*l)))::_::_::_::E) ?_
 refine aC ?_
 obtain ⟨ap,aa,q⟩:=bd q
 replace aa:=Option.some.inj aa
 refine qM (ow kT3 3 (.slice (ad G o37) i.Strides.length D) ap::_::_::_::E) (fun w s=>by rw [← aa]; exact s) ?_
 exact qI (ap,()) q (fun w s=>(s.e 4 [3,2,1,0]))
 refine bP R a4 (dL ?_)
 exact qI ((i.Strides.set g.toNat (0:Int)),()) q (fun w s=>(s.e 4 [3,2,1,0]))
 rintro ⟨L,_⟩ σ1 q
 replace q:Z0b_J1 v1 g b i B L=some r:=q
 unfold Z0b_J1 at q
 refine aO ?_
 obtain ⟨ak,q⟩:=gd q
 refine aH (lO (fV 0 gE R) (lO (gH 1 cT R R R) (lI R (bQ (K:=kT3) (xs:=([b]:List Int)) (vs:=[(iv b)]) 0 R R bM cC gR R R R R R R ?_ R (fun aq au=>?_)))))
 exact fun I h s=>(gL).list [((),b)] I h s
 refine lN (OO kT3 3 aq au ([b]:List Int)::_::_::_::ow kT3 3 (.slice (ad G o37) i.Strides.length D) L::E) ?_
 refine lM (ow _ _ _ _::ow _ _ _ _::aI _ _ _::aI _ _ _::ow _ _ _ _::E) (fun w s=>(s.e 5 [3,0,1,2,4])) ?_
 refine eF (K:=kT3) 17592186044416 R R bM cC kc (Zr.zk zT3 gR) R R R R R R dP ak (fun U Y=>(lN (OO kT3 3 U Y (B++([b]:List Int))::_::_::_::E) ?_))
 refine lO (fV 0 gE R) (cP 2 R R fR R R R R R (lN (_::_::aI T [(sc U (B++([b]:List Int)) Y),(sc (ad G o37) i.Strides D),(iv i.Offset),(iv i.Base)] 96::_::E) ?_))
 refine aC (aJ (aO (bA (A:=(Int)×(Unit)) (fun a=>Z0b_J2 b i B L a.1=some r) (fun a=>[(8,(pt b8 0)),(9,(pt T 0)),(11,(iv a.1))]) (fun a=>aI b8 [(.slice none 0 0),(.slice none 0 0),(iv 0),(iv 0)] 96::aI T [(sc U (B++([b]:List Int)) Y),(sc (ad G o37) i.Strides D),(iv i.Offset),(iv i.Base)] 96::OO kT3 3 U Y (B++([b]:List Int))::ow kT3 3 (.slice (ad G o37) i.Strides.length D) L::E) ?_ ?_)))
 refine aO (aH (lI R (lO (ln R R) (aC (aJ ?_)))))
 rcases cR q with ⟨a5,q⟩|⟨a5,q⟩
 refine cG R a5 (aH (lI R (aC ?_)))
 exact qI ((0:Int),()) q (fun w s=>(s.e 4 [1,2,0,3]))
 refine bP R a5 (dL ?_)
 exact qI ((ix v1.Strides g),()) q (fun w s=>(s.e 4 [1,2,0,3]))
 rintro ⟨M,_⟩ σ1 q
 replace q:Z0b_J2 b i B L M=some r:=q
 unfold Z0b_J2 at q
 refine aO ?_
 obtain ⟨al,q⟩:=gd q
 refine aH (lO (fV 1 fW R) (lO (gH 1 cT R R R) (lI R (bQ (K:=kT3) (xs:=([M]:List Int)) (vs:=[(iv M)]) 0 R R bM cC gR R R R R R R ?_ R (fun ar av=>?_)))))
 exact fun I h s=>(gL).list [((),M)] I h s
 refine lN (OO kT3 3 ar av ([M]:List Int)::_::_::_::_::E) ?_
 refine lM (ow _ _ _ _::ow _ _ _ _::aI _ _ _::aI _ _ _::ow _ _ _ _::E) (fun w s=>(s.f 5 [4,1,0,4])) ?_
 refine eF (K:=kT3) 17592186044416 R R bM cC kc (Zr.zk zT3 gR) R R R R R R dP al (fun a1 a2=>(lN (OO kT3 3 a1 a2 (L++([M]:List Int))::_::_::_::E) ?_))
 refine lO (fV 1 fW R) (cP 2 R R fR R R R R R (lN (_::_::aI T [(sc U (B++([b]:List Int)) Y),(sc a1 (L++([M]:List Int)) a2),(iv i.Offset),(iv i.Base)] 96::_::E) ?_))
 refine aC (aJ (aO ?_))
 obtain ⟨F,ao,q⟩:=bd q
 refine aH (lO (vz (.agg [(sc U (B++([b]:List Int)) Y),(sc a1 (L++([M]:List Int)) a2),(iv i.Offset),(iv i.Base)].toArray) (eC 2 gD cD R R R R)) (iM (fun w s=>s.shr 3 R) (iM (fun w s=>s.shr 1 R) (lM (RR kT3 U Y (B++([b]:List Int))::RR kT3 a1 a2 (L++([M]:List Int))::RR kT3 a1 a2 (L++([M]:List Int))::RR kT3 U Y (B++([b]:List Int))::aI _ _ _::aI _ _ _::E) (fun w s=>(((s.d 1 R).d 1 R).e 6 [1,0,2,3,4,5])) ?_))))
 refine lC 2 uY R (Z29_ok (v1:=(⟨(B++([b]:List Int)),(L++([M]:List Int)),i.Offset,i.Base⟩:View)) ao) R ?_
 rintro ⟨⟨ab,ay,ae⟩,⟨ac,az,ag⟩⟩
 refine lN (aN kT3 (.slice ab ay ae) F.Dims::aN kT3 (.slice ac az ag) F.Strides::_::_::_::_::E) ?_
 refine aL 0 aA ?_
 rintro rfl
 refine aL 1 aA ?_
 rintro rfl
 refine aK 4 R R cD R R R R R R (lN (_::_::_::_::aI b8 [(sc ab F.Dims ae),(sc ac F.Strides ag),(iv F.Offset),(iv F.Base)] 96::_::E) ?_)
 refine aC (aJ (bY ?_))
 obtain rfl:=so q
 exact dF (vs:=[(.agg [(sc ab F.Dims ae),(sc ac F.Strides ag),(iv F.Offset),(iv F.Base)].toArray)]) (.inl R) ((ab,F.Dims.length,ae),(ac,F.Strides.length,ag)) R ⟨⟨4,b8,_,_,R,R,.inl ⟨gD,cD,R⟩⟩,trivial⟩ R (fun w s=>(s.e 9 [0,1]))
theorem Z0o_ok  {t1:Tensor}{i:Int}{j:Int}{J:Int}{r:Tensor}(b:Z0o t1 i j J=some r) :
 FnOk Tryz.prog 91 [(.agg [(.slice A2 N2 D2),(.slice A3 N3 D3)].toArray),(iv i),(iv j),(iv J)] [aN kT3 (.slice A2 N2 D2) t1.Dims,aN kT3 (.slice A3 N3 D3) t1.Data] (fun (h:HH×HH)=>((.agg [(s3 h.1),(s3 h.2)].toArray),[ow kT3 3 (s3 h.1) r.Dims,ow kT3 3 (s3 h.2) r.Data])):=by
 unfold Z0o at b
 refine aQ Tryz.func91 R 118 R R fun C V=>?_
 refine cL 0 aA ?_
 rintro rfl
 refine cL 1 aA ?_
 rintro rfl
 let W0:=RR kT3 A2 D2 t1.Dims::RR kT3 A3 D3 t1.Data::V
 refine cN W0 ?_
 refine aR ?_
 refine eA R fun b7=>?_
 refine bD R R dM (fun L=>(aC ?_))
 let T:=aI b7 [(sc A2 t1.Dims D2),(sc A3 t1.Data D3)] 58::W0
 refine iC ?_
 obtain ⟨r9,a9,b⟩:=bd b
 refine cQ [(1,(iv i)),(2,(iv j)),(3,(iv J)),(4,(pt b7 0)),(8,(pt L 0)),(9,(iv (aG ((t1.Dims.length:Int) - 1)))),(40,(.bool (((((!r9)||(i==(aG ((t1.Dims.length:Int) - 1))))||(decide (j<1)))||(decide (J<1)))||(decide (J>4096)))))] (aI L [(.slice none 0 0),(.slice none 0 0)] 58::T) ?_ ?_
 refine aP ?_
 refine lM _ (fun w s=>(((s.d 2 R).d 4 R).e 3 [1,0,2])) ?_
 refine lC 2 o5 R (Z1d_ok a9) R ?_
 rintro _
 refine aR ?_
 rcases bo (!r9) with a1 | a1
 refine oM ?_
 exact qj tI
 refine cB ?_
 rcases bo ((!r9)||(i==(aG ((t1.Dims.length:Int) - 1)))) with a2 | a2
 refine iC ?_
 exact qj tI
 refine bF ?_
 rcases bo (((!r9)||(i==(aG ((t1.Dims.length:Int) - 1))))||(decide (j<1))) with a3 | a3
 refine cU ?_
 exact qj tI
 refine bF ?_
 rcases bo ((((!r9)||(i==(aG ((t1.Dims.length:Int) - 1))))||(decide (j<1)))||(decide (J<1))) with a4 | a4
 refine bF ?_
 exact qj tI
 refine bF ?_
 exact qj tI
 rintro σ1
 refine bU ?_
 split at b
 refine aP ?_
 refine lO (vz (.agg [(.slice none 0 0),(.slice none 0 0)].toArray) (aW gM dM R R)) (aK 0 R R bR R R R R R R (aC (aJ (bY (cE ?_)))))
 cases b
 exact qS ((none,0,0),(none,0,0)) (fun w s=>(((s.nilo kT3 3).nilo kT3 3).e 6 [1,0]))
 refine bF ?_
 obtain ⟨a5,b⟩:=gd b
 refine bF ?_
 refine bB 2 aA (show 0<t1.Dims.length by have:=a5; omega) (fun b4 o18 ha=>?_)
 subst ha
 refine dJ ?_
 obtain ⟨a6,b⟩:=gd b
 obtain ⟨M,b⟩:=gd b
 refine cQ [(1,(iv i)),(2,(iv j)),(3,(iv J)),(4,(pt b7 0)),(8,(pt L 0)),(9,(iv (aG ((t1.Dims.length:Int) - 1)))),(63,(.bool ((decide ((ix t1.Dims (aG ((t1.Dims.length:Int) - 1)))>J))||((aG ((aG ((aG (J - (ix t1.Dims (aG ((t1.Dims.length:Int) - 1))))).tdiv j))+1)) != (ix t1.Dims i)))))] (aI L [(.slice none 0 0),(.slice none 0 0)] 58::T) ?_ ?_
 rcases bo (decide ((ix t1.Dims (aG ((t1.Dims.length:Int) - 1)))>J)) with D | D
 refine cZ 17 [] bN fun ht hn=>?_
 refine xS 0 [] ?_
 refine dD ?_
 exact qj tI
 refine cZ 17 [] bN fun ht hn=>?_
 refine tO 0 [] ?_
 refine dW 8 R (bZ D) (vz (iv (aG ((aG (J - (ix t1.Dims (aG ((t1.Dims.length:Int) - 1))))).tdiv j))) (mL R R (a6 D))) ?_
 refine nV 9 [] ?_
 refine dW 13 R (bZ D) (eI bM cC R R (M D)) (dW 14 R (bZ D) (gI 2 fM aA R (M D)) ?_)
 refine gN 15 [] ?_
 refine dD ?_
 exact qj tI
 rintro σ1
 refine bU ?_
 split at b
 refine aP ?_
 refine lO (vz (.agg [(.slice none 0 0),(.slice none 0 0)].toArray) (aW gM dM R R)) (aK 0 R R bR R R R R R R (aC (aJ (bY (cE ?_)))))
 cases b
 exact qS ((none,0,0),(none,0,0)) (fun w s=>(((s.nilo kT3 3).nilo kT3 3).e 6 [1,0]))
 refine bF ?_
 obtain ⟨b9,aa,b⟩:=bd b
 obtain ⟨G,b⟩:=gd b
 refine cB ?_
 refine lM _ (fun w s=>(s.d 2 R)) ?_
 refine lC 1 kx R (Z0h_ok aa) R ?_
 rintro ⟨aq,az,aw⟩
 refine aL 0 aB ?_
 rintro rfl
 refine lI R (iM (fun w s=>s.shr 0 R) (fY (K:=kT3) (0:Int) (aG ((t1.Dims.length:Int) - 1)) 0 R R bM cC R R R R G.1 G.2.1 G.2.2 (fun ar ax=>(lS R (aC (aJ (aO (aO ?_))))))))
 obtain ⟨ba,ab,b⟩:=bd b
 refine aR ?_
 refine lM _ (fun w s=>(s.d 0 R)) ?_
 refine lC 1 jW R (Zn_ok ab) R ?_
 rintro _
 refine aP ?_
 split at b
 refine aP ?_
 refine lO (vz (.agg [(.slice none 0 0),(.slice none 0 0)].toArray) (aW gM dM R R)) (aK 2 R R bR R R R R R R (aC (aJ (bY (cE ?_)))))
 cases b
 exact qS ((none,0,0),(none,0,0)) (fun w s=>(((s.nilo kT3 3).nilo kT3 3).e 8 [1,0]))
 refine bF ?_
 obtain ⟨g,ac,b⟩:=bd b
 refine aR ?_
 refine lM _ (fun w s=>(s.d 0 R)) ?_
 refine lC 1 ng R (Z0g_ok ac) R ?_
 rintro ⟨⟨l,b0,q⟩,⟨m,b1,u⟩⟩
 refine aL 0 aB ?_
 rintro rfl
 refine aL 1 aB ?_
 rintro rfl
 refine bD R R dM (fun F=>(aK 0 R R bR R R R R R R (lN (aI F [(sc l g.Dims q),(sc m g.Data u)] 58::_::_::_::_::_::T) ?_)))
 refine aP ?_
 refine bA (A:=((List Int))×(Unit)) (fun a=>Z0o_J1 g a.1=some r) (fun a=>[(8,(pt L 0)),(12,(pt F 0))]) (fun a=>aI L [(.slice none 0 0),(.slice none 0 0)] 58::aI F [(sc l g.Dims q),(sc m g.Data u)] 58::OO kT3 3 l q g.Dims::ow kT3 3 (.slice m g.Data.length u) a.1::T) ?_ ?_
 refine bT ?_
 obtain ⟨e1,an,am⟩:=bd b
 refine bC (A:=Unit) an (fun s a=>[(1,(iv i)),(2,(iv j)),(4,(pt b7 0)),(8,(pt L 0)),(9,(iv (aG ((t1.Dims.length:Int) - 1)))),(12,(pt F 0)),(13,(iv s.2))]) (fun s a=>aI L [(.slice none 0 0),(.slice none 0 0)] 58::aI F [(sc l g.Dims q),(sc m g.Data u)] 58::OO kT3 3 l q g.Dims::ow kT3 3 (.slice m g.Data.length u) s.1::T) () (aS R) (tE 6 [5,0,1,2]) ?_
 rintro ⟨E,b6⟩ _ σ1 ap b al
 dsimp only [Z0o_L1] at b
 refine cW ?_
 split at b
 refine bT ?_
 obtain ⟨O,ae,b⟩:=bd b
 refine bF ?_
 refine lM _ (fun w s=>(s.d 5 R)) ?_
 refine lC 1 ld R (Zi_ok ae) R ?_
 rintro ⟨au,b2,Y⟩
 refine aL 0 aB ?_
 rintro rfl
 refine bF ?_
 obtain ⟨a7,b⟩:=gd b
 obtain ⟨_,b⟩:=gd b
 obtain ⟨ak,ag,b⟩:=bd b
 obtain ⟨I,b⟩:=gd b
 refine aY 0 aB (show 0<O.length by have:=a7; omega) (fun a0 o66 ha=>?_)
 subst ha
 refine cZ 17 [] bN fun ht hn=>?_
 refine md 0 [] ?_
 refine dR 14 R (vI R) (d1 13 R (lC 1 kx R (FnOk.lends (A':=[OO kT3 3 (ad a0 o66) Y O]) (A:=[RR kT3 (ad a0 o66) Y O]) (B:=[]) (Z0h_ok ag) ⟨aX,trivial⟩ (fun _=>⟨(bK j0),trivial⟩)) R ?_))
 rintro ⟨av,b3,ay⟩
 refine aL 1 aB ?_
 rintro rfl
 refine aC (aE (sL [1]) (d1 15 R (iM (fun w s=>s.shr 1 R) (fY (K:=kT3) (0:Int) (aG ((t1.Dims.length:Int) - 1)) 0 R R bM cC R R R R I.1 I.2.1 I.2.2 (fun U Z=>(aC (aE (sL [1,0]) (dR 16 R (vS R) (hS:=(sL [1,0])) (dD (aJ ?_))))))))))
 obtain ⟨bb,ah,b⟩:=bd b
 obtain ⟨a8,b⟩:=gd b
 obtain ⟨bc,ai,b⟩:=bd b
 obtain ⟨be,aj,b⟩:=bd b
 refine aY 9 aA (show 0<t1.Data.length by have:=a8; omega) (fun b5 o77 ha=>?_)
 subst ha
 refine cZ 12 [6] bN fun ht hn=>?_
 refine nV 0 [6] ?_
 refine kb 5 [6] ?_
 refine d1 4 R (lM _ (fun w s=>((s.d 0 R).f 8 [6,2,0,6])) ?_)
 refine lC 3 mN R (FnOk.lends (A':=[OO kT3 3 l q g.Dims,ow kT3 3 (.slice m g.Data.length u) E]) (A:=[RR kT3 l q g.Dims,aN kT3 (.slice m g.Data.length u) E]) (B:=[RR kT3 U Z (sub ak (0:Int) (aG ((t1.Dims.length:Int) - 1)))]) (Z14_ok (t1:=(⟨g.Dims,E⟩:Tensor)) ah) ⟨aX,aX,trivial⟩ (fun _=>trivial)) R ?_
 rintro _
 refine aC (aE (fun w s=>(s.f 7 [2,5,0,1])) (d1 10 R (lC 0 pH R (Z1j_ok ai) R ?_)))
 rintro _
 refine aC (aE (fun w s=>(s.f 7 [2,5,0,1])) (d1 11 R (lM _ (fun w s=>((s.d 2 R).f 8 [1,2,0,1,3,5])) ?_)))
 refine lC 3 rX R (FnOk.lends (A':=[OO kT3 3 l q g.Dims]) (A:=[RR kT3 l q g.Dims]) (B:=[ow kT3 3 (.slice m g.Data.length u) E,RR kT3 U Z (sub ak (0:Int) (aG ((t1.Dims.length:Int) - 1)))]) (Z1s_ok (t1:=(⟨g.Dims,E⟩:Tensor)) aj) ⟨aX,trivial⟩ (fun _=>⟨(bK j0),trivial⟩)) R ?_
 rintro _
 refine aC (aE (fun w s=>(s.f 7 [2,5,0,1])) (dD ?_))
 refine dJ ?_
 cases b
 exact qA () (tE 7 [5,6,0,1])
 refine aP ?_
 cases b
 obtain rfl:=al _ R
 have b:=am
 refine aR ?_
 exact qI (E,()) b tI
 rintro ⟨ao,_⟩ σ1 b
 dsimp only [Z0o_J1] at b
 refine aP ?_
 refine aK 0 R R bR R R R R R R (lN (aI L [(sc l g.Dims q),(sc m g.Data u)] 58::_::_::ow kT3 3 (.slice m g.Data.length u) ao::T) ?_)
 refine aP ?_
 cases b
 exact qS ((l,g.Dims.length,q),(m,g.Data.length,u)) (tE 7 [2,3])
theorem Z1_ok  {j:Node}{g:(List Tensor)}{r:Tensor}(b:Z1 j g=some r) :
 FnOk Tryz.prog 53 [(.agg [(iv j.Op),(.slice A2 N2 D2),(.slice A3 N3 D3),(.slice A4 N4 D4),(aD j.Form),(.slice A5 N5 D5)].toArray),(.slice A7 N7 D7)] [aN kT3 (.slice A2 N2 D2) j.Args,aN kT3 (.slice A3 N3 D3) j.Dims,aN kT3 (.slice A4 N4 D4) j.Ints,aN kT3 (.slice A5 N5 D5) j.Data,aN dS (.slice A7 N7 D7) g] (fun (h:HH×HH)=>((.agg [(.slice h.1.1 h.1.2.1 h.1.2.2),(.slice h.2.1 h.2.2.1 h.2.2.2)].toArray),[ow kT3 3 (.slice h.1.1 h.1.2.1 h.1.2.2) r.Dims,ow kT3 3 (.slice h.2.1 h.2.2.1 h.2.2.2) r.Data])):=by
 unfold Z1 at b
 refine aQ Tryz.func53 R 217 R R fun C V=>?_
 refine cN (_::_::_::_::_::V) ?_
 refine cL 0 aA ?_
 rintro rfl
 refine cL 1 aA ?_
 rintro rfl
 refine cL 2 aA ?_
 rintro rfl
 refine cL 3 aA ?_
 rintro rfl
 refine cL 4 aA ?_
 rintro rfl
 let W0:List HP:=RR kT3 A2 D2 j.Args::RR kT3 A3 D3 j.Dims::RR kT3 A4 D4 j.Ints::RR kT3 A5 D5 j.Data::RR dS A7 D7 g::V
 refine cN W0 ?_
 refine aO (aH (eA R (fun b8=>(bD R R dM (fun l=>(aC ?_))))))
 let i:List HP:=aI b8 [(iv j.Op),(sc A2 j.Args D2),(sc A3 j.Dims D3),(sc A4 j.Ints D4),(aD j.Form),(sc A5 j.Data D5)] 54::W0
 refine qN (_::i) ?_
 refine aJ (aO (aH (lO (fV 3 hH R) (lO (gH 1 cT R R R) (lS R (aC (aJ (aO (aO (aH (lO (fV 0 jE R) (lO (gH 1 fM R R R) (aC (aJ (eB (aO (aH (lO (ln R R) (lB R (aC (aJ ?_)))))))))))))))))))))
 rcases cR b with ⟨d9,b⟩|⟨d9,b⟩
 refine cG R d9 (aO (aH (lO (fV 2 kX R) (lO (gH 1 cT R R R) (lO (fV 5 oO R) (lO (gH 1 cT R R R) (lO (vz (.agg [(sc A3 j.Dims D3),(sc A5 j.Data D5)].toArray) (aW gM dM R R)) (bD R R dM (fun ic=>(aK 0 R R bR R R R R R R (lN (aI ic [(sc A3 j.Dims D3),(sc A5 j.Data D5)] 58::_::i) ?_)))))))))))
 refine aC (aJ (aO (aO ?_)))
 obtain ⟨ir,he,b⟩:=bd b
 refine aH (lO (vz (.agg [(sc A3 j.Dims D3),(sc A5 j.Data D5)].toArray) (eC 0 fF bR R R R R)) (lM (RR kT3 A3 D3 j.Dims::RR kT3 A5 D5 j.Data::aI _ _ _::aI _ _ _::i) (fun w s=>(((s.d 4 R).d 7 R).e 4 [1,0,2,3])) ?_))
 refine lC 2 nf R (Zq_ok (t1:=(⟨j.Dims,j.Data⟩:Tensor)) he) R ?_
 rintro _
 refine lN (_::_::i) ?_
 refine lO (rE R) (aC (aJ ?_))
 rcases cR b with ⟨da,b⟩|⟨da,b⟩
 refine cG R da (aO (aH (lO (vz (.agg [(.slice none 0 0),(.slice none 0 0)].toArray) (aW gM dM R R)) (aK 1 R R bR R R R R R R (aC (aJ (bY (cE (dB (cE ?_))))))))))
 obtain rfl:=so b
 exact dF (vs:=[(.agg [(.slice none 0 0),(.slice none 0 0)].toArray)]) (.inl R) ((none,0,0),(none,0,0)) R ⟨⟨1,l,_,_,R,R,.inl ⟨fF,bR,R⟩⟩,trivial⟩ R (fun w s=>(((s.nilo kT3 3).nilo kT3 3).e 10 [1,0]))
 refine bP R da (dL (aJ (aO ?_)))
 obtain ⟨e1,hf,b⟩:=bd b
 obtain ⟨e2,hg,b⟩:=bd b
 refine cZ 8 [1] bN (fun ht hn=>(dR 0 R (fV 2 kX R) (hS:=(sL [1])) (dR 1 R (gH 1 cT R R R) (hS:=(sL [1])) (dR 3 R (fV 5 oO R) (hS:=(sL [1])) (dR 4 R (gH 1 cT R R R) (hS:=(sL [1])) (d1 2 R (lM (RR kT3 A3 D3 j.Dims::_::_::i) (fun w s=>(s.d 4 R)) ?_)))))))
 refine lC 1 jF R (Zt_ok hf) R ?_
 rintro ⟨ca,hs,cx⟩
 refine lN (ow kT3 3 (.slice ca hs cx) e1::_::_::i) ?_
 refine aL 0 aB ?_
 rintro rfl
 refine aC (aE (sL [2,0]) (d1 5 R (lM (RR kT3 A5 D5 j.Data::_::_::_::i) (fun w s=>(s.d 7 R)) ?_)))
 refine lC 1 jF R (Zt_ok hg) R ?_
 rintro ⟨cg,hu,d2⟩
 refine lN (ow kT3 3 (.slice cg hu d2) e2::_::_::_::i) ?_
 refine aL 0 aB ?_
 rintro rfl
 refine aC (aE (sL [3,1,0]) (dR 6 R (vz (.agg [(sc ca e1 cx),(sc cg e2 d2)].toArray) (aW gM dM R R)) (hS:=(sL [3,1,0])) (d1 7 R (aK 3 R R bR R R R R R R (lN (_::_::_::aI l [(sc ca e1 cx),(sc cg e2 d2)] 58::i) ?_)))))
 refine aC (aE (sL [3,1,0]) (dD (aJ (bY (dB (cE ?_))))))
 obtain rfl:=so b
 exact dF (vs:=[(.agg [(sc ca e1 cx),(sc cg e2 d2)].toArray)]) (.inl R) ((ca,e1.length,cx),(cg,e2.length,d2)) R ⟨⟨3,l,_,_,R,R,.inl ⟨fF,bR,R⟩⟩,trivial⟩ R (fun w s=>(s.e 10 [1,0]))
 refine bP R d9 (aO (bA (A:=(Bool)×(Unit)) (fun a=>Z1_J1 j g a.1=some r) (fun a=>[(1,(sc A7 g D7)),(2,(pt b8 0)),(4,(pt l 0)),(5,(sc A4 j.Ints D4)),(10,(iv j.Op)),(29,(.bool a.1))]) (fun a=>aI l [(.slice none 0 0),(.slice none 0 0)] 58::i) ?_ ?_))
 refine aO (aH (lO (ln R R) (lB R (aC (aJ ?_)))))
 rcases cR b with ⟨db,b⟩|⟨db,b⟩
 refine cG R db (dL ?_)
 exact qI ((j.Op==(3:Int)),()) b (fun w s=>s)
 refine bP R db (aO (aH (lO (ln R R) (lB R (aC (aJ ?_))))))
 rcases cR b with ⟨dc,b⟩|⟨dc,b⟩
 refine cG R dc (dL ?_)
 exact qI ((j.Op==(4:Int)),()) b (fun w s=>s)
 refine bP R dc (aH (lO (ln R R) (lB R (aC ?_))))
 exact qI ((j.Op==(5:Int)),()) b (fun w s=>s)
 rintro ⟨ig,_⟩ σ1 b
 replace b:Z1_J1 j g ig=some r:=b
 unfold Z1_J1 at b
 rcases cR b with ⟨dd,b⟩|⟨dd,b⟩
 refine cG R dd (aO (aO ?_))
 obtain ⟨a0,b⟩:=gd b
 obtain ⟨bu,b⟩:=gd b
 obtain ⟨it,hh,b⟩:=bd b
 refine aY 6 aA (show 0<g.length by have:=a0; omega) (fun ew o27 m=>?_)
 subst m
 refine dE (K:=dS) 6 (0:Int) dT58.dec R a0.1 a0.2 ?_
 rintro ⟨⟨f6,fg⟩,⟨f7,fh⟩⟩
 refine cN (cl ew (o27+(0:Int).toNat*2) [(sc f6 ((ix g (0:Int)).Dims) fg),(sc f7 ((ix g (0:Int)).Data) fh)]::RR kT3 f6 fg ((ix g (0:Int)).Dims)::RR kT3 f7 fh ((ix g (0:Int)).Data)::aI l [(.slice none 0 0),(.slice none 0 0)] 58::i) ?_
 refine dE (K:=dS) 9 (1:Int) dT58.dec R bu.1 bu.2 ?_
 rintro ⟨⟨f8,fi⟩,⟨f9,fj⟩⟩
 refine cN (cl ew (o27+(1:Int).toNat*2) [(sc f8 ((ix g (1:Int)).Dims) fi),(sc f9 ((ix g (1:Int)).Data) fj)]::RR kT3 f8 fi ((ix g (1:Int)).Dims)::RR kT3 f9 fj ((ix g (1:Int)).Data)::_::_::_::_::i) ?_
 refine cZ 10 [] bN (fun ht hn=>(dR 0 R (vS R) (dR 1 R (eI gC bR R R a0) (dR 2 R (vz (.pointer (some ⟨ew,o27+(0:Int).toNat*2,none⟩)) (kW iP R R)) (dR 3 R (eG (fo:=0) 3 cT R R R) (dR 4 R (vS R) (dR 5 R (eI gC bR R R bu) (dR 6 R (vz (.pointer (some ⟨ew,o27+(1:Int).toNat*2,none⟩)) (kW iP R R)) (dR 7 R (eG (fo:=0) 0 cT R R R) (d1 8 R (lM (aN _ _ _::aN _ _ _::cl _ _ _::aN _ _ _::aN _ _ _::cl _ _ _::aN _ _ _::aN _ _ _::aI _ _ _::i) (fun w s=>(((s.d 4 R).d 2 R).f 9 [1,1,0,1,2,7])) ?_)))))))))))
 refine lC 2 wh R (Zz_ok hh) R ?_
 rintro _
 refine lN (_::_::_::_::_::_::_::i) ?_
 refine aC (aE (sL []) (dR 9 R (rE R) (dD (aJ ?_))))
 rcases cR b with ⟨de,b⟩|⟨de,b⟩
 refine cG R de (aO (aH (lO (vz (.agg [(.slice none 0 0),(.slice none 0 0)].toArray) (aW gM dM R R)) (aK 6 R R bR R R R R R R (aC (aJ (bY (cE (dB (cE ?_))))))))))
 obtain rfl:=so b
 exact dF (vs:=[(.agg [(.slice none 0 0),(.slice none 0 0)].toArray)]) (.inl R) ((none,0,0),(none,0,0)) R ⟨⟨6,l,_,_,R,R,.inl ⟨fF,bR,R⟩⟩,trivial⟩ R (fun w s=>(((s.nilo kT3 3).nilo kT3 3).e 15 [1,0]))
 refine bP R de (dL (aJ (aO ?_)))
 obtain ⟨a3,hi,b⟩:=bd b
 refine cZ 12 [6] bN (fun ht hn=>(dR 0 R (fV 0 jE R) (hS:=(sL [6])) (dR 1 R (gH 6 fM R R R) (hS:=(sL [6])) (dR 2 R (vL R R) (hS:=(sL [6])) (dR 3 R (lF R R) (hS:=(sL [6])) (dR 4 R (vS R) (hS:=(sL [6])) (dR 5 R (eI gC bR R R a0) (hS:=(sL [6])) (dR 6 R (vz (.agg [(sc f6 ((ix g (0:Int)).Dims) fg),(sc f7 ((ix g (0:Int)).Data) fh)].toArray) (dY (fo:=0) 3 fF bR R R R R)) (hS:=(sL [6])) (dR 7 R (vS R) (hS:=(sL [6])) (dR 8 R (eI gC bR R R bu) (hS:=(sL [6])) (dR 9 R (vz (.agg [(sc f8 ((ix g (1:Int)).Dims) fi),(sc f9 ((ix g (1:Int)).Data) fj)].toArray) (dY (fo:=0) 0 fF bR R R R R)) (hS:=(sL [6])) (d1 10 R (lM (aN _ _ _::aN _ _ _::aN _ _ _::aN _ _ _::cl _ _ _::aN _ _ _::aN _ _ _::cl _ _ _::aN _ _ _::aN _ _ _::aI _ _ _::i) (fun w s=>(((((s.d 4 R).d 6 R).d 3 R).d 5 R).f 11 [3,1,2,1,1,1,0,1,4,7])) ?_)))))))))))))
 refine lC 4 Aw R (Z10_ok hi) R ?_
 rintro ⟨⟨e3,hv,eh⟩,⟨e4,hx,ei⟩⟩
 refine lN (ow kT3 3 (.slice e3 hv eh) a3.Dims::ow kT3 3 (.slice e4 hx ei) a3.Data::_::_::_::_::_::_::_::i) ?_
 refine aL 0 aB ?_
 rintro rfl
 refine aL 1 aB ?_
 rintro rfl
 refine aC (aE (sL [8,1,0]) (d1 11 R (aK 8 R R bR R R R R R R (lN (_::_::_::_::_::_::_::_::aI l [(sc e3 a3.Dims eh),(sc e4 a3.Data ei)] 58::i) ?_))))
 refine aC (aE (sL [8,1,0]) (dD (aJ (bY (dB (cE ?_))))))
 obtain rfl:=so b
 exact dF (vs:=[(.agg [(sc e3 a3.Dims eh),(sc e4 a3.Data ei)].toArray)]) (.inl R) ((e3,a3.Dims.length,eh),(e4,a3.Data.length,ei)) R ⟨⟨8,l,_,_,R,R,.inl ⟨fF,bR,R⟩⟩,trivial⟩ R (fun w s=>(s.e 15 [0,1]))
 refine bP R dd (aO (bA (A:=(Bool)×(Unit)) (fun a=>Z1_J2 j g a.1=some r) (fun a=>[(1,(sc A7 g D7)),(2,(pt b8 0)),(4,(pt l 0)),(5,(sc A4 j.Ints D4)),(10,(iv j.Op)),(55,(.bool a.1))]) (fun a=>aI l [(.slice none 0 0),(.slice none 0 0)] 58::i) ?_ ?_))
 refine aO (aH (lO (ln R R) (lB R (aC (aJ ?_)))))
 rcases cR b with ⟨df,b⟩|⟨df,b⟩
 refine cG R df (dL ?_)
 exact qI ((j.Op==(6:Int)),()) b (fun w s=>s)
 refine bP R df (aO (aH (lO (ln R R) (lB R (aC (aJ ?_))))))
 rcases cR b with ⟨dg,b⟩|⟨dg,b⟩
 refine cG R dg (dL ?_)
 exact qI ((j.Op==(7:Int)),()) b (fun w s=>s)
 refine bP R dg (aO (aH (lO (ln R R) (lB R (aC (aJ ?_))))))
 rcases cR b with ⟨dh,b⟩|⟨dh,b⟩
 refine cG R dh (dL ?_)
 exact qI ((j.Op==(8:Int)),()) b (fun w s=>s)
 refine bP R dh (aH (lO (ln R R) (lB R (aC ?_))))
 exact qI ((j.Op==(9:Int)),()) b (fun w s=>s)
 rintro ⟨ih,_⟩ σ1 b
 replace b:Z1_J2 j g ih=some r:=b
 unfold Z1_J2 at b
 rcases cR b with ⟨di,b⟩|⟨di,b⟩
 refine cG R di (aO ?_)
 obtain ⟨bv,b⟩:=gd b
 obtain ⟨a4,hj,b⟩:=bd b
 refine aY 6 aA (show 0<g.length by have:=bv; omega) (fun id o47 m=>?_)
 subst m
 refine dE (K:=dS) 6 (0:Int) dT58.dec R bv.1 bv.2 ?_
 rintro ⟨⟨fa,fk⟩,⟨fb,fl⟩⟩
 refine cN (cl id (o47+(0:Int).toNat*2) [(sc fa ((ix g (0:Int)).Dims) fk),(sc fb ((ix g (0:Int)).Data) fl)]::RR kT3 fa fk ((ix g (0:Int)).Dims)::RR kT3 fb fl ((ix g (0:Int)).Data)::aI l [(.slice none 0 0),(.slice none 0 0)] 58::i) ?_
 refine cZ 9 [3] bN (fun ht hn=>(dR 0 R (fV 0 jE R) (hS:=(sL [3])) (dR 1 R (gH 3 fM R R R) (hS:=(sL [3])) (dR 2 R (vL R R) (hS:=(sL [3])) (dR 3 R (lF R R) (hS:=(sL [3])) (dR 4 R (vS R) (hS:=(sL [3])) (dR 5 R (eI gC bR R R bv) (hS:=(sL [3])) (dR 6 R (vz (.agg [(sc fa ((ix g (0:Int)).Dims) fk),(sc fb ((ix g (0:Int)).Data) fl)].toArray) (dY (fo:=0) 0 fF bR R R R R)) (hS:=(sL [3])) (d1 7 R (lM (aN _ _ _::aN _ _ _::cl _ _ _::aN _ _ _::aN _ _ _::aI _ _ _::i) (fun w s=>(((s.d 1 R).d 3 R).e 6 [1,0,2,3,4,5])) ?_))))))))))
 refine lC 2 Ax R (Z0z_ok hj) R ?_
 rintro ⟨⟨e5,hy,ej⟩,⟨e6,hz,ek⟩⟩
 refine lN (ow kT3 3 (.slice e5 hy ej) a4.Dims::ow kT3 3 (.slice e6 hz ek) a4.Data::_::_::_::_::i) ?_
 refine aL 0 aB ?_
 rintro rfl
 refine aL 1 aB ?_
 rintro rfl
 refine aC (aE (sL [5,1,0]) (d1 8 R (aK 5 R R bR R R R R R R (lN (_::_::_::_::_::aI l [(sc e5 a4.Dims ej),(sc e6 a4.Data ek)] 58::i) ?_))))
 refine aC (aE (sL [5,1,0]) (dD (aJ (bY (dB (cE ?_))))))
 obtain rfl:=so b
 exact dF (vs:=[(.agg [(sc e5 a4.Dims ej),(sc e6 a4.Data ek)].toArray)]) (.inl R) ((e5,a4.Dims.length,ej),(e6,a4.Data.length,ek)) R ⟨⟨5,l,_,_,R,R,.inl ⟨fF,bR,R⟩⟩,trivial⟩ R (fun w s=>(s.e 12 [0,1]))
 refine bP R di (aO (aH (lO (ln R R) (lB R (aC (aJ ?_))))))
 rcases cR b with ⟨dj,b⟩|⟨dj,b⟩
 refine cG R dj (aO ?_)
 obtain ⟨bw,b⟩:=gd b
 obtain ⟨e0,b⟩:=gd b
 obtain ⟨a5,hk,b⟩:=bd b
 refine aY 6 aA (show 0<g.length by have:=bw; omega) (fun ie o57 m=>?_)
 subst m
 refine dE (K:=dS) 6 (0:Int) dT58.dec R bw.1 bw.2 ?_
 rintro ⟨⟨fc,fm⟩,⟨fd,fn⟩⟩
 refine cN (cl ie (o57+(0:Int).toNat*2) [(sc fc ((ix g (0:Int)).Dims) fm),(sc fd ((ix g (0:Int)).Data) fn)]::RR kT3 fc fm ((ix g (0:Int)).Dims)::RR kT3 fd fn ((ix g (0:Int)).Data)::aI l [(.slice none 0 0),(.slice none 0 0)] 58::i) ?_
 refine aY 7 aA (show 0<j.Ints.length by have:=e0; omega) (fun iq o62 m=>?_)
 subst m
 refine cZ 8 [3] bN (fun ht hn=>(dR 0 R (vS R) (hS:=(sL [3])) (dR 1 R (eI gC bR R R bw) (hS:=(sL [3])) (dR 2 R (vz (.agg [(sc fc ((ix g (0:Int)).Dims) fm),(sc fd ((ix g (0:Int)).Data) fn)].toArray) (dY (fo:=0) 0 fF bR R R R R)) (hS:=(sL [3])) (dR 3 R (vS R) (hS:=(sL [3])) (dR 4 R (eI bM cC R R e0) (hS:=(sL [3])) (dR 5 R (gI 6 fM aA R e0) (hS:=(sL [3])) (d1 6 R (lM (aN _ _ _::aN _ _ _::cl _ _ _::aN _ _ _::aN _ _ _::aI _ _ _::i) (fun w s=>(((s.d 1 R).d 3 R).e 6 [1,0,2,3,4,5])) ?_)))))))))
 refine lC 2 Ay R (Za_ok hk) R ?_
 rintro ⟨⟨e7,i0,el⟩,⟨e8,i1,em⟩⟩
 refine lN (ow kT3 3 (.slice e7 i0 el) a5.Dims::ow kT3 3 (.slice e8 i1 em) a5.Data::_::_::_::_::i) ?_
 refine aL 0 aB ?_
 rintro rfl
 refine aL 1 aB ?_
 rintro rfl
 refine aC (aE (sL [5,1,0]) (d1 7 R (aK 5 R R bR R R R R R R (lN (_::_::_::_::_::aI l [(sc e7 a5.Dims el),(sc e8 a5.Data em)] 58::i) ?_))))
 refine aC (aE (sL [5,1,0]) (dD (aJ (bY (dB (cE ?_))))))
 obtain rfl:=so b
 exact dF (vs:=[(.agg [(sc e7 a5.Dims el),(sc e8 a5.Data em)].toArray)]) (.inl R) ((e7,a5.Dims.length,el),(e8,a5.Data.length,em)) R ⟨⟨5,l,_,_,R,R,.inl ⟨fF,bR,R⟩⟩,trivial⟩ R (fun w s=>(s.e 12 [0,1]))
 refine bP R dj (aO (aH (lO (ln R R) (lB R (aC (aJ ?_))))))
 rcases cR b with ⟨dk,b⟩|⟨dk,b⟩
 refine cG R dk (aO ?_)
 obtain ⟨a7,hl,b⟩:=bd b
 refine aH (lO (fV 4 rT R) (lO (gH 1 qo R R R) (lS R (lM (RR dS A7 D7 g::aI l [(.slice none 0 0),(.slice none 0 0)] 58::i) (fun w s=>(s.d 6 R)) ?_))))
 refine lC 1 Az R (Z5_ok hl) R ?_
 rintro ⟨⟨e9,i2,en⟩,⟨ea,i3,eo⟩⟩
 refine lN (ow kT3 3 (.slice e9 i2 en) a7.Dims::ow kT3 3 (.slice ea i3 eo) a7.Data::_::i) ?_
 refine aL 0 aB ?_
 rintro rfl
 refine aL 1 aB ?_
 rintro rfl
 refine aK 2 R R bR R R R R R R (lN (_::_::aI l [(sc e9 a7.Dims en),(sc ea a7.Data eo)] 58::i) ?_)
 refine aC (aJ (bY (dB (cE ?_))))
 obtain rfl:=so b
 exact dF (vs:=[(.agg [(sc e9 a7.Dims en),(sc ea a7.Data eo)].toArray)]) (.inl R) ((e9,a7.Dims.length,en),(ea,a7.Data.length,eo)) R ⟨⟨2,l,_,_,R,R,.inl ⟨fF,bR,R⟩⟩,trivial⟩ R (fun w s=>(s.e 9 [0,1]))
 refine bP R dk (aO (aH (lO (ln R R) (lB R (aC (aJ ?_))))))
 rcases cR b with ⟨dl,b⟩|⟨dl,b⟩
 refine cG R dl (aO ?_)
 obtain ⟨a1,b⟩:=gd b
 obtain ⟨ap,hm,b⟩:=bd b
 obtain ⟨a8,ho,b⟩:=bd b
 obtain ⟨a9,hp,b⟩:=bd b
 refine aY 6 aA (show 0<g.length by have:=a1; omega) (fun hc o75 m=>?_)
 subst m
 refine dE (K:=dS) 6 (0:Int) dT58.dec R a1.1 a1.2 ?_
 rintro ⟨⟨cj,d5⟩,⟨ck,d6⟩⟩
 refine cN (cl hc (o75+(0:Int).toNat*2) [(sc cj ((ix g (0:Int)).Dims) d5),(sc ck ((ix g (0:Int)).Data) d6)]::RR kT3 cj d5 ((ix g (0:Int)).Dims)::RR kT3 ck d6 ((ix g (0:Int)).Data)::aI l [(.slice none 0 0),(.slice none 0 0)] 58::i) ?_
 refine cZ 13 [3] bN (fun ht hn=>(dR 0 R (vS R) (hS:=(sL [3])) (dR 1 R (eI gC bR R R a1) (hS:=(sL [3])) (dR 2 R (vz (.agg [(sc cj ((ix g (0:Int)).Dims) d5),(sc ck ((ix g (0:Int)).Data) d6)].toArray) (dY (fo:=0) 0 fF bR R R R R)) (hS:=(sL [3])) (dR 3 R (vS R) (hS:=(sL [3])) (dR 4 R (eI gC bR R R a1) (hS:=(sL [3])) (dR 5 R (vz (.pointer (some ⟨hc,o75+(0:Int).toNat*2,none⟩)) (kW iP R R)) (hS:=(sL [3])) (dR 6 R (eG (fo:=0) 0 cT R R R) (hS:=(sL [3])) (dR 8 R (fV 2 kX R) (hS:=(sL [3])) (dR 9 R (gH 3 cT R R R) (hS:=(sL [3])) (d1 7 R (lM (_::_::_::_::_::i) (fun w s=>(s.d 1 R)) ?_))))))))))))
 refine lC 1 tU R (Zv_ok hm) R ?_
 rintro ⟨⟨fe,i4,fp⟩,⟨eb,i5,ep⟩⟩
 refine lN (aN kT3 (.slice fe i4 fp) ap.Dims::ow kT3 3 (.slice eb i5 ep) ap.Strides::_::_::_::_::i) ?_
 refine aL 0 aA ?_
 rintro rfl
 refine aL 1 aB ?_
 rintro rfl
 refine aC (aE (sL [5,1,0]) (d1 10 R (lM (ow _ _ _ _::aN _ _ _::RR kT3 A3 D3 j.Dims::aN _ _ _::cl _ _ _::aN _ _ _::aN _ _ _::aI _ _ _::i) (fun w s=>(((s.d 0 R).d 9 R).e 8 [3,1,0,2,4,5,6,7])) ?_)))
 refine lC 3 AA R (FnOk.lends (A':=[OO kT3 3 eb ep ap.Strides]) (A:=[RR kT3 eb ep ap.Strides]) (B:=[RR kT3 fe fp ap.Dims,RR kT3 A3 D3 j.Dims]) (FnOk.perm (Z02_ok ho) (Pre':=[RR kT3 eb ep ap.Strides,RR kT3 fe fp ap.Dims,RR kT3 A3 D3 j.Dims]) (fun _ _ _ s=>(s.e 3 [1,0,2]))) ⟨aX,trivial⟩ (fun _=>⟨(bK j0),(bK j0),trivial⟩)) R ?_
 rintro ⟨⟨ec,i6,eq⟩,⟨ed,i7,er⟩⟩
 refine lN (_::ow kT3 3 (.slice ec i6 eq) a8.Dims::ow kT3 3 (.slice ed i7 er) a8.Strides::_::_::_::_::_::i) ?_
 refine aL 1 aB ?_
 rintro rfl
 refine aL 2 aB ?_
 rintro rfl
 refine aC (aE (sL [7,3,2,1,0]) (d1 11 R (lM (ow _ _ _ _::ow _ _ _ _::aN _ _ _::aN _ _ _::ow _ _ _ _::aN _ _ _::cl _ _ _::aN _ _ _::aN _ _ _::aI _ _ _::i) (fun w s=>(((s.d 5 R).d 7 R).e 10 [3,4,1,0,2,5,6,7,8,9])) ?_)))
 refine lC 4 tV R (FnOk.lends (A':=[OO kT3 3 ec eq a8.Dims,OO kT3 3 ed er a8.Strides]) (A:=[RR kT3 ec eq a8.Dims,RR kT3 ed er a8.Strides]) (B:=[RR kT3 cj d5 ((ix g (0:Int)).Dims),RR kT3 ck d6 ((ix g (0:Int)).Data)]) (FnOk.perm (Z00_ok hp) (Pre':=[RR kT3 ec eq a8.Dims,RR kT3 ed er a8.Strides,RR kT3 cj d5 ((ix g (0:Int)).Dims),RR kT3 ck d6 ((ix g (0:Int)).Data)]) (fun _ _ _ s=>(s.e 4 [2,3,0,1]))) ⟨aX,aX,trivial⟩ (fun _=>⟨(bK j0),(bK j0),trivial⟩)) R ?_
 rintro ⟨⟨ee,i8,es⟩,⟨ef,i9,et⟩⟩
 refine lN (_::_::ow kT3 3 (.slice ee i8 es) a9.Dims::ow kT3 3 (.slice ef i9 et) a9.Data::_::_::_::_::_::_::i) ?_
 refine aL 2 aB ?_
 rintro rfl
 refine aL 3 aB ?_
 rintro rfl
 refine aC (aE (sL [9,5,4,3,2,1,0]) (d1 12 R (aK 9 R R bR R R R R R R (lN (_::_::_::_::_::_::_::_::_::aI l [(sc ee a9.Dims es),(sc ef a9.Data et)] 58::i) ?_))))
 refine aC (aE (sL [9,5,4,3,2,1,0]) (dD (aJ (bY (dB (cE ?_))))))
 obtain rfl:=so b
 exact dF (vs:=[(.agg [(sc ee a9.Dims es),(sc ef a9.Data et)].toArray)]) (.inl R) ((ee,a9.Dims.length,es),(ef,a9.Data.length,et)) R ⟨⟨9,l,_,_,R,R,.inl ⟨fF,bR,R⟩⟩,trivial⟩ R (fun w s=>(s.e 16 [2,3]))
 refine bP R dl (aO (aH (lO (ln R R) (lB R (aC (aJ ?_))))))
 rcases cR b with ⟨dm,b⟩|⟨dm,b⟩
 refine cG R dm (aO ?_)
 obtain ⟨a2,b⟩:=gd b
 obtain ⟨aq,hq,b⟩:=bd b
 obtain ⟨q,fr,b⟩:=bd b
 obtain ⟨u,fs,b⟩:=bd b
 refine aY 6 aA (show 0<g.length by have:=a2; omega) (fun hd o93 m=>?_)
 subst m
 refine dE (K:=dS) 6 (0:Int) dT58.dec R a2.1 a2.2 ?_
 rintro ⟨⟨cm,d7⟩,⟨cn,d8⟩⟩
 refine cN (cl hd (o93+(0:Int).toNat*2) [(sc cm ((ix g (0:Int)).Dims) d7),(sc cn ((ix g (0:Int)).Data) d8)]::RR kT3 cm d7 ((ix g (0:Int)).Dims)::RR kT3 cn d8 ((ix g (0:Int)).Data)::aI l [(.slice none 0 0),(.slice none 0 0)] 58::i) ?_
 refine cZ 13 [3] bN (fun ht hn=>(dR 0 R (vS R) (hS:=(sL [3])) (dR 1 R (eI gC bR R R a2) (hS:=(sL [3])) (dR 2 R (vz (.agg [(sc cm ((ix g (0:Int)).Dims) d7),(sc cn ((ix g (0:Int)).Data) d8)].toArray) (dY (fo:=0) 0 fF bR R R R R)) (hS:=(sL [3])) (dR 3 R (vS R) (hS:=(sL [3])) (dR 4 R (eI gC bR R R a2) (hS:=(sL [3])) (dR 5 R (vz (.pointer (some ⟨hd,o93+(0:Int).toNat*2,none⟩)) (kW iP R R)) (hS:=(sL [3])) (dR 6 R (eG (fo:=0) 0 cT R R R) (hS:=(sL [3])) (dR 8 R (fV 2 kX R) (hS:=(sL [3])) (dR 9 R (gH 3 cT R R R) (hS:=(sL [3])) (d1 7 R (lM (_::_::_::_::_::i) (fun w s=>(s.d 1 R)) ?_))))))))))))
 refine lC 1 tU R (Zv_ok hq) R ?_
 rintro ⟨⟨ff,ia,fq⟩,⟨eg,ib,eu⟩⟩
 refine lN (aN kT3 (.slice ff ia fq) aq.Dims::ow kT3 3 (.slice eg ib eu) aq.Strides::_::_::_::_::i) ?_
 refine aL 0 aA ?_
 rintro rfl
 refine aL 1 aB ?_
 rintro rfl
 refine aC (aE (sL [5,1,0]) (d1 10 R (lM (ow _ _ _ _::aN _ _ _::RR kT3 A3 D3 j.Dims::aN _ _ _::cl _ _ _::aN _ _ _::aN _ _ _::aI _ _ _::i) (fun w s=>(((s.d 0 R).d 9 R).e 8 [3,1,0,2,4,5,6,7])) ?_)))
 refine lC 3 AB R (FnOk.lends (A':=[OO kT3 3 eg eu aq.Strides]) (A:=[RR kT3 eg eu aq.Strides]) (B:=[RR kT3 ff fq aq.Dims,RR kT3 A3 D3 j.Dims]) (FnOk.perm (Z08_ok fr) (Pre':=[RR kT3 eg eu aq.Strides,RR kT3 ff fq aq.Dims,RR kT3 A3 D3 j.Dims]) (fun _ _ _ s=>(s.e 3 [1,0,2]))) ⟨aX,trivial⟩ (fun _=>⟨(bK j0),(bK j0),trivial⟩)) R ?_
 rintro ⟨⟨ar,gg,bb⟩,⟨au,gh,bc⟩⟩
 refine lN (_::ow kT3 3 (.slice ar gg bb) q.Dims::ow kT3 3 (.slice au gh bc) q.Strides::_::_::_::_::_::i) ?_
 refine aL 1 aB ?_
 rintro rfl
 refine aL 2 aB ?_
 rintro rfl
 refine aC (aE (sL [7,3,2,1,0]) (d1 11 R (lM (ow _ _ _ _::ow _ _ _ _::aN _ _ _::aN _ _ _::ow _ _ _ _::aN _ _ _::cl _ _ _::aN _ _ _::aN _ _ _::aI _ _ _::i) (fun w s=>(((s.d 5 R).d 7 R).e 10 [3,4,1,0,2,5,6,7,8,9])) ?_)))
 refine lC 4 tV R (FnOk.lends (A':=[OO kT3 3 ar bb q.Dims,OO kT3 3 au bc q.Strides]) (A:=[RR kT3 ar bb q.Dims,RR kT3 au bc q.Strides]) (B:=[RR kT3 cm d7 ((ix g (0:Int)).Dims),RR kT3 cn d8 ((ix g (0:Int)).Data)]) (FnOk.perm (Z00_ok fs) (Pre':=[RR kT3 ar bb q.Dims,RR kT3 au bc q.Strides,RR kT3 cm d7 ((ix g (0:Int)).Dims),RR kT3 cn d8 ((ix g (0:Int)).Data)]) (fun _ _ _ s=>(s.e 4 [2,3,0,1]))) ⟨aX,aX,trivial⟩ (fun _=>⟨(bK j0),(bK j0),trivial⟩)) R ?_
 rintro ⟨⟨av,gi,be⟩,⟨aw,gj,bf⟩⟩
 refine lN (_::_::ow kT3 3 (.slice av gi be) u.Dims::ow kT3 3 (.slice aw gj bf) u.Data::_::_::_::_::_::_::i) ?_
 refine aL 2 aB ?_
 rintro rfl
 refine aL 3 aB ?_
 rintro rfl
 refine aC (aE (sL [9,5,4,3,2,1,0]) (d1 12 R (aK 9 R R bR R R R R R R (lN (_::_::_::_::_::_::_::_::_::aI l [(sc av u.Dims be),(sc aw u.Data bf)] 58::i) ?_))))
 refine aC (aE (sL [9,5,4,3,2,1,0]) (dD (aJ (bY (dB (cE ?_))))))
 obtain rfl:=so b
 exact dF (vs:=[(.agg [(sc av u.Dims be),(sc aw u.Data bf)].toArray)]) (.inl R) ((av,u.Dims.length,be),(aw,u.Data.length,bf)) R ⟨⟨9,l,_,_,R,R,.inl ⟨fF,bR,R⟩⟩,trivial⟩ R (fun w s=>(s.e 16 [2,3]))
 refine bP R dm (aO (aH (lO (ln R R) (lB R (aC (aJ ?_))))))
 rcases cR b with ⟨aa,b⟩|⟨aa,b⟩
 refine cG R aa (aO (aO ?_))
 obtain ⟨L,b⟩:=gd b
 refine aH (lS R (bB 4 aA (show 0<j.Ints.length by have:=L; omega) (fun ii o111 m=>?_)))
 subst m
 refine lO (eI bM cC R R L) (lO (gI 4 fM aA R L) (lO (nR R R) (aC (aJ ?_))))
 rcases cR b with ⟨ab,b⟩|⟨ab,b⟩
 refine cG R ab (aO (aH (lO (vz (.agg [(.slice none 0 0),(.slice none 0 0)].toArray) (aW gM dM R R)) (aK 0 R R bR R R R R R R (lN (aI l [(.slice none 0 0),(.slice none 0 0)] 58::i) ?_)))))
 refine aC (aJ (bY (cE (dB (cE ?_)))))
 obtain rfl:=so b
 exact dF (vs:=[(.agg [(.slice none 0 0),(.slice none 0 0)].toArray)]) (.inl R) ((none,0,0),(none,0,0)) R ⟨⟨0,l,_,_,R,R,.inl ⟨fF,bR,R⟩⟩,trivial⟩ R (fun w s=>(((s.nilo kT3 3).nilo kT3 3).e 9 [1,0]))
 refine bP R ab (dL (aJ (aO ?_)))
 obtain ⟨M,b⟩:=gd b
 obtain ⟨bz,ft,b⟩:=bd b
 obtain ⟨dn,b⟩:=gd b
 obtain ⟨dq,b⟩:=gd b
 obtain ⟨dr,b⟩:=gd b
 obtain ⟨f4,fu,b⟩:=bd b
 obtain ⟨D,fv,b⟩:=bd b
 refine aY 6 aA (show 0<g.length by have:=M; omega) (fun f2 o115 m=>?_)
 subst m
 refine dE (K:=dS) 6 (0:Int) dT58.dec R M.1 M.2 ?_
 rintro ⟨⟨c1,co⟩,⟨c2,cp⟩⟩
 refine cN (cl f2 (o115+(0:Int).toNat*2) [(sc c1 ((ix g (0:Int)).Dims) co),(sc c2 ((ix g (0:Int)).Data) cp)]::RR kT3 c1 co ((ix g (0:Int)).Dims)::RR kT3 c2 cp ((ix g (0:Int)).Data)::_::i) ?_
 refine cZ 23 [3] bN (fun ht hn=>(dR 0 R (vS R) (hS:=(sL [3])) (dR 1 R (eI gC bR R R M) (hS:=(sL [3])) (dR 2 R (vz (.agg [(sc c1 ((ix g (0:Int)).Dims) co),(sc c2 ((ix g (0:Int)).Data) cp)].toArray) (dY (fo:=0) 0 fF bR R R R R)) (hS:=(sL [3])) (dR 3 R (vS R) (hS:=(sL [3])) (dR 4 R (eI gC bR R R M) (hS:=(sL [3])) (dR 5 R (vz (.pointer (some ⟨f2,o115+(0:Int).toNat*2,none⟩)) (kW iP R R)) (hS:=(sL [3])) (dR 6 R (eG (fo:=0) 0 cT R R R) (hS:=(sL [3])) (dR 8 R (vS R) (hS:=(sL [3])) (dR 9 R (eI bM cC R R dn) (hS:=(sL [3])) (dR 10 R (gI 6 fM aA R dn) (hS:=(sL [3])) (dR 11 R (vS R) (hS:=(sL [3])) (dR 12 R (eI bM cC R R dq) (hS:=(sL [3])) (dR 13 R (gI 6 fM aA R dq) (hS:=(sL [3])) (dR 14 R (vS R) (hS:=(sL [3])) (dR 15 R (eI bM cC R R dr) (hS:=(sL [3])) (dR 16 R (gI 6 fM aA R dr) (hS:=(sL [3])) (dR 17 R (vS R) (hS:=(sL [3])) (dR 18 R (eI bM cC R R L) (hS:=(sL [3])) (dR 19 R (gI 6 fM aA R L) (hS:=(sL [3])) (d1 7 R (lM (_::_::_::_::_::i) (fun w s=>(s.d 1 R)) ?_))))))))))))))))))))))
 refine lC 1 tU R (Zv_ok ft) R ?_
 rintro ⟨⟨g3,gk,g9⟩,⟨c3,gm,cq⟩⟩
 refine lN (aN kT3 (.slice g3 gk g9) bz.Dims::ow kT3 3 (.slice c3 gm cq) bz.Strides::_::_::_::_::i) ?_
 refine aL 0 aA ?_
 rintro rfl
 refine aL 1 aB ?_
 rintro rfl
 refine aC (aE (sL [5,1,0]) (d1 20 R (iM (fun w s=>s.shr 1 R) (lM (aN _ _ _::RR kT3 c3 cq bz.Strides::RR kT3 c3 cq bz.Strides::aN _ _ _::cl _ _ _::aN _ _ _::aN _ _ _::aI _ _ _::i) (fun w s=>(((s.d 1 R).d 1 R).f 8 [1,1,0,1,2,6])) ?_))))
 refine lC 2 AC R (Z17_ok fu) R ?_
 rintro ⟨⟨g4,gn,ga⟩,⟨g5,gp,gb⟩⟩
 refine lN (aN kT3 (.slice g4 gn ga) f4.Dims::aN kT3 (.slice g5 gp gb) f4.Strides::_::_::_::_::_::_::i) ?_
 refine aL 0 aA ?_
 rintro rfl
 refine aL 1 aA ?_
 rintro rfl
 refine aC (aE (sL [7,3,2,1,0]) (d1 21 R (lM (aN _ _ _::aN _ _ _::aN _ _ _::aN _ _ _::aN _ _ _::aN _ _ _::aN _ _ _::aN _ _ _::cl _ _ _::aN _ _ _::aN _ _ _::aI _ _ _::i) (fun w s=>(((((s.d 5 R).d 7 R).d 2 R).d 4 R).f 12 [3,1,2,1,1,1,0,1,4,8])) ?_)))
 refine lC 4 tV R (Z00_ok fv) R ?_
 rintro ⟨⟨ax,gq,bg⟩,⟨ay,gr,bh⟩⟩
 refine lN (ow kT3 3 (.slice ax gq bg) D.Dims::ow kT3 3 (.slice ay gr bh) D.Data::_::_::_::_::_::_::_::_::i) ?_
 refine aL 0 aB ?_
 rintro rfl
 refine aL 1 aB ?_
 rintro rfl
 refine aC (aE (sL [9,5,4,3,2,1,0]) (d1 22 R (aK 9 R R bR R R R R R R (lN (_::_::_::_::_::_::_::_::_::aI l [(sc ax D.Dims bg),(sc ay D.Data bh)] 58::i) ?_))))
 refine aC (aE (sL [9,5,4,3,2,1,0]) (dD (aJ (bY (dB (cE ?_))))))
 obtain rfl:=so b
 exact dF (vs:=[(.agg [(sc ax D.Dims bg),(sc ay D.Data bh)].toArray)]) (.inl R) ((ax,D.Dims.length,bg),(ay,D.Data.length,bh)) R ⟨⟨9,l,_,_,R,R,.inl ⟨fF,bR,R⟩⟩,trivial⟩ R (fun w s=>(s.e 16 [0,1]))
 refine bP R aa (aO (aH (lO (ln R R) (lB R (aC (aJ ?_))))))
 rcases cR b with ⟨ac,b⟩|⟨ac,b⟩
 refine cG R ac (aO ?_)
 obtain ⟨T,b⟩:=gd b
 obtain ⟨ai,b⟩:=gd b
 obtain ⟨ds,b⟩:=gd b
 obtain ⟨dt,b⟩:=gd b
 obtain ⟨du,b⟩:=gd b
 obtain ⟨E,fw,b⟩:=bd b
 refine aY 6 aA (show 0<g.length by have:=T; omega) (fun h7 o136 m=>?_)
 subst m
 refine dE (K:=dS) 6 (0:Int) dT58.dec R T.1 T.2 ?_
 rintro ⟨⟨c4,cr⟩,⟨c5,cs⟩⟩
 refine cN (cl h7 (o136+(0:Int).toNat*2) [(sc c4 ((ix g (0:Int)).Dims) cr),(sc c5 ((ix g (0:Int)).Data) cs)]::RR kT3 c4 cr ((ix g (0:Int)).Dims)::RR kT3 c5 cs ((ix g (0:Int)).Data)::aI l [(.slice none 0 0),(.slice none 0 0)] 58::i) ?_
 refine aY 7 aA (show 0<j.Ints.length by have:=ai; omega) (fun ij o141 m=>?_)
 subst m
 refine cZ 17 [3] bN (fun ht hn=>(dR 0 R (vS R) (hS:=(sL [3])) (dR 1 R (eI gC bR R R T) (hS:=(sL [3])) (dR 2 R (vz (.agg [(sc c4 ((ix g (0:Int)).Dims) cr),(sc c5 ((ix g (0:Int)).Data) cs)].toArray) (dY (fo:=0) 0 fF bR R R R R)) (hS:=(sL [3])) (dR 3 R (vS R) (hS:=(sL [3])) (dR 4 R (eI bM cC R R ai) (hS:=(sL [3])) (dR 5 R (gI 6 fM aA R ai) (hS:=(sL [3])) (dR 6 R (vS R) (hS:=(sL [3])) (dR 7 R (eI bM cC R R ds) (hS:=(sL [3])) (dR 8 R (gI 6 fM aA R ds) (hS:=(sL [3])) (dR 9 R (vS R) (hS:=(sL [3])) (dR 10 R (eI bM cC R R dt) (hS:=(sL [3])) (dR 11 R (gI 6 fM aA R dt) (hS:=(sL [3])) (dR 12 R (vS R) (hS:=(sL [3])) (dR 13 R (eI bM cC R R du) (hS:=(sL [3])) (dR 14 R (gI 6 fM aA R du) (hS:=(sL [3])) (d1 15 R (lM (aN _ _ _::aN _ _ _::cl _ _ _::aN _ _ _::aN _ _ _::aI _ _ _::i) (fun w s=>(((s.d 1 R).d 3 R).e 6 [1,0,2,3,4,5])) ?_))))))))))))))))))
 refine lC 2 AD R (Z0q_ok fw) R ?_
 rintro ⟨⟨az,gs,bi⟩,⟨b0,gt,bj⟩⟩
 refine lN (ow kT3 3 (.slice az gs bi) E.Dims::ow kT3 3 (.slice b0 gt bj) E.Data::_::_::_::_::i) ?_
 refine aL 0 aB ?_
 rintro rfl
 refine aL 1 aB ?_
 rintro rfl
 refine aC (aE (sL [5,1,0]) (d1 16 R (aK 5 R R bR R R R R R R (lN (_::_::_::_::_::aI l [(sc az E.Dims bi),(sc b0 E.Data bj)] 58::i) ?_))))
 refine aC (aE (sL [5,1,0]) (dD (aJ (bY (dB (cE ?_))))))
 obtain rfl:=so b
 exact dF (vs:=[(.agg [(sc az E.Dims bi),(sc b0 E.Data bj)].toArray)]) (.inl R) ((az,E.Dims.length,bi),(b0,E.Data.length,bj)) R ⟨⟨5,l,_,_,R,R,.inl ⟨fF,bR,R⟩⟩,trivial⟩ R (fun w s=>(s.e 12 [0,1]))
 refine bP R ac (aO (aH (lO (ln R R) (lB R (aC (aJ ?_))))))
 rcases cR b with ⟨ae,b⟩|⟨ae,b⟩
 refine cG R ae (aO ?_)
 obtain ⟨U,b⟩:=gd b
 obtain ⟨aj,b⟩:=gd b
 obtain ⟨ak,b⟩:=gd b
 obtain ⟨F,fx,b⟩:=bd b
 refine aY 6 aA (show 0<g.length by have:=U; omega) (fun h8 o152 m=>?_)
 subst m
 refine dE (K:=dS) 6 (0:Int) dT58.dec R U.1 U.2 ?_
 rintro ⟨⟨c6,ct⟩,⟨c7,cu⟩⟩
 refine cN (cl h8 (o152+(0:Int).toNat*2) [(sc c6 ((ix g (0:Int)).Dims) ct),(sc c7 ((ix g (0:Int)).Data) cu)]::RR kT3 c6 ct ((ix g (0:Int)).Dims)::RR kT3 c7 cu ((ix g (0:Int)).Data)::aI l [(.slice none 0 0),(.slice none 0 0)] 58::i) ?_
 refine aY 7 aA (show 0<j.Ints.length by have:=aj; omega) (fun ik o157 m=>?_)
 subst m
 refine cZ 10 [3] bN (fun ht hn=>(dR 0 R (vS R) (hS:=(sL [3])) (dR 1 R (eI gC bR R R U) (hS:=(sL [3])) (dR 2 R (vz (.agg [(sc c6 ((ix g (0:Int)).Dims) ct),(sc c7 ((ix g (0:Int)).Data) cu)].toArray) (dY (fo:=0) 0 fF bR R R R R)) (hS:=(sL [3])) (dR 3 R (vS R) (hS:=(sL [3])) (dR 4 R (eI bM cC R R aj) (hS:=(sL [3])) (dR 5 R (gI 6 fM aA R aj) (hS:=(sL [3])) (dR 6 R (vS R) (hS:=(sL [3])) (d1 7 R (fY (K:=kT3) (1:Int) (j.Ints.length:Int) 7 R R bM cC R R R R ak.1 ak.2.1 ak.2.2 (fun ey f0=>(aC (aE (sL [4,0]) (d1 8 R (lM (aN _ _ _::aN _ _ _::RR kT3 ey f0 (sub j.Ints (1:Int) (j.Ints.length:Int))::RR kT3 ey f0 (sub j.Ints (1:Int) (j.Ints.length:Int))::cl _ _ _::aN _ _ _::aN _ _ _::aI _ _ _::i) (fun w s=>((((s.d 2 R).d 4 R).d 2 R).e 8 [2,1,0,3,4,5,6,7])) ?_)))))))))))))))
 refine lC 3 AE R (Z0p_ok fx) R ?_
 rintro ⟨⟨b1,gu,bk⟩,⟨b2,gw,bl⟩⟩
 refine lN (ow kT3 3 (.slice b1 gu bk) F.Dims::ow kT3 3 (.slice b2 gw bl) F.Data::_::_::_::_::_::i) ?_
 refine aL 0 aB ?_
 rintro rfl
 refine aL 1 aB ?_
 rintro rfl
 refine aC (aE (sL [6,2,1,0]) (d1 9 R (aK 6 R R bR R R R R R R (lN (_::_::_::_::_::_::aI l [(sc b1 F.Dims bk),(sc b2 F.Data bl)] 58::i) ?_))))
 refine aC (aE (sL [6,2,1,0]) (dD (aJ (bY (dB (cE ?_))))))
 obtain rfl:=so b
 exact dF (vs:=[(.agg [(sc b1 F.Dims bk),(sc b2 F.Data bl)].toArray)]) (.inl R) ((b1,F.Dims.length,bk),(b2,F.Data.length,bl)) R ⟨⟨6,l,_,_,R,R,.inl ⟨fF,bR,R⟩⟩,trivial⟩ R (fun w s=>(s.e 13 [0,1]))
 refine bP R ae (aO (aH (lO (ln R R) (lB R (aC (aJ ?_))))))
 rcases cR b with ⟨ag,b⟩|⟨ag,b⟩
 refine cG R ag (aO ?_)
 obtain ⟨Y,b⟩:=gd b
 obtain ⟨al,b⟩:=gd b
 obtain ⟨am,b⟩:=gd b
 obtain ⟨dv,b⟩:=gd b
 obtain ⟨G,fy,b⟩:=bd b
 refine aY 6 aA (show 0<g.length by have:=Y; omega) (fun h9 o167 m=>?_)
 subst m
 refine dE (K:=dS) 6 (0:Int) dT58.dec R Y.1 Y.2 ?_
 rintro ⟨⟨c8,cv⟩,⟨c9,cw⟩⟩
 refine cN (cl h9 (o167+(0:Int).toNat*2) [(sc c8 ((ix g (0:Int)).Dims) cv),(sc c9 ((ix g (0:Int)).Data) cw)]::RR kT3 c8 cv ((ix g (0:Int)).Dims)::RR kT3 c9 cw ((ix g (0:Int)).Data)::aI l [(.slice none 0 0),(.slice none 0 0)] 58::i) ?_
 refine aY 7 aA (show 0<j.Ints.length by have:=al; omega) (fun im o172 m=>?_)
 subst m
 refine cZ 13 [3] bN (fun ht hn=>(dR 0 R (vS R) (hS:=(sL [3])) (dR 1 R (eI gC bR R R Y) (hS:=(sL [3])) (dR 2 R (vz (.agg [(sc c8 ((ix g (0:Int)).Dims) cv),(sc c9 ((ix g (0:Int)).Data) cw)].toArray) (dY (fo:=0) 0 fF bR R R R R)) (hS:=(sL [3])) (dR 3 R (vS R) (hS:=(sL [3])) (dR 4 R (eI bM cC R R al) (hS:=(sL [3])) (dR 5 R (gI 6 fM aA R al) (hS:=(sL [3])) (dR 6 R (vS R) (hS:=(sL [3])) (dR 8 R (vS R) (hS:=(sL [3])) (dR 9 R (eI bM cC R R dv) (hS:=(sL [3])) (dR 10 R (gI 6 fM aA R dv) (hS:=(sL [3])) (d1 7 R (fY (K:=kT3) (2:Int) (j.Ints.length:Int) 7 R R bM cC R R R R am.1 am.2.1 am.2.2 (fun ez f1=>(aC (aE (sL [4,0]) (d1 11 R (lM (aN _ _ _::aN _ _ _::RR kT3 ez f1 (sub j.Ints (2:Int) (j.Ints.length:Int))::RR kT3 ez f1 (sub j.Ints (2:Int) (j.Ints.length:Int))::cl _ _ _::aN _ _ _::aN _ _ _::aI _ _ _::i) (fun w s=>((((s.d 2 R).d 4 R).d 2 R).e 8 [2,1,0,3,4,5,6,7])) ?_))))))))))))))))))
 refine lC 3 AF R (Z0r_ok fy) R ?_
 rintro ⟨⟨b3,gx,bm⟩,⟨b4,gy,bn⟩⟩
 refine lN (ow kT3 3 (.slice b3 gx bm) G.Dims::ow kT3 3 (.slice b4 gy bn) G.Data::_::_::_::_::_::i) ?_
 refine aL 0 aB ?_
 rintro rfl
 refine aL 1 aB ?_
 rintro rfl
 refine aC (aE (sL [6,2,1,0]) (d1 12 R (aK 6 R R bR R R R R R R (lN (_::_::_::_::_::_::aI l [(sc b3 G.Dims bm),(sc b4 G.Data bn)] 58::i) ?_))))
 refine aC (aE (sL [6,2,1,0]) (dD (aJ (bY (dB (cE ?_))))))
 obtain rfl:=so b
 exact dF (vs:=[(.agg [(sc b3 G.Dims bm),(sc b4 G.Data bn)].toArray)]) (.inl R) ((b3,G.Dims.length,bm),(b4,G.Data.length,bn)) R ⟨⟨6,l,_,_,R,R,.inl ⟨fF,bR,R⟩⟩,trivial⟩ R (fun w s=>(s.e 13 [0,1]))
 refine bP R ag (aO (aH (lO (ln R R) (lB R (aC (aJ ?_))))))
 rcases cR b with ⟨ah,b⟩|⟨ah,b⟩
 refine cG R ah (aO ?_)
 obtain ⟨O,b⟩:=gd b
 obtain ⟨c0,fz,b⟩:=bd b
 obtain ⟨an,b⟩:=gd b
 obtain ⟨dw,b⟩:=gd b
 obtain ⟨dx,b⟩:=gd b
 obtain ⟨f5,g0,b⟩:=bd b
 obtain ⟨I,g1,b⟩:=bd b
 refine aY 6 aA (show 0<g.length by have:=O; omega) (fun f3 o183 m=>?_)
 subst m
 refine dE (K:=dS) 6 (0:Int) dT58.dec R O.1 O.2 ?_
 rintro ⟨⟨cb,cy⟩,⟨cc,cz⟩⟩
 refine cN (cl f3 (o183+(0:Int).toNat*2) [(sc cb ((ix g (0:Int)).Dims) cy),(sc cc ((ix g (0:Int)).Data) cz)]::RR kT3 cb cy ((ix g (0:Int)).Dims)::RR kT3 cc cz ((ix g (0:Int)).Data)::aI l [(.slice none 0 0),(.slice none 0 0)] 58::i) ?_
 refine aY 7 aA (show 0<j.Ints.length by have:=an; omega) (fun io o192 m=>?_)
 subst m
 refine cZ 20 [3] bN (fun ht hn=>(dR 0 R (vS R) (hS:=(sL [3])) (dR 1 R (eI gC bR R R O) (hS:=(sL [3])) (dR 2 R (vz (.agg [(sc cb ((ix g (0:Int)).Dims) cy),(sc cc ((ix g (0:Int)).Data) cz)].toArray) (dY (fo:=0) 0 fF bR R R R R)) (hS:=(sL [3])) (dR 3 R (vS R) (hS:=(sL [3])) (dR 4 R (eI gC bR R R O) (hS:=(sL [3])) (dR 5 R (vz (.pointer (some ⟨f3,o183+(0:Int).toNat*2,none⟩)) (kW iP R R)) (hS:=(sL [3])) (dR 6 R (eG (fo:=0) 0 cT R R R) (hS:=(sL [3])) (dR 8 R (vS R) (hS:=(sL [3])) (dR 9 R (eI bM cC R R an) (hS:=(sL [3])) (dR 10 R (gI 6 fM aA R an) (hS:=(sL [3])) (dR 11 R (vS R) (hS:=(sL [3])) (dR 12 R (eI bM cC R R dw) (hS:=(sL [3])) (dR 13 R (gI 6 fM aA R dw) (hS:=(sL [3])) (dR 14 R (vS R) (hS:=(sL [3])) (dR 15 R (eI bM cC R R dx) (hS:=(sL [3])) (dR 16 R (gI 6 fM aA R dx) (hS:=(sL [3])) (d1 7 R (lM (_::_::_::_::_::i) (fun w s=>(s.d 1 R)) ?_)))))))))))))))))))
 refine lC 1 tU R (Zv_ok fz) R ?_
 rintro ⟨⟨g6,gz,gc⟩,⟨cf,h0,d0⟩⟩
 refine lN (aN kT3 (.slice g6 gz gc) c0.Dims::ow kT3 3 (.slice cf h0 d0) c0.Strides::_::_::_::_::i) ?_
 refine aL 0 aA ?_
 rintro rfl
 refine aL 1 aB ?_
 rintro rfl
 refine aC (aE (sL [5,1,0]) (d1 17 R (iM (fun w s=>s.shr 1 R) (lM (aN _ _ _::RR kT3 cf d0 c0.Strides::RR kT3 cf d0 c0.Strides::aN _ _ _::cl _ _ _::aN _ _ _::aN _ _ _::aI _ _ _::i) (fun w s=>(((s.d 1 R).d 1 R).f 8 [1,1,0,1,2,6])) ?_))))
 refine lC 2 AG R (Z0b_ok g0) R ?_
 rintro ⟨⟨g7,h1,ge⟩,⟨g8,h2,gf⟩⟩
 refine lN (aN kT3 (.slice g7 h1 ge) f5.Dims::aN kT3 (.slice g8 h2 gf) f5.Strides::_::_::_::_::_::_::i) ?_
 refine aL 0 aA ?_
 rintro rfl
 refine aL 1 aA ?_
 rintro rfl
 refine aC (aE (sL [7,3,2,1,0]) (d1 18 R (lM (aN _ _ _::aN _ _ _::aN _ _ _::aN _ _ _::aN _ _ _::aN _ _ _::aN _ _ _::aN _ _ _::cl _ _ _::aN _ _ _::aN _ _ _::aI _ _ _::i) (fun w s=>(((((s.d 5 R).d 7 R).d 2 R).d 4 R).f 12 [3,1,2,1,1,1,0,1,4,8])) ?_)))
 refine lC 4 tV R (Z00_ok g1) R ?_
 rintro ⟨⟨b5,h3,bp⟩,⟨b6,h4,bq⟩⟩
 refine lN (ow kT3 3 (.slice b5 h3 bp) I.Dims::ow kT3 3 (.slice b6 h4 bq) I.Data::_::_::_::_::_::_::_::_::i) ?_
 refine aL 0 aB ?_
 rintro rfl
 refine aL 1 aB ?_
 rintro rfl
 refine aC (aE (sL [9,5,4,3,2,1,0]) (d1 19 R (aK 9 R R bR R R R R R R (lN (_::_::_::_::_::_::_::_::_::aI l [(sc b5 I.Dims bp),(sc b6 I.Data bq)] 58::i) ?_))))
 refine aC (aE (sL [9,5,4,3,2,1,0]) (dD (aJ (bY (dB (cE ?_))))))
 obtain rfl:=so b
 exact dF (vs:=[(.agg [(sc b5 I.Dims bp),(sc b6 I.Data bq)].toArray)]) (.inl R) ((b5,I.Dims.length,bp),(b6,I.Data.length,bq)) R ⟨⟨9,l,_,_,R,R,.inl ⟨fF,bR,R⟩⟩,trivial⟩ R (fun w s=>(s.e 16 [0,1]))
 refine bP R ah (dL (eJ (aJ (aO ?_))))
 obtain ⟨Z,b⟩:=gd b
 obtain ⟨ao,b⟩:=gd b
 obtain ⟨dy,b⟩:=gd b
 obtain ⟨dz,b⟩:=gd b
 obtain ⟨J,g2,b⟩:=bd b
 refine aY 6 aA (show 0<g.length by have:=Z; omega) (fun hb o205 m=>?_)
 subst m
 refine dE (K:=dS) 6 (0:Int) dT58.dec R Z.1 Z.2 ?_
 rintro ⟨⟨ch,d3⟩,⟨ci,d4⟩⟩
 refine cN (cl hb (o205+(0:Int).toNat*2) [(sc ch ((ix g (0:Int)).Dims) d3),(sc ci ((ix g (0:Int)).Data) d4)]::RR kT3 ch d3 ((ix g (0:Int)).Dims)::RR kT3 ci d4 ((ix g (0:Int)).Data)::aI l [(.slice none 0 0),(.slice none 0 0)] 58::i) ?_
 refine aY 7 aA (show 0<j.Ints.length by have:=ao; omega) (fun ip o210 m=>?_)
 subst m
 refine cZ 14 [3] bN (fun ht hn=>(dR 0 R (vS R) (hS:=(sL [3])) (dR 1 R (eI gC bR R R Z) (hS:=(sL [3])) (dR 2 R (vz (.agg [(sc ch ((ix g (0:Int)).Dims) d3),(sc ci ((ix g (0:Int)).Data) d4)].toArray) (dY (fo:=0) 0 fF bR R R R R)) (hS:=(sL [3])) (dR 3 R (vS R) (hS:=(sL [3])) (dR 4 R (eI bM cC R R ao) (hS:=(sL [3])) (dR 5 R (gI 6 fM aA R ao) (hS:=(sL [3])) (dR 6 R (vS R) (hS:=(sL [3])) (dR 7 R (eI bM cC R R dy) (hS:=(sL [3])) (dR 8 R (gI 6 fM aA R dy) (hS:=(sL [3])) (dR 9 R (vS R) (hS:=(sL [3])) (dR 10 R (eI bM cC R R dz) (hS:=(sL [3])) (dR 11 R (gI 6 fM aA R dz) (hS:=(sL [3])) (d1 12 R (lM (aN _ _ _::aN _ _ _::cl _ _ _::aN _ _ _::aN _ _ _::aI _ _ _::i) (fun w s=>(((s.d 1 R).d 3 R).e 6 [1,0,2,3,4,5])) ?_)))))))))))))))
 refine lC 2 AH R (Z0o_ok g2) R ?_
 rintro ⟨⟨b7,h5,br⟩,⟨ba,h6,bs⟩⟩
 refine lN (ow kT3 3 (.slice b7 h5 br) J.Dims::ow kT3 3 (.slice ba h6 bs) J.Data::_::_::_::_::i) ?_
 refine aL 0 aB ?_
 rintro rfl
 refine aL 1 aB ?_
 rintro rfl
 refine aC (aE (sL [5,1,0]) (d1 13 R (aK 5 R R bR R R R R R R (lN (_::_::_::_::_::aI l [(sc b7 J.Dims br),(sc ba J.Data bs)] 58::i) ?_))))
 refine aC (aE (sL [5,1,0]) (dD (aJ (bY ?_))))
 obtain rfl:=so b
 exact dF (vs:=[(.agg [(sc b7 J.Dims br),(sc ba J.Data bs)].toArray)]) (.inl R) ((b7,J.Dims.length,br),(ba,J.Data.length,bs)) R ⟨⟨5,l,_,_,R,R,.inl ⟨fF,bR,R⟩⟩,trivial⟩ R (fun w s=>(s.e 12 [0,1]))
theorem Z0n_ok  {i:(List Int)}{M:Int}{r:Tensor}(b:Z0n i M=some r) :
 FnOk Tryz.prog 54 [(.slice A2 N2 D2),(iv M)] [aN kT3 (.slice A2 N2 D2) i] (fun (h:HH×HH)=>((.agg [(s3 h.1),(s3 h.2)].toArray),[ow kT3 3 (s3 h.1) r.Dims,ow kT3 3 (s3 h.2) r.Data])):=by
 unfold Z0n at b
 refine aQ Tryz.func54 R 27 R R fun C V=>?_
 refine cL 0 aA ?_
 rintro rfl
 let m:=RR kT3 A2 D2 i::V
 refine cN m ?_
 refine aR ?_
 refine bD R R dM (fun q=>(aC (aJ (aO (aO ?_)))))
 obtain ⟨r5,G,b⟩:=bd b
 refine aR ?_
 refine lM _ (fun w s=>(s.d 1 R)) ?_
 refine lC 1 jW R (Zn_ok G) R ?_
 rintro _
 refine aP ?_
 split at b
 refine aP ?_
 refine lO (vz (.agg [(.slice none 0 0),(.slice none 0 0)].toArray) (aW gM dM R R)) (aK 0 R R bR R R R R R R (aC (aJ (bY (cE ?_)))))
 cases b
 exact qS ((none,0,0),(none,0,0)) (fun w s=>(((s.nilo kT3 3).nilo kT3 3).e 4 [1,0]))
 refine bF ?_
 obtain ⟨g,J,b⟩:=bd b
 refine aR ?_
 refine lM _ (fun w s=>(s.d 1 R)) ?_
 refine lC 1 ng R (Z0g_ok J) R ?_
 rintro ⟨⟨A10,N10,D10⟩,⟨A11,N11,D11⟩⟩
 refine aL 0 aB ?_
 rintro rfl
 refine aL 1 aB ?_
 rintro rfl
 refine bD R R dM (fun j=>(aK 0 R R bR R R R R R R (lN (aI j [(sc A10 g.Dims D10),(sc A11 g.Data D11)] 58::_::_::_::m) ?_)))
 refine aP ?_
 refine bA (A:=((List Int))×(Unit)) (fun a=>Z0n_J1 g a.1=some r) (fun a=>[(4,(pt q 0)),(5,(pt j 0))]) (fun a=>aI q [(.slice none 0 0),(.slice none 0 0)] 58::aI j [(sc A10 g.Dims D10),(sc A11 g.Data D11)] 58::OO kT3 3 A10 D10 g.Dims::ow kT3 3 (.slice A11 g.Data.length D11) a.1::m) ?_ ?_
 refine bT ?_
 obtain ⟨e1,F,E⟩:=bd b
 refine bC (A:=Unit) F (fun s a=>[(1,(iv M)),(4,(pt q 0)),(5,(pt j 0)),(6,(iv s.2))]) (fun s a=>aI q [(.slice none 0 0),(.slice none 0 0)] 58::aI j [(sc A10 g.Dims D10),(sc A11 g.Data D11)] 58::OO kT3 3 A10 D10 g.Dims::ow kT3 3 (.slice A11 g.Data.length D11) s.1::m) () (aS R) (tE 4 [3,0,1,2]) ?_
 rintro ⟨O,L⟩ _ σ1 U b D
 dsimp only [Z0n_L1] at b
 refine cW ?_
 split at b
 refine cB ?_
 obtain ⟨B,u,b⟩:=bd b
 obtain ⟨l,b⟩:=gd b
 refine aY 3 aB (show 0<g.Data.length by have:=l; omega) (fun Y o26 Z=>?_)
 subst Z
 refine cZ 7 [3] bN fun ht hn=>?_
 refine nV 0 [3] ?_
 refine d1 4 R (lC 0 lq R (Zp_ok u) R ?_)
 rintro _
 refine aC (aE (sL [3]) ?_)
 refine mA 5 [3] ?_
 refine d1 6 R (lM _ (tE 4 [3,0,1,2]) ?_)
 refine dZ (K:=kT3) (x':=B) 0 L R R cC R R l.1 l.2 ?_ ?_
 exact fun I h s=>(gL).put I h () B s
 refine aC (aE (sL [0]) (dD ?_))
 refine dJ ?_
 cases b
 exact qA () (tE 4 [1,2,3,0])
 refine aP ?_
 cases b
 obtain rfl:=D _ R
 have b:=E
 refine aR ?_
 exact qI (O,()) b tI
 rintro ⟨T,_⟩ σ1 b
 dsimp only [Z0n_J1] at b
 refine aP ?_
 refine aK 0 R R bR R R R R R R (lN (aI q [(sc A10 g.Dims D10),(sc A11 g.Data D11)] 58::aI j [(sc A10 g.Dims D10),(sc A11 g.Data D11)] 58::_::ow kT3 3 (.slice A11 g.Data.length D11) T::m) ?_)
 refine aP ?_
 cases b
 exact qS ((A10,g.Dims.length,D10),(A11,g.Data.length,D11)) (tE 5 [2,3])
theorem Z9_ok  {g1:Graph}{g:(List Tensor)}{l:Bool}{r:(List Tensor)×Bool}(j:Z9 g1 g l=some r) :
 FnOk Tryz.prog 34 [(.agg [(.slice A2 N2 D2),(.slice A3 N3 D3)].toArray),(.slice A5 N5 D5),(.bool l)] [aN dU (.slice A2 N2 D2) g1.Nodes,aN kT3 (.slice A3 N3 D3) g1.Outs,aN dS (.slice A5 N5 D5) g] (fun (h:HH)=>((.tuple [(s3 h),(.bool r.2)].toArray),[ow (dS).share 58 (s3 h) r.1])):=by
 unfold Z9 at j
 refine aQ Tryz.func34 R 143 R R fun C V=>?_
 refine cL 0 aA ?_
 rintro rfl
 refine cL 1 aA ?_
 rintro rfl
 refine cL 2 aA ?_
 rintro rfl
 let W0:=RR dU A2 D2 g1.Nodes::RR kT3 A3 D3 g1.Outs::RR dS A5 D5 g::V
 refine cN W0 ?_
 refine aR ?_
 refine eA R fun b7=>?_
 refine aP ?_
 let W1:=aI b7 [(sc A2 g1.Nodes D2),(sc A3 g1.Outs D3)] 30::W0
 refine qN W1 ?_
 refine aP ?_
 refine bQ (K:=dS) (xs:=([]:List Tensor)) (vs:=[]) 0 R R gC bR dM R R R R R R ?_ R (fun A8 D8=>?_)
 exact fun I h s=>(vY).list [] I h s
 refine cB ?_
 refine cQ [(1,(sc A5 g D5)),(2,(.bool l)),(3,(pt b7 0)),(8,(sc A8 ([]:List Tensor) D8)),(25,(.bool ((decide ((g1.Nodes.length:Int)>200))||(decide ((g1.Outs.length:Int)>40)))))] (OO dS 58 A8 D8 ([]:List Tensor)::W1) ?_ ?_
 refine bT ?_
 rcases bo (decide ((g1.Nodes.length:Int)>200)) with co | co
 refine bT ?_
 exact qj tI
 refine bT ?_
 exact qj tI
 rintro σ1
 refine bU ?_
 split at j
 refine cW ?_
 cases j
 exact jl (A8,([]:List Tensor).length,D8) (fun w s=>((s.wk 0 R).e 5 [0]))
 refine cO ?_
 refine bA (A:=((List Tensor)×Int)×(HH)) (fun a=>Z9_J5 g1 g l a.1.1 a.1.2=some r) (fun a=>[(1,(sc A5 g D5)),(2,(.bool l)),(3,(pt b7 0)),(8,(s3 a.2)),(9,(iv a.1.2))]) (fun a=>ow (dS).share 58 (s3 a.2) a.1.1::W1) ?_ ?_
 refine bT ?_
 obtain ⟨e1,cr,ax⟩:=bd j
 refine bC (A:=HH) cr (fun s a=>[(1,(sc A5 g D5)),(2,(.bool l)),(3,(pt b7 0)),(8,(s3 a)),(9,(iv s.2.1)),(10,(iv s.2.2))]) (fun s a=>ow (dS).share 58 (s3 a) s.1::W1) (A8,([]:List Tensor).length,D8) (aS R) (fun w s=>(s.wk 0 R)) ?_
 rintro ⟨i,q,b⟩ ⟨u,cb,D⟩ σ1 bl j aw
 dsimp only [Z9_L1] at j
 refine bJ 0 eV (fun (hn:cb=i.length)=>?_)
 subst hn
 refine cW ?_
 split at j
 refine bT ?_
 obtain ⟨a9,j⟩:=gd j
 refine bF ?_
 refine bB 2 aA (show 0<g1.Nodes.length by have:=a9; omega) (fun d8 o110 ha=>?_)
 subst ha
 refine bU ?_
 refine gB (K:=dU) 2 b dT54.dec R a9.1 a9.2 ?_
 rintro ⟨-,⟨E,F⟩,⟨G,M⟩,⟨J,O⟩,-,⟨L,T⟩⟩
 refine lO (vz (.agg [(iv (ix g1.Nodes b).Op),(sc E ((ix g1.Nodes b).Args) F),(sc G ((ix g1.Nodes b).Dims) M),(sc J ((ix g1.Nodes b).Ints) O),(aD (ix g1.Nodes b).Form),(sc L ((ix g1.Nodes b).Data) T)].toArray) (dY (fo:=0) 0 o0 jV R R R R)) (bD R R qp (fun Y=>(aK 0 R R jV R R R R R R (lN (aI Y [(iv (ix g1.Nodes b).Op),(sc E ((ix g1.Nodes b).Args) F),(sc G ((ix g1.Nodes b).Dims) M),(sc J ((ix g1.Nodes b).Ints) O),(aD (ix g1.Nodes b).Form),(sc L ((ix g1.Nodes b).Data) T)] 54::_::_::_::_::_::_::W1) ?_))))
 refine bF ?_
 obtain ⟨bm,bz,j⟩:=bd j
 obtain ⟨ck,c0,j⟩:=bd j
 refine cQ [(1,(sc A5 g D5)),(2,(.bool l)),(3,(pt b7 0)),(8,(sc u i D)),(9,(iv q)),(10,(iv b)),(11,(pt Y 0)),(48,(.bool ((!bm)||(!ck))))] (OO (dS).share 58 u D i::aI Y [(iv (ix g1.Nodes b).Op),(sc E ((ix g1.Nodes b).Args) F),(sc G ((ix g1.Nodes b).Dims) M),(sc J ((ix g1.Nodes b).Ints) O),(aD (ix g1.Nodes b).Form),(sc L ((ix g1.Nodes b).Data) T)] 54::RR kT3 E F ((ix g1.Nodes b).Args)::RR kT3 G M ((ix g1.Nodes b).Dims)::RR kT3 J O ((ix g1.Nodes b).Ints)::RR kT3 L T ((ix g1.Nodes b).Data)::W1) ?_ ?_
 refine aR ?_
 refine lM _ (fun w s=>(((((s.d 2 R).d 4 R).d 6 R).d 8 R).f 11 [3,1,2,1,1,1,0,1,4,7])) ?_
 refine lC 4 Av R (Z15_ok bz) R ?_
 rintro _
 refine aR ?_
 rcases bo (!bm) with a8 | a8
 refine dJ ?_
 exact qj (tE 7 [6,0,2,3,4,5])
 refine aP ?_
 refine lM _ (fun w s=>(s.d 2 R)) ?_
 refine bS 1 R (bZ a8) tS R (Z0i_ok (bG c0 (cK a8))) R ?_
 rintro _
 refine aP ?_
 exact qj (tE 7 [6,0,2,3,4,5])
 rintro σ1
 refine bU ?_
 split at j
 refine iC ?_
 cases j
 obtain rfl:=aw _ R
 have j:=ax
 refine aP ?_
 cases j
 exact jl (u,i.length,D) (tE 10 [0])
 refine cB ?_
 refine bQ (K:=dS) (xs:=([]:List Tensor)) (vs:=[]) 0 R R gC bR dM R R R R R R ?_ R (fun c7 c9=>?_)
 exact fun I h s=>(vY).list [] I h s
 refine bF ?_
 refine bA (A:=((List Tensor))×(HH)) (fun a=>Z9_J3 g1 g l i q b a.1=some bl) (fun a=>[(1,(sc A5 g D5)),(2,(.bool l)),(3,(pt b7 0)),(8,(sc u i D)),(9,(iv q)),(10,(iv b)),(11,(pt Y 0)),(12,(s3 a.2))]) (fun a=>OO (dS).share 58 u D i::aI Y [(iv (ix g1.Nodes b).Op),(sc E ((ix g1.Nodes b).Args) F),(sc G ((ix g1.Nodes b).Dims) M),(sc J ((ix g1.Nodes b).Ints) O),(aD (ix g1.Nodes b).Form),(sc L ((ix g1.Nodes b).Data) T)] 54::RR kT3 E F ((ix g1.Nodes b).Args)::RR kT3 G M ((ix g1.Nodes b).Dims)::RR kT3 J O ((ix g1.Nodes b).Ints)::RR kT3 L T ((ix g1.Nodes b).Data)::ow (dS).share 58 (s3 a.2) a.1::W1) ?_ ?_
 refine bT ?_
 obtain ⟨e2,cs,cq⟩:=bd j
 refine bC (A:=HH) cs (fun s a=>[(1,(sc A5 g D5)),(2,(.bool l)),(3,(pt b7 0)),(8,(sc u i D)),(9,(iv q)),(10,(iv b)),(11,(pt Y 0)),(12,(s3 a)),(13,(iv s.2))]) (fun s a=>OO (dS).share 58 u D i::aI Y [(iv (ix g1.Nodes b).Op),(sc E ((ix g1.Nodes b).Args) F),(sc G ((ix g1.Nodes b).Dims) M),(sc J ((ix g1.Nodes b).Ints) O),(aD (ix g1.Nodes b).Form),(sc L ((ix g1.Nodes b).Data) T)] 54::RR kT3 E F ((ix g1.Nodes b).Args)::RR kT3 G M ((ix g1.Nodes b).Dims)::RR kT3 J O ((ix g1.Nodes b).Ints)::RR kT3 L T ((ix g1.Nodes b).Data)::ow (dS).share 58 (s3 a) s.1::W1) (c7,([]:List Tensor).length,c9) (aS R) (fun w s=>((s.wk 0 R).f 7 [1,6,0,1])) ?_
 rintro ⟨a6,a0⟩ ⟨c8,cc,ca⟩ σ1 db j cp
 dsimp only [Z9_L2] at j
 refine bJ 6 eV (fun (hn:cc=a6.length)=>?_)
 subst hn
 refine cW ?_
 split at j
 refine cB ?_
 obtain ⟨bs,j⟩:=gd j
 obtain ⟨aa,j⟩:=gd j
 obtain ⟨bu,j⟩:=gd j
 refine bT ?_
 refine bB 2 aA (show 0<((ix g1.Nodes b).Args).length by have:=bs; omega) (fun d9 o141 ha=>?_)
 subst ha
 refine aR ?_
 refine bB 0 eV (show 0<i.length by have:=aa; omega) (fun da o144 ha=>?_)
 subst ha
 refine bU ?_
 refine xG (K:=(dS).share) 0 (ix ((ix g1.Nodes b).Args) a0) R R fF bR dT58.own R R aa.1 aa.2 ?_
 rintro ⟨⟨ay,b9⟩,⟨az,ba⟩⟩
 refine lM _ (fun w s=>(((s.d 0 R).d 2 R).f 11 [1,1,0,1,2,9])) ?_
 refine bQ (K:=(dS).share) (xs:=([(ix i (ix ((ix g1.Nodes b).Args) a0))]:List Tensor)) (vs:=[(.agg [(sc ay ((ix i (ix ((ix g1.Nodes b).Args) a0)).Dims) b9),(sc az ((ix i (ix ((ix g1.Nodes b).Args) a0)).Data) ba)].toArray)]) 2 R R gC bR dM R R R R R R ?_ R (fun ct cx=>?_)
 exact fun I h s=>(xV).list [(((sc ay ((ix i (ix ((ix g1.Nodes b).Args) a0)).Dims) b9),(sc az ((ix i (ix ((ix g1.Nodes b).Args) a0)).Data) ba)),(ix i (ix ((ix g1.Nodes b).Args) a0)))] I h s
 refine lM _ (fun w s=>(s.f 10 [9,1,0,9])) ?_
 refine eF (K:=(dS).share) 2932031007402 R R gC bR y0 (Zr.zk (Zr.share xW) dM) R R R R R R dP bu (fun b0 bb=>(lN (OO (dS).share 58 b0 bb (a6++([(ix i (ix ((ix g1.Nodes b).Args) a0))]:List Tensor))::_::_::_::_::_::_::_::_::W1) ?_))
 refine cO ?_
 cases j
 exact qA (b0,(a6++([(ix i (ix ((ix g1.Nodes b).Args) a0))]:List Tensor)).length,bb) (fun w s=>(s.f 9 [3,6,0,1]))
 refine aP ?_
 cases j
 obtain rfl:=cp _ R
 have j:=cq
 refine aR ?_
 exact qI (a6,(c8,a6.length,ca)) j tI
 rintro ⟨a7,⟨ac,cf,ae⟩⟩ σ1 j
 dsimp only [Z9_J3] at j
 refine bJ 6 eV (fun (hn:cf=a7.length)=>?_)
 subst hn
 refine aR ?_
 refine lO (vz (.agg [(.slice none 0 0),(.slice none 0 0)].toArray) (aW gM dM R R)) (bD R R dM (fun a1=>(aK 0 R R bR R R R R R R (lN (_::OO (dS).share 58 u D i::aI Y [(iv (ix g1.Nodes b).Op),(sc E ((ix g1.Nodes b).Args) F),(sc G ((ix g1.Nodes b).Dims) M),(sc J ((ix g1.Nodes b).Ints) O),(aD (ix g1.Nodes b).Form),(sc L ((ix g1.Nodes b).Data) T)] 54::RR kT3 E F ((ix g1.Nodes b).Args)::_::_::_::OO (dS).share 58 ac ae a7::W1) ?_))))
 refine aP ?_
 refine bA (A:=(Int×(List Int)×(List Int))×(HH×HH)) (fun a=>Z9_J4 i b a.1.1 a.1.2.1 a.1.2.2=some bl) (fun a=>[(1,(sc A5 g D5)),(2,(.bool l)),(3,(pt b7 0)),(8,(sc u i D)),(9,(iv a.1.1)),(10,(iv b)),(14,(pt a1 0))]) (fun a=>OO (dS).share 58 u D i::aI a1 [(s3 a.2.1),(s3 a.2.2)] 58::ow kT3 3 (s3 a.2.1) a.1.2.1::ow kT3 3 (s3 a.2.2) a.1.2.2::W1) ?_ ?_
 refine cO ?_
 split at j
 refine bU ?_
 obtain ⟨a4,c1,j⟩:=bd j
 refine aP ?_
 refine lM _ (fun w s=>(((((s.d 3 R).d 5 R).d 7 R).d 9 R).e 12 [11,3,2,1,0,4,5,6,7,8,9,10])) ?_
 refine lC 5 AI R (FnOk.lends (A':=[OO (dS).share 58 ac ae a7]) (A:=[RR dS ac ae a7]) (B:=[RR kT3 E F ((ix g1.Nodes b).Args),RR kT3 G M ((ix g1.Nodes b).Dims),RR kT3 J O ((ix g1.Nodes b).Ints),RR kT3 L T ((ix g1.Nodes b).Data)]) (FnOk.perm (Z1_ok c1) (Pre':=[RR dS ac ae a7,RR kT3 E F ((ix g1.Nodes b).Args),RR kT3 G M ((ix g1.Nodes b).Dims),RR kT3 J O ((ix g1.Nodes b).Ints),RR kT3 L T ((ix g1.Nodes b).Data)]) (fun _ _ _ s=>(s.f 5 [1,4,0,1]))) ⟨pE,trivial⟩ (fun _=>⟨(bK j0),(bK j0),trivial⟩)) R ?_
 rintro ⟨⟨b1,d2,bc⟩,⟨b2,d3,be⟩⟩
 refine aL 1 aB ?_
 rintro rfl
 refine aL 2 aB ?_
 rintro rfl
 refine aK 3 R R bR R R R R R R (lN (_::_::_::aI a1 [(sc b1 a4.Dims bc),(sc b2 a4.Data be)] 58::_::_::_::_::_::_::W1) ?_)
 refine aR ?_
 exact qI ((q,a4.Dims,a4.Data),((b1,a4.Dims.length,bc),(b2,a4.Data.length,be))) j (tE 10 [4,3,1,2])
 refine dJ ?_
 split at j
 refine bU ?_
 obtain ⟨a5,c2,j⟩:=bd j
 refine aP ?_
 refine lM _ (fun w s=>(s.d 4 R)) ?_
 refine lC 1 AJ R (Z0n_ok c2) R ?_
 rintro ⟨⟨b3,d4,bf⟩,⟨b4,d5,bg⟩⟩
 refine aL 0 aB ?_
 rintro rfl
 refine aL 1 aB ?_
 rintro rfl
 refine aK 2 R R bR R R R R R R (lN (_::_::aI a1 [(sc b3 a5.Dims bf),(sc b4 a5.Data bg)] 58::_::_::_::_::_::_::_::W1) ?_)
 refine aR ?_
 exact qI ((q,a5.Dims,a5.Data),((b3,a5.Dims.length,bf),(b4,a5.Data.length,bg))) j (tE 10 [3,2,0,1])
 refine aP ?_
 obtain ⟨U,j⟩:=gd j
 obtain ⟨bn,av,j⟩:=bd j
 obtain ⟨bv,j⟩:=gd j
 obtain ⟨cm,c3,j⟩:=bd j
 refine cQ [(1,(sc A5 g D5)),(2,(.bool l)),(3,(pt b7 0)),(8,(sc u i D)),(9,(iv q)),(10,(iv b)),(11,(pt Y 0)),(14,(pt a1 0)),(92,(.bool (((decide (q≥(g.length:Int)))||(!bn))||(!cm))))] (OO (dS).share 58 u D i::aI Y [(iv (ix g1.Nodes b).Op),(sc E ((ix g1.Nodes b).Args) F),(sc G ((ix g1.Nodes b).Dims) M),(sc J ((ix g1.Nodes b).Ints) O),(aD (ix g1.Nodes b).Form),(sc L ((ix g1.Nodes b).Data) T)] 54::RR kT3 E F ((ix g1.Nodes b).Args)::RR kT3 G M ((ix g1.Nodes b).Dims)::RR kT3 J O ((ix g1.Nodes b).Ints)::RR kT3 L T ((ix g1.Nodes b).Data)::aI a1 [(.slice none 0 0),(.slice none 0 0)] 58::W1) ?_ ?_
 rcases bo (decide (q≥(g.length:Int))) with m | m
 refine cZ 23 [] bN fun ht hn=>?_
 refine Ag 0 [] ?_
 refine dD ?_
 exact qj (fun w s=>(s.f 8 [1,6,0,1]))
 rcases bo ((decide (q≥(g.length:Int)))||(!bn)) with Z | Z
 refine aY 11 aA (show 0<g.length by have:=(U m); omega) (fun bk o168 ha=>?_)
 subst ha
 refine dE (K:=dS) 11 q dT58.dec R (U m).1 (U m).2 ?_
 rintro ⟨⟨aj,ao⟩,⟨ak,ap⟩⟩
 refine cZ 23 [] bN fun ht hn=>?_
 refine qX 0 [] ?_
 refine dW 7 R (bZ m) (eI gC bR R R (U m)) (dW 8 R (bZ m) (vz (.agg [(sc aj ((ix g q).Dims) ao),(sc ak ((ix g q).Data) ap)].toArray) (dY (fo:=0) 0 fF bR R R R R)) (d1 9 R (lM _ (fun w s=>(((s.d 1 R).d 3 R).f 13 [1,1,0,1,2,11])) ?_)))
 refine bS 2 R (bZ m) nf R (Zq_ok (bG av (cK m))) R ?_
 rintro _
 refine aC (aE (sL []) ?_)
 refine md 10 [] ?_
 refine dD ?_
 exact qj (fun w s=>(s.f 11 [4,6,3,1]))
 refine aY 11 aA (show 0<g.length by have:=(U m); omega) (fun bk o168 ha=>?_)
 subst ha
 refine dE (K:=dS) 11 q dT58.dec R (U m).1 (U m).2 ?_
 rintro ⟨⟨aj,ao⟩,⟨ak,ap⟩⟩
 refine cZ 23 [] bN fun ht hn=>?_
 refine qX 0 [] ?_
 refine dW 7 R (bZ m) (eI gC bR R R (U m)) (dW 8 R (bZ m) (vz (.agg [(sc aj ((ix g q).Dims) ao),(sc ak ((ix g q).Data) ap)].toArray) (dY (fo:=0) 0 fF bR R R R R)) (d1 9 R (lM _ (fun w s=>(((s.d 1 R).d 3 R).f 13 [1,1,0,1,2,11])) ?_)))
 refine bS 2 R (bZ m) nf R (Zq_ok (bG av (cK m))) R ?_
 rintro _
 refine aC (aE (sL []) ?_)
 refine kb 10 [] ?_
 refine dW 15 R (bZ Z) (eI gC bR R R (bv Z)) (dW 16 R (bZ Z) (vz (.pointer (some ⟨bk,o168+q.toNat*2,none⟩)) (kW iP R R)) (dW 17 R (bZ Z) (eG (fo:=0) 0 cT R R R) ?_))
 refine gN 18 [] ?_
 refine d1 20 R (lM _ (fun w s=>(((s.d 1 R).d 8 R).f 13 [1,1,0,1,2,11])) ?_)
 refine bS 2 R (bZ Z) wh R (Zz_ok (bG c3 (cK Z))) R ?_
 rintro _
 refine aC (aE (sL []) ?_)
 refine gN 21 [] ?_
 refine dD ?_
 exact qj (fun w s=>(s.f 11 [4,6,3,1]))
 rintro σ1
 refine bU ?_
 split at j
 refine nd ?_
 cases j
 obtain rfl:=aw _ R
 have j:=ax
 refine aP ?_
 cases j
 exact jl (u,i.length,D) (tE 11 [0])
 refine bF ?_
 obtain ⟨ag,c4,j⟩:=bd j
 obtain ⟨ab,j⟩:=gd j
 obtain ⟨ah,c5,j⟩:=bd j
 refine aY 10 aA (show 0<g.length by have:=ab; omega) (fun cj o184 ha=>?_)
 subst ha
 refine dE (K:=dS) 10 q dT58.dec R ab.1 ab.2 ?_
 rintro ⟨⟨cu,cy⟩,⟨cv,cz⟩⟩
 refine cZ 11 [9] bN fun ht hn=>?_
 refine gN 0 [9] ?_
 refine hO 3 [9] ?_
 refine dR 6 R (vz (.pointer (some ⟨cj,o184+q.toNat*2+1,none⟩)) (kW rV R R)) (hS:=(sL [9])) (dR 7 R (eG (fo:=1) 0 cT R R R) (hS:=(sL [9])) (d1 2 R (lM _ (fun w s=>(s.d 6 R)) ?_)))
 refine lC 1 jF R (Zt_ok c4) R ?_
 rintro ⟨al,d6,aq⟩
 refine aL 0 aB ?_
 rintro rfl
 refine aC (aE (sL [10,0]) (d1 8 R (lM _ (fun w s=>(s.d 3 R)) ?_)))
 refine lC 1 jF R (Zt_ok c5) R ?_
 rintro ⟨am,d7,ar⟩
 refine aL 0 aB ?_
 rintro rfl
 refine aC (aE (sL [11,1,0]) (dR 9 R (vz (.agg [(sc al ag aq),(sc am ah ar)].toArray) (aW gM dM R R)) (hS:=(sL [11,1,0])) (d1 10 R (aK 11 R R bR R R R R R R (lN (_::_::_::_::_::_::_::_::_::_::_::aI a1 [(sc al ag aq),(sc am ah ar)] 58::W1) ?_)))))
 refine aC (aE (sL [11,1,0]) (dD ?_))
 refine dJ ?_
 exact qI (((aG (q+1)),ag,ah),((al,ag.length,aq),(am,ah.length,ar))) j (tE 12 [5,11,1,0])
 rintro ⟨⟨dc,a2,a3⟩,⟨⟨b5,cg,bh⟩,⟨b6,ch,bi⟩⟩⟩ σ1 j
 dsimp only [Z9_J4] at j
 refine bJ 2 aB (fun (hn:cg=a2.length)=>?_)
 subst hn
 refine bJ 3 aB (fun (hn:ch=a3.length)=>?_)
 subst hn
 refine cO ?_
 split at j
 refine iC ?_
 cases j
 obtain rfl:=aw _ R
 have j:=ax
 refine aP ?_
 cases j
 exact jl (u,i.length,D) (tE 8 [0])
 refine aP ?_
 obtain ⟨bw,j⟩:=gd j
 refine aP ?_
 refine lM _ (fun w s=>(((((s.shr 2 R).d 0 R).shr 4 R).d 0 R).e 6 [2,0,1,3,4,5])) ?_
 refine bQ (K:=(dS).share) (xs:=([(⟨a2,a3⟩:Tensor)]:List Tensor)) (vs:=[(.agg [(sc b5 a2 bh),(sc b6 a3 bi)].toArray)]) 2 R R gC bR dM R R R R R R ?_ R (fun cw d0=>?_)
 exact fun I h s=>(xV).list [(((sc b5 a2 bh),(sc b6 a3 bi)),(⟨a2,a3⟩:Tensor))] I h s
 refine lM _ (tE 5 [3,0,1,2,4]) ?_
 refine eF (K:=(dS).share) 2932031007402 R R gC bR y0 (Zr.zk (Zr.share xW) dM) R R R R R R dP bw (fun b8 bj=>(lN (OO (dS).share 58 b8 bj (i++([(⟨a2,a3⟩:Tensor)]:List Tensor))::_::_::_::W1) ?_))
 refine cO ?_
 cases j
 exact qA (b8,(i++([(⟨a2,a3⟩:Tensor)]:List Tensor)).length,bj) (tE 4 [0])
 refine aP ?_
 cases j
 obtain rfl:=aw _ R
 have j:=ax
 refine aR ?_
 exact qI ((i,q),(u,i.length,D)) j tI
 rintro ⟨⟨ai,cn⟩,⟨an,ci,au⟩⟩ σ1 j
 dsimp only [Z9_J5] at j
 refine bJ 0 eV (fun (hn:ci=ai.length)=>?_)
 subst hn
 refine bU ?_
 obtain ⟨bp,c6,j⟩:=bd j
 refine cQ [(6,(sc an ai au)),(7,(.bool (bp&&(l||(cn==(g.length:Int))))))] (OO (dS).share 58 an au ai::W1) ?_ ?_
 refine dJ ?_
 refine lM _ (fun w s=>(s.d 3 R)) ?_
 refine lC 1 tS R (Z0i_ok c6) R ?_
 rintro _
 refine bU ?_
 rcases bo bp with bq | bq
 refine aR ?_
 rcases bo l with br | br
 refine cO ?_
 exact qj tI
 refine cO ?_
 exact qj tI
 refine hW ?_
 exact qj tI
 rintro σ1
 refine aR ?_
 cases j
 exact jl (an,ai.length,au) (tE 5 [0])
theorem Z2x_ok  {g1:Graph}{r:Bool}(a:Z2x g1=some r) :
 FnOk Tryz.prog 10 [(.agg [(.slice A2 N2 D2),(.slice A3 N3 D3)].toArray)] [aN dU (.slice A2 N2 D2) g1.Nodes,aN kT3 (.slice A3 N3 D3) g1.Outs] (fun (h:Unit)=>((.bool r),[])):=by
 unfold Z2x at a
 refine aQ Tryz.func10 R 12 R R fun C V=>?_
 refine cL 0 aA ?_
 rintro rfl
 refine cL 1 aA ?_
 rintro rfl
 let g:=RR dU A2 D2 g1.Nodes::RR kT3 A3 D3 g1.Outs::V
 refine cN g ?_
 refine aR ?_
 refine eA R fun j=>?_
 refine aR ?_
 let i:=aI j [(sc A2 g1.Nodes D2),(sc A3 g1.Outs D3)] 30::g
 refine qN i ?_
 refine aR ?_
 obtain ⟨l,b,a⟩:=bd a
 refine aR ?_
 refine bQ (K:=dS) (xs:=([]:List Tensor)) (vs:=[]) 0 R R gC bR dM R R R R R R ?_ R (fun A5 D5=>?_)
 exact fun I h s=>(vY).list [] I h s
 refine iM (fun w s=>s.shr 0 R) (lM _ (fun w s=>((((s.d 2 R).d 4 R).d 2 R).e 4 [2,1,0,3])) ?_)
 refine lC 3 AK R (Z9_ok b) R ?_
 rintro ⟨A8,N8,D8⟩
 refine aL 0 eV ?_
 rintro rfl
 refine lO (vT R) ?_
 refine ka ?_
 cases a
 exact qF () (tE 5 [])
theorem Z0a_ok  {b:(List Int)}{q:Int}{r:Int}(e:Z0a b q=some r) :
 FnOk Tryz.prog 66 [(.slice A2 N2 D2),(iv q)] [aN kT3 (.slice A2 N2 D2) b] (fun (h:Unit)=>((iv r),[])):=by
 unfold Z0a at e
 refine aQ Tryz.func66 R 22 R R fun C V=>?_
 refine cL 0 aA ?_
 rintro rfl
 let m:=RR kT3 A2 D2 b::V
 refine cN m ?_
 refine hW ?_
 refine bA (A:=(Int)×(Unit)) (fun a=>Z0a_J3 a.1=some r) (fun a=>[(5,(iv a.1))]) (fun a=>m) ?_ ?_
 refine bT ?_
 obtain ⟨J,D,B⟩:=bd e
 refine bC (A:=Unit) D (fun s a=>[(0,(sc A2 b D2)),(1,(iv q)),(5,(iv s.1)),(6,(iv s.2))]) (fun s a=>m) () (aS R) tI ?_
 rintro ⟨g,j⟩ _ σ1 l e u
 dsimp only [Z0a_L1] at e
 refine cO ?_
 split at e
 refine bF ?_
 refine bA (A:=(Int)×(Unit)) (fun a=>Z0a_J2 j a.1=some l) (fun a=>[(0,(sc A2 b D2)),(1,(iv q)),(5,(iv a.1)),(6,(iv j))]) (fun a=>m) ?_ ?_
 refine aR ?_
 obtain ⟨i,e⟩:=gd e
 refine aP ?_
 refine bB 0 aA (show 0<b.length by have:=i; omega) (fun E o15 F=>?_)
 subst F
 refine bT ?_
 split at e
 refine dJ ?_
 exact qI ((aG (g+1)),()) e tI
 refine aP ?_
 exact qI (g,()) e tI
 rintro ⟨G,_⟩ σ1 e
 dsimp only [Z0a_J2] at e
 refine cB ?_
 cases e
 exact qA () tI
 refine aP ?_
 cases e
 obtain rfl:=u _ R
 have e:=B
 refine aR ?_
 exact qI (g,()) e tI
 rintro ⟨I,_⟩ σ1 e
 dsimp only [Z0a_J3] at e
 refine dJ ?_
 cases e
 exact qF () (tE 1 [])
theorem Z11_ok  {b:(List Int)}{q:Int}{r:Bool}(e:Z11 b q=some r) :
 FnOk Tryz.prog 67 [(.slice A2 N2 D2),(iv q)] [aN kT3 (.slice A2 N2 D2) b] (fun (h:Unit)=>((.bool r),[])):=by
 unfold Z11 at e
 refine aQ Tryz.func67 R 18 R R fun C V=>?_
 refine cL 0 aA ?_
 rintro rfl
 let l:=RR kT3 A2 D2 b::V
 refine cN l ?_
 refine bT ?_
 refine bA (A:=(Unit)×(Unit)) (fun a=>Z11_J1=some r) (fun a=>[]) (fun a=>l) ?_ ?_
 refine bT ?_
 obtain ⟨E,m,j⟩:=bd e
 refine bC (A:=Unit) m (fun s a=>[(0,(sc A2 b D2)),(1,(iv q)),(5,(iv s))]) (fun s a=>l) () (aS R) tI ?_
 rintro F _ σ1 u e g
 dsimp only [Z11_L1] at e
 refine cO ?_
 split at e
 refine bT ?_
 obtain ⟨i,e⟩:=gd e
 refine aP ?_
 refine bB 0 aA (show 0<b.length by have:=i; omega) (fun B o13 D=>?_)
 subst D
 refine bT ?_
 split at e
 refine cO ?_
 cases e
 obtain rfl:=g _ R
 have e:=j
 refine aP ?_
 cases e
 exact qF () (tE 1 [])
 refine cO ?_
 cases e
 exact qA () tI
 refine aP ?_
 cases e
 obtain rfl:=g _ R
 have e:=j
 refine aR ?_
 exact cI ((),()) e trivial tI
 rintro ⟨_,_⟩ σ1 e
 dsimp only [Z11_J1] at e
 refine bT ?_
 cases e
 exact qF () (tE 1 [])
theorem Z3c_ok  {a:Node}{r:Bool}(i:Z3c a=some r) :
 FnOk Tryz.prog 68 [(.agg [(iv a.Op),(.slice A2 N2 D2),(.slice A3 N3 D3),(.slice A4 N4 D4),(aD a.Form),(.slice A5 N5 D5)].toArray)] [aN kT3 (.slice A2 N2 D2) a.Args,aN kT3 (.slice A3 N3 D3) a.Dims,aN kT3 (.slice A4 N4 D4) a.Ints,aN kT3 (.slice A5 N5 D5) a.Data] (fun (h:Unit)=>((.bool r),[])):=by
 unfold Z3c at i
 refine aQ Tryz.func68 R 11 R R fun C V=>?_
 refine cL 0 aA ?_
 rintro rfl
 refine cL 1 aA ?_
 rintro rfl
 refine cL 2 aA ?_
 rintro rfl
 refine cL 3 aA ?_
 rintro rfl
 let e:=RR kT3 A2 D2 a.Args::RR kT3 A3 D3 a.Dims::RR kT3 A4 D4 a.Ints::RR kT3 A5 D5 a.Data::V
 refine cN e ?_
 refine aR ?_
 refine eA R fun j=>?_
 refine aR ?_
 let g:=aI j [(iv a.Op),(sc A2 a.Args D2),(sc A3 a.Dims D3),(sc A4 a.Ints D4),(aD a.Form),(sc A5 a.Data D5)] 54::e
 refine qN g ?_
 refine aR ?_
 refine cQ [(2,(.bool ((a.Op==1)||(a.Op==2))))] (g) ?_ ?_
 refine cB ?_
 rcases bo (a.Op==1) with b | b
 refine bT ?_
 exact qj tI
 refine bT ?_
 exact qj tI
 rintro σ1
 refine aR ?_
 cases i
 exact qF () (tE 5 [])
theorem Zb_ok  {g1:Graph}{b:(List Int)}{r:Bool}(e:Zb g1 b=some r) :
 FnOk Tryz.prog 43 [(.agg [(.slice A2 N2 D2),(.slice A3 N3 D3)].toArray),(.slice A5 N5 D5)] [aN dU (.slice A2 N2 D2) g1.Nodes,aN kT3 (.slice A3 N3 D3) g1.Outs,aN kT3 (.slice A5 N5 D5) b] (fun (h:Unit)=>((.bool r),[])):=by
 unfold Zb at e
 refine aQ Tryz.func43 R 95 R R fun C V=>?_
 refine cL 0 aA ?_
 rintro rfl
 refine cL 1 aA ?_
 rintro rfl
 refine cL 2 aA ?_
 rintro rfl
 let W0:=RR dU A2 D2 g1.Nodes::RR kT3 A3 D3 g1.Outs::RR kT3 A5 D5 b::V
 refine cN W0 ?_
 refine aR ?_
 refine eA R fun L=>?_
 refine aR ?_
 let J:=aI L [(sc A2 g1.Nodes D2),(sc A3 g1.Outs D3)] 30::W0
 refine qN J ?_
 refine aR ?_
 refine bA (A:=(Unit)×(Unit)) (fun a=>Zb_J1 g1 b=some r) (fun a=>[(1,(sc A5 b D5)),(2,(pt L 0))]) (fun a=>J) ?_ ?_
 refine bT ?_
 obtain ⟨e1,am,ah⟩:=bd e
 refine bC (A:=Unit) am (fun s a=>[(1,(sc A5 b D5)),(2,(pt L 0)),(5,(iv s))]) (fun s a=>J) () (aS R) tI ?_
 rintro l _ σ1 b0 e ac
 dsimp only [Zb_L1] at e
 refine cO ?_
 split at e
 refine bT ?_
 obtain ⟨D,e⟩:=gd e
 obtain ⟨O,e⟩:=gd e
 refine cQ [(1,(sc A5 b D5)),(2,(pt L 0)),(5,(iv l)),(45,(.bool (((decide ((ix b l)<0))||(decide ((ix b l)≥(g1.Nodes.length:Int))))||((decide (l>0))&&(decide ((ix b (aG (l - 1)))≥(ix b l)))))))] (J) ?_ ?_
 rcases bo (decide ((ix b l)<0)) with ab | ab
 refine aY 3 aA (show 0<b.length by have:=D; omega) (fun U o20 E=>?_)
 subst E
 refine cZ 31 [] bN fun ht hn=>?_
 refine vX 0 [] ?_
 refine mA 30 [] ?_
 refine dD ?_
 exact qj tI
 rcases bo ((decide ((ix b l)<0))||(decide ((ix b l)≥(g1.Nodes.length:Int)))) with F | F
 refine aY 3 aA (show 0<b.length by have:=D; omega) (fun U o20 E=>?_)
 subst E
 refine cZ 31 [] bN fun ht hn=>?_
 refine vX 0 [] ?_
 refine mA 30 [] ?_
 refine dD ?_
 exact qj tI
 rcases bo (decide (l>0)) with m | m
 refine aY 3 aA (show 0<b.length by have:=D; omega) (fun U o20 E=>?_)
 subst E
 refine cZ 31 [] bN fun ht hn=>?_
 refine Af 0 [] ?_
 refine dW 22 R (dI m) (eI bM cC R R (O F m)) (dW 23 R (dI m) (gI 3 fM aA R (O F m)) ?_)
 refine qX 24 [] ?_
 refine dD ?_
 exact qj tI
 refine aY 3 aA (show 0<b.length by have:=D; omega) (fun U o20 E=>?_)
 subst E
 refine cZ 31 [] bN fun ht hn=>?_
 refine vX 0 [] ?_
 refine mA 30 [] ?_
 refine dD ?_
 exact qj tI
 rintro σ1
 refine bU ?_
 split at e
 refine cO ?_
 cases e
 obtain rfl:=ac _ R
 have e:=ah
 refine aP ?_
 cases e
 exact qF () (tE 4 [])
 refine cO ?_
 cases e
 exact qA () tI
 refine aP ?_
 cases e
 obtain rfl:=ac _ R
 have e:=ah
 refine aR ?_
 exact qI ((),()) e tI
 rintro ⟨_,_⟩ σ1 e
 dsimp only [Zb_J1] at e
 refine aO (bA (A:=(Unit)×(Unit)) (fun a=>Zb_J4=some r) (fun a=>[]) (fun a=>J) ?_ ?_)
 refine bT ?_
 obtain ⟨e2,an,ai⟩:=bd e
 refine bC (A:=Unit) an (fun s a=>[(1,(sc A5 b D5)),(2,(pt L 0)),(6,(iv s))]) (fun s a=>J) () (aS R) tI ?_
 rintro i _ σ1 ak e ae
 dsimp only [Zb_L2] at e
 refine cW ?_
 split at e
 refine bF ?_
 refine bA (A:=(Unit)×(Unit)) (fun a=>Zb_J3 i=some ak) (fun a=>[(1,(sc A5 b D5)),(2,(pt L 0)),(6,(iv i))]) (fun a=>J) ?_ ?_
 refine dJ ?_
 obtain ⟨e3,ao,aj⟩:=bd e
 refine bC (A:=Unit) ao (fun s a=>[(1,(sc A5 b D5)),(2,(pt L 0)),(6,(iv i)),(7,(iv s))]) (fun s a=>J) () (aS R) tI ?_
 rintro j _ σ1 b1 e ag
 dsimp only [Zb_L3] at e
 refine aR ?_
 obtain ⟨u,e⟩:=gd e
 refine cB ?_
 refine bB 1 aA (show 0<g1.Nodes.length by have:=u; omega) (fun M o116 E=>?_)
 subst E
 refine bU ?_
 refine lO (vz (.pointer (some ⟨M,o116+i.toNat*6+1,none⟩)) (kW oN R R)) (gB (K:=dU) 1 i dT54.dec R u.1 u.2 ?_)
 rintro ⟨-,⟨ap,av⟩,⟨aq,aw⟩,⟨ar,ax⟩,-,⟨au,ay⟩⟩
 refine lO (eG (fo:=1) 0 cT R R R) ?_
 refine bF ?_
 split at e
 refine bT ?_
 obtain ⟨Y,e⟩:=gd e
 refine cB ?_
 refine lO (vz (.pointer (some ⟨M,o116+i.toNat*6+1,none⟩)) (kW oN R R)) (lO (eG (fo:=1) 0 cT R R R) (lI R (bB 1 aA (show 0<((ix g1.Nodes i).Args).length by have:=Y; omega) (fun az o124 E=>?_))))
 subst E
 refine bT ?_
 obtain ⟨G,Z,e⟩:=bd e
 obtain ⟨I,a0,e⟩:=bd e
 obtain ⟨T,a1,e⟩:=bd e
 obtain ⟨B,e⟩:=gd e
 obtain ⟨al,a2,e⟩:=bd e
 refine cQ [(1,(sc A5 b D5)),(2,(pt L 0)),(6,(iv i)),(7,(iv j)),(94,(.bool (((G != I)&&(!T))&&(!al))))] (J) ?_ ?_
 refine aP ?_
 refine lM _ (fun w s=>(s.d 8 R)) ?_
 refine lC 1 zi R (Z0a_ok Z) R ?_
 rintro _
 refine lS R (lI R (lM _ (fun w s=>(s.d 8 R)) ?_))
 refine lC 1 zi R (Z0a_ok a0) R ?_
 rintro _
 refine aR ?_
 rcases bo (G != I) with q | q
 refine aR ?_
 refine lM _ (fun w s=>(s.d 8 R)) ?_
 refine bS 1 R (dI q) AV R (Z11_ok (bG a1 q)) R ?_
 rintro _
 refine aP ?_
 rcases bo ((G != I)&&(!T)) with g | g
 refine aP ?_
 refine lW (dI g) (eI tR jV R R (B g)) (gB (K:=dU) 6 (ix ((ix g1.Nodes i).Args) j) dT54.dec R (B g).1 (B g).2 ?_)
 rintro ⟨-,⟨a3,a7⟩,⟨a4,a8⟩,⟨a5,a9⟩,-,⟨a6,aa⟩⟩
 refine lW (dI g) (vz (.agg [(iv (ix g1.Nodes (ix ((ix g1.Nodes i).Args) j)).Op),(sc a3 ((ix g1.Nodes (ix ((ix g1.Nodes i).Args) j)).Args) a7),(sc a4 ((ix g1.Nodes (ix ((ix g1.Nodes i).Args) j)).Dims) a8),(sc a5 ((ix g1.Nodes (ix ((ix g1.Nodes i).Args) j)).Ints) a9),(aD (ix g1.Nodes (ix ((ix g1.Nodes i).Args) j)).Form),(sc a6 ((ix g1.Nodes (ix ((ix g1.Nodes i).Args) j)).Data) aa)].toArray) (dY (fo:=0) 0 o0 jV R R R R)) (lM _ (fun w s=>(((((s.d 1 R).d 3 R).d 5 R).d 7 R).f 14 [3,1,2,1,1,1,0,1,4,10])) ?_)
 refine bS 4 R (dI g) AW R (Z3c_ok (bG a2 g)) R ?_
 rintro _
 refine aP ?_
 exact qj (tE 10 [])
 refine cO ?_
 exact qj (tE 5 [])
 refine nU ?_
 exact qj (tE 5 [])
 rintro σ1
 refine bU ?_
 split at e
 refine cO ?_
 cases e
 obtain rfl:=ag _ R
 have e:=aj
 refine bF ?_
 cases e
 obtain rfl:=ae _ R
 have e:=ai
 refine aP ?_
 cases e
 exact qF () (tE 4 [])
 refine cO ?_
 cases e
 exact qA () tI
 refine aP ?_
 cases e
 obtain rfl:=ag _ R
 have e:=aj
 refine aP ?_
 exact qI ((),()) e (tE 5 [])
 rintro ⟨_,_⟩ σ1 e
 dsimp only [Zb_J3] at e
 refine cB ?_
 cases e
 exact qA () tI
 refine aP ?_
 cases e
 obtain rfl:=ae _ R
 have e:=ai
 refine aR ?_
 exact cI ((),()) e trivial tI
 rintro ⟨_,_⟩ σ1 e
 dsimp only [Zb_J4] at e
 refine bT ?_
 cases e
 exact qF () (tE 4 [])
theorem Z2j_ok  {g1:Graph}{a:(List Int)}{r:Bool}(g:Z2j g1 a=some r) :
 FnOk Tryz.prog 27 [(.agg [(.slice A2 N2 D2),(.slice A3 N3 D3)].toArray),(.slice A5 N5 D5)] [aN dU (.slice A2 N2 D2) g1.Nodes,aN kT3 (.slice A3 N3 D3) g1.Outs,aN kT3 (.slice A5 N5 D5) a] (fun (h:Unit)=>((.bool r),[])):=by
 unfold Z2j at g
 refine aQ Tryz.func27 R 12 R R fun C V=>?_
 refine cL 0 aA ?_
 rintro rfl
 refine cL 1 aA ?_
 rintro rfl
 refine cL 2 aA ?_
 rintro rfl
 let m:=RR dU A2 D2 g1.Nodes::RR kT3 A3 D3 g1.Outs::RR kT3 A5 D5 a::V
 refine cN m ?_
 refine aR ?_
 refine eA R fun u=>?_
 refine aR ?_
 let j:=aI u [(sc A2 g1.Nodes D2),(sc A3 g1.Outs D3)] 30::m
 refine qN j ?_
 refine aR ?_
 obtain ⟨q,l,g⟩:=bd g
 obtain ⟨B,i,g⟩:=bd g
 refine cQ [(4,(.bool (q&&B)))] (j) ?_ ?_
 refine aR ?_
 refine lM _ (fun w s=>(((s.d 1 R).d 3 R).e 2 [1,0])) ?_
 refine lC 2 AL R (Z2x_ok l) R ?_
 rintro _
 refine lN j ?_
 refine bU ?_
 rcases bo q with b | b
 refine aR ?_
 refine lM _ (fun w s=>((((s.d 1 R).d 3 R).d 5 R).e 3 [2,1,0])) ?_
 refine bS 3 R (dI b) AX R (Zb_ok (bG i b)) R ?_
 rintro _
 refine lN j ?_
 refine aP ?_
 exact qj tI
 refine bT ?_
 exact qj tI
 rintro σ1
 refine aR ?_
 cases g
 exact qF () (tE 4 [])
end Go.Proofs.YtmpnollfdpdipaaGreat
