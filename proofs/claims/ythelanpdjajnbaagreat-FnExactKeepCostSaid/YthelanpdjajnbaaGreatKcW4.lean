import Derived.Test.YthelanpdjajnbaaGreatKcF
import Derived.Test.YthelanpdjajnbaaGreatKcW2
import Derived.Test.YthelanpdjajnbaaGreatKcW3
set_option linter.unusedVariables false
set_option maxRecDepth 20000
namespace Go.Proofs.YthelanpdjajnbaaGreat
open Go Go.Pg
variable {A2 A3 A4 A5 A7:Option Addr}{D2 D3 D4 D5 D7 N2 N3 N4 N5 N7:Nat}
theorem Z0e_ok  {v1:View}{g:Int}{b:Int}{l:Int}{r:View}(q:Z0e v1 g b l=some r) :
 FnOk Tryz.prog 100 [(.agg [(.slice A2 N2 D2),(.slice A3 N3 D3),(iv v1.Offset),(iv v1.Base)].toArray),(iv g),(iv b),(iv l)] [aN kT3 (.slice A2 N2 D2) v1.Dims,aN kT3 (.slice A3 N3 D3) v1.Strides] (fun (h:HH×HH)=>((.agg [(.slice h.1.1 h.1.2.1 h.1.2.2),(.slice h.2.1 h.2.2.1 h.2.2.2),(iv r.Offset),(iv r.Base)].toArray),[aN kT3 (.slice h.1.1 h.1.2.1 h.1.2.2) r.Dims,aN kT3 (.slice h.2.1 h.2.2.1 h.2.2.2) r.Strides])):=by
 unfold Z0e at q
 refine aP Tryz.func100 R 85 R R fun C V=>?_
 refine cN (_::_::V) ?_
 refine cL 0 aA ?_
 rintro rfl
 refine cL 1 aA ?_
 rintro rfl
 let W0:List HP:=RR kT3 A2 D2 v1.Dims::RR kT3 A3 D3 v1.Strides::V
 refine cN W0 ?_
 refine aK (aD (eJ R (fun b7=>(bE R R cB (fun b8=>(aC ?_))))))
 let E:List HP:=aJ b7 [(sc A2 v1.Dims D2),(sc A3 v1.Strides D3),(iv v1.Offset),(iv v1.Base)] 111::W0
 refine qN (_::E) ?_
 refine aG (aK (aK ?_))
 obtain ⟨r9,am,q⟩:=bd q
 obtain ⟨a6,q⟩:=gd q
 refine cQ [(1,(iv g)),(2,(iv b)),(3,(iv l)),(4,(pt b7 0)),(8,(pt b8 0)),(32,(.bool ((((!r9)||(decide (b<(1:Int))))||(decide (l<(1:Int))))||(decide (b>(ix v1.Dims g))))))] (aJ b8 [(.slice none 0 0),(.slice none 0 0),(iv 0),(iv 0)] 111::E) ?_ ?_
 refine aD (lO (vz (.agg [(sc A2 v1.Dims D2),(sc A3 v1.Strides D3),(iv v1.Offset),(iv v1.Base)].toArray) (cO 1 eS bS R R R R)) (lI R (lM (RR kT3 A2 D2 v1.Dims::RR kT3 A3 D3 v1.Strides::aJ _ _ _::E) (fun w s=>(((s.d 2 R).d 4 R).e 3 [1,0,2])) ?_)))
 refine lC 2 v' R (Z2d_ok am) R ?_
 rintro _
 refine lN (_::E) ?_
 refine lO (pn R) (lB R ?_)
 rcases bo (!r9) with m | m
 refine lf (eC m) (lf (eC m) (lO (fD (decide (b<(1:Int))) R m) (lB R (lf (eC (oT m)) (lf (eC (oT m)) (lO (fD (decide (l<(1:Int))) R (oT m)) (lB R (lf (eC (oT (oT m))) (lf (eC (oT (oT m))) (lf (eC (oT (oT m))) (lf (eC (oT (oT m))) (lf (eC (oT (oT m))) (lf (eC (oT (oT m))) (lf (eC (oT (oT m))) (lO (fD (decide (b>(ix v1.Dims g))) R (oT (oT m))) (aC ?_))))))))))))))))
 exact qJ (fun w s=>s)
 refine lW (cC m) (vI R) (lW (cC m) (n0 R R) (lO (fS R m R) (lB R ?_)))
 rcases bo ((!r9)||(decide (b<(1:Int)))) with u | u
 refine lf (eC u) (lf (eC u) (lO (fD (decide (l<(1:Int))) R u) (lB R (lf (eC (oT u)) (lf (eC (oT u)) (lf (eC (oT u)) (lf (eC (oT u)) (lf (eC (oT u)) (lf (eC (oT u)) (lf (eC (oT u)) (lO (fD (decide (b>(ix v1.Dims g))) R (oT u)) (aC ?_))))))))))))
 exact qJ (fun w s=>s)
 refine lW (cC u) (vI R) (lW (cC u) (n0 R R) (lO (fS R u R) (lB R ?_)))
 rcases bo (((!r9)||(decide (b<(1:Int))))||(decide (l<(1:Int)))) with j | j
 refine lf (eC j) (lf (eC j) (lf (eC j) (lf (eC j) (lf (eC j) (lf (eC j) (lf (eC j) (lO (fD (decide (b>(ix v1.Dims g))) R j) (aC ?_))))))))
 exact qJ (fun w s=>s)
 refine lW (cC j) (vI R) (lW (cC j) (fX 0 fQ R) (lW (cC j) (gF 1 cY R R R) (lW (cC j) (vI R) (bC 2 aA (show 0<v1.Dims.length by have:=(a6 j); omega) (fun b0 o13 ha=>?_)))))
 subst ha
 refine lW (cC j) (eM bM cJ R R (a6 j)) (lW (cC j) (gK 2 fP aA R (a6 j)) (lW (cC j) (wO R R) (lO (fS R j R) (aC ?_))))
 exact qJ (fun w s=>s)
 rintro σ1
 refine aG ?_
 rcases cH q with ⟨a3,q⟩|⟨a3,q⟩
 refine bV R a3 (aK (aD (lO (vz (.agg [(.slice none 0 0),(.slice none 0 0),(iv 0),(iv 0)].toArray) (aX eE cB R R)) (aL 0 R R bS R R R R R R (aC (aG (bY (cG ?_))))))))
 obtain rfl:=so q
 exact dC (vs:=[(.agg [(.slice none 0 0),(.slice none 0 0),(iv 0),(iv 0)].toArray)]) (.inl R) ((none,0,0),(none,0,0)) R ⟨⟨0,b8,_,_,R,R,.inl ⟨eS,bS,R⟩⟩,trivial⟩ R (fun w s=>(((s.nilr kT3).nilr kT3).e 6 [1,0]))
 refine bG R a3 (cF (aG (aK ?_)))
 obtain ⟨i,an,q⟩:=bd q
 refine aD (lO (vz (.agg [(sc A2 v1.Dims D2),(sc A3 v1.Strides D3),(iv v1.Offset),(iv v1.Base)].toArray) (cO 1 eS bS R R R R)) (lM (RR kT3 A2 D2 v1.Dims::RR kT3 A3 D3 v1.Strides::aJ _ _ _::E) (fun w s=>(((s.d 2 R).d 4 R).e 3 [1,0,2])) ?_))
 refine lC 2 w0 R (Z2f_ok an) R ?_
 rintro ⟨⟨ai,aw,O⟩,⟨ah,ax,D⟩⟩
 refine lN (ow kT3 3 (.slice ai aw O) i.Dims::ow kT3 3 (.slice ah ax D) i.Strides::_::E) ?_
 refine aM 0 aB ?_
 rintro rfl
 refine aM 1 aB ?_
 rintro rfl
 refine bE R R cB (fun T=>(aL 0 R R bS R R R R R R (lN (aJ T [(sc ai i.Dims O),(sc ah i.Strides D),(iv i.Offset),(iv i.Base)] 111::_::_::_::E) ?_)))
 refine aC (aG (aK ?_))
 obtain ⟨a7,q⟩:=gd q
 obtain ⟨aj,q⟩:=gd q
 refine aD (lO (fX 0 fQ R) (lO (gF 4 cY R R R) (lI R (bC 5 aA (show 0<v1.Dims.length by have:=a7; omega) (fun b1 o25 ha=>?_)))))
 subst ha
 refine lO (eM bM cJ R R a7) (lO (gK 5 fP aA R a7) (lI R (lO (uv R R) (lI R (lO (vz (iv (aH ((aH ((ix v1.Dims g) - b)).tdiv l))) (ng R R aj)) (lO (jt R R) (lI R (aC (aG (aK ?_))))))))))
 obtain ⟨a8,q⟩:=gd q
 refine aD (lO (fX 1 fF R) (lO (gF 4 cY R R R) (lI R (bC 6 aA (show 0<v1.Strides.length by have:=a8; omega) (fun b2 o29 ha=>?_)))))
 subst ha
 refine lO (eM bM cJ R R a8) (lO (gK 6 fP aA R a8) (lI R (aC (aG (aK ?_)))))
 obtain ⟨a0,q⟩:=gd q
 refine aD (lO (fX 0 fQ R) (lO (gF 0 cY R R R) (lI R (lI R (bC 1 aB (show 0<i.Dims.length by have:=a0; omega) (fun Z o32 ha=>?_))))))
 subst ha
 refine lO (eM bM cJ R R a0) (lM (OO kT3 3 (ad Z o32) O i.Dims::aJ T [(sc (ad Z o32) i.Dims O),(sc ah i.Strides D),(iv i.Offset),(iv i.Base)] 111::ow _ _ _ _::aJ _ _ _::E) (fun w s=>(s.e 4 [1,0,2,3])) ?_)
 refine eL (K:=kT3) (x':=(aH ((aH ((aH ((ix v1.Dims g) - b)).tdiv l))+(1:Int)))) 0 g R R cJ R R a0.1 a0.2 ?_ ?_
 exact fun I h s=>(gR).put I h () (aH ((aH ((aH ((ix v1.Dims g) - b)).tdiv l))+(1:Int))) s
 refine lN (ow kT3 3 (.slice (ad Z o32) i.Dims.length O) (i.Dims.set g.toNat (aH ((aH ((aH ((ix v1.Dims g) - b)).tdiv l))+(1:Int))))::_::_::_::E) ?_
 refine aC ?_
 obtain ⟨B,a9,q⟩:=bd q
 replace a9:=Option.some.inj a9
 refine qM (ow kT3 3 (.slice (ad Z o32) i.Dims.length O) B::_::_::_::E) (fun w s=>by rw [← a9]; exact s) ?_
 refine aG (aK ?_)
 obtain ⟨J,q⟩:=gd q
 refine aD (lO (fX 1 fF R) (lO (gF 1 cY R R R) (lI R (bC 2 aB (show 0<i.Strides.length by have:=J; omega) (fun G o37 ha=>?_)))))
 subst ha
 refine lO (eM bM cJ R R J) (lM (OO kT3 3 (ad G o37) D i.Strides::ow _ _ _ _::aJ T [(sc (ad Z o32) i.Dims O),(sc (ad G o37) i.Strides D),(iv i.Offset),(iv i.Base)] 111::aJ _ _ _::E) (fun w s=>(s.e 4 [2,0,1,3])) ?_)
 refine eL (K:=kT3) (x':=(0:Int)) 0 g R R cJ R R J.1 J.2 ?_ ?_
 exact fun I h s=>(gR).put I h () (0:Int) s
 refine lN (ow kT3 3 (.slice (ad G o37) i.Strides.length D) (i.Strides.set g.toNat (0:Int))::_::_::_::E) ?_
 refine aC (aG (aK (bB (A:=((List Int))×(Unit)) (fun a=>Z0e_J1 v1 g b i B a.1=some r) (fun a=>[(2,(iv b)),(8,(pt b8 0)),(9,(pt T 0)),(11,(iv (ix v1.Strides g)))]) (fun a=>aJ b8 [(.slice none 0 0),(.slice none 0 0),(iv 0),(iv 0)] 111::aJ T [(sc (ad Z o32) i.Dims O),(sc (ad G o37) i.Strides D),(iv i.Offset),(iv i.Base)] 111::ow kT3 3 (.slice (ad Z o32) i.Dims.length O) B::ow kT3 3 (.slice (ad G o37) i.Strides.length D) a.1::E) ?_ ?_)))
 refine aK (aD (lI R (lO (wO R R) (aC (aG ?_)))))
 rcases cH q with ⟨a4,q⟩|⟨a4,q⟩
 refine bV R a4 (aD (lO (fX 1 fF R) (lO (gF 2 cY R R R) (lI R (lI R (lI R (lO (rO R R) (lO (eM bM cJ R R J) (eL (K:=kT3) (x':=(aH ((ix v1.Strides g)*l))) 0 g R R cJ R R J.1 J.2 ?_ ?_)))))))))
 exact fun I h s=>(gR).put I h () (aH ((ix v1.Strides g)*l)) s
 refine lN (ow kT3 3 (.slice (ad G o37) i.Strides.length D) ((i.Strides.set g.toNat (0:Int)).set g.toNat (aH ((ix v1.Strides g)*l)))::_::_::_::E) ?_
 refine aC ?_
 obtain ⟨ap,aa,q⟩:=bd q
 replace aa:=Option.some.inj aa
 refine qM (ow kT3 3 (.slice (ad G o37) i.Strides.length D) ap::_::_::_::E) (fun w s=>by rw [← aa]; exact s) ?_
 exact qI (ap,()) q (fun w s=>(s.e 4 [3,2,1,0]))
 refine bG R a4 (cF ?_)
 exact qI ((i.Strides.set g.toNat (0:Int)),()) q (fun w s=>(s.e 4 [3,2,1,0]))
 rintro ⟨L,_⟩ σ1 q
 replace q:Z0e_J1 v1 g b i B L=some r:=q
 unfold Z0e_J1 at q
 refine aK ?_
 obtain ⟨ak,q⟩:=gd q
 refine aD (lO (fX 0 fQ R) (lO (gF 1 cY R R R) (lI R (bP (K:=kT3) (xs:=([b]:List Int)) (vs:=[(iv b)]) 0 R R bM cJ gV R R R R R R ?_ R (fun aq au=>?_)))))
 exact fun I h s=>(gR).list [((),b)] I h s
 refine lN (OO kT3 3 aq au ([b]:List Int)::_::_::_::ow kT3 3 (.slice (ad G o37) i.Strides.length D) L::E) ?_
 refine lM (ow _ _ _ _::ow _ _ _ _::aJ _ _ _::aJ _ _ _::ow _ _ _ _::E) (fun w s=>(s.e 5 [3,0,1,2,4])) ?_
 refine eP (K:=kT3) 17592186044416 R R bM cJ kk (Zr.zk zT3 gV) R R R R R R dZ ak (fun U Y=>(lN (OO kT3 3 U Y (B++([b]:List Int))::_::_::_::E) ?_))
 refine lO (fX 0 fQ R) (cZ 2 R R fJ R R R R R (lN (_::_::aJ T [(sc U (B++([b]:List Int)) Y),(sc (ad G o37) i.Strides D),(iv i.Offset),(iv i.Base)] 111::_::E) ?_))
 refine aC (aG (aK (bB (A:=(Int)×(Unit)) (fun a=>Z0e_J2 b i B L a.1=some r) (fun a=>[(8,(pt b8 0)),(9,(pt T 0)),(11,(iv a.1))]) (fun a=>aJ b8 [(.slice none 0 0),(.slice none 0 0),(iv 0),(iv 0)] 111::aJ T [(sc U (B++([b]:List Int)) Y),(sc (ad G o37) i.Strides D),(iv i.Offset),(iv i.Base)] 111::OO kT3 3 U Y (B++([b]:List Int))::ow kT3 3 (.slice (ad G o37) i.Strides.length D) L::E) ?_ ?_)))
 refine aK (aD (lI R (lO (lR R R) (aC (aG ?_)))))
 rcases cH q with ⟨a5,q⟩|⟨a5,q⟩
 refine bV R a5 (aD (lI R (aC ?_)))
 exact qI ((0:Int),()) q (fun w s=>(s.e 4 [1,2,0,3]))
 refine bG R a5 (cF ?_)
 exact qI ((ix v1.Strides g),()) q (fun w s=>(s.e 4 [1,2,0,3]))
 rintro ⟨M,_⟩ σ1 q
 replace q:Z0e_J2 b i B L M=some r:=q
 unfold Z0e_J2 at q
 refine aK ?_
 obtain ⟨al,q⟩:=gd q
 refine aD (lO (fX 1 fF R) (lO (gF 1 cY R R R) (lI R (bP (K:=kT3) (xs:=([M]:List Int)) (vs:=[(iv M)]) 0 R R bM cJ gV R R R R R R ?_ R (fun ar av=>?_)))))
 exact fun I h s=>(gR).list [((),M)] I h s
 refine lN (OO kT3 3 ar av ([M]:List Int)::_::_::_::_::E) ?_
 refine lM (ow _ _ _ _::ow _ _ _ _::aJ _ _ _::aJ _ _ _::ow _ _ _ _::E) (fun w s=>(s.f 5 [4,1,0,4])) ?_
 refine eP (K:=kT3) 17592186044416 R R bM cJ kk (Zr.zk zT3 gV) R R R R R R dZ al (fun a1 a2=>(lN (OO kT3 3 a1 a2 (L++([M]:List Int))::_::_::_::E) ?_))
 refine lO (fX 1 fF R) (cZ 2 R R fJ R R R R R (lN (_::_::aJ T [(sc U (B++([b]:List Int)) Y),(sc a1 (L++([M]:List Int)) a2),(iv i.Offset),(iv i.Base)] 111::_::E) ?_))
 refine aC (aG (aK ?_))
 obtain ⟨F,ao,q⟩:=bd q
 refine aD (lO (vz (.agg [(sc U (B++([b]:List Int)) Y),(sc a1 (L++([M]:List Int)) a2),(iv i.Offset),(iv i.Base)].toArray) (cO 2 eS bS R R R R)) (iV (fun w s=>s.shr 3 R) (iV (fun w s=>s.shr 1 R) (lM (RR kT3 U Y (B++([b]:List Int))::RR kT3 a1 a2 (L++([M]:List Int))::RR kT3 a1 a2 (L++([M]:List Int))::RR kT3 U Y (B++([b]:List Int))::aJ _ _ _::aJ _ _ _::E) (fun w s=>(((s.d 1 R).d 1 R).e 6 [1,0,2,3,4,5])) ?_))))
 refine lC 2 w4 R (Z2g_ok (v1:=(⟨(B++([b]:List Int)),(L++([M]:List Int)),i.Offset,i.Base⟩:View)) ao) R ?_
 rintro ⟨⟨ab,ay,ae⟩,⟨ac,az,ag⟩⟩
 refine lN (aN kT3 (.slice ab ay ae) F.Dims::aN kT3 (.slice ac az ag) F.Strides::_::_::_::_::E) ?_
 refine aM 0 aA ?_
 rintro rfl
 refine aM 1 aA ?_
 rintro rfl
 refine aL 4 R R bS R R R R R R (lN (_::_::_::_::aJ b8 [(sc ab F.Dims ae),(sc ac F.Strides ag),(iv F.Offset),(iv F.Base)] 111::_::E) ?_)
 refine aC (aG (bY ?_))
 obtain rfl:=so q
 exact dC (vs:=[(.agg [(sc ab F.Dims ae),(sc ac F.Strides ag),(iv F.Offset),(iv F.Base)].toArray)]) (.inl R) ((ab,F.Dims.length,ae),(ac,F.Strides.length,ag)) R ⟨⟨4,b8,_,_,R,R,.inl ⟨eS,bS,R⟩⟩,trivial⟩ R (fun w s=>(s.e 9 [0,1]))
theorem Z0r_ok  {t1:Tensor}{i:Int}{j:Int}{J:Int}{r:Tensor}(b:Z0r t1 i j J=some r) :
 FnOk Tryz.prog 101 [(.agg [(.slice A2 N2 D2),(.slice A3 N3 D3)].toArray),(iv i),(iv j),(iv J)] [aN kT3 (.slice A2 N2 D2) t1.Dims,aN kT3 (.slice A3 N3 D3) t1.Data] (fun (h:HH×HH)=>((.agg [(s3 h.1),(s3 h.2)].toArray),[ow kT3 3 (s3 h.1) r.Dims,ow kT3 3 (s3 h.2) r.Data])):=by
 unfold Z0r at b
 refine aP Tryz.func101 R 118 R R fun C V=>?_
 refine cL 0 aA ?_
 rintro rfl
 refine cL 1 aA ?_
 rintro rfl
 let W0:=RR kT3 A2 D2 t1.Dims::RR kT3 A3 D3 t1.Data::V
 refine cN W0 ?_
 refine aU ?_
 refine eJ R fun b7=>?_
 refine bE R R dX (fun L=>(aC ?_))
 let T:=aJ b7 [(sc A2 t1.Dims D2),(sc A3 t1.Data D3)] 42::W0
 refine iM ?_
 obtain ⟨r9,a9,b⟩:=bd b
 refine cQ [(1,(iv i)),(2,(iv j)),(3,(iv J)),(4,(pt b7 0)),(8,(pt L 0)),(9,(iv (aH ((t1.Dims.length:Int) - 1)))),(40,(.bool (((((!r9)||(i==(aH ((t1.Dims.length:Int) - 1))))||(decide (j<1)))||(decide (J<1)))||(decide (J>4096)))))] (aJ L [(.slice none 0 0),(.slice none 0 0)] 42::T) ?_ ?_
 refine aQ ?_
 refine lM _ (fun w s=>(((s.d 2 R).d 4 R).e 3 [1,0,2])) ?_
 refine lC 2 oH R (Z1h_ok a9) R ?_
 rintro _
 refine aU ?_
 rcases bo (!r9) with a1 | a1
 refine pq ?_
 exact qj tI
 refine cI ?_
 rcases bo ((!r9)||(i==(aH ((t1.Dims.length:Int) - 1)))) with a2 | a2
 refine iM ?_
 exact qj tI
 refine bI ?_
 rcases bo (((!r9)||(i==(aH ((t1.Dims.length:Int) - 1))))||(decide (j<1))) with a3 | a3
 refine dI ?_
 exact qj tI
 refine bI ?_
 rcases bo ((((!r9)||(i==(aH ((t1.Dims.length:Int) - 1))))||(decide (j<1)))||(decide (J<1))) with a4 | a4
 refine bI ?_
 exact qj tI
 refine bI ?_
 exact qj tI
 rintro σ1
 refine bX ?_
 split at b
 refine aQ ?_
 refine lO (vz (.agg [(.slice none 0 0),(.slice none 0 0)].toArray) (aX gU dX R R)) (aL 0 R R bT R R R R R R (aC (aG (bY (cG ?_)))))
 cases b
 exact qS ((none,0,0),(none,0,0)) (fun w s=>(((s.nilo kT3 3).nilo kT3 3).e 6 [1,0]))
 refine bI ?_
 obtain ⟨a5,b⟩:=gd b
 refine bI ?_
 refine bC 2 aA (show 0<t1.Dims.length by have:=a5; omega) (fun b4 o18 ha=>?_)
 subst ha
 refine dU ?_
 obtain ⟨a6,b⟩:=gd b
 obtain ⟨M,b⟩:=gd b
 refine cQ [(1,(iv i)),(2,(iv j)),(3,(iv J)),(4,(pt b7 0)),(8,(pt L 0)),(9,(iv (aH ((t1.Dims.length:Int) - 1)))),(63,(.bool ((decide ((ix t1.Dims (aH ((t1.Dims.length:Int) - 1)))>J))||((aH ((aH ((aH (J - (ix t1.Dims (aH ((t1.Dims.length:Int) - 1))))).tdiv j))+1)) != (ix t1.Dims i)))))] (aJ L [(.slice none 0 0),(.slice none 0 0)] 42::T) ?_ ?_
 rcases bo (decide ((ix t1.Dims (aH ((t1.Dims.length:Int) - 1)))>J)) with D | D
 refine dF 17 [] bO fun ht hn=>?_
 refine yK 0 [] ?_
 refine dD ?_
 exact qj tI
 refine dF 17 [] bO fun ht hn=>?_
 refine uA 0 [] ?_
 refine dW 8 R (cC D) (vz (iv (aH ((aH (J - (ix t1.Dims (aH ((t1.Dims.length:Int) - 1))))).tdiv j))) (ng R R (a6 D))) ?_
 refine oy 9 [] ?_
 refine dW 13 R (cC D) (eM bM cJ R R (M D)) (dW 14 R (cC D) (gK 2 fP aA R (M D)) ?_)
 refine gZ 15 [] ?_
 refine dD ?_
 exact qj tI
 rintro σ1
 refine bX ?_
 split at b
 refine aQ ?_
 refine lO (vz (.agg [(.slice none 0 0),(.slice none 0 0)].toArray) (aX gU dX R R)) (aL 0 R R bT R R R R R R (aC (aG (bY (cG ?_)))))
 cases b
 exact qS ((none,0,0),(none,0,0)) (fun w s=>(((s.nilo kT3 3).nilo kT3 3).e 6 [1,0]))
 refine bI ?_
 obtain ⟨b9,aa,b⟩:=bd b
 obtain ⟨G,b⟩:=gd b
 refine cI ?_
 refine lM _ (fun w s=>(s.d 2 R)) ?_
 refine lC 1 kL R (Z0j_ok aa) R ?_
 rintro ⟨aq,az,aw⟩
 refine aM 0 aB ?_
 rintro rfl
 refine lI R (iV (fun w s=>s.shr 0 R) (gJ (K:=kT3) (0:Int) (aH ((t1.Dims.length:Int) - 1)) 0 R R bM cJ R R R R G.1 G.2.1 G.2.2 (fun ar ax=>(lS R (aC (aG (aK (aK ?_))))))))
 obtain ⟨ba,ab,b⟩:=bd b
 refine aU ?_
 refine lM _ (fun w s=>(s.d 0 R)) ?_
 refine lC 1 kj R (Zp_ok ab) R ?_
 rintro _
 refine aQ ?_
 split at b
 refine aQ ?_
 refine lO (vz (.agg [(.slice none 0 0),(.slice none 0 0)].toArray) (aX gU dX R R)) (aL 2 R R bT R R R R R R (aC (aG (bY (cG ?_)))))
 cases b
 exact qS ((none,0,0),(none,0,0)) (fun w s=>(((s.nilo kT3 3).nilo kT3 3).e 8 [1,0]))
 refine bI ?_
 obtain ⟨g,ac,b⟩:=bd b
 refine aU ?_
 refine lM _ (fun w s=>(s.d 0 R)) ?_
 refine lC 1 kK R (Z0i_ok ac) R ?_
 rintro ⟨⟨l,b0,q⟩,⟨m,b1,u⟩⟩
 refine aM 0 aB ?_
 rintro rfl
 refine aM 1 aB ?_
 rintro rfl
 refine bE R R dX (fun F=>(aL 0 R R bT R R R R R R (lN (aJ F [(sc l g.Dims q),(sc m g.Data u)] 42::_::_::_::_::_::T) ?_)))
 refine aQ ?_
 refine bB (A:=((List Int))×(Unit)) (fun a=>Z0r_J1 g a.1=some r) (fun a=>[(8,(pt L 0)),(12,(pt F 0))]) (fun a=>aJ L [(.slice none 0 0),(.slice none 0 0)] 42::aJ F [(sc l g.Dims q),(sc m g.Data u)] 42::OO kT3 3 l q g.Dims::ow kT3 3 (.slice m g.Data.length u) a.1::T) ?_ ?_
 refine bW ?_
 obtain ⟨e1,an,am⟩:=bd b
 refine bD (A:=Unit) an (fun s a=>[(1,(iv i)),(2,(iv j)),(4,(pt b7 0)),(8,(pt L 0)),(9,(iv (aH ((t1.Dims.length:Int) - 1)))),(12,(pt F 0)),(13,(iv s.2))]) (fun s a=>aJ L [(.slice none 0 0),(.slice none 0 0)] 42::aJ F [(sc l g.Dims q),(sc m g.Data u)] 42::OO kT3 3 l q g.Dims::ow kT3 3 (.slice m g.Data.length u) s.1::T) () (aS R) (tE 6 [5,0,1,2]) ?_
 rintro ⟨E,b6⟩ _ σ1 ap b al
 dsimp only [Z0r_L1] at b
 refine dG ?_
 split at b
 refine bW ?_
 obtain ⟨O,ae,b⟩:=bd b
 refine bI ?_
 refine lM _ (fun w s=>(s.d 5 R)) ?_
 refine lC 1 lF R (Zm_ok ae) R ?_
 rintro ⟨au,b2,Y⟩
 refine aM 0 aB ?_
 rintro rfl
 refine bI ?_
 obtain ⟨a7,b⟩:=gd b
 obtain ⟨_,b⟩:=gd b
 obtain ⟨ak,ag,b⟩:=bd b
 obtain ⟨I,b⟩:=gd b
 refine bA 0 aB (show 0<O.length by have:=a7; omega) (fun a0 o66 ha=>?_)
 subst ha
 refine dF 17 [] bO fun ht hn=>?_
 refine mA 0 [] ?_
 refine dR 14 R (vI R) (d1 13 R (lC 1 kL R (FnOk.lends (A':=[OO kT3 3 (ad a0 o66) Y O]) (A:=[RR kT3 (ad a0 o66) Y O]) (B:=[]) (Z0j_ok ag) ⟨aZ,trivial⟩ (fun _=>⟨(bN ji),trivial⟩)) R ?_))
 rintro ⟨av,b3,ay⟩
 refine aM 1 aB ?_
 rintro rfl
 refine aC (aI (sL [1]) (d1 15 R (iV (fun w s=>s.shr 1 R) (gJ (K:=kT3) (0:Int) (aH ((t1.Dims.length:Int) - 1)) 0 R R bM cJ R R R R I.1 I.2.1 I.2.2 (fun U Z=>(aC (aI (sL [1,0]) (dR 16 R (vS R) (hS:=(sL [1,0])) (dD (aG ?_))))))))))
 obtain ⟨bb,ah,b⟩:=bd b
 obtain ⟨a8,b⟩:=gd b
 obtain ⟨bc,ai,b⟩:=bd b
 obtain ⟨be,aj,b⟩:=bd b
 refine bA 9 aA (show 0<t1.Data.length by have:=a8; omega) (fun b5 o77 ha=>?_)
 subst ha
 refine dF 12 [6] bO fun ht hn=>?_
 refine oy 0 [6] ?_
 refine ko 5 [6] ?_
 refine d1 4 R (lM _ (fun w s=>((s.d 0 R).f 8 [6,2,0,6])) ?_)
 refine lC 3 ni R (FnOk.lends (A':=[OO kT3 3 l q g.Dims,ow kT3 3 (.slice m g.Data.length u) E]) (A:=[RR kT3 l q g.Dims,aN kT3 (.slice m g.Data.length u) E]) (B:=[RR kT3 U Z (sub ak (0:Int) (aH ((t1.Dims.length:Int) - 1)))]) (Z18_ok (t1:=(⟨g.Dims,E⟩:Tensor)) ah) ⟨aZ,aZ,trivial⟩ (fun _=>trivial)) R ?_
 rintro _
 refine aC (aI (fun w s=>(s.f 7 [2,5,0,1])) (d1 10 R (lC 0 qo R (Z1n_ok ai) R ?_)))
 rintro _
 refine aC (aI (fun w s=>(s.f 7 [2,5,0,1])) (d1 11 R (lM _ (fun w s=>((s.d 2 R).f 8 [1,2,0,1,3,5])) ?_)))
 refine lC 3 sU R (FnOk.lends (A':=[OO kT3 3 l q g.Dims]) (A:=[RR kT3 l q g.Dims]) (B:=[ow kT3 3 (.slice m g.Data.length u) E,RR kT3 U Z (sub ak (0:Int) (aH ((t1.Dims.length:Int) - 1)))]) (Z1x_ok (t1:=(⟨g.Dims,E⟩:Tensor)) aj) ⟨aZ,trivial⟩ (fun _=>⟨(bN ji),trivial⟩)) R ?_
 rintro _
 refine aC (aI (fun w s=>(s.f 7 [2,5,0,1])) (dD ?_))
 refine dU ?_
 cases b
 exact qA () (tE 7 [5,6,0,1])
 refine aQ ?_
 cases b
 obtain rfl:=al _ R
 have b:=am
 refine aU ?_
 exact qI (E,()) b tI
 rintro ⟨ao,_⟩ σ1 b
 dsimp only [Z0r_J1] at b
 refine aQ ?_
 refine aL 0 R R bT R R R R R R (lN (aJ L [(sc l g.Dims q),(sc m g.Data u)] 42::_::_::ow kT3 3 (.slice m g.Data.length u) ao::T) ?_)
 refine aQ ?_
 cases b
 exact qS ((l,g.Dims.length,q),(m,g.Data.length,u)) (tE 7 [2,3])
theorem Z1_ok  {j:Node}{g:(List Tensor)}{r:Tensor}(b:Z1 j g=some r) :
 FnOk Tryz.prog 78 [(.agg [(iv j.Op),(.slice A2 N2 D2),(.slice A3 N3 D3),(.slice A4 N4 D4),(aE j.Form),(.slice A5 N5 D5)].toArray),(.slice A7 N7 D7)] [aN kT3 (.slice A2 N2 D2) j.Args,aN kT3 (.slice A3 N3 D3) j.Dims,aN kT3 (.slice A4 N4 D4) j.Ints,aN kT3 (.slice A5 N5 D5) j.Data,aN dP (.slice A7 N7 D7) g] (fun (h:HH×HH)=>((.agg [(.slice h.1.1 h.1.2.1 h.1.2.2),(.slice h.2.1 h.2.2.1 h.2.2.2)].toArray),[ow kT3 3 (.slice h.1.1 h.1.2.1 h.1.2.2) r.Dims,ow kT3 3 (.slice h.2.1 h.2.2.1 h.2.2.2) r.Data])):=by
 unfold Z1 at b
 refine aP Tryz.func78 R 217 R R fun C V=>?_
 refine cN (_::_::_::_::_::V) ?_
 refine cL 0 aA ?_
 rintro rfl
 refine cL 1 aA ?_
 rintro rfl
 refine cL 2 aA ?_
 rintro rfl
 refine cL 3 aA ?_
 rintro rfl
 refine cL 4 aA ?_
 rintro rfl
 let W0:List HP:=RR kT3 A2 D2 j.Args::RR kT3 A3 D3 j.Dims::RR kT3 A4 D4 j.Ints::RR kT3 A5 D5 j.Data::RR dP A7 D7 g::V
 refine cN W0 ?_
 refine aK (aD (eJ R (fun b8=>(bE R R dX (fun l=>(aC ?_))))))
 let i:List HP:=aJ b8 [(iv j.Op),(sc A2 j.Args D2),(sc A3 j.Dims D3),(sc A4 j.Ints D4),(aE j.Form),(sc A5 j.Data D5)] 65::W0
 refine qN (_::i) ?_
 refine aG (aK (aD (lO (fX 3 hU R) (lO (gF 1 cY R R R) (lS R (aC (aG (aK (aK (aD (lO (fX 0 jR R) (lO (gF 1 fP R R R) (aC (aG (dJ (aK (aD (lO (lR R R) (lB R (aC (aG ?_)))))))))))))))))))))
 rcases cH b with ⟨d9,b⟩|⟨d9,b⟩
 refine bV R d9 (aK (aD (lO (fX 2 ld R) (lO (gF 1 cY R R R) (lO (fX 5 px R) (lO (gF 1 cY R R R) (lO (vz (.agg [(sc A3 j.Dims D3),(sc A5 j.Data D5)].toArray) (aX gU dX R R)) (bE R R dX (fun ic=>(aL 0 R R bT R R R R R R (lN (aJ ic [(sc A3 j.Dims D3),(sc A5 j.Data D5)] 42::_::i) ?_)))))))))))
 refine aC (aG (aK (aK ?_)))
 obtain ⟨ir,he,b⟩:=bd b
 refine aD (lO (vz (.agg [(sc A3 j.Dims D3),(sc A5 j.Data D5)].toArray) (cO 0 fR bT R R R R)) (lM (RR kT3 A3 D3 j.Dims::RR kT3 A5 D5 j.Data::aJ _ _ _::aJ _ _ _::i) (fun w s=>(((s.d 4 R).d 7 R).e 4 [1,0,2,3])) ?_))
 refine lC 2 nJ R (Zu_ok (t1:=(⟨j.Dims,j.Data⟩:Tensor)) he) R ?_
 rintro _
 refine lN (_::_::i) ?_
 refine lO (pn R) (aC (aG ?_))
 rcases cH b with ⟨da,b⟩|⟨da,b⟩
 refine bV R da (aK (aD (lO (vz (.agg [(.slice none 0 0),(.slice none 0 0)].toArray) (aX gU dX R R)) (aL 1 R R bT R R R R R R (aC (aG (bY (cG (dL (cG ?_))))))))))
 obtain rfl:=so b
 exact dC (vs:=[(.agg [(.slice none 0 0),(.slice none 0 0)].toArray)]) (.inl R) ((none,0,0),(none,0,0)) R ⟨⟨1,l,_,_,R,R,.inl ⟨fR,bT,R⟩⟩,trivial⟩ R (fun w s=>(((s.nilo kT3 3).nilo kT3 3).e 10 [1,0]))
 refine bG R da (cF (aG (aK ?_)))
 obtain ⟨e1,hf,b⟩:=bd b
 obtain ⟨e2,hg,b⟩:=bd b
 refine dF 8 [1] bO (fun ht hn=>(dR 0 R (fX 2 ld R) (hS:=(sL [1])) (dR 1 R (gF 1 cY R R R) (hS:=(sL [1])) (dR 3 R (fX 5 px R) (hS:=(sL [1])) (dR 4 R (gF 1 cY R R R) (hS:=(sL [1])) (d1 2 R (lM (RR kT3 A3 D3 j.Dims::_::_::i) (fun w s=>(s.d 4 R)) ?_)))))))
 refine lC 1 jT R (Zw_ok hf) R ?_
 rintro ⟨ca,hs,cx⟩
 refine lN (ow kT3 3 (.slice ca hs cx) e1::_::_::i) ?_
 refine aM 0 aB ?_
 rintro rfl
 refine aC (aI (sL [2,0]) (d1 5 R (lM (RR kT3 A5 D5 j.Data::_::_::_::i) (fun w s=>(s.d 7 R)) ?_)))
 refine lC 1 jT R (Zw_ok hg) R ?_
 rintro ⟨cg,hu,d2⟩
 refine lN (ow kT3 3 (.slice cg hu d2) e2::_::_::_::i) ?_
 refine aM 0 aB ?_
 rintro rfl
 refine aC (aI (sL [3,1,0]) (dR 6 R (vz (.agg [(sc ca e1 cx),(sc cg e2 d2)].toArray) (aX gU dX R R)) (hS:=(sL [3,1,0])) (d1 7 R (aL 3 R R bT R R R R R R (lN (_::_::_::aJ l [(sc ca e1 cx),(sc cg e2 d2)] 42::i) ?_)))))
 refine aC (aI (sL [3,1,0]) (dD (aG (bY (dL (cG ?_))))))
 obtain rfl:=so b
 exact dC (vs:=[(.agg [(sc ca e1 cx),(sc cg e2 d2)].toArray)]) (.inl R) ((ca,e1.length,cx),(cg,e2.length,d2)) R ⟨⟨3,l,_,_,R,R,.inl ⟨fR,bT,R⟩⟩,trivial⟩ R (fun w s=>(s.e 10 [1,0]))
 refine bG R d9 (aK (bB (A:=(Bool)×(Unit)) (fun a=>Z1_J1 j g a.1=some r) (fun a=>[(1,(sc A7 g D7)),(2,(pt b8 0)),(4,(pt l 0)),(5,(sc A4 j.Ints D4)),(10,(iv j.Op)),(29,(.bool a.1))]) (fun a=>aJ l [(.slice none 0 0),(.slice none 0 0)] 42::i) ?_ ?_))
 refine aK (aD (lO (lR R R) (lB R (aC (aG ?_)))))
 rcases cH b with ⟨db,b⟩|⟨db,b⟩
 refine bV R db (cF ?_)
 exact qI ((j.Op==(3:Int)),()) b (fun w s=>s)
 refine bG R db (aK (aD (lO (lR R R) (lB R (aC (aG ?_))))))
 rcases cH b with ⟨dc,b⟩|⟨dc,b⟩
 refine bV R dc (cF ?_)
 exact qI ((j.Op==(4:Int)),()) b (fun w s=>s)
 refine bG R dc (aD (lO (lR R R) (lB R (aC ?_))))
 exact qI ((j.Op==(5:Int)),()) b (fun w s=>s)
 rintro ⟨ig,_⟩ σ1 b
 replace b:Z1_J1 j g ig=some r:=b
 unfold Z1_J1 at b
 rcases cH b with ⟨dd,b⟩|⟨dd,b⟩
 refine bV R dd (aK (aK ?_))
 obtain ⟨a0,b⟩:=gd b
 obtain ⟨bu,b⟩:=gd b
 obtain ⟨it,hh,b⟩:=bd b
 refine bA 6 aA (show 0<g.length by have:=a0; omega) (fun ew o27 m=>?_)
 subst m
 refine dO (K:=dP) 6 (0:Int) dT42.dec R a0.1 a0.2 ?_
 rintro ⟨⟨f6,fg⟩,⟨f7,fh⟩⟩
 refine cN (cl ew (o27+(0:Int).toNat*2) [(sc f6 ((ix g (0:Int)).Dims) fg),(sc f7 ((ix g (0:Int)).Data) fh)]::RR kT3 f6 fg ((ix g (0:Int)).Dims)::RR kT3 f7 fh ((ix g (0:Int)).Data)::aJ l [(.slice none 0 0),(.slice none 0 0)] 42::i) ?_
 refine dO (K:=dP) 9 (1:Int) dT42.dec R bu.1 bu.2 ?_
 rintro ⟨⟨f8,fi⟩,⟨f9,fj⟩⟩
 refine cN (cl ew (o27+(1:Int).toNat*2) [(sc f8 ((ix g (1:Int)).Dims) fi),(sc f9 ((ix g (1:Int)).Data) fj)]::RR kT3 f8 fi ((ix g (1:Int)).Dims)::RR kT3 f9 fj ((ix g (1:Int)).Data)::_::_::_::_::i) ?_
 refine dF 10 [] bO (fun ht hn=>(dR 0 R (vS R) (dR 1 R (eM gD bT R R a0) (dR 2 R (vz (.pointer (some ⟨ew,o27+(0:Int).toNat*2,none⟩)) (kI iN R R)) (dR 3 R (eN (fo:=0) 3 cY R R R) (dR 4 R (vS R) (dR 5 R (eM gD bT R R bu) (dR 6 R (vz (.pointer (some ⟨ew,o27+(1:Int).toNat*2,none⟩)) (kI iN R R)) (dR 7 R (eN (fo:=0) 0 cY R R R) (d1 8 R (lM (aN _ _ _::aN _ _ _::cl _ _ _::aN _ _ _::aN _ _ _::cl _ _ _::aN _ _ _::aN _ _ _::aJ _ _ _::i) (fun w s=>(((s.d 4 R).d 2 R).f 9 [1,1,0,1,2,7])) ?_)))))))))))
 refine lC 2 xf R (Z01_ok hh) R ?_
 rintro _
 refine lN (_::_::_::_::_::_::_::i) ?_
 refine aC (aI (sL []) (dR 9 R (pn R) (dD (aG ?_))))
 rcases cH b with ⟨de,b⟩|⟨de,b⟩
 refine bV R de (aK (aD (lO (vz (.agg [(.slice none 0 0),(.slice none 0 0)].toArray) (aX gU dX R R)) (aL 6 R R bT R R R R R R (aC (aG (bY (cG (dL (cG ?_))))))))))
 obtain rfl:=so b
 exact dC (vs:=[(.agg [(.slice none 0 0),(.slice none 0 0)].toArray)]) (.inl R) ((none,0,0),(none,0,0)) R ⟨⟨6,l,_,_,R,R,.inl ⟨fR,bT,R⟩⟩,trivial⟩ R (fun w s=>(((s.nilo kT3 3).nilo kT3 3).e 15 [1,0]))
 refine bG R de (cF (aG (aK ?_)))
 obtain ⟨a3,hi,b⟩:=bd b
 refine dF 12 [6] bO (fun ht hn=>(dR 0 R (fX 0 jR R) (hS:=(sL [6])) (dR 1 R (gF 6 fP R R R) (hS:=(sL [6])) (dR 2 R (uv R R) (hS:=(sL [6])) (dR 3 R (jt R R) (hS:=(sL [6])) (dR 4 R (vS R) (hS:=(sL [6])) (dR 5 R (eM gD bT R R a0) (hS:=(sL [6])) (dR 6 R (vz (.agg [(sc f6 ((ix g (0:Int)).Dims) fg),(sc f7 ((ix g (0:Int)).Data) fh)].toArray) (eF (fo:=0) 3 fR bT R R R R)) (hS:=(sL [6])) (dR 7 R (vS R) (hS:=(sL [6])) (dR 8 R (eM gD bT R R bu) (hS:=(sL [6])) (dR 9 R (vz (.agg [(sc f8 ((ix g (1:Int)).Dims) fi),(sc f9 ((ix g (1:Int)).Data) fj)].toArray) (eF (fo:=0) 0 fR bT R R R R)) (hS:=(sL [6])) (d1 10 R (lM (aN _ _ _::aN _ _ _::aN _ _ _::aN _ _ _::cl _ _ _::aN _ _ _::aN _ _ _::cl _ _ _::aN _ _ _::aN _ _ _::aJ _ _ _::i) (fun w s=>(((((s.d 4 R).d 6 R).d 3 R).d 5 R).f 11 [3,1,2,1,1,1,0,1,4,7])) ?_)))))))))))))
 refine lC 4 Bh R (Z13_ok hi) R ?_
 rintro ⟨⟨e3,hv,eh⟩,⟨e4,hx,ei⟩⟩
 refine lN (ow kT3 3 (.slice e3 hv eh) a3.Dims::ow kT3 3 (.slice e4 hx ei) a3.Data::_::_::_::_::_::_::_::i) ?_
 refine aM 0 aB ?_
 rintro rfl
 refine aM 1 aB ?_
 rintro rfl
 refine aC (aI (sL [8,1,0]) (d1 11 R (aL 8 R R bT R R R R R R (lN (_::_::_::_::_::_::_::_::aJ l [(sc e3 a3.Dims eh),(sc e4 a3.Data ei)] 42::i) ?_))))
 refine aC (aI (sL [8,1,0]) (dD (aG (bY (dL (cG ?_))))))
 obtain rfl:=so b
 exact dC (vs:=[(.agg [(sc e3 a3.Dims eh),(sc e4 a3.Data ei)].toArray)]) (.inl R) ((e3,a3.Dims.length,eh),(e4,a3.Data.length,ei)) R ⟨⟨8,l,_,_,R,R,.inl ⟨fR,bT,R⟩⟩,trivial⟩ R (fun w s=>(s.e 15 [0,1]))
 refine bG R dd (aK (bB (A:=(Bool)×(Unit)) (fun a=>Z1_J2 j g a.1=some r) (fun a=>[(1,(sc A7 g D7)),(2,(pt b8 0)),(4,(pt l 0)),(5,(sc A4 j.Ints D4)),(10,(iv j.Op)),(55,(.bool a.1))]) (fun a=>aJ l [(.slice none 0 0),(.slice none 0 0)] 42::i) ?_ ?_))
 refine aK (aD (lO (lR R R) (lB R (aC (aG ?_)))))
 rcases cH b with ⟨df,b⟩|⟨df,b⟩
 refine bV R df (cF ?_)
 exact qI ((j.Op==(6:Int)),()) b (fun w s=>s)
 refine bG R df (aK (aD (lO (lR R R) (lB R (aC (aG ?_))))))
 rcases cH b with ⟨dg,b⟩|⟨dg,b⟩
 refine bV R dg (cF ?_)
 exact qI ((j.Op==(7:Int)),()) b (fun w s=>s)
 refine bG R dg (aK (aD (lO (lR R R) (lB R (aC (aG ?_))))))
 rcases cH b with ⟨dh,b⟩|⟨dh,b⟩
 refine bV R dh (cF ?_)
 exact qI ((j.Op==(8:Int)),()) b (fun w s=>s)
 refine bG R dh (aD (lO (lR R R) (lB R (aC ?_))))
 exact qI ((j.Op==(9:Int)),()) b (fun w s=>s)
 rintro ⟨ih,_⟩ σ1 b
 replace b:Z1_J2 j g ih=some r:=b
 unfold Z1_J2 at b
 rcases cH b with ⟨di,b⟩|⟨di,b⟩
 refine bV R di (aK ?_)
 obtain ⟨bv,b⟩:=gd b
 obtain ⟨a4,hj,b⟩:=bd b
 refine bA 6 aA (show 0<g.length by have:=bv; omega) (fun id o47 m=>?_)
 subst m
 refine dO (K:=dP) 6 (0:Int) dT42.dec R bv.1 bv.2 ?_
 rintro ⟨⟨fa,fk⟩,⟨fb,fl⟩⟩
 refine cN (cl id (o47+(0:Int).toNat*2) [(sc fa ((ix g (0:Int)).Dims) fk),(sc fb ((ix g (0:Int)).Data) fl)]::RR kT3 fa fk ((ix g (0:Int)).Dims)::RR kT3 fb fl ((ix g (0:Int)).Data)::aJ l [(.slice none 0 0),(.slice none 0 0)] 42::i) ?_
 refine dF 9 [3] bO (fun ht hn=>(dR 0 R (fX 0 jR R) (hS:=(sL [3])) (dR 1 R (gF 3 fP R R R) (hS:=(sL [3])) (dR 2 R (uv R R) (hS:=(sL [3])) (dR 3 R (jt R R) (hS:=(sL [3])) (dR 4 R (vS R) (hS:=(sL [3])) (dR 5 R (eM gD bT R R bv) (hS:=(sL [3])) (dR 6 R (vz (.agg [(sc fa ((ix g (0:Int)).Dims) fk),(sc fb ((ix g (0:Int)).Data) fl)].toArray) (eF (fo:=0) 0 fR bT R R R R)) (hS:=(sL [3])) (d1 7 R (lM (aN _ _ _::aN _ _ _::cl _ _ _::aN _ _ _::aN _ _ _::aJ _ _ _::i) (fun w s=>(((s.d 1 R).d 3 R).e 6 [1,0,2,3,4,5])) ?_))))))))))
 refine lC 2 Bi R (Z12_ok hj) R ?_
 rintro ⟨⟨e5,hy,ej⟩,⟨e6,hz,ek⟩⟩
 refine lN (ow kT3 3 (.slice e5 hy ej) a4.Dims::ow kT3 3 (.slice e6 hz ek) a4.Data::_::_::_::_::i) ?_
 refine aM 0 aB ?_
 rintro rfl
 refine aM 1 aB ?_
 rintro rfl
 refine aC (aI (sL [5,1,0]) (d1 8 R (aL 5 R R bT R R R R R R (lN (_::_::_::_::_::aJ l [(sc e5 a4.Dims ej),(sc e6 a4.Data ek)] 42::i) ?_))))
 refine aC (aI (sL [5,1,0]) (dD (aG (bY (dL (cG ?_))))))
 obtain rfl:=so b
 exact dC (vs:=[(.agg [(sc e5 a4.Dims ej),(sc e6 a4.Data ek)].toArray)]) (.inl R) ((e5,a4.Dims.length,ej),(e6,a4.Data.length,ek)) R ⟨⟨5,l,_,_,R,R,.inl ⟨fR,bT,R⟩⟩,trivial⟩ R (fun w s=>(s.e 12 [0,1]))
 refine bG R di (aK (aD (lO (lR R R) (lB R (aC (aG ?_))))))
 rcases cH b with ⟨dj,b⟩|⟨dj,b⟩
 refine bV R dj (aK ?_)
 obtain ⟨bw,b⟩:=gd b
 obtain ⟨e0,b⟩:=gd b
 obtain ⟨a5,hk,b⟩:=bd b
 refine bA 6 aA (show 0<g.length by have:=bw; omega) (fun ie o57 m=>?_)
 subst m
 refine dO (K:=dP) 6 (0:Int) dT42.dec R bw.1 bw.2 ?_
 rintro ⟨⟨fc,fm⟩,⟨fd,fn⟩⟩
 refine cN (cl ie (o57+(0:Int).toNat*2) [(sc fc ((ix g (0:Int)).Dims) fm),(sc fd ((ix g (0:Int)).Data) fn)]::RR kT3 fc fm ((ix g (0:Int)).Dims)::RR kT3 fd fn ((ix g (0:Int)).Data)::aJ l [(.slice none 0 0),(.slice none 0 0)] 42::i) ?_
 refine bA 7 aA (show 0<j.Ints.length by have:=e0; omega) (fun iq o62 m=>?_)
 subst m
 refine dF 8 [3] bO (fun ht hn=>(dR 0 R (vS R) (hS:=(sL [3])) (dR 1 R (eM gD bT R R bw) (hS:=(sL [3])) (dR 2 R (vz (.agg [(sc fc ((ix g (0:Int)).Dims) fm),(sc fd ((ix g (0:Int)).Data) fn)].toArray) (eF (fo:=0) 0 fR bT R R R R)) (hS:=(sL [3])) (dR 3 R (vS R) (hS:=(sL [3])) (dR 4 R (eM bM cJ R R e0) (hS:=(sL [3])) (dR 5 R (gK 6 fP aA R e0) (hS:=(sL [3])) (d1 6 R (lM (aN _ _ _::aN _ _ _::cl _ _ _::aN _ _ _::aN _ _ _::aJ _ _ _::i) (fun w s=>(((s.d 1 R).d 3 R).e 6 [1,0,2,3,4,5])) ?_)))))))))
 refine lC 2 Bj R (Zb_ok hk) R ?_
 rintro ⟨⟨e7,i0,el⟩,⟨e8,i1,em⟩⟩
 refine lN (ow kT3 3 (.slice e7 i0 el) a5.Dims::ow kT3 3 (.slice e8 i1 em) a5.Data::_::_::_::_::i) ?_
 refine aM 0 aB ?_
 rintro rfl
 refine aM 1 aB ?_
 rintro rfl
 refine aC (aI (sL [5,1,0]) (d1 7 R (aL 5 R R bT R R R R R R (lN (_::_::_::_::_::aJ l [(sc e7 a5.Dims el),(sc e8 a5.Data em)] 42::i) ?_))))
 refine aC (aI (sL [5,1,0]) (dD (aG (bY (dL (cG ?_))))))
 obtain rfl:=so b
 exact dC (vs:=[(.agg [(sc e7 a5.Dims el),(sc e8 a5.Data em)].toArray)]) (.inl R) ((e7,a5.Dims.length,el),(e8,a5.Data.length,em)) R ⟨⟨5,l,_,_,R,R,.inl ⟨fR,bT,R⟩⟩,trivial⟩ R (fun w s=>(s.e 12 [0,1]))
 refine bG R dj (aK (aD (lO (lR R R) (lB R (aC (aG ?_))))))
 rcases cH b with ⟨dk,b⟩|⟨dk,b⟩
 refine bV R dk (aK ?_)
 obtain ⟨a7,hl,b⟩:=bd b
 refine aD (lO (fX 4 sO R) (lO (gF 1 rp R R R) (lS R (lM (RR dP A7 D7 g::aJ l [(.slice none 0 0),(.slice none 0 0)] 42::i) (fun w s=>(s.d 6 R)) ?_))))
 refine lC 1 Bk R (Z5_ok hl) R ?_
 rintro ⟨⟨e9,i2,en⟩,⟨ea,i3,eo⟩⟩
 refine lN (ow kT3 3 (.slice e9 i2 en) a7.Dims::ow kT3 3 (.slice ea i3 eo) a7.Data::_::i) ?_
 refine aM 0 aB ?_
 rintro rfl
 refine aM 1 aB ?_
 rintro rfl
 refine aL 2 R R bT R R R R R R (lN (_::_::aJ l [(sc e9 a7.Dims en),(sc ea a7.Data eo)] 42::i) ?_)
 refine aC (aG (bY (dL (cG ?_))))
 obtain rfl:=so b
 exact dC (vs:=[(.agg [(sc e9 a7.Dims en),(sc ea a7.Data eo)].toArray)]) (.inl R) ((e9,a7.Dims.length,en),(ea,a7.Data.length,eo)) R ⟨⟨2,l,_,_,R,R,.inl ⟨fR,bT,R⟩⟩,trivial⟩ R (fun w s=>(s.e 9 [0,1]))
 refine bG R dk (aK (aD (lO (lR R R) (lB R (aC (aG ?_))))))
 rcases cH b with ⟨dl,b⟩|⟨dl,b⟩
 refine bV R dl (aK ?_)
 obtain ⟨a1,b⟩:=gd b
 obtain ⟨ap,hm,b⟩:=bd b
 obtain ⟨a8,ho,b⟩:=bd b
 obtain ⟨a9,hp,b⟩:=bd b
 refine bA 6 aA (show 0<g.length by have:=a1; omega) (fun hc o75 m=>?_)
 subst m
 refine dO (K:=dP) 6 (0:Int) dT42.dec R a1.1 a1.2 ?_
 rintro ⟨⟨cj,d5⟩,⟨ck,d6⟩⟩
 refine cN (cl hc (o75+(0:Int).toNat*2) [(sc cj ((ix g (0:Int)).Dims) d5),(sc ck ((ix g (0:Int)).Data) d6)]::RR kT3 cj d5 ((ix g (0:Int)).Dims)::RR kT3 ck d6 ((ix g (0:Int)).Data)::aJ l [(.slice none 0 0),(.slice none 0 0)] 42::i) ?_
 refine dF 13 [3] bO (fun ht hn=>(dR 0 R (vS R) (hS:=(sL [3])) (dR 1 R (eM gD bT R R a1) (hS:=(sL [3])) (dR 2 R (vz (.agg [(sc cj ((ix g (0:Int)).Dims) d5),(sc ck ((ix g (0:Int)).Data) d6)].toArray) (eF (fo:=0) 0 fR bT R R R R)) (hS:=(sL [3])) (dR 3 R (vS R) (hS:=(sL [3])) (dR 4 R (eM gD bT R R a1) (hS:=(sL [3])) (dR 5 R (vz (.pointer (some ⟨hc,o75+(0:Int).toNat*2,none⟩)) (kI iN R R)) (hS:=(sL [3])) (dR 6 R (eN (fo:=0) 0 cY R R R) (hS:=(sL [3])) (dR 8 R (fX 2 ld R) (hS:=(sL [3])) (dR 9 R (gF 3 cY R R R) (hS:=(sL [3])) (d1 7 R (lM (_::_::_::_::_::i) (fun w s=>(s.d 1 R)) ?_))))))))))))
 refine lC 1 uG R (Zx_ok hm) R ?_
 rintro ⟨⟨fe,i4,fp⟩,⟨eb,i5,ep⟩⟩
 refine lN (aN kT3 (.slice fe i4 fp) ap.Dims::ow kT3 3 (.slice eb i5 ep) ap.Strides::_::_::_::_::i) ?_
 refine aM 0 aA ?_
 rintro rfl
 refine aM 1 aB ?_
 rintro rfl
 refine aC (aI (sL [5,1,0]) (d1 10 R (lM (ow _ _ _ _::aN _ _ _::RR kT3 A3 D3 j.Dims::aN _ _ _::cl _ _ _::aN _ _ _::aN _ _ _::aJ _ _ _::i) (fun w s=>(((s.d 0 R).d 9 R).e 8 [3,1,0,2,4,5,6,7])) ?_)))
 refine lC 3 Bl R (FnOk.lends (A':=[OO kT3 3 eb ep ap.Strides]) (A:=[RR kT3 eb ep ap.Strides]) (B:=[RR kT3 fe fp ap.Dims,RR kT3 A3 D3 j.Dims]) (FnOk.perm (Z05_ok ho) (Pre':=[RR kT3 eb ep ap.Strides,RR kT3 fe fp ap.Dims,RR kT3 A3 D3 j.Dims]) (fun _ _ _ s=>(s.e 3 [1,0,2]))) ⟨aZ,trivial⟩ (fun _=>⟨(bN ji),(bN ji),trivial⟩)) R ?_
 rintro ⟨⟨ec,i6,eq⟩,⟨ed,i7,er⟩⟩
 refine lN (_::ow kT3 3 (.slice ec i6 eq) a8.Dims::ow kT3 3 (.slice ed i7 er) a8.Strides::_::_::_::_::_::i) ?_
 refine aM 1 aB ?_
 rintro rfl
 refine aM 2 aB ?_
 rintro rfl
 refine aC (aI (sL [7,3,2,1,0]) (d1 11 R (lM (ow _ _ _ _::ow _ _ _ _::aN _ _ _::aN _ _ _::ow _ _ _ _::aN _ _ _::cl _ _ _::aN _ _ _::aN _ _ _::aJ _ _ _::i) (fun w s=>(((s.d 5 R).d 7 R).e 10 [3,4,1,0,2,5,6,7,8,9])) ?_)))
 refine lC 4 uH R (FnOk.lends (A':=[OO kT3 3 ec eq a8.Dims,OO kT3 3 ed er a8.Strides]) (A:=[RR kT3 ec eq a8.Dims,RR kT3 ed er a8.Strides]) (B:=[RR kT3 cj d5 ((ix g (0:Int)).Dims),RR kT3 ck d6 ((ix g (0:Int)).Data)]) (FnOk.perm (Z02_ok hp) (Pre':=[RR kT3 ec eq a8.Dims,RR kT3 ed er a8.Strides,RR kT3 cj d5 ((ix g (0:Int)).Dims),RR kT3 ck d6 ((ix g (0:Int)).Data)]) (fun _ _ _ s=>(s.e 4 [2,3,0,1]))) ⟨aZ,aZ,trivial⟩ (fun _=>⟨(bN ji),(bN ji),trivial⟩)) R ?_
 rintro ⟨⟨ee,i8,es⟩,⟨ef,i9,et⟩⟩
 refine lN (_::_::ow kT3 3 (.slice ee i8 es) a9.Dims::ow kT3 3 (.slice ef i9 et) a9.Data::_::_::_::_::_::_::i) ?_
 refine aM 2 aB ?_
 rintro rfl
 refine aM 3 aB ?_
 rintro rfl
 refine aC (aI (sL [9,5,4,3,2,1,0]) (d1 12 R (aL 9 R R bT R R R R R R (lN (_::_::_::_::_::_::_::_::_::aJ l [(sc ee a9.Dims es),(sc ef a9.Data et)] 42::i) ?_))))
 refine aC (aI (sL [9,5,4,3,2,1,0]) (dD (aG (bY (dL (cG ?_))))))
 obtain rfl:=so b
 exact dC (vs:=[(.agg [(sc ee a9.Dims es),(sc ef a9.Data et)].toArray)]) (.inl R) ((ee,a9.Dims.length,es),(ef,a9.Data.length,et)) R ⟨⟨9,l,_,_,R,R,.inl ⟨fR,bT,R⟩⟩,trivial⟩ R (fun w s=>(s.e 16 [2,3]))
 refine bG R dl (aK (aD (lO (lR R R) (lB R (aC (aG ?_))))))
 rcases cH b with ⟨dm,b⟩|⟨dm,b⟩
 refine bV R dm (aK ?_)
 obtain ⟨a2,b⟩:=gd b
 obtain ⟨aq,hq,b⟩:=bd b
 obtain ⟨q,fr,b⟩:=bd b
 obtain ⟨u,fs,b⟩:=bd b
 refine bA 6 aA (show 0<g.length by have:=a2; omega) (fun hd o93 m=>?_)
 subst m
 refine dO (K:=dP) 6 (0:Int) dT42.dec R a2.1 a2.2 ?_
 rintro ⟨⟨cm,d7⟩,⟨cn,d8⟩⟩
 refine cN (cl hd (o93+(0:Int).toNat*2) [(sc cm ((ix g (0:Int)).Dims) d7),(sc cn ((ix g (0:Int)).Data) d8)]::RR kT3 cm d7 ((ix g (0:Int)).Dims)::RR kT3 cn d8 ((ix g (0:Int)).Data)::aJ l [(.slice none 0 0),(.slice none 0 0)] 42::i) ?_
 refine dF 13 [3] bO (fun ht hn=>(dR 0 R (vS R) (hS:=(sL [3])) (dR 1 R (eM gD bT R R a2) (hS:=(sL [3])) (dR 2 R (vz (.agg [(sc cm ((ix g (0:Int)).Dims) d7),(sc cn ((ix g (0:Int)).Data) d8)].toArray) (eF (fo:=0) 0 fR bT R R R R)) (hS:=(sL [3])) (dR 3 R (vS R) (hS:=(sL [3])) (dR 4 R (eM gD bT R R a2) (hS:=(sL [3])) (dR 5 R (vz (.pointer (some ⟨hd,o93+(0:Int).toNat*2,none⟩)) (kI iN R R)) (hS:=(sL [3])) (dR 6 R (eN (fo:=0) 0 cY R R R) (hS:=(sL [3])) (dR 8 R (fX 2 ld R) (hS:=(sL [3])) (dR 9 R (gF 3 cY R R R) (hS:=(sL [3])) (d1 7 R (lM (_::_::_::_::_::i) (fun w s=>(s.d 1 R)) ?_))))))))))))
 refine lC 1 uG R (Zx_ok hq) R ?_
 rintro ⟨⟨ff,ia,fq⟩,⟨eg,ib,eu⟩⟩
 refine lN (aN kT3 (.slice ff ia fq) aq.Dims::ow kT3 3 (.slice eg ib eu) aq.Strides::_::_::_::_::i) ?_
 refine aM 0 aA ?_
 rintro rfl
 refine aM 1 aB ?_
 rintro rfl
 refine aC (aI (sL [5,1,0]) (d1 10 R (lM (ow _ _ _ _::aN _ _ _::RR kT3 A3 D3 j.Dims::aN _ _ _::cl _ _ _::aN _ _ _::aN _ _ _::aJ _ _ _::i) (fun w s=>(((s.d 0 R).d 9 R).e 8 [3,1,0,2,4,5,6,7])) ?_)))
 refine lC 3 Bm R (FnOk.lends (A':=[OO kT3 3 eg eu aq.Strides]) (A:=[RR kT3 eg eu aq.Strides]) (B:=[RR kT3 ff fq aq.Dims,RR kT3 A3 D3 j.Dims]) (FnOk.perm (Z0c_ok fr) (Pre':=[RR kT3 eg eu aq.Strides,RR kT3 ff fq aq.Dims,RR kT3 A3 D3 j.Dims]) (fun _ _ _ s=>(s.e 3 [1,0,2]))) ⟨aZ,trivial⟩ (fun _=>⟨(bN ji),(bN ji),trivial⟩)) R ?_
 rintro ⟨⟨ar,gg,bb⟩,⟨au,gh,bc⟩⟩
 refine lN (_::ow kT3 3 (.slice ar gg bb) q.Dims::ow kT3 3 (.slice au gh bc) q.Strides::_::_::_::_::_::i) ?_
 refine aM 1 aB ?_
 rintro rfl
 refine aM 2 aB ?_
 rintro rfl
 refine aC (aI (sL [7,3,2,1,0]) (d1 11 R (lM (ow _ _ _ _::ow _ _ _ _::aN _ _ _::aN _ _ _::ow _ _ _ _::aN _ _ _::cl _ _ _::aN _ _ _::aN _ _ _::aJ _ _ _::i) (fun w s=>(((s.d 5 R).d 7 R).e 10 [3,4,1,0,2,5,6,7,8,9])) ?_)))
 refine lC 4 uH R (FnOk.lends (A':=[OO kT3 3 ar bb q.Dims,OO kT3 3 au bc q.Strides]) (A:=[RR kT3 ar bb q.Dims,RR kT3 au bc q.Strides]) (B:=[RR kT3 cm d7 ((ix g (0:Int)).Dims),RR kT3 cn d8 ((ix g (0:Int)).Data)]) (FnOk.perm (Z02_ok fs) (Pre':=[RR kT3 ar bb q.Dims,RR kT3 au bc q.Strides,RR kT3 cm d7 ((ix g (0:Int)).Dims),RR kT3 cn d8 ((ix g (0:Int)).Data)]) (fun _ _ _ s=>(s.e 4 [2,3,0,1]))) ⟨aZ,aZ,trivial⟩ (fun _=>⟨(bN ji),(bN ji),trivial⟩)) R ?_
 rintro ⟨⟨av,gi,be⟩,⟨aw,gj,bf⟩⟩
 refine lN (_::_::ow kT3 3 (.slice av gi be) u.Dims::ow kT3 3 (.slice aw gj bf) u.Data::_::_::_::_::_::_::i) ?_
 refine aM 2 aB ?_
 rintro rfl
 refine aM 3 aB ?_
 rintro rfl
 refine aC (aI (sL [9,5,4,3,2,1,0]) (d1 12 R (aL 9 R R bT R R R R R R (lN (_::_::_::_::_::_::_::_::_::aJ l [(sc av u.Dims be),(sc aw u.Data bf)] 42::i) ?_))))
 refine aC (aI (sL [9,5,4,3,2,1,0]) (dD (aG (bY (dL (cG ?_))))))
 obtain rfl:=so b
 exact dC (vs:=[(.agg [(sc av u.Dims be),(sc aw u.Data bf)].toArray)]) (.inl R) ((av,u.Dims.length,be),(aw,u.Data.length,bf)) R ⟨⟨9,l,_,_,R,R,.inl ⟨fR,bT,R⟩⟩,trivial⟩ R (fun w s=>(s.e 16 [2,3]))
 refine bG R dm (aK (aD (lO (lR R R) (lB R (aC (aG ?_))))))
 rcases cH b with ⟨aa,b⟩|⟨aa,b⟩
 refine bV R aa (aK (aK ?_))
 obtain ⟨L,b⟩:=gd b
 refine aD (lS R (bC 4 aA (show 0<j.Ints.length by have:=L; omega) (fun ii o111 m=>?_)))
 subst m
 refine lO (eM bM cJ R R L) (lO (gK 4 fP aA R L) (lO (n0 R R) (aC (aG ?_))))
 rcases cH b with ⟨ab,b⟩|⟨ab,b⟩
 refine bV R ab (aK (aD (lO (vz (.agg [(.slice none 0 0),(.slice none 0 0)].toArray) (aX gU dX R R)) (aL 0 R R bT R R R R R R (lN (aJ l [(.slice none 0 0),(.slice none 0 0)] 42::i) ?_)))))
 refine aC (aG (bY (cG (dL (cG ?_)))))
 obtain rfl:=so b
 exact dC (vs:=[(.agg [(.slice none 0 0),(.slice none 0 0)].toArray)]) (.inl R) ((none,0,0),(none,0,0)) R ⟨⟨0,l,_,_,R,R,.inl ⟨fR,bT,R⟩⟩,trivial⟩ R (fun w s=>(((s.nilo kT3 3).nilo kT3 3).e 9 [1,0]))
 refine bG R ab (cF (aG (aK ?_)))
 obtain ⟨M,b⟩:=gd b
 obtain ⟨bz,ft,b⟩:=bd b
 obtain ⟨dn,b⟩:=gd b
 obtain ⟨dq,b⟩:=gd b
 obtain ⟨dr,b⟩:=gd b
 obtain ⟨f4,fu,b⟩:=bd b
 obtain ⟨D,fv,b⟩:=bd b
 refine bA 6 aA (show 0<g.length by have:=M; omega) (fun f2 o115 m=>?_)
 subst m
 refine dO (K:=dP) 6 (0:Int) dT42.dec R M.1 M.2 ?_
 rintro ⟨⟨c1,co⟩,⟨c2,cp⟩⟩
 refine cN (cl f2 (o115+(0:Int).toNat*2) [(sc c1 ((ix g (0:Int)).Dims) co),(sc c2 ((ix g (0:Int)).Data) cp)]::RR kT3 c1 co ((ix g (0:Int)).Dims)::RR kT3 c2 cp ((ix g (0:Int)).Data)::_::i) ?_
 refine dF 23 [3] bO (fun ht hn=>(dR 0 R (vS R) (hS:=(sL [3])) (dR 1 R (eM gD bT R R M) (hS:=(sL [3])) (dR 2 R (vz (.agg [(sc c1 ((ix g (0:Int)).Dims) co),(sc c2 ((ix g (0:Int)).Data) cp)].toArray) (eF (fo:=0) 0 fR bT R R R R)) (hS:=(sL [3])) (dR 3 R (vS R) (hS:=(sL [3])) (dR 4 R (eM gD bT R R M) (hS:=(sL [3])) (dR 5 R (vz (.pointer (some ⟨f2,o115+(0:Int).toNat*2,none⟩)) (kI iN R R)) (hS:=(sL [3])) (dR 6 R (eN (fo:=0) 0 cY R R R) (hS:=(sL [3])) (dR 8 R (vS R) (hS:=(sL [3])) (dR 9 R (eM bM cJ R R dn) (hS:=(sL [3])) (dR 10 R (gK 6 fP aA R dn) (hS:=(sL [3])) (dR 11 R (vS R) (hS:=(sL [3])) (dR 12 R (eM bM cJ R R dq) (hS:=(sL [3])) (dR 13 R (gK 6 fP aA R dq) (hS:=(sL [3])) (dR 14 R (vS R) (hS:=(sL [3])) (dR 15 R (eM bM cJ R R dr) (hS:=(sL [3])) (dR 16 R (gK 6 fP aA R dr) (hS:=(sL [3])) (dR 17 R (vS R) (hS:=(sL [3])) (dR 18 R (eM bM cJ R R L) (hS:=(sL [3])) (dR 19 R (gK 6 fP aA R L) (hS:=(sL [3])) (d1 7 R (lM (_::_::_::_::_::i) (fun w s=>(s.d 1 R)) ?_))))))))))))))))))))))
 refine lC 1 uG R (Zx_ok ft) R ?_
 rintro ⟨⟨g3,gk,g9⟩,⟨c3,gm,cq⟩⟩
 refine lN (aN kT3 (.slice g3 gk g9) bz.Dims::ow kT3 3 (.slice c3 gm cq) bz.Strides::_::_::_::_::i) ?_
 refine aM 0 aA ?_
 rintro rfl
 refine aM 1 aB ?_
 rintro rfl
 refine aC (aI (sL [5,1,0]) (d1 20 R (iV (fun w s=>s.shr 1 R) (lM (aN _ _ _::RR kT3 c3 cq bz.Strides::RR kT3 c3 cq bz.Strides::aN _ _ _::cl _ _ _::aN _ _ _::aN _ _ _::aJ _ _ _::i) (fun w s=>(((s.d 1 R).d 1 R).f 8 [1,1,0,1,2,6])) ?_))))
 refine lC 2 Bn R (Z1b_ok fu) R ?_
 rintro ⟨⟨g4,gn,ga⟩,⟨g5,gp,gb⟩⟩
 refine lN (aN kT3 (.slice g4 gn ga) f4.Dims::aN kT3 (.slice g5 gp gb) f4.Strides::_::_::_::_::_::_::i) ?_
 refine aM 0 aA ?_
 rintro rfl
 refine aM 1 aA ?_
 rintro rfl
 refine aC (aI (sL [7,3,2,1,0]) (d1 21 R (lM (aN _ _ _::aN _ _ _::aN _ _ _::aN _ _ _::aN _ _ _::aN _ _ _::aN _ _ _::aN _ _ _::cl _ _ _::aN _ _ _::aN _ _ _::aJ _ _ _::i) (fun w s=>(((((s.d 5 R).d 7 R).d 2 R).d 4 R).f 12 [3,1,2,1,1,1,0,1,4,8])) ?_)))
 refine lC 4 uH R (Z02_ok fv) R ?_
 rintro ⟨⟨ax,gq,bg⟩,⟨ay,gr,bh⟩⟩
 refine lN (ow kT3 3 (.slice ax gq bg) D.Dims::ow kT3 3 (.slice ay gr bh) D.Data::_::_::_::_::_::_::_::_::i) ?_
 refine aM 0 aB ?_
 rintro rfl
 refine aM 1 aB ?_
 rintro rfl
 refine aC (aI (sL [9,5,4,3,2,1,0]) (d1 22 R (aL 9 R R bT R R R R R R (lN (_::_::_::_::_::_::_::_::_::aJ l [(sc ax D.Dims bg),(sc ay D.Data bh)] 42::i) ?_))))
 refine aC (aI (sL [9,5,4,3,2,1,0]) (dD (aG (bY (dL (cG ?_))))))
 obtain rfl:=so b
 exact dC (vs:=[(.agg [(sc ax D.Dims bg),(sc ay D.Data bh)].toArray)]) (.inl R) ((ax,D.Dims.length,bg),(ay,D.Data.length,bh)) R ⟨⟨9,l,_,_,R,R,.inl ⟨fR,bT,R⟩⟩,trivial⟩ R (fun w s=>(s.e 16 [0,1]))
 refine bG R aa (aK (aD (lO (lR R R) (lB R (aC (aG ?_))))))
 rcases cH b with ⟨ac,b⟩|⟨ac,b⟩
 refine bV R ac (aK ?_)
 obtain ⟨T,b⟩:=gd b
 obtain ⟨ai,b⟩:=gd b
 obtain ⟨ds,b⟩:=gd b
 obtain ⟨dt,b⟩:=gd b
 obtain ⟨du,b⟩:=gd b
 obtain ⟨E,fw,b⟩:=bd b
 refine bA 6 aA (show 0<g.length by have:=T; omega) (fun h7 o136 m=>?_)
 subst m
 refine dO (K:=dP) 6 (0:Int) dT42.dec R T.1 T.2 ?_
 rintro ⟨⟨c4,cr⟩,⟨c5,cs⟩⟩
 refine cN (cl h7 (o136+(0:Int).toNat*2) [(sc c4 ((ix g (0:Int)).Dims) cr),(sc c5 ((ix g (0:Int)).Data) cs)]::RR kT3 c4 cr ((ix g (0:Int)).Dims)::RR kT3 c5 cs ((ix g (0:Int)).Data)::aJ l [(.slice none 0 0),(.slice none 0 0)] 42::i) ?_
 refine bA 7 aA (show 0<j.Ints.length by have:=ai; omega) (fun ij o141 m=>?_)
 subst m
 refine dF 17 [3] bO (fun ht hn=>(dR 0 R (vS R) (hS:=(sL [3])) (dR 1 R (eM gD bT R R T) (hS:=(sL [3])) (dR 2 R (vz (.agg [(sc c4 ((ix g (0:Int)).Dims) cr),(sc c5 ((ix g (0:Int)).Data) cs)].toArray) (eF (fo:=0) 0 fR bT R R R R)) (hS:=(sL [3])) (dR 3 R (vS R) (hS:=(sL [3])) (dR 4 R (eM bM cJ R R ai) (hS:=(sL [3])) (dR 5 R (gK 6 fP aA R ai) (hS:=(sL [3])) (dR 6 R (vS R) (hS:=(sL [3])) (dR 7 R (eM bM cJ R R ds) (hS:=(sL [3])) (dR 8 R (gK 6 fP aA R ds) (hS:=(sL [3])) (dR 9 R (vS R) (hS:=(sL [3])) (dR 10 R (eM bM cJ R R dt) (hS:=(sL [3])) (dR 11 R (gK 6 fP aA R dt) (hS:=(sL [3])) (dR 12 R (vS R) (hS:=(sL [3])) (dR 13 R (eM bM cJ R R du) (hS:=(sL [3])) (dR 14 R (gK 6 fP aA R du) (hS:=(sL [3])) (d1 15 R (lM (aN _ _ _::aN _ _ _::cl _ _ _::aN _ _ _::aN _ _ _::aJ _ _ _::i) (fun w s=>(((s.d 1 R).d 3 R).e 6 [1,0,2,3,4,5])) ?_))))))))))))))))))
 refine lC 2 Bo R (Z0t_ok fw) R ?_
 rintro ⟨⟨az,gs,bi⟩,⟨b0,gt,bj⟩⟩
 refine lN (ow kT3 3 (.slice az gs bi) E.Dims::ow kT3 3 (.slice b0 gt bj) E.Data::_::_::_::_::i) ?_
 refine aM 0 aB ?_
 rintro rfl
 refine aM 1 aB ?_
 rintro rfl
 refine aC (aI (sL [5,1,0]) (d1 16 R (aL 5 R R bT R R R R R R (lN (_::_::_::_::_::aJ l [(sc az E.Dims bi),(sc b0 E.Data bj)] 42::i) ?_))))
 refine aC (aI (sL [5,1,0]) (dD (aG (bY (dL (cG ?_))))))
 obtain rfl:=so b
 exact dC (vs:=[(.agg [(sc az E.Dims bi),(sc b0 E.Data bj)].toArray)]) (.inl R) ((az,E.Dims.length,bi),(b0,E.Data.length,bj)) R ⟨⟨5,l,_,_,R,R,.inl ⟨fR,bT,R⟩⟩,trivial⟩ R (fun w s=>(s.e 12 [0,1]))
 refine bG R ac (aK (aD (lO (lR R R) (lB R (aC (aG ?_))))))
 rcases cH b with ⟨ae,b⟩|⟨ae,b⟩
 refine bV R ae (aK ?_)
 obtain ⟨U,b⟩:=gd b
 obtain ⟨aj,b⟩:=gd b
 obtain ⟨ak,b⟩:=gd b
 obtain ⟨F,fx,b⟩:=bd b
 refine bA 6 aA (show 0<g.length by have:=U; omega) (fun h8 o152 m=>?_)
 subst m
 refine dO (K:=dP) 6 (0:Int) dT42.dec R U.1 U.2 ?_
 rintro ⟨⟨c6,ct⟩,⟨c7,cu⟩⟩
 refine cN (cl h8 (o152+(0:Int).toNat*2) [(sc c6 ((ix g (0:Int)).Dims) ct),(sc c7 ((ix g (0:Int)).Data) cu)]::RR kT3 c6 ct ((ix g (0:Int)).Dims)::RR kT3 c7 cu ((ix g (0:Int)).Data)::aJ l [(.slice none 0 0),(.slice none 0 0)] 42::i) ?_
 refine bA 7 aA (show 0<j.Ints.length by have:=aj; omega) (fun ik o157 m=>?_)
 subst m
 refine dF 10 [3] bO (fun ht hn=>(dR 0 R (vS R) (hS:=(sL [3])) (dR 1 R (eM gD bT R R U) (hS:=(sL [3])) (dR 2 R (vz (.agg [(sc c6 ((ix g (0:Int)).Dims) ct),(sc c7 ((ix g (0:Int)).Data) cu)].toArray) (eF (fo:=0) 0 fR bT R R R R)) (hS:=(sL [3])) (dR 3 R (vS R) (hS:=(sL [3])) (dR 4 R (eM bM cJ R R aj) (hS:=(sL [3])) (dR 5 R (gK 6 fP aA R aj) (hS:=(sL [3])) (dR 6 R (vS R) (hS:=(sL [3])) (d1 7 R (gJ (K:=kT3) (1:Int) (j.Ints.length:Int) 7 R R bM cJ R R R R ak.1 ak.2.1 ak.2.2 (fun ey f0=>(aC (aI (sL [4,0]) (d1 8 R (lM (aN _ _ _::aN _ _ _::RR kT3 ey f0 (sub j.Ints (1:Int) (j.Ints.length:Int))::RR kT3 ey f0 (sub j.Ints (1:Int) (j.Ints.length:Int))::cl _ _ _::aN _ _ _::aN _ _ _::aJ _ _ _::i) (fun w s=>((((s.d 2 R).d 4 R).d 2 R).e 8 [2,1,0,3,4,5,6,7])) ?_)))))))))))))))
 refine lC 3 Bp R (Z0s_ok fx) R ?_
 rintro ⟨⟨b1,gu,bk⟩,⟨b2,gw,bl⟩⟩
 refine lN (ow kT3 3 (.slice b1 gu bk) F.Dims::ow kT3 3 (.slice b2 gw bl) F.Data::_::_::_::_::_::i) ?_
 refine aM 0 aB ?_
 rintro rfl
 refine aM 1 aB ?_
 rintro rfl
 refine aC (aI (sL [6,2,1,0]) (d1 9 R (aL 6 R R bT R R R R R R (lN (_::_::_::_::_::_::aJ l [(sc b1 F.Dims bk),(sc b2 F.Data bl)] 42::i) ?_))))
 refine aC (aI (sL [6,2,1,0]) (dD (aG (bY (dL (cG ?_))))))
 obtain rfl:=so b
 exact dC (vs:=[(.agg [(sc b1 F.Dims bk),(sc b2 F.Data bl)].toArray)]) (.inl R) ((b1,F.Dims.length,bk),(b2,F.Data.length,bl)) R ⟨⟨6,l,_,_,R,R,.inl ⟨fR,bT,R⟩⟩,trivial⟩ R (fun w s=>(s.e 13 [0,1]))
 refine bG R ae (aK (aD (lO (lR R R) (lB R (aC (aG ?_))))))
 rcases cH b with ⟨ag,b⟩|⟨ag,b⟩
 refine bV R ag (aK ?_)
 obtain ⟨Y,b⟩:=gd b
 obtain ⟨al,b⟩:=gd b
 obtain ⟨am,b⟩:=gd b
 obtain ⟨dv,b⟩:=gd b
 obtain ⟨G,fy,b⟩:=bd b
 refine bA 6 aA (show 0<g.length by have:=Y; omega) (fun h9 o167 m=>?_)
 subst m
 refine dO (K:=dP) 6 (0:Int) dT42.dec R Y.1 Y.2 ?_
 rintro ⟨⟨c8,cv⟩,⟨c9,cw⟩⟩
 refine cN (cl h9 (o167+(0:Int).toNat*2) [(sc c8 ((ix g (0:Int)).Dims) cv),(sc c9 ((ix g (0:Int)).Data) cw)]::RR kT3 c8 cv ((ix g (0:Int)).Dims)::RR kT3 c9 cw ((ix g (0:Int)).Data)::aJ l [(.slice none 0 0),(.slice none 0 0)] 42::i) ?_
 refine bA 7 aA (show 0<j.Ints.length by have:=al; omega) (fun im o172 m=>?_)
 subst m
 refine dF 13 [3] bO (fun ht hn=>(dR 0 R (vS R) (hS:=(sL [3])) (dR 1 R (eM gD bT R R Y) (hS:=(sL [3])) (dR 2 R (vz (.agg [(sc c8 ((ix g (0:Int)).Dims) cv),(sc c9 ((ix g (0:Int)).Data) cw)].toArray) (eF (fo:=0) 0 fR bT R R R R)) (hS:=(sL [3])) (dR 3 R (vS R) (hS:=(sL [3])) (dR 4 R (eM bM cJ R R al) (hS:=(sL [3])) (dR 5 R (gK 6 fP aA R al) (hS:=(sL [3])) (dR 6 R (vS R) (hS:=(sL [3])) (dR 8 R (vS R) (hS:=(sL [3])) (dR 9 R (eM bM cJ R R dv) (hS:=(sL [3])) (dR 10 R (gK 6 fP aA R dv) (hS:=(sL [3])) (d1 7 R (gJ (K:=kT3) (2:Int) (j.Ints.length:Int) 7 R R bM cJ R R R R am.1 am.2.1 am.2.2 (fun ez f1=>(aC (aI (sL [4,0]) (d1 11 R (lM (aN _ _ _::aN _ _ _::RR kT3 ez f1 (sub j.Ints (2:Int) (j.Ints.length:Int))::RR kT3 ez f1 (sub j.Ints (2:Int) (j.Ints.length:Int))::cl _ _ _::aN _ _ _::aN _ _ _::aJ _ _ _::i) (fun w s=>((((s.d 2 R).d 4 R).d 2 R).e 8 [2,1,0,3,4,5,6,7])) ?_))))))))))))))))))
 refine lC 3 Bq R (Z0u_ok fy) R ?_
 rintro ⟨⟨b3,gx,bm⟩,⟨b4,gy,bn⟩⟩
 refine lN (ow kT3 3 (.slice b3 gx bm) G.Dims::ow kT3 3 (.slice b4 gy bn) G.Data::_::_::_::_::_::i) ?_
 refine aM 0 aB ?_
 rintro rfl
 refine aM 1 aB ?_
 rintro rfl
 refine aC (aI (sL [6,2,1,0]) (d1 12 R (aL 6 R R bT R R R R R R (lN (_::_::_::_::_::_::aJ l [(sc b3 G.Dims bm),(sc b4 G.Data bn)] 42::i) ?_))))
 refine aC (aI (sL [6,2,1,0]) (dD (aG (bY (dL (cG ?_))))))
 obtain rfl:=so b
 exact dC (vs:=[(.agg [(sc b3 G.Dims bm),(sc b4 G.Data bn)].toArray)]) (.inl R) ((b3,G.Dims.length,bm),(b4,G.Data.length,bn)) R ⟨⟨6,l,_,_,R,R,.inl ⟨fR,bT,R⟩⟩,trivial⟩ R (fun w s=>(s.e 13 [0,1]))
 refine bG R ag (aK (aD (lO (lR R R) (lB R (aC (aG ?_))))))
 rcases cH b with ⟨ah,b⟩|⟨ah,b⟩
 refine bV R ah (aK ?_)
 obtain ⟨O,b⟩:=gd b
 obtain ⟨c0,fz,b⟩:=bd b
 obtain ⟨an,b⟩:=gd b
 obtain ⟨dw,b⟩:=gd b
 obtain ⟨dx,b⟩:=gd b
 obtain ⟨f5,g0,b⟩:=bd b
 obtain ⟨I,g1,b⟩:=bd b
 refine bA 6 aA (show 0<g.length by have:=O; omega) (fun f3 o183 m=>?_)
 subst m
 refine dO (K:=dP) 6 (0:Int) dT42.dec R O.1 O.2 ?_
 rintro ⟨⟨cb,cy⟩,⟨cc,cz⟩⟩
 refine cN (cl f3 (o183+(0:Int).toNat*2) [(sc cb ((ix g (0:Int)).Dims) cy),(sc cc ((ix g (0:Int)).Data) cz)]::RR kT3 cb cy ((ix g (0:Int)).Dims)::RR kT3 cc cz ((ix g (0:Int)).Data)::aJ l [(.slice none 0 0),(.slice none 0 0)] 42::i) ?_
 refine bA 7 aA (show 0<j.Ints.length by have:=an; omega) (fun io o192 m=>?_)
 subst m
 refine dF 20 [3] bO (fun ht hn=>(dR 0 R (vS R) (hS:=(sL [3])) (dR 1 R (eM gD bT R R O) (hS:=(sL [3])) (dR 2 R (vz (.agg [(sc cb ((ix g (0:Int)).Dims) cy),(sc cc ((ix g (0:Int)).Data) cz)].toArray) (eF (fo:=0) 0 fR bT R R R R)) (hS:=(sL [3])) (dR 3 R (vS R) (hS:=(sL [3])) (dR 4 R (eM gD bT R R O) (hS:=(sL [3])) (dR 5 R (vz (.pointer (some ⟨f3,o183+(0:Int).toNat*2,none⟩)) (kI iN R R)) (hS:=(sL [3])) (dR 6 R (eN (fo:=0) 0 cY R R R) (hS:=(sL [3])) (dR 8 R (vS R) (hS:=(sL [3])) (dR 9 R (eM bM cJ R R an) (hS:=(sL [3])) (dR 10 R (gK 6 fP aA R an) (hS:=(sL [3])) (dR 11 R (vS R) (hS:=(sL [3])) (dR 12 R (eM bM cJ R R dw) (hS:=(sL [3])) (dR 13 R (gK 6 fP aA R dw) (hS:=(sL [3])) (dR 14 R (vS R) (hS:=(sL [3])) (dR 15 R (eM bM cJ R R dx) (hS:=(sL [3])) (dR 16 R (gK 6 fP aA R dx) (hS:=(sL [3])) (d1 7 R (lM (_::_::_::_::_::i) (fun w s=>(s.d 1 R)) ?_)))))))))))))))))))
 refine lC 1 uG R (Zx_ok fz) R ?_
 rintro ⟨⟨g6,gz,gc⟩,⟨cf,h0,d0⟩⟩
 refine lN (aN kT3 (.slice g6 gz gc) c0.Dims::ow kT3 3 (.slice cf h0 d0) c0.Strides::_::_::_::_::i) ?_
 refine aM 0 aA ?_
 rintro rfl
 refine aM 1 aB ?_
 rintro rfl
 refine aC (aI (sL [5,1,0]) (d1 17 R (iV (fun w s=>s.shr 1 R) (lM (aN _ _ _::RR kT3 cf d0 c0.Strides::RR kT3 cf d0 c0.Strides::aN _ _ _::cl _ _ _::aN _ _ _::aN _ _ _::aJ _ _ _::i) (fun w s=>(((s.d 1 R).d 1 R).f 8 [1,1,0,1,2,6])) ?_))))
 refine lC 2 z8 R (Z0e_ok g0) R ?_
 rintro ⟨⟨g7,h1,ge⟩,⟨g8,h2,gf⟩⟩
 refine lN (aN kT3 (.slice g7 h1 ge) f5.Dims::aN kT3 (.slice g8 h2 gf) f5.Strides::_::_::_::_::_::_::i) ?_
 refine aM 0 aA ?_
 rintro rfl
 refine aM 1 aA ?_
 rintro rfl
 refine aC (aI (sL [7,3,2,1,0]) (d1 18 R (lM (aN _ _ _::aN _ _ _::aN _ _ _::aN _ _ _::aN _ _ _::aN _ _ _::aN _ _ _::aN _ _ _::cl _ _ _::aN _ _ _::aN _ _ _::aJ _ _ _::i) (fun w s=>(((((s.d 5 R).d 7 R).d 2 R).d 4 R).f 12 [3,1,2,1,1,1,0,1,4,8])) ?_)))
 refine lC 4 uH R (Z02_ok g1) R ?_
 rintro ⟨⟨b5,h3,bp⟩,⟨b6,h4,bq⟩⟩
 refine lN (ow kT3 3 (.slice b5 h3 bp) I.Dims::ow kT3 3 (.slice b6 h4 bq) I.Data::_::_::_::_::_::_::_::_::i) ?_
 refine aM 0 aB ?_
 rintro rfl
 refine aM 1 aB ?_
 rintro rfl
 refine aC (aI (sL [9,5,4,3,2,1,0]) (d1 19 R (aL 9 R R bT R R R R R R (lN (_::_::_::_::_::_::_::_::_::aJ l [(sc b5 I.Dims bp),(sc b6 I.Data bq)] 42::i) ?_))))
 refine aC (aI (sL [9,5,4,3,2,1,0]) (dD (aG (bY (dL (cG ?_))))))
 obtain rfl:=so b
 exact dC (vs:=[(.agg [(sc b5 I.Dims bp),(sc b6 I.Data bq)].toArray)]) (.inl R) ((b5,I.Dims.length,bp),(b6,I.Data.length,bq)) R ⟨⟨9,l,_,_,R,R,.inl ⟨fR,bT,R⟩⟩,trivial⟩ R (fun w s=>(s.e 16 [0,1]))
 refine bG R ah (cF (dN (aG (aK ?_))))
 obtain ⟨Z,b⟩:=gd b
 obtain ⟨ao,b⟩:=gd b
 obtain ⟨dy,b⟩:=gd b
 obtain ⟨dz,b⟩:=gd b
 obtain ⟨J,g2,b⟩:=bd b
 refine bA 6 aA (show 0<g.length by have:=Z; omega) (fun hb o205 m=>?_)
 subst m
 refine dO (K:=dP) 6 (0:Int) dT42.dec R Z.1 Z.2 ?_
 rintro ⟨⟨ch,d3⟩,⟨ci,d4⟩⟩
 refine cN (cl hb (o205+(0:Int).toNat*2) [(sc ch ((ix g (0:Int)).Dims) d3),(sc ci ((ix g (0:Int)).Data) d4)]::RR kT3 ch d3 ((ix g (0:Int)).Dims)::RR kT3 ci d4 ((ix g (0:Int)).Data)::aJ l [(.slice none 0 0),(.slice none 0 0)] 42::i) ?_
 refine bA 7 aA (show 0<j.Ints.length by have:=ao; omega) (fun ip o210 m=>?_)
 subst m
 refine dF 14 [3] bO (fun ht hn=>(dR 0 R (vS R) (hS:=(sL [3])) (dR 1 R (eM gD bT R R Z) (hS:=(sL [3])) (dR 2 R (vz (.agg [(sc ch ((ix g (0:Int)).Dims) d3),(sc ci ((ix g (0:Int)).Data) d4)].toArray) (eF (fo:=0) 0 fR bT R R R R)) (hS:=(sL [3])) (dR 3 R (vS R) (hS:=(sL [3])) (dR 4 R (eM bM cJ R R ao) (hS:=(sL [3])) (dR 5 R (gK 6 fP aA R ao) (hS:=(sL [3])) (dR 6 R (vS R) (hS:=(sL [3])) (dR 7 R (eM bM cJ R R dy) (hS:=(sL [3])) (dR 8 R (gK 6 fP aA R dy) (hS:=(sL [3])) (dR 9 R (vS R) (hS:=(sL [3])) (dR 10 R (eM bM cJ R R dz) (hS:=(sL [3])) (dR 11 R (gK 6 fP aA R dz) (hS:=(sL [3])) (d1 12 R (lM (aN _ _ _::aN _ _ _::cl _ _ _::aN _ _ _::aN _ _ _::aJ _ _ _::i) (fun w s=>(((s.d 1 R).d 3 R).e 6 [1,0,2,3,4,5])) ?_)))))))))))))))
 refine lC 2 za R (Z0r_ok g2) R ?_
 rintro ⟨⟨b7,h5,br⟩,⟨ba,h6,bs⟩⟩
 refine lN (ow kT3 3 (.slice b7 h5 br) J.Dims::ow kT3 3 (.slice ba h6 bs) J.Data::_::_::_::_::i) ?_
 refine aM 0 aB ?_
 rintro rfl
 refine aM 1 aB ?_
 rintro rfl
 refine aC (aI (sL [5,1,0]) (d1 13 R (aL 5 R R bT R R R R R R (lN (_::_::_::_::_::aJ l [(sc b7 J.Dims br),(sc ba J.Data bs)] 42::i) ?_))))
 refine aC (aI (sL [5,1,0]) (dD (aG (bY ?_))))
 obtain rfl:=so b
 exact dC (vs:=[(.agg [(sc b7 J.Dims br),(sc ba J.Data bs)].toArray)]) (.inl R) ((b7,J.Dims.length,br),(ba,J.Data.length,bs)) R ⟨⟨5,l,_,_,R,R,.inl ⟨fR,bT,R⟩⟩,trivial⟩ R (fun w s=>(s.e 12 [0,1]))
theorem Z0q_ok  {i:(List Int)}{M:Int}{r:Tensor}(b:Z0q i M=some r) :
 FnOk Tryz.prog 79 [(.slice A2 N2 D2),(iv M)] [aN kT3 (.slice A2 N2 D2) i] (fun (h:HH×HH)=>((.agg [(s3 h.1),(s3 h.2)].toArray),[ow kT3 3 (s3 h.1) r.Dims,ow kT3 3 (s3 h.2) r.Data])):=by
 unfold Z0q at b
 refine aP Tryz.func79 R 27 R R fun C V=>?_
 refine cL 0 aA ?_
 rintro rfl
 let m:=RR kT3 A2 D2 i::V
 refine cN m ?_
 refine aU ?_
 refine bE R R dX (fun q=>(aC (aG (aK (aK ?_)))))
 obtain ⟨r5,G,b⟩:=bd b
 refine aU ?_
 refine lM _ (fun w s=>(s.d 1 R)) ?_
 refine lC 1 kj R (Zp_ok G) R ?_
 rintro _
 refine aQ ?_
 split at b
 refine aQ ?_
 refine lO (vz (.agg [(.slice none 0 0),(.slice none 0 0)].toArray) (aX gU dX R R)) (aL 0 R R bT R R R R R R (aC (aG (bY (cG ?_)))))
 cases b
 exact qS ((none,0,0),(none,0,0)) (fun w s=>(((s.nilo kT3 3).nilo kT3 3).e 4 [1,0]))
 refine bI ?_
 obtain ⟨g,J,b⟩:=bd b
 refine aU ?_
 refine lM _ (fun w s=>(s.d 1 R)) ?_
 refine lC 1 kK R (Z0i_ok J) R ?_
 rintro ⟨⟨A10,N10,D10⟩,⟨A11,N11,D11⟩⟩
 refine aM 0 aB ?_
 rintro rfl
 refine aM 1 aB ?_
 rintro rfl
 refine bE R R dX (fun j=>(aL 0 R R bT R R R R R R (lN (aJ j [(sc A10 g.Dims D10),(sc A11 g.Data D11)] 42::_::_::_::m) ?_)))
 refine aQ ?_
 refine bB (A:=((List Int))×(Unit)) (fun a=>Z0q_J1 g a.1=some r) (fun a=>[(4,(pt q 0)),(5,(pt j 0))]) (fun a=>aJ q [(.slice none 0 0),(.slice none 0 0)] 42::aJ j [(sc A10 g.Dims D10),(sc A11 g.Data D11)] 42::OO kT3 3 A10 D10 g.Dims::ow kT3 3 (.slice A11 g.Data.length D11) a.1::m) ?_ ?_
 refine bW ?_
 obtain ⟨e1,F,E⟩:=bd b
 refine bD (A:=Unit) F (fun s a=>[(1,(iv M)),(4,(pt q 0)),(5,(pt j 0)),(6,(iv s.2))]) (fun s a=>aJ q [(.slice none 0 0),(.slice none 0 0)] 42::aJ j [(sc A10 g.Dims D10),(sc A11 g.Data D11)] 42::OO kT3 3 A10 D10 g.Dims::ow kT3 3 (.slice A11 g.Data.length D11) s.1::m) () (aS R) (tE 4 [3,0,1,2]) ?_
 rintro ⟨O,L⟩ _ σ1 U b D
 dsimp only [Z0q_L1] at b
 refine dG ?_
 split at b
 refine cI ?_
 obtain ⟨B,u,b⟩:=bd b
 obtain ⟨l,b⟩:=gd b
 refine bA 3 aB (show 0<g.Data.length by have:=l; omega) (fun Y o26 Z=>?_)
 subst Z
 refine dF 7 [3] bO fun ht hn=>?_
 refine oy 0 [3] ?_
 refine d1 4 R (lC 0 jD R (Zt_ok u) R ?_)
 rintro _
 refine aC (aI (sL [3]) ?_)
 refine n6 5 [3] ?_
 refine d1 6 R (lM _ (tE 4 [3,0,1,2]) ?_)
 refine eL (K:=kT3) (x':=B) 0 L R R cJ R R l.1 l.2 ?_ ?_
 exact fun I h s=>(gR).put I h () B s
 refine aC (aI (sL [0]) (dD ?_))
 refine dU ?_
 cases b
 exact qA () (tE 4 [1,2,3,0])
 refine aQ ?_
 cases b
 obtain rfl:=D _ R
 have b:=E
 refine aU ?_
 exact qI (O,()) b tI
 rintro ⟨T,_⟩ σ1 b
 dsimp only [Z0q_J1] at b
 refine aQ ?_
 refine aL 0 R R bT R R R R R R (lN (aJ q [(sc A10 g.Dims D10),(sc A11 g.Data D11)] 42::aJ j [(sc A10 g.Dims D10),(sc A11 g.Data D11)] 42::_::ow kT3 3 (.slice A11 g.Data.length D11) T::m) ?_)
 refine aQ ?_
 cases b
 exact qS ((A10,g.Dims.length,D10),(A11,g.Data.length,D11)) (tE 5 [2,3])
theorem Z9_ok  {g1:Graph}{g:(List Tensor)}{l:Bool}{r:(List Tensor)×Bool}(j:Z9 g1 g l=some r) :
 FnOk Tryz.prog 60 [(.agg [(.slice A2 N2 D2),(.slice A3 N3 D3)].toArray),(.slice A5 N5 D5),(.bool l)] [aN cP (.slice A2 N2 D2) g1.Nodes,aN kT3 (.slice A3 N3 D3) g1.Outs,aN dP (.slice A5 N5 D5) g] (fun (h:HH)=>((.tuple [(s3 h),(.bool r.2)].toArray),[ow (dP).share 42 (s3 h) r.1])):=by
 unfold Z9 at j
 refine aP Tryz.func60 R 143 R R fun C V=>?_
 refine cL 0 aA ?_
 rintro rfl
 refine cL 1 aA ?_
 rintro rfl
 refine cL 2 aA ?_
 rintro rfl
 let W0:=RR cP A2 D2 g1.Nodes::RR kT3 A3 D3 g1.Outs::RR dP A5 D5 g::V
 refine cN W0 ?_
 refine aU ?_
 refine eJ R fun b7=>?_
 refine aQ ?_
 let W1:=aJ b7 [(sc A2 g1.Nodes D2),(sc A3 g1.Outs D3)] 31::W0
 refine qN W1 ?_
 refine aQ ?_
 refine bP (K:=dP) (xs:=([]:List Tensor)) (vs:=[]) 0 R R gD bT dX R R R R R R ?_ R (fun A8 D8=>?_)
 exact fun I h s=>(uD).list [] I h s
 refine cI ?_
 refine cQ [(1,(sc A5 g D5)),(2,(.bool l)),(3,(pt b7 0)),(8,(sc A8 ([]:List Tensor) D8)),(25,(.bool ((decide ((g1.Nodes.length:Int)>200))||(decide ((g1.Outs.length:Int)>40)))))] (OO dP 42 A8 D8 ([]:List Tensor)::W1) ?_ ?_
 refine bW ?_
 rcases bo (decide ((g1.Nodes.length:Int)>200)) with co | co
 refine bW ?_
 exact qj tI
 refine bW ?_
 exact qj tI
 rintro σ1
 refine bX ?_
 split at j
 refine dG ?_
 cases j
 exact jC (A8,([]:List Tensor).length,D8) (fun w s=>((s.wk 0 R).e 5 [0]))
 refine dA ?_
 refine bB (A:=((List Tensor)×Int)×(HH)) (fun a=>Z9_J5 g1 g l a.1.1 a.1.2=some r) (fun a=>[(1,(sc A5 g D5)),(2,(.bool l)),(3,(pt b7 0)),(8,(s3 a.2)),(9,(iv a.1.2))]) (fun a=>ow (dP).share 42 (s3 a.2) a.1.1::W1) ?_ ?_
 refine bW ?_
 obtain ⟨e1,cr,ax⟩:=bd j
 refine bD (A:=HH) cr (fun s a=>[(1,(sc A5 g D5)),(2,(.bool l)),(3,(pt b7 0)),(8,(s3 a)),(9,(iv s.2.1)),(10,(iv s.2.2))]) (fun s a=>ow (dP).share 42 (s3 a) s.1::W1) (A8,([]:List Tensor).length,D8) (aS R) (fun w s=>(s.wk 0 R)) ?_
 rintro ⟨i,q,b⟩ ⟨u,cb,D⟩ σ1 bl j aw
 dsimp only [Z9_L1] at j
 refine bK 0 eG (fun (hn:cb=i.length)=>?_)
 subst hn
 refine dG ?_
 split at j
 refine bW ?_
 obtain ⟨a9,j⟩:=gd j
 refine bI ?_
 refine bC 2 aA (show 0<g1.Nodes.length by have:=a9; omega) (fun d8 o110 ha=>?_)
 subst ha
 refine bX ?_
 refine fN (K:=cP) 2 b dT65.dec R a9.1 a9.2 ?_
 rintro ⟨-,⟨E,F⟩,⟨G,M⟩,⟨J,O⟩,-,⟨L,T⟩⟩
 refine lO (vz (.agg [(iv (ix g1.Nodes b).Op),(sc E ((ix g1.Nodes b).Args) F),(sc G ((ix g1.Nodes b).Dims) M),(sc J ((ix g1.Nodes b).Ints) O),(aE (ix g1.Nodes b).Form),(sc L ((ix g1.Nodes b).Data) T)].toArray) (eF (fo:=0) 0 mD iW R R R R)) (bE R R pu (fun Y=>(aL 0 R R iW R R R R R R (lN (aJ Y [(iv (ix g1.Nodes b).Op),(sc E ((ix g1.Nodes b).Args) F),(sc G ((ix g1.Nodes b).Dims) M),(sc J ((ix g1.Nodes b).Ints) O),(aE (ix g1.Nodes b).Form),(sc L ((ix g1.Nodes b).Data) T)] 65::_::_::_::_::_::_::W1) ?_))))
 refine bI ?_
 obtain ⟨bm,bz,j⟩:=bd j
 obtain ⟨ck,c0,j⟩:=bd j
 refine cQ [(1,(sc A5 g D5)),(2,(.bool l)),(3,(pt b7 0)),(8,(sc u i D)),(9,(iv q)),(10,(iv b)),(11,(pt Y 0)),(48,(.bool ((!bm)||(!ck))))] (OO (dP).share 42 u D i::aJ Y [(iv (ix g1.Nodes b).Op),(sc E ((ix g1.Nodes b).Args) F),(sc G ((ix g1.Nodes b).Dims) M),(sc J ((ix g1.Nodes b).Ints) O),(aE (ix g1.Nodes b).Form),(sc L ((ix g1.Nodes b).Data) T)] 65::RR kT3 E F ((ix g1.Nodes b).Args)::RR kT3 G M ((ix g1.Nodes b).Dims)::RR kT3 J O ((ix g1.Nodes b).Ints)::RR kT3 L T ((ix g1.Nodes b).Data)::W1) ?_ ?_
 refine aU ?_
 refine lM _ (fun w s=>(((((s.d 2 R).d 4 R).d 6 R).d 8 R).f 11 [3,1,2,1,1,1,0,1,4,7])) ?_
 refine lC 4 Bg R (Z19_ok bz) R ?_
 rintro _
 refine aU ?_
 rcases bo (!bm) with a8 | a8
 refine dU ?_
 exact qj (tE 7 [6,0,2,3,4,5])
 refine aQ ?_
 refine lM _ (fun w s=>(s.d 2 R)) ?_
 refine bU 1 R (cC a8) uE R (Z0k_ok (bJ c0 (cX a8))) R ?_
 rintro _
 refine aQ ?_
 exact qj (tE 7 [6,0,2,3,4,5])
 rintro σ1
 refine bX ?_
 split at j
 refine iM ?_
 cases j
 obtain rfl:=aw _ R
 have j:=ax
 refine aQ ?_
 cases j
 exact jC (u,i.length,D) (tE 10 [0])
 refine cI ?_
 refine bP (K:=dP) (xs:=([]:List Tensor)) (vs:=[]) 0 R R gD bT dX R R R R R R ?_ R (fun c7 c9=>?_)
 exact fun I h s=>(uD).list [] I h s
 refine bI ?_
 refine bB (A:=((List Tensor))×(HH)) (fun a=>Z9_J3 g1 g l i q b a.1=some bl) (fun a=>[(1,(sc A5 g D5)),(2,(.bool l)),(3,(pt b7 0)),(8,(sc u i D)),(9,(iv q)),(10,(iv b)),(11,(pt Y 0)),(12,(s3 a.2))]) (fun a=>OO (dP).share 42 u D i::aJ Y [(iv (ix g1.Nodes b).Op),(sc E ((ix g1.Nodes b).Args) F),(sc G ((ix g1.Nodes b).Dims) M),(sc J ((ix g1.Nodes b).Ints) O),(aE (ix g1.Nodes b).Form),(sc L ((ix g1.Nodes b).Data) T)] 65::RR kT3 E F ((ix g1.Nodes b).Args)::RR kT3 G M ((ix g1.Nodes b).Dims)::RR kT3 J O ((ix g1.Nodes b).Ints)::RR kT3 L T ((ix g1.Nodes b).Data)::ow (dP).share 42 (s3 a.2) a.1::W1) ?_ ?_
 refine bW ?_
 obtain ⟨e2,cs,cq⟩:=bd j
 refine bD (A:=HH) cs (fun s a=>[(1,(sc A5 g D5)),(2,(.bool l)),(3,(pt b7 0)),(8,(sc u i D)),(9,(iv q)),(10,(iv b)),(11,(pt Y 0)),(12,(s3 a)),(13,(iv s.2))]) (fun s a=>OO (dP).share 42 u D i::aJ Y [(iv (ix g1.Nodes b).Op),(sc E ((ix g1.Nodes b).Args) F),(sc G ((ix g1.Nodes b).Dims) M),(sc J ((ix g1.Nodes b).Ints) O),(aE (ix g1.Nodes b).Form),(sc L ((ix g1.Nodes b).Data) T)] 65::RR kT3 E F ((ix g1.Nodes b).Args)::RR kT3 G M ((ix g1.Nodes b).Dims)::RR kT3 J O ((ix g1.Nodes b).Ints)::RR kT3 L T ((ix g1.Nodes b).Data)::ow (dP).share 42 (s3 a) s.1::W1) (c7,([]:List Tensor).length,c9) (aS R) (fun w s=>((s.wk 0 R).f 7 [1,6,0,1])) ?_
 rintro ⟨a6,a0⟩ ⟨c8,cc,ca⟩ σ1 db j cp
 dsimp only [Z9_L2] at j
 refine bK 6 eG (fun (hn:cc=a6.length)=>?_)
 subst hn
 refine dG ?_
 split at j
 refine cI ?_
 obtain ⟨bs,j⟩:=gd j
 obtain ⟨aa,j⟩:=gd j
 obtain ⟨bu,j⟩:=gd j
 refine bW ?_
 refine bC 2 aA (show 0<((ix g1.Nodes b).Args).length by have:=bs; omega) (fun d9 o141 ha=>?_)
 subst ha
 refine aU ?_
 refine bC 0 eG (show 0<i.length by have:=aa; omega) (fun da o144 ha=>?_)
 subst ha
 refine bX ?_
 refine yz (K:=(dP).share) 0 (ix ((ix g1.Nodes b).Args) a0) R R fR bT dT42.own R R aa.1 aa.2 ?_
 rintro ⟨⟨ay,b9⟩,⟨az,ba⟩⟩
 refine lM _ (fun w s=>(((s.d 0 R).d 2 R).f 11 [1,1,0,1,2,9])) ?_
 refine bP (K:=(dP).share) (xs:=([(ix i (ix ((ix g1.Nodes b).Args) a0))]:List Tensor)) (vs:=[(.agg [(sc ay ((ix i (ix ((ix g1.Nodes b).Args) a0)).Dims) b9),(sc az ((ix i (ix ((ix g1.Nodes b).Args) a0)).Data) ba)].toArray)]) 2 R R gD bT dX R R R R R R ?_ R (fun ct cx=>?_)
 exact fun I h s=>(yN).list [(((sc ay ((ix i (ix ((ix g1.Nodes b).Args) a0)).Dims) b9),(sc az ((ix i (ix ((ix g1.Nodes b).Args) a0)).Data) ba)),(ix i (ix ((ix g1.Nodes b).Args) a0)))] I h s
 refine lM _ (fun w s=>(s.f 10 [9,1,0,9])) ?_
 refine eP (K:=(dP).share) 2932031007402 R R gD bT yR (Zr.zk (Zr.share yO) dX) R R R R R R dZ bu (fun b0 bb=>(lN (OO (dP).share 42 b0 bb (a6++([(ix i (ix ((ix g1.Nodes b).Args) a0))]:List Tensor))::_::_::_::_::_::_::_::_::W1) ?_))
 refine dA ?_
 cases j
 exact qA (b0,(a6++([(ix i (ix ((ix g1.Nodes b).Args) a0))]:List Tensor)).length,bb) (fun w s=>(s.f 9 [3,6,0,1]))
 refine aQ ?_
 cases j
 obtain rfl:=cp _ R
 have j:=cq
 refine aU ?_
 exact qI (a6,(c8,a6.length,ca)) j tI
 rintro ⟨a7,⟨ac,cf,ae⟩⟩ σ1 j
 dsimp only [Z9_J3] at j
 refine bK 6 eG (fun (hn:cf=a7.length)=>?_)
 subst hn
 refine aU ?_
 refine lO (vz (.agg [(.slice none 0 0),(.slice none 0 0)].toArray) (aX gU dX R R)) (bE R R dX (fun a1=>(aL 0 R R bT R R R R R R (lN (_::OO (dP).share 42 u D i::aJ Y [(iv (ix g1.Nodes b).Op),(sc E ((ix g1.Nodes b).Args) F),(sc G ((ix g1.Nodes b).Dims) M),(sc J ((ix g1.Nodes b).Ints) O),(aE (ix g1.Nodes b).Form),(sc L ((ix g1.Nodes b).Data) T)] 65::RR kT3 E F ((ix g1.Nodes b).Args)::_::_::_::OO (dP).share 42 ac ae a7::W1) ?_))))
 refine aQ ?_
 refine bB (A:=(Int×(List Int)×(List Int))×(HH×HH)) (fun a=>Z9_J4 i b a.1.1 a.1.2.1 a.1.2.2=some bl) (fun a=>[(1,(sc A5 g D5)),(2,(.bool l)),(3,(pt b7 0)),(8,(sc u i D)),(9,(iv a.1.1)),(10,(iv b)),(14,(pt a1 0))]) (fun a=>OO (dP).share 42 u D i::aJ a1 [(s3 a.2.1),(s3 a.2.2)] 42::ow kT3 3 (s3 a.2.1) a.1.2.1::ow kT3 3 (s3 a.2.2) a.1.2.2::W1) ?_ ?_
 refine dA ?_
 split at j
 refine bX ?_
 obtain ⟨a4,c1,j⟩:=bd j
 refine aQ ?_
 refine lM _ (fun w s=>(((((s.d 3 R).d 5 R).d 7 R).d 9 R).e 12 [11,3,2,1,0,4,5,6,7,8,9,10])) ?_
 refine lC 5 Br R (FnOk.lends (A':=[OO (dP).share 42 ac ae a7]) (A:=[RR dP ac ae a7]) (B:=[RR kT3 E F ((ix g1.Nodes b).Args),RR kT3 G M ((ix g1.Nodes b).Dims),RR kT3 J O ((ix g1.Nodes b).Ints),RR kT3 L T ((ix g1.Nodes b).Data)]) (FnOk.perm (Z1_ok c1) (Pre':=[RR dP ac ae a7,RR kT3 E F ((ix g1.Nodes b).Args),RR kT3 G M ((ix g1.Nodes b).Dims),RR kT3 J O ((ix g1.Nodes b).Ints),RR kT3 L T ((ix g1.Nodes b).Data)]) (fun _ _ _ s=>(s.f 5 [1,4,0,1]))) ⟨m7,trivial⟩ (fun _=>⟨(bN ji),(bN ji),trivial⟩)) R ?_
 rintro ⟨⟨b1,d2,bc⟩,⟨b2,d3,be⟩⟩
 refine aM 1 aB ?_
 rintro rfl
 refine aM 2 aB ?_
 rintro rfl
 refine aL 3 R R bT R R R R R R (lN (_::_::_::aJ a1 [(sc b1 a4.Dims bc),(sc b2 a4.Data be)] 42::_::_::_::_::_::_::W1) ?_)
 refine aU ?_
 exact qI ((q,a4.Dims,a4.Data),((b1,a4.Dims.length,bc),(b2,a4.Data.length,be))) j (tE 10 [4,3,1,2])
 refine dU ?_
 split at j
 refine bX ?_
 obtain ⟨a5,c2,j⟩:=bd j
 refine aQ ?_
 refine lM _ (fun w s=>(s.d 4 R)) ?_
 refine lC 1 Bs R (Z0q_ok c2) R ?_
 rintro ⟨⟨b3,d4,bf⟩,⟨b4,d5,bg⟩⟩
 refine aM 0 aB ?_
 rintro rfl
 refine aM 1 aB ?_
 rintro rfl
 refine aL 2 R R bT R R R R R R (lN (_::_::aJ a1 [(sc b3 a5.Dims bf),(sc b4 a5.Data bg)] 42::_::_::_::_::_::_::_::W1) ?_)
 refine aU ?_
 exact qI ((q,a5.Dims,a5.Data),((b3,a5.Dims.length,bf),(b4,a5.Data.length,bg))) j (tE 10 [3,2,0,1])
 refine aQ ?_
 obtain ⟨U,j⟩:=gd j
 obtain ⟨bn,av,j⟩:=bd j
 obtain ⟨bv,j⟩:=gd j
 obtain ⟨cm,c3,j⟩:=bd j
 refine cQ [(1,(sc A5 g D5)),(2,(.bool l)),(3,(pt b7 0)),(8,(sc u i D)),(9,(iv q)),(10,(iv b)),(11,(pt Y 0)),(14,(pt a1 0)),(92,(.bool (((decide (q≥(g.length:Int)))||(!bn))||(!cm))))] (OO (dP).share 42 u D i::aJ Y [(iv (ix g1.Nodes b).Op),(sc E ((ix g1.Nodes b).Args) F),(sc G ((ix g1.Nodes b).Dims) M),(sc J ((ix g1.Nodes b).Ints) O),(aE (ix g1.Nodes b).Form),(sc L ((ix g1.Nodes b).Data) T)] 65::RR kT3 E F ((ix g1.Nodes b).Args)::RR kT3 G M ((ix g1.Nodes b).Dims)::RR kT3 J O ((ix g1.Nodes b).Ints)::RR kT3 L T ((ix g1.Nodes b).Data)::aJ a1 [(.slice none 0 0),(.slice none 0 0)] 42::W1) ?_ ?_
 rcases bo (decide (q≥(g.length:Int))) with m | m
 refine dF 23 [] bO fun ht hn=>?_
 refine B4 0 [] ?_
 refine dD ?_
 exact qj (fun w s=>(s.f 8 [1,6,0,1]))
 rcases bo ((decide (q≥(g.length:Int)))||(!bn)) with Z | Z
 refine bA 11 aA (show 0<g.length by have:=(U m); omega) (fun bk o168 ha=>?_)
 subst ha
 refine dO (K:=dP) 11 q dT42.dec R (U m).1 (U m).2 ?_
 rintro ⟨⟨aj,ao⟩,⟨ak,ap⟩⟩
 refine dF 23 [] bO fun ht hn=>?_
 refine rP 0 [] ?_
 refine dW 7 R (cC m) (eM gD bT R R (U m)) (dW 8 R (cC m) (vz (.agg [(sc aj ((ix g q).Dims) ao),(sc ak ((ix g q).Data) ap)].toArray) (eF (fo:=0) 0 fR bT R R R R)) (d1 9 R (lM _ (fun w s=>(((s.d 1 R).d 3 R).f 13 [1,1,0,1,2,11])) ?_)))
 refine bU 2 R (cC m) nJ R (Zu_ok (bJ av (cX m))) R ?_
 rintro _
 refine aC (aI (sL []) ?_)
 refine mA 10 [] ?_
 refine dD ?_
 exact qj (fun w s=>(s.f 11 [4,6,3,1]))
 refine bA 11 aA (show 0<g.length by have:=(U m); omega) (fun bk o168 ha=>?_)
 subst ha
 refine dO (K:=dP) 11 q dT42.dec R (U m).1 (U m).2 ?_
 rintro ⟨⟨aj,ao⟩,⟨ak,ap⟩⟩
 refine dF 23 [] bO fun ht hn=>?_
 refine rP 0 [] ?_
 refine dW 7 R (cC m) (eM gD bT R R (U m)) (dW 8 R (cC m) (vz (.agg [(sc aj ((ix g q).Dims) ao),(sc ak ((ix g q).Data) ap)].toArray) (eF (fo:=0) 0 fR bT R R R R)) (d1 9 R (lM _ (fun w s=>(((s.d 1 R).d 3 R).f 13 [1,1,0,1,2,11])) ?_)))
 refine bU 2 R (cC m) nJ R (Zu_ok (bJ av (cX m))) R ?_
 rintro _
 refine aC (aI (sL []) ?_)
 refine ko 10 [] ?_
 refine dW 15 R (cC Z) (eM gD bT R R (bv Z)) (dW 16 R (cC Z) (vz (.pointer (some ⟨bk,o168+q.toNat*2,none⟩)) (kI iN R R)) (dW 17 R (cC Z) (eN (fo:=0) 0 cY R R R) ?_))
 refine gZ 18 [] ?_
 refine d1 20 R (lM _ (fun w s=>(((s.d 1 R).d 8 R).f 13 [1,1,0,1,2,11])) ?_)
 refine bU 2 R (cC Z) xf R (Z01_ok (bJ c3 (cX Z))) R ?_
 rintro _
 refine aC (aI (sL []) ?_)
 refine gZ 21 [] ?_
 refine dD ?_
 exact qj (fun w s=>(s.f 11 [4,6,3,1]))
 rintro σ1
 refine bX ?_
 split at j
 refine nI ?_
 cases j
 obtain rfl:=aw _ R
 have j:=ax
 refine aQ ?_
 cases j
 exact jC (u,i.length,D) (tE 11 [0])
 refine bI ?_
 obtain ⟨ag,c4,j⟩:=bd j
 obtain ⟨ab,j⟩:=gd j
 obtain ⟨ah,c5,j⟩:=bd j
 refine bA 10 aA (show 0<g.length by have:=ab; omega) (fun cj o184 ha=>?_)
 subst ha
 refine dO (K:=dP) 10 q dT42.dec R ab.1 ab.2 ?_
 rintro ⟨⟨cu,cy⟩,⟨cv,cz⟩⟩
 refine dF 11 [9] bO fun ht hn=>?_
 refine gZ 0 [9] ?_
 refine iz 3 [9] ?_
 refine dR 6 R (vz (.pointer (some ⟨cj,o184+q.toNat*2+1,none⟩)) (kI sQ R R)) (hS:=(sL [9])) (dR 7 R (eN (fo:=1) 0 cY R R R) (hS:=(sL [9])) (d1 2 R (lM _ (fun w s=>(s.d 6 R)) ?_)))
 refine lC 1 jT R (Zw_ok c4) R ?_
 rintro ⟨al,d6,aq⟩
 refine aM 0 aB ?_
 rintro rfl
 refine aC (aI (sL [10,0]) (d1 8 R (lM _ (fun w s=>(s.d 3 R)) ?_)))
 refine lC 1 jT R (Zw_ok c5) R ?_
 rintro ⟨am,d7,ar⟩
 refine aM 0 aB ?_
 rintro rfl
 refine aC (aI (sL [11,1,0]) (dR 9 R (vz (.agg [(sc al ag aq),(sc am ah ar)].toArray) (aX gU dX R R)) (hS:=(sL [11,1,0])) (d1 10 R (aL 11 R R bT R R R R R R (lN (_::_::_::_::_::_::_::_::_::_::_::aJ a1 [(sc al ag aq),(sc am ah ar)] 42::W1) ?_)))))
 refine aC (aI (sL [11,1,0]) (dD ?_))
 refine dU ?_
 exact qI (((aH (q+1)),ag,ah),((al,ag.length,aq),(am,ah.length,ar))) j (tE 12 [5,11,1,0])
 rintro ⟨⟨dc,a2,a3⟩,⟨⟨b5,cg,bh⟩,⟨b6,ch,bi⟩⟩⟩ σ1 j
 dsimp only [Z9_J4] at j
 refine bK 2 aB (fun (hn:cg=a2.length)=>?_)
 subst hn
 refine bK 3 aB (fun (hn:ch=a3.length)=>?_)
 subst hn
 refine dA ?_
 split at j
 refine iM ?_
 cases j
 obtain rfl:=aw _ R
 have j:=ax
 refine aQ ?_
 cases j
 exact jC (u,i.length,D) (tE 8 [0])
 refine aQ ?_
 obtain ⟨bw,j⟩:=gd j
 refine aQ ?_
 refine lM _ (fun w s=>(((((s.shr 2 R).d 0 R).shr 4 R).d 0 R).e 6 [2,0,1,3,4,5])) ?_
 refine bP (K:=(dP).share) (xs:=([(⟨a2,a3⟩:Tensor)]:List Tensor)) (vs:=[(.agg [(sc b5 a2 bh),(sc b6 a3 bi)].toArray)]) 2 R R gD bT dX R R R R R R ?_ R (fun cw d0=>?_)
 exact fun I h s=>(yN).list [(((sc b5 a2 bh),(sc b6 a3 bi)),(⟨a2,a3⟩:Tensor))] I h s
 refine lM _ (tE 5 [3,0,1,2,4]) ?_
 refine eP (K:=(dP).share) 2932031007402 R R gD bT yR (Zr.zk (Zr.share yO) dX) R R R R R R dZ bw (fun b8 bj=>(lN (OO (dP).share 42 b8 bj (i++([(⟨a2,a3⟩:Tensor)]:List Tensor))::_::_::_::W1) ?_))
 refine dA ?_
 cases j
 exact qA (b8,(i++([(⟨a2,a3⟩:Tensor)]:List Tensor)).length,bj) (tE 4 [0])
 refine aQ ?_
 cases j
 obtain rfl:=aw _ R
 have j:=ax
 refine aU ?_
 exact qI ((i,q),(u,i.length,D)) j tI
 rintro ⟨⟨ai,cn⟩,⟨an,ci,au⟩⟩ σ1 j
 dsimp only [Z9_J5] at j
 refine bK 0 eG (fun (hn:ci=ai.length)=>?_)
 subst hn
 refine bX ?_
 obtain ⟨bp,c6,j⟩:=bd j
 refine cQ [(6,(sc an ai au)),(7,(.bool (bp&&(l||(cn==(g.length:Int))))))] (OO (dP).share 42 an au ai::W1) ?_ ?_
 refine dU ?_
 refine lM _ (fun w s=>(s.d 3 R)) ?_
 refine lC 1 uE R (Z0k_ok c6) R ?_
 rintro _
 refine bX ?_
 rcases bo bp with bq | bq
 refine aU ?_
 rcases bo l with br | br
 refine dA ?_
 exact qj tI
 refine dA ?_
 exact qj tI
 refine iD ?_
 exact qj tI
 rintro σ1
 refine aU ?_
 cases j
 exact jC (an,ai.length,au) (tE 5 [0])
theorem Z36_ok  {g1:Graph}{r:Bool}(a:Z36 g1=some r) :
 FnOk Tryz.prog 34 [(.agg [(.slice A2 N2 D2),(.slice A3 N3 D3)].toArray)] [aN cP (.slice A2 N2 D2) g1.Nodes,aN kT3 (.slice A3 N3 D3) g1.Outs] (fun (h:Unit)=>((.bool r),[])):=by
 unfold Z36 at a
 refine aP Tryz.func34 R 12 R R fun C V=>?_
 refine cL 0 aA ?_
 rintro rfl
 refine cL 1 aA ?_
 rintro rfl
 let g:=RR cP A2 D2 g1.Nodes::RR kT3 A3 D3 g1.Outs::V
 refine cN g ?_
 refine aU ?_
 refine eJ R fun j=>?_
 refine aU ?_
 let i:=aJ j [(sc A2 g1.Nodes D2),(sc A3 g1.Outs D3)] 31::g
 refine qN i ?_
 refine aU ?_
 obtain ⟨l,b,a⟩:=bd a
 refine aU ?_
 refine bP (K:=dP) (xs:=([]:List Tensor)) (vs:=[]) 0 R R gD bT dX R R R R R R ?_ R (fun A5 D5=>?_)
 exact fun I h s=>(uD).list [] I h s
 refine iV (fun w s=>s.shr 0 R) (lM _ (fun w s=>((((s.d 2 R).d 4 R).d 2 R).e 4 [2,1,0,3])) ?_)
 refine lC 3 zb R (Z9_ok b) R ?_
 rintro ⟨A8,N8,D8⟩
 refine aM 0 eG ?_
 rintro rfl
 refine lO (vT R) ?_
 refine kh ?_
 cases a
 exact qF () (tE 5 [])
theorem Z03_ok  {b:(List Int)}{q:Int}{r:Int}(e:Z03 b q=some r) :
 FnOk Tryz.prog 56 [(.slice A2 N2 D2),(iv q)] [aN kT3 (.slice A2 N2 D2) b] (fun (h:Unit)=>((iv r),[])):=by
 unfold Z03 at e
 refine aP Tryz.func56 R 22 R R fun C V=>?_
 refine cL 0 aA ?_
 rintro rfl
 let m:=RR kT3 A2 D2 b::V
 refine cN m ?_
 refine iD ?_
 refine bB (A:=(Int)×(Unit)) (fun a=>Z03_J3 a.1=some r) (fun a=>[(5,(iv a.1))]) (fun a=>m) ?_ ?_
 refine bW ?_
 obtain ⟨J,D,B⟩:=bd e
 refine bD (A:=Unit) D (fun s a=>[(0,(sc A2 b D2)),(1,(iv q)),(5,(iv s.1)),(6,(iv s.2))]) (fun s a=>m) () (aS R) tI ?_
 rintro ⟨g,j⟩ _ σ1 l e u
 dsimp only [Z03_L1] at e
 refine dA ?_
 split at e
 refine bI ?_
 refine bB (A:=(Int)×(Unit)) (fun a=>Z03_J2 j a.1=some l) (fun a=>[(0,(sc A2 b D2)),(1,(iv q)),(5,(iv a.1)),(6,(iv j))]) (fun a=>m) ?_ ?_
 refine aU ?_
 obtain ⟨i,e⟩:=gd e
 refine aQ ?_
 refine bC 0 aA (show 0<b.length by have:=i; omega) (fun E o15 F=>?_)
 subst F
 refine bW ?_
 split at e
 refine dU ?_
 exact qI ((aH (g+1)),()) e tI
 refine aQ ?_
 exact qI (g,()) e tI
 rintro ⟨G,_⟩ σ1 e
 dsimp only [Z03_J2] at e
 refine cI ?_
 cases e
 exact qA () tI
 refine aQ ?_
 cases e
 obtain rfl:=u _ R
 have e:=B
 refine aU ?_
 exact qI (g,()) e tI
 rintro ⟨I,_⟩ σ1 e
 dsimp only [Z03_J3] at e
 refine dU ?_
 cases e
 exact qF () (tE 1 [])
theorem Z0o_ok  {b:(List Int)}{q:Int}{r:Bool}(e:Z0o b q=some r) :
 FnOk Tryz.prog 59 [(.slice A2 N2 D2),(iv q)] [aN kT3 (.slice A2 N2 D2) b] (fun (h:Unit)=>((.bool r),[])):=by
 unfold Z0o at e
 refine aP Tryz.func59 R 18 R R fun C V=>?_
 refine cL 0 aA ?_
 rintro rfl
 let l:=RR kT3 A2 D2 b::V
 refine cN l ?_
 refine bW ?_
 refine bB (A:=(Unit)×(Unit)) (fun a=>Z0o_J1=some r) (fun a=>[]) (fun a=>l) ?_ ?_
 refine bW ?_
 obtain ⟨E,m,j⟩:=bd e
 refine bD (A:=Unit) m (fun s a=>[(0,(sc A2 b D2)),(1,(iv q)),(5,(iv s))]) (fun s a=>l) () (aS R) tI ?_
 rintro F _ σ1 u e g
 dsimp only [Z0o_L1] at e
 refine dA ?_
 split at e
 refine bW ?_
 obtain ⟨i,e⟩:=gd e
 refine aQ ?_
 refine bC 0 aA (show 0<b.length by have:=i; omega) (fun B o13 D=>?_)
 subst D
 refine bW ?_
 split at e
 refine dA ?_
 cases e
 obtain rfl:=g _ R
 have e:=j
 refine aQ ?_
 cases e
 exact qF () (tE 1 [])
 refine dA ?_
 cases e
 exact qA () tI
 refine aQ ?_
 cases e
 obtain rfl:=g _ R
 have e:=j
 refine aU ?_
 exact cU ((),()) e trivial tI
 rintro ⟨_,_⟩ σ1 e
 dsimp only [Z0o_J1] at e
 refine bW ?_
 cases e
 exact qF () (tE 1 [])
theorem Z20_ok  {a:Node}{r:Bool}(i:Z20 a=some r) :
 FnOk Tryz.prog 57 [(.agg [(iv a.Op),(.slice A2 N2 D2),(.slice A3 N3 D3),(.slice A4 N4 D4),(aE a.Form),(.slice A5 N5 D5)].toArray)] [aN kT3 (.slice A2 N2 D2) a.Args,aN kT3 (.slice A3 N3 D3) a.Dims,aN kT3 (.slice A4 N4 D4) a.Ints,aN kT3 (.slice A5 N5 D5) a.Data] (fun (h:Unit)=>((.bool r),[])):=by
 unfold Z20 at i
 refine aP Tryz.func57 R 11 R R fun C V=>?_
 refine cL 0 aA ?_
 rintro rfl
 refine cL 1 aA ?_
 rintro rfl
 refine cL 2 aA ?_
 rintro rfl
 refine cL 3 aA ?_
 rintro rfl
 let e:=RR kT3 A2 D2 a.Args::RR kT3 A3 D3 a.Dims::RR kT3 A4 D4 a.Ints::RR kT3 A5 D5 a.Data::V
 refine cN e ?_
 refine aU ?_
 refine eJ R fun j=>?_
 refine aU ?_
 let g:=aJ j [(iv a.Op),(sc A2 a.Args D2),(sc A3 a.Dims D3),(sc A4 a.Ints D4),(aE a.Form),(sc A5 a.Data D5)] 65::e
 refine qN g ?_
 refine aU ?_
 refine cQ [(2,(.bool ((a.Op==1)||(a.Op==2))))] (g) ?_ ?_
 refine cI ?_
 rcases bo (a.Op==1) with b | b
 refine bW ?_
 exact qj tI
 refine bW ?_
 exact qj tI
 rintro σ1
 refine aU ?_
 cases i
 exact qF () (tE 5 [])
theorem Zc_ok  {g1:Graph}{b:(List Int)}{r:Bool}(e:Zc g1 b=some r) :
 FnOk Tryz.prog 55 [(.agg [(.slice A2 N2 D2),(.slice A3 N3 D3)].toArray),(.slice A5 N5 D5)] [aN cP (.slice A2 N2 D2) g1.Nodes,aN kT3 (.slice A3 N3 D3) g1.Outs,aN kT3 (.slice A5 N5 D5) b] (fun (h:Unit)=>((.bool r),[])):=by
 unfold Zc at e
 refine aP Tryz.func55 R 95 R R fun C V=>?_
 refine cL 0 aA ?_
 rintro rfl
 refine cL 1 aA ?_
 rintro rfl
 refine cL 2 aA ?_
 rintro rfl
 let W0:=RR cP A2 D2 g1.Nodes::RR kT3 A3 D3 g1.Outs::RR kT3 A5 D5 b::V
 refine cN W0 ?_
 refine aU ?_
 refine eJ R fun L=>?_
 refine aU ?_
 let J:=aJ L [(sc A2 g1.Nodes D2),(sc A3 g1.Outs D3)] 31::W0
 refine qN J ?_
 refine aU ?_
 refine bB (A:=(Unit)×(Unit)) (fun a=>Zc_J1 g1 b=some r) (fun a=>[(1,(sc A5 b D5)),(2,(pt L 0))]) (fun a=>J) ?_ ?_
 refine bW ?_
 obtain ⟨e1,am,ah⟩:=bd e
 refine bD (A:=Unit) am (fun s a=>[(1,(sc A5 b D5)),(2,(pt L 0)),(5,(iv s))]) (fun s a=>J) () (aS R) tI ?_
 rintro l _ σ1 b0 e ac
 dsimp only [Zc_L1] at e
 refine dA ?_
 split at e
 refine bW ?_
 obtain ⟨D,e⟩:=gd e
 obtain ⟨O,e⟩:=gd e
 refine cQ [(1,(sc A5 b D5)),(2,(pt L 0)),(5,(iv l)),(45,(.bool (((decide ((ix b l)<0))||(decide ((ix b l)≥(g1.Nodes.length:Int))))||((decide (l>0))&&(decide ((ix b (aH (l - 1)))≥(ix b l)))))))] (J) ?_ ?_
 rcases bo (decide ((ix b l)<0)) with ab | ab
 refine bA 3 aA (show 0<b.length by have:=D; omega) (fun U o20 E=>?_)
 subst E
 refine dF 31 [] bO fun ht hn=>?_
 refine wY 0 [] ?_
 refine n6 30 [] ?_
 refine dD ?_
 exact qj tI
 rcases bo ((decide ((ix b l)<0))||(decide ((ix b l)≥(g1.Nodes.length:Int)))) with F | F
 refine bA 3 aA (show 0<b.length by have:=D; omega) (fun U o20 E=>?_)
 subst E
 refine dF 31 [] bO fun ht hn=>?_
 refine wY 0 [] ?_
 refine n6 30 [] ?_
 refine dD ?_
 exact qj tI
 rcases bo (decide (l>0)) with m | m
 refine bA 3 aA (show 0<b.length by have:=D; omega) (fun U o20 E=>?_)
 subst E
 refine dF 31 [] bO fun ht hn=>?_
 refine B3 0 [] ?_
 refine dW 22 R (dS m) (eM bM cJ R R (O F m)) (dW 23 R (dS m) (gK 3 fP aA R (O F m)) ?_)
 refine rP 24 [] ?_
 refine dD ?_
 exact qj tI
 refine bA 3 aA (show 0<b.length by have:=D; omega) (fun U o20 E=>?_)
 subst E
 refine dF 31 [] bO fun ht hn=>?_
 refine wY 0 [] ?_
 refine n6 30 [] ?_
 refine dD ?_
 exact qj tI
 rintro σ1
 refine bX ?_
 split at e
 refine dA ?_
 cases e
 obtain rfl:=ac _ R
 have e:=ah
 refine aQ ?_
 cases e
 exact qF () (tE 4 [])
 refine dA ?_
 cases e
 exact qA () tI
 refine aQ ?_
 cases e
 obtain rfl:=ac _ R
 have e:=ah
 refine aU ?_
 exact qI ((),()) e tI
 rintro ⟨_,_⟩ σ1 e
 dsimp only [Zc_J1] at e
 refine aK (bB (A:=(Unit)×(Unit)) (fun a=>Zc_J4=some r) (fun a=>[]) (fun a=>J) ?_ ?_)
 refine bW ?_
 obtain ⟨e2,an,ai⟩:=bd e
 refine bD (A:=Unit) an (fun s a=>[(1,(sc A5 b D5)),(2,(pt L 0)),(6,(iv s))]) (fun s a=>J) () (aS R) tI ?_
 rintro i _ σ1 ak e ae
 dsimp only [Zc_L2] at e
 refine dG ?_
 split at e
 refine bI ?_
 refine bB (A:=(Unit)×(Unit)) (fun a=>Zc_J3 i=some ak) (fun a=>[(1,(sc A5 b D5)),(2,(pt L 0)),(6,(iv i))]) (fun a=>J) ?_ ?_
 refine dU ?_
 obtain ⟨e3,ao,aj⟩:=bd e
 refine bD (A:=Unit) ao (fun s a=>[(1,(sc A5 b D5)),(2,(pt L 0)),(6,(iv i)),(7,(iv s))]) (fun s a=>J) () (aS R) tI ?_
 rintro j _ σ1 b1 e ag
 dsimp only [Zc_L3] at e
 refine aU ?_
 obtain ⟨u,e⟩:=gd e
 refine cI ?_
 refine bC 1 aA (show 0<g1.Nodes.length by have:=u; omega) (fun M o116 E=>?_)
 subst E
 refine bX ?_
 refine lO (vz (.pointer (some ⟨M,o116+i.toNat*6+1,none⟩)) (kI pw R R)) (fN (K:=cP) 1 i dT65.dec R u.1 u.2 ?_)
 rintro ⟨-,⟨ap,av⟩,⟨aq,aw⟩,⟨ar,ax⟩,-,⟨au,ay⟩⟩
 refine lO (eN (fo:=1) 0 cY R R R) ?_
 refine bI ?_
 split at e
 refine bW ?_
 obtain ⟨Y,e⟩:=gd e
 refine cI ?_
 refine lO (vz (.pointer (some ⟨M,o116+i.toNat*6+1,none⟩)) (kI pw R R)) (lO (eN (fo:=1) 0 cY R R R) (lI R (bC 1 aA (show 0<((ix g1.Nodes i).Args).length by have:=Y; omega) (fun az o124 E=>?_))))
 subst E
 refine bW ?_
 obtain ⟨G,Z,e⟩:=bd e
 obtain ⟨I,a0,e⟩:=bd e
 obtain ⟨T,a1,e⟩:=bd e
 obtain ⟨B,e⟩:=gd e
 obtain ⟨al,a2,e⟩:=bd e
 refine cQ [(1,(sc A5 b D5)),(2,(pt L 0)),(6,(iv i)),(7,(iv j)),(94,(.bool (((G != I)&&(!T))&&(!al))))] (J) ?_ ?_
 refine aQ ?_
 refine lM _ (fun w s=>(s.d 8 R)) ?_
 refine lC 1 uI R (Z03_ok Z) R ?_
 rintro _
 refine lS R (lI R (lM _ (fun w s=>(s.d 8 R)) ?_))
 refine lC 1 uI R (Z03_ok a0) R ?_
 rintro _
 refine aU ?_
 rcases bo (G != I) with q | q
 refine aU ?_
 refine lM _ (fun w s=>(s.d 8 R)) ?_
 refine bU 1 R (dS q) zd R (Z0o_ok (bJ a1 q)) R ?_
 rintro _
 refine aQ ?_
 rcases bo ((G != I)&&(!T)) with g | g
 refine aQ ?_
 refine lW (dS g) (eM mC iW R R (B g)) (fN (K:=cP) 6 (ix ((ix g1.Nodes i).Args) j) dT65.dec R (B g).1 (B g).2 ?_)
 rintro ⟨-,⟨a3,a7⟩,⟨a4,a8⟩,⟨a5,a9⟩,-,⟨a6,aa⟩⟩
 refine lW (dS g) (vz (.agg [(iv (ix g1.Nodes (ix ((ix g1.Nodes i).Args) j)).Op),(sc a3 ((ix g1.Nodes (ix ((ix g1.Nodes i).Args) j)).Args) a7),(sc a4 ((ix g1.Nodes (ix ((ix g1.Nodes i).Args) j)).Dims) a8),(sc a5 ((ix g1.Nodes (ix ((ix g1.Nodes i).Args) j)).Ints) a9),(aE (ix g1.Nodes (ix ((ix g1.Nodes i).Args) j)).Form),(sc a6 ((ix g1.Nodes (ix ((ix g1.Nodes i).Args) j)).Data) aa)].toArray) (eF (fo:=0) 0 mD iW R R R R)) (lM _ (fun w s=>(((((s.d 1 R).d 3 R).d 5 R).d 7 R).f 14 [3,1,2,1,1,1,0,1,4,10])) ?_)
 refine bU 4 R (dS g) ze R (Z20_ok (bJ a2 g)) R ?_
 rintro _
 refine aQ ?_
 exact qj (tE 10 [])
 refine dA ?_
 exact qj (tE 5 [])
 refine ov ?_
 exact qj (tE 5 [])
 rintro σ1
 refine bX ?_
 split at e
 refine dA ?_
 cases e
 obtain rfl:=ag _ R
 have e:=aj
 refine bI ?_
 cases e
 obtain rfl:=ae _ R
 have e:=ai
 refine aQ ?_
 cases e
 exact qF () (tE 4 [])
 refine dA ?_
 cases e
 exact qA () tI
 refine aQ ?_
 cases e
 obtain rfl:=ag _ R
 have e:=aj
 refine aQ ?_
 exact qI ((),()) e (tE 5 [])
 rintro ⟨_,_⟩ σ1 e
 dsimp only [Zc_J3] at e
 refine cI ?_
 cases e
 exact qA () tI
 refine aQ ?_
 cases e
 obtain rfl:=ae _ R
 have e:=ai
 refine aU ?_
 exact cU ((),()) e trivial tI
 rintro ⟨_,_⟩ σ1 e
 dsimp only [Zc_J4] at e
 refine bW ?_
 cases e
 exact qF () (tE 4 [])
theorem Z2s_ok  {g1:Graph}{a:(List Int)}{r:Bool}(g:Z2s g1 a=some r) :
 FnOk Tryz.prog 25 [(.agg [(.slice A2 N2 D2),(.slice A3 N3 D3)].toArray),(.slice A5 N5 D5)] [aN cP (.slice A2 N2 D2) g1.Nodes,aN kT3 (.slice A3 N3 D3) g1.Outs,aN kT3 (.slice A5 N5 D5) a] (fun (h:Unit)=>((.bool r),[])):=by
 unfold Z2s at g
 refine aP Tryz.func25 R 12 R R fun C V=>?_
 refine cL 0 aA ?_
 rintro rfl
 refine cL 1 aA ?_
 rintro rfl
 refine cL 2 aA ?_
 rintro rfl
 let m:=RR cP A2 D2 g1.Nodes::RR kT3 A3 D3 g1.Outs::RR kT3 A5 D5 a::V
 refine cN m ?_
 refine aU ?_
 refine eJ R fun u=>?_
 refine aU ?_
 let j:=aJ u [(sc A2 g1.Nodes D2),(sc A3 g1.Outs D3)] 31::m
 refine qN j ?_
 refine aU ?_
 obtain ⟨q,l,g⟩:=bd g
 obtain ⟨B,i,g⟩:=bd g
 refine cQ [(4,(.bool (q&&B)))] (j) ?_ ?_
 refine aU ?_
 refine lM _ (fun w s=>(((s.d 1 R).d 3 R).e 2 [1,0])) ?_
 refine lC 2 Bt R (Z36_ok l) R ?_
 rintro _
 refine lN j ?_
 refine bX ?_
 rcases bo q with b | b
 refine aU ?_
 refine lM _ (fun w s=>((((s.d 1 R).d 3 R).d 5 R).e 3 [2,1,0])) ?_
 refine bU 3 R (dS b) Bu R (Zc_ok (bJ i b)) R ?_
 rintro _
 refine lN j ?_
 refine aQ ?_
 exact qj tI
 refine bW ?_
 exact qj tI
 rintro σ1
 refine aU ?_
 cases g
 exact qF () (tE 4 [])
theorem Z0v_ok  {g1:Graph}{r:(List (List Int))}(g:Z0v g1=some r) :
 FnOk Tryz.prog 27 [(.agg [(.slice A2 N2 D2),(.slice A3 N3 D3)].toArray)] [aN cP (.slice A2 N2 D2) g1.Nodes,aN kT3 (.slice A3 N3 D3) g1.Outs] (fun (h:HH)=>((.slice h.1 h.2.1 h.2.2),[ow (bH).share 23 (.slice h.1 h.2.1 h.2.2) r])):=by
 unfold Z0v at g
 refine aP Tryz.func27 R 32 R R fun C V=>?_
 refine cN (_::_::V) ?_
 refine cL 0 aA ?_
 rintro rfl
 refine cL 1 aA ?_
 rintro rfl
 let W0:List HP:=RR cP A2 D2 g1.Nodes::RR kT3 A3 D3 g1.Outs::V
 refine cN W0 ?_
 refine aK (aD (eJ R (fun b4=>(lS R (aC ?_)))))
 let q:List HP:=aJ b4 [(sc A2 g1.Nodes D2),(sc A3 g1.Outs D3)] 31::W0
 refine qN q ?_
 refine aG (aK (aD (bP (K:=bH) (xs:=([]:List (List Int))) (vs:=[]) 0 R R ja fJ kM R R R R R R ?_ R (fun A5 D5=>?_))))
 exact fun I h s=>(mB).list [] I h s
 refine lN (OO bH 23 A5 D5 ([]:List (List Int))::q) ?_
 refine lS R (aC (aG (aK ?_)))
 obtain ⟨i,a8,g⟩:=bd g
 refine aD (lO (vz (.agg [(sc A2 g1.Nodes D2),(sc A3 g1.Outs D3)].toArray) (cO 1 n8 lT R R R R)) (bP (K:=dP) (xs:=([]:List Tensor)) (vs:=[]) 0 R R gD bT dX R R R R R R ?_ R (fun A6 D6=>?_)))
 exact fun I h s=>(uD).list [] I h s
 refine lN (OO dP 42 A6 D6 ([]:List Tensor)::_::q) ?_
 refine iV (fun w s=>s.shr 0 R) (lM (RR cP A2 D2 g1.Nodes::RR kT3 A3 D3 g1.Outs::RR dP A6 D6 ([]:List Tensor)::RR dP A6 D6 ([]:List Tensor)::ow _ _ _ _::q) (fun w s=>((((s.d 3 R).d 5 R).d 2 R).e 5 [2,1,0,3,4])) ?_)
 refine lC 3 zb R (Z9_ok a8) R ?_
 rintro ⟨A9,N9,D9⟩
 refine lN (ow (dP).share 42 (.slice A9 N9 D9) i.1::_::_::q) ?_
 refine aM 0 eG ?_
 rintro rfl
 refine lO (vT R) (lS R (lB R (lS R (lB R (aC (aG (aK (bB (A:=((List (List Int)))×(HH)) (fun a=>Z0v_J1 a.1=some r) (fun a=>[(3,(.slice a.2.1 a.2.2.1 a.2.2.2))]) (fun a=>ow (bH).share 23 (.slice a.2.1 a.2.2.1 a.2.2.2) a.1::q) ?_ ?_))))))))
 refine aK (aD (lI R (aC (aG (dJ ?_)))))
 obtain ⟨e1,a7,a6⟩:=bd g
 refine bD (A:=HH) a7 (fun s a=>[(3,(.slice a.1 a.2.1 a.2.2)),(4,(sc A9 i.1 D9)),(5,(.bool i.2)),(6,(iv s.2))]) (fun s a=>ow (bH).share 23 (.slice a.1 a.2.1 a.2.2) s.1::OO (dP).share 42 A9 D9 i.1::q) (A5,([]:List (List Int)).length,D5) (aS R) (fun w s=>((s.wk 2 R).e 3 [0,1])) ?_
 rintro ⟨j,b⟩ ⟨B,a3,D⟩ σ1 T g a5
 replace g:Z0v_L1 i j b=some T:=g
 unfold Z0v_L1 at g
 refine bK 0 eG (fun (hn:a3=j.length)=>?_)
 subst hn
 refine aK (aK (cQ [(3,(sc B j D)),(4,(sc A9 i.1 D9)),(5,(.bool i.2)),(6,(iv b)),(20,(.bool ((decide (b<(i.1.length:Int)))&&i.2)))] (OO (bH).share 23 B D j::OO (dP).share 42 A9 D9 i.1::q) ?_ ?_))
 refine aD (lI R (lS R (lO (hY gD R) (lO (n0 R R) (lB R ?_)))))
 rcases bo (decide (b<(i.1.length:Int))) with l | l
 refine lW (dS l) (vB R) (lO (iC R l R) (aC ?_))
 exact qJ (fun w s=>s)
 refine lf (nE l) (lO (jP i.2 R l) (aC ?_))
 exact qJ (fun w s=>s)
 rintro σ1
 refine aG ?_
 rcases cH g with ⟨u,g⟩|⟨u,g⟩
 refine bV R u (cF (aG (aK (dJ ?_))))
 obtain ⟨m,g⟩:=gd g
 obtain ⟨O,g⟩:=gd g
 refine aD (lS R (lS R (lI R (bC 1 eG (show 0<i.1.length by have:=m; omega) (fun M o27 ha=>?_)))))
 subst ha
 refine lO (eM gD bT R R m) (lO (vz (.pointer (some ⟨M,o27+b.toNat*2,none⟩)) (kI iN R R)) (sq (K:=(dP).share) (fo:=0) 1 b R R cY dT42.own (fun _ _=>R) R R m.1 m.2 ?_))
 rintro ⟨⟨E,F⟩,⟨U,a0⟩⟩
 refine lN (RR kT3 E F ((ix i.1 b).Dims)::RR kT3 U a0 ((ix i.1 b).Data)::OO (bH).share 23 B D j::OO (dP).share 42 (ad M o27) D9 i.1::q) ?_
 refine lM (_::_::_::_::_::q) (fun w s=>(s.d 0 R)) ?_
 refine bP (K:=(bH).share) (xs:=([(ix i.1 b).Dims]:List (List Int))) (vs:=[(sc E ((ix i.1 b).Dims) F)]) 1 R R ja fJ kM R R R R R R ?_ R (fun Y a1=>?_)
 exact fun I h s=>(rn).list [((sc E ((ix i.1 b).Dims) F),(ix i.1 b).Dims)] I h s
 refine lN (OO (bH).share 23 Y a1 ([(ix i.1 b).Dims]:List (List Int))::_::_::_::_::q) ?_
 refine lM (ow _ _ _ _::ow _ _ _ _::aN _ _ _::aN _ _ _::ow _ _ _ _::q) (fun w s=>(s.e 5 [3,0,1,2,4])) ?_
 refine eP (K:=(bH).share) 5864062014805 R R ja fJ sT (Zr.zk (Zr.share zT23) kM) R R R R R R dZ O (fun J L=>(lN (OO (bH).share 23 J L (j++([(ix i.1 b).Dims]:List (List Int)))::_::_::_::q) ?_))
 refine lS R (aC (dN (aG (aD (lI R (lO (jt R R) (lI R (aC ?_))))))))
 obtain rfl:=so g
 exact qA (J,(j++([(ix i.1 b).Dims]:List (List Int))).length,L) (fun w s=>(s.e 4 [0,3]))
 refine bG R u (gA (dY ?_))
 obtain rfl:=so g
 obtain rfl:=a5 _ R
 have g:=a6
 refine dY (eX ?_)
 exact qI (j,(B,j.length,D)) g (fun w s=>(s.e 2 [0]))
 rintro ⟨G,⟨Z,a4,a2⟩⟩ σ1 g
 replace g:Z0v_J1 G=some r:=g
 unfold Z0v_J1 at g
 refine bK 0 eG (fun (hn:a4=G.length)=>?_)
 subst hn
 refine aK (aD (lS R (lS R (aC (aG (bY ?_))))))
 obtain rfl:=so g
 exact qF (Z,G.length,a2) (fun w s=>(s.e 4 [0]))
end Go.Proofs.YthelanpdjajnbaaGreat
