import Derived.Test.YtmpnollfdpdipaaGreatGkF
import Derived.Test.YtmpnollfdpdipaaGreatGkW2
import Derived.Test.YtmpnollfdpdipaaGreatGkW3
set_option linter.unusedVariables false
set_option maxRecDepth 20000
namespace Go.Proofs.YtmpnollfdpdipaaGreat
open Go Go.Pg
variable {A2 A3 A4 A5 A7:Option Addr}{D2 D3 D4 D5 D7 N2 N3 N4 N5 N7:Nat}
theorem Z0e_ok  {v1:View}{g:Int}{b:Int}{l:Int}{r:View}(q:Z0e v1 g b l=some r) :
 FnOk Tryz.prog 90 [(.agg [(.slice A2 N2 D2),(.slice A3 N3 D3),(iv v1.Offset),(iv v1.Base)].toArray),(iv g),(iv b),(iv l)] [aN kT3 (.slice A2 N2 D2) v1.Dims,aN kT3 (.slice A3 N3 D3) v1.Strides] (fun (h:HH×HH)=>((.agg [(.slice h.1.1 h.1.2.1 h.1.2.2),(.slice h.2.1 h.2.2.1 h.2.2.2),(iv r.Offset),(iv r.Base)].toArray),[aN kT3 (.slice h.1.1 h.1.2.1 h.1.2.2) r.Dims,aN kT3 (.slice h.2.1 h.2.2.1 h.2.2.2) r.Strides])):=by
 unfold Z0e at q
 refine aQ Tryz.func90 R 85 R R fun C V=>?_
 refine cN (_::_::V) ?_
 refine cL 0 aA ?_
 rintro rfl
 refine cL 1 aA ?_
 rintro rfl
 let W0:List HP:=RR kT3 A2 D2 v1.Dims::RR kT3 A3 D3 v1.Strides::V
 refine cN W0 ?_
 refine aO (aE (eF R (fun b7=>(bF R R cY (fun b8=>(aC ?_))))))
 let E:List HP:=aJ b7 [(sc A2 v1.Dims D2),(sc A3 v1.Strides D3),(iv v1.Offset),(iv v1.Base)] 96::W0
 refine qN (_::E) ?_
 refine aI (aO (aO ?_))
 obtain ⟨r9,ao,q⟩:=bd q
 obtain ⟨a7,q⟩:=gd q
 refine cQ [(1,(iv g)),(2,(iv b)),(3,(iv l)),(4,(pt b7 0)),(8,(pt b8 0)),(32,(.bool ((((!r9)||(decide (b<(1:Int))))||(decide (l<(1:Int))))||(decide (b>(ix v1.Dims g))))))] (aJ b8 [(.slice none 0 0),(.slice none 0 0),(iv 0),(iv 0)] 96::E) ?_ ?_
 refine aE (lO (vz (.agg [(sc A2 v1.Dims D2),(sc A3 v1.Strides D3),(iv v1.Offset),(iv v1.Base)].toArray) (dT 1 gI cG R R R R)) (lI R (lM (RR kT3 A2 D2 v1.Dims::RR kT3 A3 D3 v1.Strides::aJ _ _ _::E) (fun w s=>(((s.d 2 R).d 4 R).e 3 [1,0,2])) ?_)))
 refine lC 2 vD R (Z29_ok ao) R ?_
 rintro _
 refine lN (_::E) ?_
 refine lO (rZ R) (lB R ?_)
 rcases bo (!r9) with m | m
 refine lf (dZ m) (lf (dZ m) (lO (fC (decide (b<(1:Int))) R m) (lB R (lf (dZ (oT m)) (lf (dZ (oT m)) (lO (fC (decide (l<(1:Int))) R (oT m)) (lB R (lf (dZ (oT (oT m))) (lf (dZ (oT (oT m))) (lf (dZ (oT (oT m))) (lf (dZ (oT (oT m))) (lf (dZ (oT (oT m))) (lf (dZ (oT (oT m))) (lf (dZ (oT (oT m))) (lO (fC (decide (b>(ix v1.Dims g))) R (oT (oT m))) (aC ?_))))))))))))))))
 exact qJ (fun w s=>s)
 refine lW (cA m) (vI R) (lW (cA m) (mZ R R) (lO (fU R m R) (lB R ?_)))
 rcases bo ((!r9)||(decide (b<(1:Int)))) with u | u
 refine lf (dZ u) (lf (dZ u) (lO (fC (decide (l<(1:Int))) R u) (lB R (lf (dZ (oT u)) (lf (dZ (oT u)) (lf (dZ (oT u)) (lf (dZ (oT u)) (lf (dZ (oT u)) (lf (dZ (oT u)) (lf (dZ (oT u)) (lO (fC (decide (b>(ix v1.Dims g))) R (oT u)) (aC ?_))))))))))))
 exact qJ (fun w s=>s)
 refine lW (cA u) (vI R) (lW (cA u) (mZ R R) (lO (fU R u R) (lB R ?_)))
 rcases bo (((!r9)||(decide (b<(1:Int))))||(decide (l<(1:Int)))) with j | j
 refine lf (dZ j) (lf (dZ j) (lf (dZ j) (lf (dZ j) (lf (dZ j) (lf (dZ j) (lf (dZ j) (lO (fC (decide (b>(ix v1.Dims g))) R j) (aC ?_))))))))
 exact qJ (fun w s=>s)
 refine lW (cA j) (vI R) (lW (cA j) (fP 0 gJ R) (lW (cA j) (fW 1 cJ R R R) (lW (cA j) (vI R) (bA 2 aA (show 0<v1.Dims.length by have:=(a7 j); omega) (fun b0 o13 ha=>?_)))))
 subst ha
 refine lW (cA j) (eL bI cB R R (a7 j)) (lW (cA j) (gO 2 fQ aA R (a7 j)) (lW (cA j) (yf R R) (lO (fU R j R) (aC ?_))))
 exact qJ (fun w s=>s)
 rintro σ1
 refine aI ?_
 rcases cO q with ⟨a2,q⟩|⟨a2,q⟩
 refine cC R a2 (aO (aE (lO (vz (.agg [(.slice none 0 0),(.slice none 0 0),(iv 0),(iv 0)].toArray) (aX fD cY R R)) (aK 0 R R cG R R R R R R (aC (aI (bY (cF ?_))))))))
 obtain rfl:=so q
 exact dI (vs:=[(.agg [(.slice none 0 0),(.slice none 0 0),(iv 0),(iv 0)].toArray)]) (.inl R) ((none,0,0),(none,0,0)) R ⟨⟨0,b8,_,_,R,R,.inl ⟨gI,cG,R⟩⟩,trivial⟩ R (fun w s=>(((s.nilr kT3).nilr kT3).e 6 [1,0]))
 refine bM R a2 (dE (aI (aO ?_)))
 obtain ⟨i,al,q⟩:=bd q
 refine aE (lO (vz (.agg [(sc A2 v1.Dims D2),(sc A3 v1.Strides D3),(iv v1.Offset),(iv v1.Base)].toArray) (dT 1 gI cG R R R R)) (lM (RR kT3 A2 D2 v1.Dims::RR kT3 A3 D3 v1.Strides::aJ _ _ _::E) (fun w s=>(((s.d 2 R).d 4 R).e 3 [1,0,2])) ?_))
 refine lC 2 vE R (Z2b_ok al) R ?_
 rintro ⟨⟨ak,ar,T⟩,⟨ah,aq,D⟩⟩
 refine lN (ow kT3 3 (.slice ak ar T) i.Dims::ow kT3 3 (.slice ah aq D) i.Strides::_::E) ?_
 refine aL 0 aB ?_
 rintro rfl
 refine aL 1 aB ?_
 rintro rfl
 refine bF R R cY (fun O=>(aK 0 R R cG R R R R R R (lN (aJ O [(sc ak i.Dims T),(sc ah i.Strides D),(iv i.Offset),(iv i.Base)] 96::_::_::_::E) ?_)))
 refine aC (aI (aO ?_))
 obtain ⟨a1,q⟩:=gd q
 obtain ⟨ai,q⟩:=gd q
 refine aE (lO (fP 0 gJ R) (lO (fW 4 cJ R R R) (lI R (bA 5 aA (show 0<v1.Dims.length by have:=a1; omega) (fun b1 o25 ha=>?_)))))
 subst ha
 refine lO (eL bI cB R R a1) (lO (gO 5 fQ aA R a1) (lI R (lO (wu R R) (lI R (lO (vz (iv (aH ((aH ((ix v1.Dims g) - b)).tdiv l))) (mf R R ai)) (lO (kW R R) (lI R (aC (aI (aO ?_))))))))))
 obtain ⟨a4,q⟩:=gd q
 refine aE (lO (fP 1 gA R) (lO (fW 4 cJ R R R) (lI R (bA 6 aA (show 0<v1.Strides.length by have:=a4; omega) (fun b2 o29 ha=>?_)))))
 subst ha
 refine lO (eL bI cB R R a4) (lO (gO 6 fQ aA R a4) (lI R (aC (aI (aO ?_)))))
 obtain ⟨a0,q⟩:=gd q
 refine aE (lO (fP 0 gJ R) (lO (fW 0 cJ R R R) (lI R (lI R (bA 1 aB (show 0<i.Dims.length by have:=a0; omega) (fun Z o32 ha=>?_))))))
 subst ha
 refine lO (eL bI cB R R a0) (lM (OO kT3 3 (ad Z o32) T i.Dims::aJ O [(sc (ad Z o32) i.Dims T),(sc ah i.Strides D),(iv i.Offset),(iv i.Base)] 96::ow _ _ _ _::aJ _ _ _::E) (fun w s=>(s.e 4 [1,0,2,3])) ?_)
 refine eA (K:=kT3) (x':=(aH ((aH ((aH ((ix v1.Dims g) - b)).tdiv l))+(1:Int)))) 0 g R R cB R R a0.1 a0.2 ?_ ?_
 exact fun I h s=>(fZ).put I h () (aH ((aH ((aH ((ix v1.Dims g) - b)).tdiv l))+(1:Int))) s
 refine lN (ow kT3 3 (.slice (ad Z o32) i.Dims.length T) (i.Dims.set g.toNat (aH ((aH ((aH ((ix v1.Dims g) - b)).tdiv l))+(1:Int))))::_::_::_::E) ?_
 refine aC ?_
 obtain ⟨B,a5,q⟩:=bd q
 replace a5:=Option.some.inj a5
 refine qM (ow kT3 3 (.slice (ad Z o32) i.Dims.length T) B::_::_::_::E) (fun w s=>by rw [← a5]; exact s) ?_
 refine aI (aO ?_)
 obtain ⟨L,q⟩:=gd q
 refine aE (lO (fP 1 gA R) (lO (fW 1 cJ R R R) (lI R (bA 2 aB (show 0<i.Strides.length by have:=L; omega) (fun J o37 ha=>?_)))))
 subst ha
 refine lO (eL bI cB R R L) (lM (OO kT3 3 (ad J o37) D i.Strides::ow _ _ _ _::aJ O [(sc (ad Z o32) i.Dims T),(sc (ad J o37) i.Strides D),(iv i.Offset),(iv i.Base)] 96::aJ _ _ _::E) (fun w s=>(s.e 4 [2,0,1,3])) ?_)
 refine eA (K:=kT3) (x':=(0:Int)) 0 g R R cB R R L.1 L.2 ?_ ?_
 exact fun I h s=>(fZ).put I h () (0:Int) s
 refine lN (ow kT3 3 (.slice (ad J o37) i.Strides.length D) (i.Strides.set g.toNat (0:Int))::_::_::_::E) ?_
 refine aC (aI (aO (aZ (A:=((List Int))×(Unit)) (fun a=>Z0e_J1 v1 g b i B a.1=some r) (fun a=>[(2,(iv b)),(8,(pt b8 0)),(9,(pt O 0)),(11,(iv (ix v1.Strides g)))]) (fun a=>aJ b8 [(.slice none 0 0),(.slice none 0 0),(iv 0),(iv 0)] 96::aJ O [(sc (ad Z o32) i.Dims T),(sc (ad J o37) i.Strides D),(iv i.Offset),(iv i.Base)] 96::ow kT3 3 (.slice (ad Z o32) i.Dims.length T) B::ow kT3 3 (.slice (ad J o37) i.Strides.length D) a.1::E) ?_ ?_)))
 refine aO (aE (lI R (lO (yf R R) (aC (aI ?_)))))
 rcases cO q with ⟨a3,q⟩|⟨a3,q⟩
 refine cC R a3 (aE (lO (fP 1 gA R) (lO (fW 2 cJ R R R) (lI R (lI R (lI R (lO (rB R R) (lO (eL bI cB R R L) (eA (K:=kT3) (x':=(aH ((ix v1.Strides g)*l))) 0 g R R cB R R L.1 L.2 ?_ ?_)))))))))
 exact fun I h s=>(fZ).put I h () (aH ((ix v1.Strides g)*l)) s
 refine lN (ow kT3 3 (.slice (ad J o37) i.Strides.length D) ((i.Strides.set g.toNat (0:Int)).set g.toNat (aH ((ix v1.Strides g)*l)))::_::_::_::E) ?_
 refine aC ?_
 obtain ⟨am,aa,q⟩:=bd q
 replace aa:=Option.some.inj aa
 refine qM (ow kT3 3 (.slice (ad J o37) i.Strides.length D) am::_::_::_::E) (fun w s=>by rw [← aa]; exact s) ?_
 exact qI (am,()) q (fun w s=>(s.e 4 [3,2,1,0]))
 refine bM R a3 (dE ?_)
 exact qI ((i.Strides.set g.toNat (0:Int)),()) q (fun w s=>(s.e 4 [3,2,1,0]))
 rintro ⟨M,_⟩ σ1 q
 replace q:Z0e_J1 v1 g b i B M=some r:=q
 unfold Z0e_J1 at q
 refine aO ?_
 obtain ⟨aj,q⟩:=gd q
 refine aE (lO (fP 0 gJ R) (lO (fW 1 cJ R R R) (lI R (bK (K:=kT3) (xs:=([b]:List Int)) (vs:=[(iv b)]) 0 R R bI cB f' R R R R R R ?_ R (fun az au=>?_)))))
 exact fun I h s=>(fZ).list [((),b)] I h s
 refine lN (OO kT3 3 az au ([b]:List Int)::_::_::_::ow kT3 3 (.slice (ad J o37) i.Strides.length D) M::E) ?_
 refine lM (ow _ _ _ _::ow _ _ _ _::aJ _ _ _::aJ _ _ _::ow _ _ _ _::E) (fun w s=>(s.e 5 [3,0,1,2,4])) ?_
 refine eB (K:=kT3) 17592186044416 R R bI cB jZ (Zr.zk zT3 f') R R R R R R dM aj (fun Y U=>(lN (OO kT3 3 Y U (B++([b]:List Int))::_::_::_::E) ?_))
 refine lO (fP 0 gJ R) (cK 2 R R fK R R R R R (lN (_::_::aJ O [(sc Y (B++([b]:List Int)) U),(sc (ad J o37) i.Strides D),(iv i.Offset),(iv i.Base)] 96::_::E) ?_))
 refine aC (aI (aO (aZ (A:=(Int)×(Unit)) (fun a=>Z0e_J2 b i B M a.1=some r) (fun a=>[(8,(pt b8 0)),(9,(pt O 0)),(11,(iv a.1))]) (fun a=>aJ b8 [(.slice none 0 0),(.slice none 0 0),(iv 0),(iv 0)] 96::aJ O [(sc Y (B++([b]:List Int)) U),(sc (ad J o37) i.Strides D),(iv i.Offset),(iv i.Base)] 96::OO kT3 3 Y U (B++([b]:List Int))::ow kT3 3 (.slice (ad J o37) i.Strides.length D) M::E) ?_ ?_)))
 refine aO (aE (lI R (lO (ly R R) (aC (aI ?_)))))
 rcases cO q with ⟨a8,q⟩|⟨a8,q⟩
 refine cC R a8 (aE (lI R (aC ?_)))
 exact qI ((0:Int),()) q (fun w s=>(s.e 4 [1,2,0,3]))
 refine bM R a8 (dE ?_)
 exact qI ((ix v1.Strides g),()) q (fun w s=>(s.e 4 [1,2,0,3]))
 rintro ⟨G,_⟩ σ1 q
 replace q:Z0e_J2 b i B M G=some r:=q
 unfold Z0e_J2 at q
 refine aO ?_
 obtain ⟨ap,q⟩:=gd q
 refine aE (lO (fP 1 gA R) (lO (fW 1 cJ R R R) (lI R (bK (K:=kT3) (xs:=([G]:List Int)) (vs:=[(iv G)]) 0 R R bI cB f' R R R R R R ?_ R (fun ax aw=>?_)))))
 exact fun I h s=>(fZ).list [((),G)] I h s
 refine lN (OO kT3 3 ax aw ([G]:List Int)::_::_::_::_::E) ?_
 refine lM (ow _ _ _ _::ow _ _ _ _::aJ _ _ _::aJ _ _ _::ow _ _ _ _::E) (fun w s=>(s.f 5 [4,1,0,4])) ?_
 refine eB (K:=kT3) 17592186044416 R R bI cB jZ (Zr.zk zT3 f') R R R R R R dM ap (fun a9 a6=>(lN (OO kT3 3 a9 a6 (M++([G]:List Int))::_::_::_::E) ?_))
 refine lO (fP 1 gA R) (cK 2 R R fK R R R R R (lN (_::_::aJ O [(sc Y (B++([b]:List Int)) U),(sc a9 (M++([G]:List Int)) a6),(iv i.Offset),(iv i.Base)] 96::_::E) ?_))
 refine aC (aI (aO ?_))
 obtain ⟨F,an,q⟩:=bd q
 refine aE (lO (vz (.agg [(sc Y (B++([b]:List Int)) U),(sc a9 (M++([G]:List Int)) a6),(iv i.Offset),(iv i.Base)].toArray) (dT 2 gI cG R R R R)) (iP (fun w s=>s.shr 3 R) (iP (fun w s=>s.shr 1 R) (lM (RR kT3 Y U (B++([b]:List Int))::RR kT3 a9 a6 (M++([G]:List Int))::RR kT3 a9 a6 (M++([G]:List Int))::RR kT3 Y U (B++([b]:List Int))::aJ _ _ _::aJ _ _ _::E) (fun w s=>(((s.d 1 R).d 1 R).e 6 [1,0,2,3,4,5])) ?_))))
 refine lC 2 vF R (Z2c_ok (v1:=(⟨(B++([b]:List Int)),(M++([G]:List Int)),i.Offset,i.Base⟩:View)) an) R ?_
 rintro ⟨⟨ag,ay,ae⟩,⟨ab,av,ac⟩⟩
 refine lN (aN kT3 (.slice ag ay ae) F.Dims::aN kT3 (.slice ab av ac) F.Strides::_::_::_::_::E) ?_
 refine aL 0 aA ?_
 rintro rfl
 refine aL 1 aA ?_
 rintro rfl
 refine aK 4 R R cG R R R R R R (lN (_::_::_::_::aJ b8 [(sc ag F.Dims ae),(sc ab F.Strides ac),(iv F.Offset),(iv F.Base)] 96::_::E) ?_)
 refine aC (aI (bY ?_))
 obtain rfl:=so q
 exact dI (vs:=[(.agg [(sc ag F.Dims ae),(sc ab F.Strides ac),(iv F.Offset),(iv F.Base)].toArray)]) (.inl R) ((ag,F.Dims.length,ae),(ab,F.Strides.length,ac)) R ⟨⟨4,b8,_,_,R,R,.inl ⟨gI,cG,R⟩⟩,trivial⟩ R (fun w s=>(s.e 9 [0,1]))
theorem Z0t_ok  {t1:Tensor}{j:Int}{i:Int}{J:Int}{r:Tensor}(b:Z0t t1 j i J=some r) :
 FnOk Tryz.prog 91 [(.agg [(.slice A2 N2 D2),(.slice A3 N3 D3)].toArray),(iv j),(iv i),(iv J)] [aN kT3 (.slice A2 N2 D2) t1.Dims,aN kT3 (.slice A3 N3 D3) t1.Data] (fun (h:HH×HH)=>((.agg [(s3 h.1),(s3 h.2)].toArray),[ow kT3 3 (s3 h.1) r.Dims,ow kT3 3 (s3 h.2) r.Data])):=by
 unfold Z0t at b
 refine aQ Tryz.func91 R 118 R R fun C V=>?_
 refine cL 0 aA ?_
 rintro rfl
 refine cL 1 aA ?_
 rintro rfl
 let W0:=RR kT3 A2 D2 t1.Dims::RR kT3 A3 D3 t1.Data::V
 refine cN W0 ?_
 refine aU ?_
 refine eF R fun b7=>?_
 refine bF R R dQ (fun L=>(aC ?_))
 let T:=aJ b7 [(sc A2 t1.Dims D2),(sc A3 t1.Data D3)] 58::W0
 refine hH ?_
 obtain ⟨r9,ah,b⟩:=bd b
 refine cQ [(1,(iv j)),(2,(iv i)),(3,(iv J)),(4,(pt b7 0)),(8,(pt L 0)),(9,(iv (aH ((t1.Dims.length:Int) - 1)))),(40,(.bool (((((!r9)||(j==(aH ((t1.Dims.length:Int) - 1))))||(decide (i<1)))||(decide (J<1)))||(decide (J>4096)))))] (aJ L [(.slice none 0 0),(.slice none 0 0)] 58::T) ?_ ?_
 refine aP ?_
 refine lM _ (fun w s=>(((s.d 2 R).d 4 R).e 3 [1,0,2])) ?_
 refine lC 2 oC R (Z1i_ok ah) R ?_
 rintro _
 refine aU ?_
 rcases bo (!r9) with Y | Y
 refine om ?_
 exact qj tI
 refine bZ ?_
 rcases bo ((!r9)||(j==(aH ((t1.Dims.length:Int) - 1)))) with ae | ae
 refine hH ?_
 exact qj tI
 refine bG ?_
 rcases bo (((!r9)||(j==(aH ((t1.Dims.length:Int) - 1))))||(decide (i<1))) with ak | ak
 refine cV ?_
 exact qj tI
 refine bG ?_
 rcases bo ((((!r9)||(j==(aH ((t1.Dims.length:Int) - 1))))||(decide (i<1)))||(decide (J<1))) with a6 | a6
 refine bG ?_
 exact qj tI
 refine bG ?_
 exact qj tI
 rintro σ1
 refine bU ?_
 split at b
 refine aP ?_
 refine lO (vz (.agg [(.slice none 0 0),(.slice none 0 0)].toArray) (aX gN dQ R R)) (aK 0 R R bR R R R R R R (aC (aI (bY (cF ?_)))))
 cases b
 exact qS ((none,0,0),(none,0,0)) (fun w s=>(((s.nilo kT3 3).nilo kT3 3).e 6 [1,0]))
 refine bG ?_
 obtain ⟨a0,b⟩:=gd b
 refine bG ?_
 refine bA 2 aA (show 0<t1.Dims.length by have:=a0; omega) (fun b6 o18 ha=>?_)
 subst ha
 refine dG ?_
 obtain ⟨U,b⟩:=gd b
 obtain ⟨M,b⟩:=gd b
 refine cQ [(1,(iv j)),(2,(iv i)),(3,(iv J)),(4,(pt b7 0)),(8,(pt L 0)),(9,(iv (aH ((t1.Dims.length:Int) - 1)))),(63,(.bool ((decide ((ix t1.Dims (aH ((t1.Dims.length:Int) - 1)))>J))||((aH ((aH ((aH (J - (ix t1.Dims (aH ((t1.Dims.length:Int) - 1))))).tdiv i))+1)) != (ix t1.Dims j)))))] (aJ L [(.slice none 0 0),(.slice none 0 0)] 58::T) ?_ ?_
 rcases bo (decide ((ix t1.Dims (aH ((t1.Dims.length:Int) - 1)))>J)) with m | m
 refine dF 17 [] bP fun ht hn=>?_
 refine yq 0 [] ?_
 refine dD ?_
 exact qj tI
 refine dF 17 [] bP fun ht hn=>?_
 refine ug 0 [] ?_
 refine dW 8 R (cA m) (vz (iv (aH ((aH (J - (ix t1.Dims (aH ((t1.Dims.length:Int) - 1))))).tdiv i))) (mf R R (U m))) ?_
 refine oq 9 [] ?_
 refine dW 13 R (cA m) (eL bI cB R R (M m)) (dW 14 R (cA m) (gO 2 fQ aA R (M m)) ?_)
 refine gR 15 [] ?_
 refine dD ?_
 exact qj tI
 rintro σ1
 refine bU ?_
 split at b
 refine aP ?_
 refine lO (vz (.agg [(.slice none 0 0),(.slice none 0 0)].toArray) (aX gN dQ R R)) (aK 0 R R bR R R R R R R (aC (aI (bY (cF ?_)))))
 cases b
 exact qS ((none,0,0),(none,0,0)) (fun w s=>(((s.nilo kT3 3).nilo kT3 3).e 6 [1,0]))
 refine bG ?_
 obtain ⟨b1,ab,b⟩:=bd b
 obtain ⟨F,b⟩:=gd b
 refine bZ ?_
 refine lM _ (fun w s=>(s.d 2 R)) ?_
 refine lC 1 kF R (Z0j_ok ab) R ?_
 rintro ⟨bc,b9,b5⟩
 refine aL 0 aB ?_
 rintro rfl
 refine lI R (iP (fun w s=>s.shr 0 R) (gC (K:=kT3) (0:Int) (aH ((t1.Dims.length:Int) - 1)) 0 R R bI cB R R R R F.1 F.2.1 F.2.2 (fun b0 az=>(lS R (aC (aI (aO (aO ?_))))))))
 obtain ⟨av,Z,b⟩:=bd b
 refine aU ?_
 refine lM _ (fun w s=>(s.d 0 R)) ?_
 refine lC 1 kb R (Zo_ok Z) R ?_
 rintro _
 refine aP ?_
 split at b
 refine aP ?_
 refine lO (vz (.agg [(.slice none 0 0),(.slice none 0 0)].toArray) (aX gN dQ R R)) (aK 2 R R bR R R R R R R (aC (aI (bY (cF ?_)))))
 cases b
 exact qS ((none,0,0),(none,0,0)) (fun w s=>(((s.nilo kT3 3).nilo kT3 3).e 8 [1,0]))
 refine bG ?_
 obtain ⟨g,a4,b⟩:=bd b
 refine aU ?_
 refine lM _ (fun w s=>(s.d 0 R)) ?_
 refine lC 1 nA R (Z0i_ok a4) R ?_
 rintro ⟨⟨l,b2,q⟩,⟨D,ba,u⟩⟩
 refine aL 0 aB ?_
 rintro rfl
 refine aL 1 aB ?_
 rintro rfl
 refine bF R R dQ (fun I=>(aK 0 R R bR R R R R R R (lN (aJ I [(sc l g.Dims q),(sc D g.Data u)] 58::_::_::_::_::_::T) ?_)))
 refine aP ?_
 refine aZ (A:=((List Int))×(Unit)) (fun a=>Z0t_J1 g a.1=some r) (fun a=>[(8,(pt L 0)),(12,(pt I 0))]) (fun a=>aJ L [(.slice none 0 0),(.slice none 0 0)] 58::aJ I [(sc l g.Dims q),(sc D g.Data u)] 58::OO kT3 3 l q g.Dims::ow kT3 3 (.slice D g.Data.length u) a.1::T) ?_ ?_
 refine bT ?_
 obtain ⟨e1,an,am⟩:=bd b
 refine bD (A:=Unit) an (fun s a=>[(1,(iv j)),(2,(iv i)),(4,(pt b7 0)),(8,(pt L 0)),(9,(iv (aH ((t1.Dims.length:Int) - 1)))),(12,(pt I 0)),(13,(iv s.2))]) (fun s a=>aJ L [(.slice none 0 0),(.slice none 0 0)] 58::aJ I [(sc l g.Dims q),(sc D g.Data u)] 58::OO kT3 3 l q g.Dims::ow kT3 3 (.slice D g.Data.length u) s.1::T) () (aS R) (tE 6 [5,0,1,2]) ?_
 rintro ⟨E,be⟩ _ σ1 ap b al
 dsimp only [Z0t_L1] at b
 refine cP ?_
 split at b
 refine bT ?_
 obtain ⟨O,ai,b⟩:=bd b
 refine bG ?_
 refine lM _ (fun w s=>(s.d 5 R)) ?_
 refine lC 1 ln R (Zj_ok ai) R ?_
 rintro ⟨ay,ar,a5⟩
 refine aL 0 aB ?_
 rintro rfl
 refine bG ?_
 obtain ⟨a7,b⟩:=gd b
 obtain ⟨_,b⟩:=gd b
 obtain ⟨aj,a1,b⟩:=bd b
 obtain ⟨G,b⟩:=gd b
 refine bB 0 aB (show 0<O.length by have:=a7; omega) (fun ag o66 ha=>?_)
 subst ha
 refine dF 17 [] bP fun ht hn=>?_
 refine ml 0 [] ?_
 refine dR 14 R (vI R) (d1 13 R (lC 1 kF R (FnOk.lends (A':=[OO kT3 3 (ad ag o66) a5 O]) (A:=[RR kT3 (ad ag o66) a5 O]) (B:=[]) (Z0j_ok a1) ⟨aV,trivial⟩ (fun _=>⟨(bH iM),trivial⟩)) R ?_))
 rintro ⟨ax,b3,b4⟩
 refine aL 1 aB ?_
 rintro rfl
 refine aC (aG (sL [1]) (d1 15 R (iP (fun w s=>s.shr 1 R) (gC (K:=kT3) (0:Int) (aH ((t1.Dims.length:Int) - 1)) 0 R R bI cB R R R R G.1 G.2.1 G.2.2 (fun aa a2=>(aC (aG (sL [1,0]) (dR 16 R (vS R) (hS:=(sL [1,0])) (dD (aI ?_))))))))))
 obtain ⟨aq,a8,b⟩:=bd b
 obtain ⟨a3,b⟩:=gd b
 obtain ⟨au,a9,b⟩:=bd b
 obtain ⟨aw,ac,b⟩:=bd b
 refine bB 9 aA (show 0<t1.Data.length by have:=a3; omega) (fun bb o77 ha=>?_)
 subst ha
 refine dF 12 [6] bP fun ht hn=>?_
 refine oq 0 [6] ?_
 refine kk 5 [6] ?_
 refine d1 4 R (lM _ (fun w s=>((s.d 0 R).f 8 [6,2,0,6])) ?_)
 refine lC 3 m' R (FnOk.lends (A':=[OO kT3 3 l q g.Dims,ow kT3 3 (.slice D g.Data.length u) E]) (A:=[RR kT3 l q g.Dims,aN kT3 (.slice D g.Data.length u) E]) (B:=[RR kT3 aa a2 (sub aj (0:Int) (aH ((t1.Dims.length:Int) - 1)))]) (Z19_ok (t1:=(⟨g.Dims,E⟩:Tensor)) a8) ⟨aV,aV,trivial⟩ (fun _=>trivial)) R ?_
 rintro _
 refine aC (aG (fun w s=>(s.f 7 [2,5,0,1])) (d1 10 R (lC 0 qc R (Z1o_ok a9) R ?_)))
 rintro _
 refine aC (aG (fun w s=>(s.f 7 [2,5,0,1])) (d1 11 R (lM _ (fun w s=>((s.d 2 R).f 8 [1,2,0,1,3,5])) ?_)))
 refine lC 3 sx R (FnOk.lends (A':=[OO kT3 3 l q g.Dims]) (A:=[RR kT3 l q g.Dims]) (B:=[ow kT3 3 (.slice D g.Data.length u) E,RR kT3 aa a2 (sub aj (0:Int) (aH ((t1.Dims.length:Int) - 1)))]) (Z1w_ok (t1:=(⟨g.Dims,E⟩:Tensor)) ac) ⟨aV,trivial⟩ (fun _=>⟨(bH iM),trivial⟩)) R ?_
 rintro _
 refine aC (aG (fun w s=>(s.f 7 [2,5,0,1])) (dD ?_))
 refine dG ?_
 cases b
 exact qA () (tE 7 [5,6,0,1])
 refine aP ?_
 cases b
 obtain rfl:=al _ R
 have b:=am
 refine aU ?_
 exact qI (E,()) b tI
 rintro ⟨ao,_⟩ σ1 b
 dsimp only [Z0t_J1] at b
 refine aP ?_
 refine aK 0 R R bR R R R R R R (lN (aJ L [(sc l g.Dims q),(sc D g.Data u)] 58::_::_::ow kT3 3 (.slice D g.Data.length u) ao::T) ?_)
 refine aP ?_
 cases b
 exact qS ((l,g.Dims.length,q),(D,g.Data.length,u)) (tE 7 [2,3])
theorem Z1_ok  {j:Node}{g:(List Tensor)}{r:Tensor}(b:Z1 j g=some r) :
 FnOk Tryz.prog 53 [(.agg [(iv j.Op),(.slice A2 N2 D2),(.slice A3 N3 D3),(.slice A4 N4 D4),(aD j.Form),(.slice A5 N5 D5)].toArray),(.slice A7 N7 D7)] [aN kT3 (.slice A2 N2 D2) j.Args,aN kT3 (.slice A3 N3 D3) j.Dims,aN kT3 (.slice A4 N4 D4) j.Ints,aN kT3 (.slice A5 N5 D5) j.Data,aN dV (.slice A7 N7 D7) g] (fun (h:HH×HH)=>((.agg [(.slice h.1.1 h.1.2.1 h.1.2.2),(.slice h.2.1 h.2.2.1 h.2.2.2)].toArray),[ow kT3 3 (.slice h.1.1 h.1.2.1 h.1.2.2) r.Dims,ow kT3 3 (.slice h.2.1 h.2.2.1 h.2.2.2) r.Data])):=by
 unfold Z1 at b
 refine aQ Tryz.func53 R 217 R R fun C V=>?_
 refine cN (_::_::_::_::_::V) ?_
 refine cL 0 aA ?_
 rintro rfl
 refine cL 1 aA ?_
 rintro rfl
 refine cL 2 aA ?_
 rintro rfl
 refine cL 3 aA ?_
 rintro rfl
 refine cL 4 aA ?_
 rintro rfl
 let W0:List HP:=RR kT3 A2 D2 j.Args::RR kT3 A3 D3 j.Dims::RR kT3 A4 D4 j.Ints::RR kT3 A5 D5 j.Data::RR dV A7 D7 g::V
 refine cN W0 ?_
 refine aO (aE (eF R (fun b8=>(bF R R dQ (fun l=>(aC ?_))))))
 let i:List HP:=aJ b8 [(iv j.Op),(sc A2 j.Args D2),(sc A3 j.Dims D3),(sc A4 j.Ints D4),(aD j.Form),(sc A5 j.Data D5)] 54::W0
 refine qN (_::i) ?_
 refine aI (aO (aE (lO (fP 3 gT R) (lO (fW 1 cJ R R R) (lS R (aC (aI (aO (aO (aE (lO (fP 0 ji R) (lO (fW 1 fQ R R R) (aC (aI (dJ (aO (aE (lO (ly R R) (lB R (aC (aI ?_)))))))))))))))))))))
 rcases cO b with ⟨d5,b⟩|⟨d5,b⟩
 refine cC R d5 (aO (aE (lO (fP 2 kl R) (lO (fW 1 cJ R R R) (lO (fP 5 nx R) (lO (fW 1 cJ R R R) (lO (vz (.agg [(sc A3 j.Dims D3),(sc A5 j.Data D5)].toArray) (aX gN dQ R R)) (bF R R dQ (fun ih=>(aK 0 R R bR R R R R R R (lN (aJ ih [(sc A3 j.Dims D3),(sc A5 j.Data D5)] 58::_::i) ?_)))))))))))
 refine aC (aI (aO (aO ?_)))
 obtain ⟨it,h3,b⟩:=bd b
 refine aE (lO (vz (.agg [(sc A3 j.Dims D3),(sc A5 j.Data D5)].toArray) (dT 0 fF bR R R R R)) (lM (RR kT3 A3 D3 j.Dims::RR kT3 A5 D5 j.Data::aJ _ _ _::aJ _ _ _::i) (fun w s=>(((s.d 4 R).d 7 R).e 4 [1,0,2,3])) ?_))
 refine lC 2 nz R (Zs_ok (t1:=(⟨j.Dims,j.Data⟩:Tensor)) h3) R ?_
 rintro _
 refine lN (_::_::i) ?_
 refine lO (rZ R) (aC (aI ?_))
 rcases cO b with ⟨de,b⟩|⟨de,b⟩
 refine cC R de (aO (aE (lO (vz (.agg [(.slice none 0 0),(.slice none 0 0)].toArray) (aX gN dQ R R)) (aK 1 R R bR R R R R R R (aC (aI (bY (cF (dC (cF ?_))))))))))
 obtain rfl:=so b
 exact dI (vs:=[(.agg [(.slice none 0 0),(.slice none 0 0)].toArray)]) (.inl R) ((none,0,0),(none,0,0)) R ⟨⟨1,l,_,_,R,R,.inl ⟨fF,bR,R⟩⟩,trivial⟩ R (fun w s=>(((s.nilo kT3 3).nilo kT3 3).e 10 [1,0]))
 refine bM R de (dE (aI (aO ?_)))
 obtain ⟨d8,gc,b⟩:=bd b
 obtain ⟨cu,h2,b⟩:=bd b
 refine dF 8 [1] bP (fun ht hn=>(dR 0 R (fP 2 kl R) (hS:=(sL [1])) (dR 1 R (fW 1 cJ R R R) (hS:=(sL [1])) (dR 3 R (fP 5 nx R) (hS:=(sL [1])) (dR 4 R (fW 1 cJ R R R) (hS:=(sL [1])) (d1 2 R (lM (RR kT3 A3 D3 j.Dims::_::_::i) (fun w s=>(s.d 4 R)) ?_)))))))
 refine lC 1 jN R (Zu_ok gc) R ?_
 rintro ⟨d3,i2,e1⟩
 refine lN (ow kT3 3 (.slice d3 i2 e1) d8::_::_::i) ?_
 refine aL 0 aB ?_
 rintro rfl
 refine aC (aG (sL [2,0]) (d1 5 R (lM (RR kT3 A5 D5 j.Data::_::_::_::i) (fun w s=>(s.d 7 R)) ?_)))
 refine lC 1 jN R (Zu_ok h2) R ?_
 rintro ⟨dq,hy,dl⟩
 refine lN (ow kT3 3 (.slice dq hy dl) cu::_::_::_::i) ?_
 refine aL 0 aB ?_
 rintro rfl
 refine aC (aG (sL [3,1,0]) (dR 6 R (vz (.agg [(sc d3 d8 e1),(sc dq cu dl)].toArray) (aX gN dQ R R)) (hS:=(sL [3,1,0])) (d1 7 R (aK 3 R R bR R R R R R R (lN (_::_::_::aJ l [(sc d3 d8 e1),(sc dq cu dl)] 58::i) ?_)))))
 refine aC (aG (sL [3,1,0]) (dD (aI (bY (dC (cF ?_))))))
 obtain rfl:=so b
 exact dI (vs:=[(.agg [(sc d3 d8 e1),(sc dq cu dl)].toArray)]) (.inl R) ((d3,d8.length,e1),(dq,cu.length,dl)) R ⟨⟨3,l,_,_,R,R,.inl ⟨fF,bR,R⟩⟩,trivial⟩ R (fun w s=>(s.e 10 [1,0]))
 refine bM R d5 (aO (aZ (A:=(Bool)×(Unit)) (fun a=>Z1_J1 j g a.1=some r) (fun a=>[(1,(sc A7 g D7)),(2,(pt b8 0)),(4,(pt l 0)),(5,(sc A4 j.Ints D4)),(10,(iv j.Op)),(29,(.bool a.1))]) (fun a=>aJ l [(.slice none 0 0),(.slice none 0 0)] 58::i) ?_ ?_))
 refine aO (aE (lO (ly R R) (lB R (aC (aI ?_)))))
 rcases cO b with ⟨dv,b⟩|⟨dv,b⟩
 refine cC R dv (dE ?_)
 exact qI ((j.Op==(3:Int)),()) b (fun w s=>s)
 refine bM R dv (aO (aE (lO (ly R R) (lB R (aC (aI ?_))))))
 rcases cO b with ⟨c3,b⟩|⟨c3,b⟩
 refine cC R c3 (dE ?_)
 exact qI ((j.Op==(4:Int)),()) b (fun w s=>s)
 refine bM R c3 (aE (lO (ly R R) (lB R (aC ?_))))
 exact qI ((j.Op==(5:Int)),()) b (fun w s=>s)
 rintro ⟨i8,_⟩ σ1 b
 replace b:Z1_J1 j g i8=some r:=b
 unfold Z1_J1 at b
 rcases cO b with ⟨cn,b⟩|⟨cn,b⟩
 refine cC R cn (aO (aO ?_))
 obtain ⟨a0,b⟩:=gd b
 obtain ⟨bl,b⟩:=gd b
 obtain ⟨iq,hm,b⟩:=bd b
 refine bB 6 aA (show 0<g.length by have:=a0; omega) (fun e4 o27 m=>?_)
 subst m
 refine dL (K:=dV) 6 (0:Int) dT58.dec R a0.1 a0.2 ?_
 rintro ⟨⟨fl,fa⟩,⟨fm,fe⟩⟩
 refine cN (cl e4 (o27+(0:Int).toNat*2) [(sc fl ((ix g (0:Int)).Dims) fa),(sc fm ((ix g (0:Int)).Data) fe)]::RR kT3 fl fa ((ix g (0:Int)).Dims)::RR kT3 fm fe ((ix g (0:Int)).Data)::aJ l [(.slice none 0 0),(.slice none 0 0)] 58::i) ?_
 refine dL (K:=dV) 9 (1:Int) dT58.dec R bl.1 bl.2 ?_
 rintro ⟨⟨ff,fn⟩,⟨g1,f6⟩⟩
 refine cN (cl e4 (o27+(1:Int).toNat*2) [(sc ff ((ix g (1:Int)).Dims) fn),(sc g1 ((ix g (1:Int)).Data) f6)]::RR kT3 ff fn ((ix g (1:Int)).Dims)::RR kT3 g1 f6 ((ix g (1:Int)).Data)::_::_::_::_::i) ?_
 refine dF 10 [] bP (fun ht hn=>(dR 0 R (vS R) (dR 1 R (eL gH bR R R a0) (dR 2 R (vz (.pointer (some ⟨e4,o27+(0:Int).toNat*2,none⟩)) (jf iS R R)) (dR 3 R (eJ (fo:=0) 3 cJ R R R) (dR 4 R (vS R) (dR 5 R (eL gH bR R R bl) (dR 6 R (vz (.pointer (some ⟨e4,o27+(1:Int).toNat*2,none⟩)) (jf iS R R)) (dR 7 R (eJ (fo:=0) 0 cJ R R R) (d1 8 R (lM (aN _ _ _::aN _ _ _::cl _ _ _::aN _ _ _::aN _ _ _::cl _ _ _::aN _ _ _::aN _ _ _::aJ _ _ _::i) (fun w s=>(((s.d 4 R).d 2 R).f 9 [1,1,0,1,2,7])) ?_)))))))))))
 refine lC 2 wQ R (Z02_ok hm) R ?_
 rintro _
 refine lN (_::_::_::_::_::_::_::i) ?_
 refine aC (aG (sL []) (dR 9 R (rZ R) (dD (aI ?_))))
 rcases cO b with ⟨c2,b⟩|⟨c2,b⟩
 refine cC R c2 (aO (aE (lO (vz (.agg [(.slice none 0 0),(.slice none 0 0)].toArray) (aX gN dQ R R)) (aK 6 R R bR R R R R R R (aC (aI (bY (cF (dC (cF ?_))))))))))
 obtain rfl:=so b
 exact dI (vs:=[(.agg [(.slice none 0 0),(.slice none 0 0)].toArray)]) (.inl R) ((none,0,0),(none,0,0)) R ⟨⟨6,l,_,_,R,R,.inl ⟨fF,bR,R⟩⟩,trivial⟩ R (fun w s=>(((s.nilo kT3 3).nilo kT3 3).e 15 [1,0]))
 refine bM R c2 (dE (aI (aO ?_)))
 obtain ⟨a1,gk,b⟩:=bd b
 refine dF 12 [6] bP (fun ht hn=>(dR 0 R (fP 0 ji R) (hS:=(sL [6])) (dR 1 R (fW 6 fQ R R R) (hS:=(sL [6])) (dR 2 R (wu R R) (hS:=(sL [6])) (dR 3 R (kW R R) (hS:=(sL [6])) (dR 4 R (vS R) (hS:=(sL [6])) (dR 5 R (eL gH bR R R a0) (hS:=(sL [6])) (dR 6 R (vz (.agg [(sc fl ((ix g (0:Int)).Dims) fa),(sc fm ((ix g (0:Int)).Data) fe)].toArray) (eE (fo:=0) 3 fF bR R R R R)) (hS:=(sL [6])) (dR 7 R (vS R) (hS:=(sL [6])) (dR 8 R (eL gH bR R R bl) (hS:=(sL [6])) (dR 9 R (vz (.agg [(sc ff ((ix g (1:Int)).Dims) fn),(sc g1 ((ix g (1:Int)).Data) f6)].toArray) (eE (fo:=0) 0 fF bR R R R R)) (hS:=(sL [6])) (d1 10 R (lM (aN _ _ _::aN _ _ _::aN _ _ _::aN _ _ _::cl _ _ _::aN _ _ _::aN _ _ _::cl _ _ _::aN _ _ _::aN _ _ _::aJ _ _ _::i) (fun w s=>(((((s.d 4 R).d 6 R).d 3 R).d 5 R).f 11 [3,1,2,1,1,1,0,1,4,7])) ?_)))))))))))))
 refine lC 4 AS R (Z15_ok gk) R ?_
 rintro ⟨⟨es,i3,ej⟩,⟨ea,hz,eo⟩⟩
 refine lN (ow kT3 3 (.slice es i3 ej) a1.Dims::ow kT3 3 (.slice ea hz eo) a1.Data::_::_::_::_::_::_::_::i) ?_
 refine aL 0 aB ?_
 rintro rfl
 refine aL 1 aB ?_
 rintro rfl
 refine aC (aG (sL [8,1,0]) (d1 11 R (aK 8 R R bR R R R R R R (lN (_::_::_::_::_::_::_::_::aJ l [(sc es a1.Dims ej),(sc ea a1.Data eo)] 58::i) ?_))))
 refine aC (aG (sL [8,1,0]) (dD (aI (bY (dC (cF ?_))))))
 obtain rfl:=so b
 exact dI (vs:=[(.agg [(sc es a1.Dims ej),(sc ea a1.Data eo)].toArray)]) (.inl R) ((es,a1.Dims.length,ej),(ea,a1.Data.length,eo)) R ⟨⟨8,l,_,_,R,R,.inl ⟨fF,bR,R⟩⟩,trivial⟩ R (fun w s=>(s.e 15 [0,1]))
 refine bM R cn (aO (aZ (A:=(Bool)×(Unit)) (fun a=>Z1_J2 j g a.1=some r) (fun a=>[(1,(sc A7 g D7)),(2,(pt b8 0)),(4,(pt l 0)),(5,(sc A4 j.Ints D4)),(10,(iv j.Op)),(55,(.bool a.1))]) (fun a=>aJ l [(.slice none 0 0),(.slice none 0 0)] 58::i) ?_ ?_))
 refine aO (aE (lO (ly R R) (lB R (aC (aI ?_)))))
 rcases cO b with ⟨cg,b⟩|⟨cg,b⟩
 refine cC R cg (dE ?_)
 exact qI ((j.Op==(6:Int)),()) b (fun w s=>s)
 refine bM R cg (aO (aE (lO (ly R R) (lB R (aC (aI ?_))))))
 rcases cO b with ⟨d9,b⟩|⟨d9,b⟩
 refine cC R d9 (dE ?_)
 exact qI ((j.Op==(7:Int)),()) b (fun w s=>s)
 refine bM R d9 (aO (aE (lO (ly R R) (lB R (aC (aI ?_))))))
 rcases cO b with ⟨dh,b⟩|⟨dh,b⟩
 refine cC R dh (dE ?_)
 exact qI ((j.Op==(8:Int)),()) b (fun w s=>s)
 refine bM R dh (aE (lO (ly R R) (lB R (aC ?_))))
 exact qI ((j.Op==(9:Int)),()) b (fun w s=>s)
 rintro ⟨hv,_⟩ σ1 b
 replace b:Z1_J2 j g hv=some r:=b
 unfold Z1_J2 at b
 rcases cO b with ⟨cw,b⟩|⟨cw,b⟩
 refine cC R cw (aO ?_)
 obtain ⟨bz,b⟩:=gd b
 obtain ⟨a7,hh,b⟩:=bd b
 refine bB 6 aA (show 0<g.length by have:=bz; omega) (fun ic o47 m=>?_)
 subst m
 refine dL (K:=dV) 6 (0:Int) dT58.dec R bz.1 bz.2 ?_
 rintro ⟨⟨fh,fz⟩,⟨fw,fj⟩⟩
 refine cN (cl ic (o47+(0:Int).toNat*2) [(sc fh ((ix g (0:Int)).Dims) fz),(sc fw ((ix g (0:Int)).Data) fj)]::RR kT3 fh fz ((ix g (0:Int)).Dims)::RR kT3 fw fj ((ix g (0:Int)).Data)::aJ l [(.slice none 0 0),(.slice none 0 0)] 58::i) ?_
 refine dF 9 [3] bP (fun ht hn=>(dR 0 R (fP 0 ji R) (hS:=(sL [3])) (dR 1 R (fW 3 fQ R R R) (hS:=(sL [3])) (dR 2 R (wu R R) (hS:=(sL [3])) (dR 3 R (kW R R) (hS:=(sL [3])) (dR 4 R (vS R) (hS:=(sL [3])) (dR 5 R (eL gH bR R R bz) (hS:=(sL [3])) (dR 6 R (vz (.agg [(sc fh ((ix g (0:Int)).Dims) fz),(sc fw ((ix g (0:Int)).Data) fj)].toArray) (eE (fo:=0) 0 fF bR R R R R)) (hS:=(sL [3])) (d1 7 R (lM (aN _ _ _::aN _ _ _::cl _ _ _::aN _ _ _::aN _ _ _::aJ _ _ _::i) (fun w s=>(((s.d 1 R).d 3 R).e 6 [1,0,2,3,4,5])) ?_))))))))))
 refine lC 2 AT R (Z14_ok hh) R ?_
 rintro ⟨⟨em,ib,e6⟩,⟨ei,ig,eq⟩⟩
 refine lN (ow kT3 3 (.slice em ib e6) a7.Dims::ow kT3 3 (.slice ei ig eq) a7.Data::_::_::_::_::i) ?_
 refine aL 0 aB ?_
 rintro rfl
 refine aL 1 aB ?_
 rintro rfl
 refine aC (aG (sL [5,1,0]) (d1 8 R (aK 5 R R bR R R R R R R (lN (_::_::_::_::_::aJ l [(sc em a7.Dims e6),(sc ei a7.Data eq)] 58::i) ?_))))
 refine aC (aG (sL [5,1,0]) (dD (aI (bY (dC (cF ?_))))))
 obtain rfl:=so b
 exact dI (vs:=[(.agg [(sc em a7.Dims e6),(sc ei a7.Data eq)].toArray)]) (.inl R) ((em,a7.Dims.length,e6),(ei,a7.Data.length,eq)) R ⟨⟨5,l,_,_,R,R,.inl ⟨fF,bR,R⟩⟩,trivial⟩ R (fun w s=>(s.e 12 [0,1]))
 refine bM R cw (aO (aE (lO (ly R R) (lB R (aC (aI ?_))))))
 rcases cO b with ⟨du,b⟩|⟨du,b⟩
 refine cC R du (aO ?_)
 obtain ⟨b6,b⟩:=gd b
 obtain ⟨c9,b⟩:=gd b
 obtain ⟨a4,gs,b⟩:=bd b
 refine bB 6 aA (show 0<g.length by have:=b6; omega) (fun ia o57 m=>?_)
 subst m
 refine dL (K:=dV) 6 (0:Int) dT58.dec R b6.1 b6.2 ?_
 rintro ⟨⟨fc,f8⟩,⟨fg,fu⟩⟩
 refine cN (cl ia (o57+(0:Int).toNat*2) [(sc fc ((ix g (0:Int)).Dims) f8),(sc fg ((ix g (0:Int)).Data) fu)]::RR kT3 fc f8 ((ix g (0:Int)).Dims)::RR kT3 fg fu ((ix g (0:Int)).Data)::aJ l [(.slice none 0 0),(.slice none 0 0)] 58::i) ?_
 refine bB 7 aA (show 0<j.Ints.length by have:=c9; omega) (fun ir o62 m=>?_)
 subst m
 refine dF 8 [3] bP (fun ht hn=>(dR 0 R (vS R) (hS:=(sL [3])) (dR 1 R (eL gH bR R R b6) (hS:=(sL [3])) (dR 2 R (vz (.agg [(sc fc ((ix g (0:Int)).Dims) f8),(sc fg ((ix g (0:Int)).Data) fu)].toArray) (eE (fo:=0) 0 fF bR R R R R)) (hS:=(sL [3])) (dR 3 R (vS R) (hS:=(sL [3])) (dR 4 R (eL bI cB R R c9) (hS:=(sL [3])) (dR 5 R (gO 6 fQ aA R c9) (hS:=(sL [3])) (d1 6 R (lM (aN _ _ _::aN _ _ _::cl _ _ _::aN _ _ _::aN _ _ _::aJ _ _ _::i) (fun w s=>(((s.d 1 R).d 3 R).e 6 [1,0,2,3,4,5])) ?_)))))))))
 refine lC 2 AU R (Zc_ok gs) R ?_
 rintro ⟨⟨ew,i6,en⟩,⟨ep,i5,et⟩⟩
 refine lN (ow kT3 3 (.slice ew i6 en) a4.Dims::ow kT3 3 (.slice ep i5 et) a4.Data::_::_::_::_::i) ?_
 refine aL 0 aB ?_
 rintro rfl
 refine aL 1 aB ?_
 rintro rfl
 refine aC (aG (sL [5,1,0]) (d1 7 R (aK 5 R R bR R R R R R R (lN (_::_::_::_::_::aJ l [(sc ew a4.Dims en),(sc ep a4.Data et)] 58::i) ?_))))
 refine aC (aG (sL [5,1,0]) (dD (aI (bY (dC (cF ?_))))))
 obtain rfl:=so b
 exact dI (vs:=[(.agg [(sc ew a4.Dims en),(sc ep a4.Data et)].toArray)]) (.inl R) ((ew,a4.Dims.length,en),(ep,a4.Data.length,et)) R ⟨⟨5,l,_,_,R,R,.inl ⟨fF,bR,R⟩⟩,trivial⟩ R (fun w s=>(s.e 12 [0,1]))
 refine bM R du (aO (aE (lO (ly R R) (lB R (aC (aI ?_))))))
 rcases cO b with ⟨ch,b⟩|⟨ch,b⟩
 refine cC R ch (aO ?_)
 obtain ⟨a8,h0,b⟩:=bd b
 refine aE (lO (fP 4 pg R) (lO (fW 1 qX R R R) (lS R (lM (RR dV A7 D7 g::aJ l [(.slice none 0 0),(.slice none 0 0)] 58::i) (fun w s=>(s.d 6 R)) ?_))))
 refine lC 1 AV R (Z6_ok h0) R ?_
 rintro ⟨⟨e5,i7,ed⟩,⟨e7,hx,eu⟩⟩
 refine lN (ow kT3 3 (.slice e5 i7 ed) a8.Dims::ow kT3 3 (.slice e7 hx eu) a8.Data::_::i) ?_
 refine aL 0 aB ?_
 rintro rfl
 refine aL 1 aB ?_
 rintro rfl
 refine aK 2 R R bR R R R R R R (lN (_::_::aJ l [(sc e5 a8.Dims ed),(sc e7 a8.Data eu)] 58::i) ?_)
 refine aC (aI (bY (dC (cF ?_))))
 obtain rfl:=so b
 exact dI (vs:=[(.agg [(sc e5 a8.Dims ed),(sc e7 a8.Data eu)].toArray)]) (.inl R) ((e5,a8.Dims.length,ed),(e7,a8.Data.length,eu)) R ⟨⟨2,l,_,_,R,R,.inl ⟨fF,bR,R⟩⟩,trivial⟩ R (fun w s=>(s.e 9 [0,1]))
 refine bM R ch (aO (aE (lO (ly R R) (lB R (aC (aI ?_))))))
 rcases cO b with ⟨e0,b⟩|⟨e0,b⟩
 refine cC R e0 (aO ?_)
 obtain ⟨a9,b⟩:=gd b
 obtain ⟨aa,h6,b⟩:=bd b
 obtain ⟨a3,ho,b⟩:=bd b
 obtain ⟨a5,hp,b⟩:=bd b
 refine bB 6 aA (show 0<g.length by have:=a9; omega) (fun hq o75 m=>?_)
 subst m
 refine dL (K:=dV) 6 (0:Int) dT58.dec R a9.1 a9.2 ?_
 rintro ⟨⟨da,ct⟩,⟨cz,c1⟩⟩
 refine cN (cl hq (o75+(0:Int).toNat*2) [(sc da ((ix g (0:Int)).Dims) ct),(sc cz ((ix g (0:Int)).Data) c1)]::RR kT3 da ct ((ix g (0:Int)).Dims)::RR kT3 cz c1 ((ix g (0:Int)).Data)::aJ l [(.slice none 0 0),(.slice none 0 0)] 58::i) ?_
 refine dF 13 [3] bP (fun ht hn=>(dR 0 R (vS R) (hS:=(sL [3])) (dR 1 R (eL gH bR R R a9) (hS:=(sL [3])) (dR 2 R (vz (.agg [(sc da ((ix g (0:Int)).Dims) ct),(sc cz ((ix g (0:Int)).Data) c1)].toArray) (eE (fo:=0) 0 fF bR R R R R)) (hS:=(sL [3])) (dR 3 R (vS R) (hS:=(sL [3])) (dR 4 R (eL gH bR R R a9) (hS:=(sL [3])) (dR 5 R (vz (.pointer (some ⟨hq,o75+(0:Int).toNat*2,none⟩)) (jf iS R R)) (hS:=(sL [3])) (dR 6 R (eJ (fo:=0) 0 cJ R R R) (hS:=(sL [3])) (dR 8 R (fP 2 kl R) (hS:=(sL [3])) (dR 9 R (fW 3 cJ R R R) (hS:=(sL [3])) (d1 7 R (lM (_::_::_::_::_::i) (fun w s=>(s.d 1 R)) ?_))))))))))))
 refine lC 1 uo R (Zy_ok h6) R ?_
 rintro ⟨⟨g2,i4,fq⟩,⟨eh,i0,e8⟩⟩
 refine lN (aN kT3 (.slice g2 i4 fq) aa.Dims::ow kT3 3 (.slice eh i0 e8) aa.Strides::_::_::_::_::i) ?_
 refine aL 0 aA ?_
 rintro rfl
 refine aL 1 aB ?_
 rintro rfl
 refine aC (aG (sL [5,1,0]) (d1 10 R (lM (ow _ _ _ _::aN _ _ _::RR kT3 A3 D3 j.Dims::aN _ _ _::cl _ _ _::aN _ _ _::aN _ _ _::aJ _ _ _::i) (fun w s=>(((s.d 0 R).d 9 R).e 8 [3,1,0,2,4,5,6,7])) ?_)))
 refine lC 3 AW R (FnOk.lends (A':=[OO kT3 3 eh e8 aa.Strides]) (A:=[RR kT3 eh e8 aa.Strides]) (B:=[RR kT3 g2 fq aa.Dims,RR kT3 A3 D3 j.Dims]) (FnOk.perm (Z04_ok ho) (Pre':=[RR kT3 eh e8 aa.Strides,RR kT3 g2 fq aa.Dims,RR kT3 A3 D3 j.Dims]) (fun _ _ _ s=>(s.e 3 [1,0,2]))) ⟨aV,trivial⟩ (fun _=>⟨(bH iM),(bH iM),trivial⟩)) R ?_
 rintro ⟨⟨el,ie,e9⟩,⟨e3,hs,ef⟩⟩
 refine lN (_::ow kT3 3 (.slice el ie e9) a3.Dims::ow kT3 3 (.slice e3 hs ef) a3.Strides::_::_::_::_::_::i) ?_
 refine aL 1 aB ?_
 rintro rfl
 refine aL 2 aB ?_
 rintro rfl
 refine aC (aG (sL [7,3,2,1,0]) (d1 11 R (lM (ow _ _ _ _::ow _ _ _ _::aN _ _ _::aN _ _ _::ow _ _ _ _::aN _ _ _::cl _ _ _::aN _ _ _::aN _ _ _::aJ _ _ _::i) (fun w s=>(((s.d 5 R).d 7 R).e 10 [3,4,1,0,2,5,6,7,8,9])) ?_)))
 refine lC 4 uq R (FnOk.lends (A':=[OO kT3 3 el e9 a3.Dims,OO kT3 3 e3 ef a3.Strides]) (A:=[RR kT3 el e9 a3.Dims,RR kT3 e3 ef a3.Strides]) (B:=[RR kT3 da ct ((ix g (0:Int)).Dims),RR kT3 cz c1 ((ix g (0:Int)).Data)]) (FnOk.perm (Z03_ok hp) (Pre':=[RR kT3 el e9 a3.Dims,RR kT3 e3 ef a3.Strides,RR kT3 da ct ((ix g (0:Int)).Dims),RR kT3 cz c1 ((ix g (0:Int)).Data)]) (fun _ _ _ s=>(s.e 4 [2,3,0,1]))) ⟨aV,aV,trivial⟩ (fun _=>⟨(bH iM),(bH iM),trivial⟩)) R ?_
 rintro ⟨⟨ec,i9,eg⟩,⟨ek,i1,ee⟩⟩
 refine lN (_::_::ow kT3 3 (.slice ec i9 eg) a5.Dims::ow kT3 3 (.slice ek i1 ee) a5.Data::_::_::_::_::_::_::i) ?_
 refine aL 2 aB ?_
 rintro rfl
 refine aL 3 aB ?_
 rintro rfl
 refine aC (aG (sL [9,5,4,3,2,1,0]) (d1 12 R (aK 9 R R bR R R R R R R (lN (_::_::_::_::_::_::_::_::_::aJ l [(sc ec a5.Dims eg),(sc ek a5.Data ee)] 58::i) ?_))))
 refine aC (aG (sL [9,5,4,3,2,1,0]) (dD (aI (bY (dC (cF ?_))))))
 obtain rfl:=so b
 exact dI (vs:=[(.agg [(sc ec a5.Dims eg),(sc ek a5.Data ee)].toArray)]) (.inl R) ((ec,a5.Dims.length,eg),(ek,a5.Data.length,ee)) R ⟨⟨9,l,_,_,R,R,.inl ⟨fF,bR,R⟩⟩,trivial⟩ R (fun w s=>(s.e 16 [2,3]))
 refine bM R e0 (aO (aE (lO (ly R R) (lB R (aC (aI ?_))))))
 rcases cO b with ⟨dz,b⟩|⟨dz,b⟩
 refine cC R dz (aO ?_)
 obtain ⟨a2,b⟩:=gd b
 obtain ⟨aj,gp,b⟩:=bd b
 obtain ⟨J,f7,b⟩:=bd b
 obtain ⟨u,fx,b⟩:=bd b
 refine bB 6 aA (show 0<g.length by have:=a2; omega) (fun hl o93 m=>?_)
 subst m
 refine dL (K:=dV) 6 (0:Int) dT58.dec R a2.1 a2.2 ?_
 rintro ⟨⟨ds,dg⟩,⟨d2,dw⟩⟩
 refine cN (cl hl (o93+(0:Int).toNat*2) [(sc ds ((ix g (0:Int)).Dims) dg),(sc d2 ((ix g (0:Int)).Data) dw)]::RR kT3 ds dg ((ix g (0:Int)).Dims)::RR kT3 d2 dw ((ix g (0:Int)).Data)::aJ l [(.slice none 0 0),(.slice none 0 0)] 58::i) ?_
 refine dF 13 [3] bP (fun ht hn=>(dR 0 R (vS R) (hS:=(sL [3])) (dR 1 R (eL gH bR R R a2) (hS:=(sL [3])) (dR 2 R (vz (.agg [(sc ds ((ix g (0:Int)).Dims) dg),(sc d2 ((ix g (0:Int)).Data) dw)].toArray) (eE (fo:=0) 0 fF bR R R R R)) (hS:=(sL [3])) (dR 3 R (vS R) (hS:=(sL [3])) (dR 4 R (eL gH bR R R a2) (hS:=(sL [3])) (dR 5 R (vz (.pointer (some ⟨hl,o93+(0:Int).toNat*2,none⟩)) (jf iS R R)) (hS:=(sL [3])) (dR 6 R (eJ (fo:=0) 0 cJ R R R) (hS:=(sL [3])) (dR 8 R (fP 2 kl R) (hS:=(sL [3])) (dR 9 R (fW 3 cJ R R R) (hS:=(sL [3])) (d1 7 R (lM (_::_::_::_::_::i) (fun w s=>(s.d 1 R)) ?_))))))))))))
 refine lC 1 uo R (Zy_ok gp) R ?_
 rintro ⟨⟨fr,hu,fk⟩,⟨er,id,eb⟩⟩
 refine lN (aN kT3 (.slice fr hu fk) aj.Dims::ow kT3 3 (.slice er id eb) aj.Strides::_::_::_::_::i) ?_
 refine aL 0 aA ?_
 rintro rfl
 refine aL 1 aB ?_
 rintro rfl
 refine aC (aG (sL [5,1,0]) (d1 10 R (lM (ow _ _ _ _::aN _ _ _::RR kT3 A3 D3 j.Dims::aN _ _ _::cl _ _ _::aN _ _ _::aN _ _ _::aJ _ _ _::i) (fun w s=>(((s.d 0 R).d 9 R).e 8 [3,1,0,2,4,5,6,7])) ?_)))
 refine lC 3 AX R (FnOk.lends (A':=[OO kT3 3 er eb aj.Strides]) (A:=[RR kT3 er eb aj.Strides]) (B:=[RR kT3 fr fk aj.Dims,RR kT3 A3 D3 j.Dims]) (FnOk.perm (Z0a_ok f7) (Pre':=[RR kT3 er eb aj.Strides,RR kT3 fr fk aj.Dims,RR kT3 A3 D3 j.Dims]) (fun _ _ _ s=>(s.e 3 [1,0,2]))) ⟨aV,trivial⟩ (fun _=>⟨(bH iM),(bH iM),trivial⟩)) R ?_
 rintro ⟨⟨av,gf,aw⟩,⟨bw,hc,c0⟩⟩
 refine lN (_::ow kT3 3 (.slice av gf aw) J.Dims::ow kT3 3 (.slice bw hc c0) J.Strides::_::_::_::_::_::i) ?_
 refine aL 1 aB ?_
 rintro rfl
 refine aL 2 aB ?_
 rintro rfl
 refine aC (aG (sL [7,3,2,1,0]) (d1 11 R (lM (ow _ _ _ _::ow _ _ _ _::aN _ _ _::aN _ _ _::ow _ _ _ _::aN _ _ _::cl _ _ _::aN _ _ _::aN _ _ _::aJ _ _ _::i) (fun w s=>(((s.d 5 R).d 7 R).e 10 [3,4,1,0,2,5,6,7,8,9])) ?_)))
 refine lC 4 uq R (FnOk.lends (A':=[OO kT3 3 av aw J.Dims,OO kT3 3 bw c0 J.Strides]) (A:=[RR kT3 av aw J.Dims,RR kT3 bw c0 J.Strides]) (B:=[RR kT3 ds dg ((ix g (0:Int)).Dims),RR kT3 d2 dw ((ix g (0:Int)).Data)]) (FnOk.perm (Z03_ok fx) (Pre':=[RR kT3 av aw J.Dims,RR kT3 bw c0 J.Strides,RR kT3 ds dg ((ix g (0:Int)).Dims),RR kT3 d2 dw ((ix g (0:Int)).Data)]) (fun _ _ _ s=>(s.e 4 [2,3,0,1]))) ⟨aV,aV,trivial⟩ (fun _=>⟨(bH iM),(bH iM),trivial⟩)) R ?_
 rintro ⟨⟨bv,g6,bn⟩,⟨bg,he,bq⟩⟩
 refine lN (_::_::ow kT3 3 (.slice bv g6 bn) u.Dims::ow kT3 3 (.slice bg he bq) u.Data::_::_::_::_::_::_::i) ?_
 refine aL 2 aB ?_
 rintro rfl
 refine aL 3 aB ?_
 rintro rfl
 refine aC (aG (sL [9,5,4,3,2,1,0]) (d1 12 R (aK 9 R R bR R R R R R R (lN (_::_::_::_::_::_::_::_::_::aJ l [(sc bv u.Dims bn),(sc bg u.Data bq)] 58::i) ?_))))
 refine aC (aG (sL [9,5,4,3,2,1,0]) (dD (aI (bY (dC (cF ?_))))))
 obtain rfl:=so b
 exact dI (vs:=[(.agg [(sc bv u.Dims bn),(sc bg u.Data bq)].toArray)]) (.inl R) ((bv,u.Dims.length,bn),(bg,u.Data.length,bq)) R ⟨⟨9,l,_,_,R,R,.inl ⟨fF,bR,R⟩⟩,trivial⟩ R (fun w s=>(s.e 16 [2,3]))
 refine bM R dz (aO (aE (lO (ly R R) (lB R (aC (aI ?_))))))
 rcases cO b with ⟨ag,b⟩|⟨ag,b⟩
 refine cC R ag (aO (aO ?_))
 obtain ⟨M,b⟩:=gd b
 refine aE (lS R (bA 4 aA (show 0<j.Ints.length by have:=M; omega) (fun ip o111 m=>?_)))
 subst m
 refine lO (eL bI cB R R M) (lO (gO 4 fQ aA R M) (lO (mZ R R) (aC (aI ?_))))
 rcases cO b with ⟨aq,b⟩|⟨aq,b⟩
 refine cC R aq (aO (aE (lO (vz (.agg [(.slice none 0 0),(.slice none 0 0)].toArray) (aX gN dQ R R)) (aK 0 R R bR R R R R R R (lN (aJ l [(.slice none 0 0),(.slice none 0 0)] 58::i) ?_)))))
 refine aC (aI (bY (cF (dC (cF ?_)))))
 obtain rfl:=so b
 exact dI (vs:=[(.agg [(.slice none 0 0),(.slice none 0 0)].toArray)]) (.inl R) ((none,0,0),(none,0,0)) R ⟨⟨0,l,_,_,R,R,.inl ⟨fF,bR,R⟩⟩,trivial⟩ R (fun w s=>(((s.nilo kT3 3).nilo kT3 3).e 9 [1,0]))
 refine bM R aq (dE (aI (aO ?_)))
 obtain ⟨O,b⟩:=gd b
 obtain ⟨b7,fd,b⟩:=bd b
 obtain ⟨ca,b⟩:=gd b
 obtain ⟨co,b⟩:=gd b
 obtain ⟨cf,b⟩:=gd b
 obtain ⟨f0,fp,b⟩:=bd b
 obtain ⟨E,ft,b⟩:=bd b
 refine bB 6 aA (show 0<g.length by have:=O; omega) (fun f5 o115 m=>?_)
 subst m
 refine dL (K:=dV) 6 (0:Int) dT58.dec R O.1 O.2 ?_
 rintro ⟨⟨dd,dy⟩,⟨dt,cp⟩⟩
 refine cN (cl f5 (o115+(0:Int).toNat*2) [(sc dd ((ix g (0:Int)).Dims) dy),(sc dt ((ix g (0:Int)).Data) cp)]::RR kT3 dd dy ((ix g (0:Int)).Dims)::RR kT3 dt cp ((ix g (0:Int)).Data)::_::i) ?_
 refine dF 23 [3] bP (fun ht hn=>(dR 0 R (vS R) (hS:=(sL [3])) (dR 1 R (eL gH bR R R O) (hS:=(sL [3])) (dR 2 R (vz (.agg [(sc dd ((ix g (0:Int)).Dims) dy),(sc dt ((ix g (0:Int)).Data) cp)].toArray) (eE (fo:=0) 0 fF bR R R R R)) (hS:=(sL [3])) (dR 3 R (vS R) (hS:=(sL [3])) (dR 4 R (eL gH bR R R O) (hS:=(sL [3])) (dR 5 R (vz (.pointer (some ⟨f5,o115+(0:Int).toNat*2,none⟩)) (jf iS R R)) (hS:=(sL [3])) (dR 6 R (eJ (fo:=0) 0 cJ R R R) (hS:=(sL [3])) (dR 8 R (vS R) (hS:=(sL [3])) (dR 9 R (eL bI cB R R ca) (hS:=(sL [3])) (dR 10 R (gO 6 fQ aA R ca) (hS:=(sL [3])) (dR 11 R (vS R) (hS:=(sL [3])) (dR 12 R (eL bI cB R R co) (hS:=(sL [3])) (dR 13 R (gO 6 fQ aA R co) (hS:=(sL [3])) (dR 14 R (vS R) (hS:=(sL [3])) (dR 15 R (eL bI cB R R cf) (hS:=(sL [3])) (dR 16 R (gO 6 fQ aA R cf) (hS:=(sL [3])) (dR 17 R (vS R) (hS:=(sL [3])) (dR 18 R (eL bI cB R R M) (hS:=(sL [3])) (dR 19 R (gO 6 fQ aA R M) (hS:=(sL [3])) (d1 7 R (lM (_::_::_::_::_::i) (fun w s=>(s.d 1 R)) ?_))))))))))))))))))))))
 refine lC 1 uo R (Zy_ok fd) R ?_
 rintro ⟨⟨gt,gw,hi⟩,⟨dm,hb,cv⟩⟩
 refine lN (aN kT3 (.slice gt gw hi) b7.Dims::ow kT3 3 (.slice dm hb cv) b7.Strides::_::_::_::_::i) ?_
 refine aL 0 aA ?_
 rintro rfl
 refine aL 1 aB ?_
 rintro rfl
 refine aC (aG (sL [5,1,0]) (d1 20 R (iP (fun w s=>s.shr 1 R) (lM (aN _ _ _::RR kT3 dm cv b7.Strides::RR kT3 dm cv b7.Strides::aN _ _ _::cl _ _ _::aN _ _ _::aN _ _ _::aJ _ _ _::i) (fun w s=>(((s.d 1 R).d 1 R).f 8 [1,1,0,1,2,6])) ?_))))
 refine lC 2 AY R (Z1c_ok fp) R ?_
 rintro ⟨⟨h5,hd,gg⟩,⟨h7,gx,gm⟩⟩
 refine lN (aN kT3 (.slice h5 hd gg) f0.Dims::aN kT3 (.slice h7 gx gm) f0.Strides::_::_::_::_::_::_::i) ?_
 refine aL 0 aA ?_
 rintro rfl
 refine aL 1 aA ?_
 rintro rfl
 refine aC (aG (sL [7,3,2,1,0]) (d1 21 R (lM (aN _ _ _::aN _ _ _::aN _ _ _::aN _ _ _::aN _ _ _::aN _ _ _::aN _ _ _::aN _ _ _::cl _ _ _::aN _ _ _::aN _ _ _::aJ _ _ _::i) (fun w s=>(((((s.d 5 R).d 7 R).d 2 R).d 4 R).f 12 [3,1,2,1,1,1,0,1,4,8])) ?_)))
 refine lC 4 uq R (Z03_ok ft) R ?_
 rintro ⟨⟨bp,g5,bi⟩,⟨b0,gh,bj⟩⟩
 refine lN (ow kT3 3 (.slice bp g5 bi) E.Dims::ow kT3 3 (.slice b0 gh bj) E.Data::_::_::_::_::_::_::_::_::i) ?_
 refine aL 0 aB ?_
 rintro rfl
 refine aL 1 aB ?_
 rintro rfl
 refine aC (aG (sL [9,5,4,3,2,1,0]) (d1 22 R (aK 9 R R bR R R R R R R (lN (_::_::_::_::_::_::_::_::_::aJ l [(sc bp E.Dims bi),(sc b0 E.Data bj)] 58::i) ?_))))
 refine aC (aG (sL [9,5,4,3,2,1,0]) (dD (aI (bY (dC (cF ?_))))))
 obtain rfl:=so b
 exact dI (vs:=[(.agg [(sc bp E.Dims bi),(sc b0 E.Data bj)].toArray)]) (.inl R) ((bp,E.Dims.length,bi),(b0,E.Data.length,bj)) R ⟨⟨9,l,_,_,R,R,.inl ⟨fF,bR,R⟩⟩,trivial⟩ R (fun w s=>(s.e 16 [0,1]))
 refine bM R ag (aO (aE (lO (ly R R) (lB R (aC (aI ?_))))))
 rcases cO b with ⟨ac,b⟩|⟨ac,b⟩
 refine cC R ac (aO ?_)
 obtain ⟨Z,b⟩:=gd b
 obtain ⟨am,b⟩:=gd b
 obtain ⟨d6,b⟩:=gd b
 obtain ⟨cr,b⟩:=gd b
 obtain ⟨c7,b⟩:=gd b
 obtain ⟨D,fy,b⟩:=bd b
 refine bB 6 aA (show 0<g.length by have:=Z; omega) (fun gu o136 m=>?_)
 subst m
 refine dL (K:=dV) 6 (0:Int) dT58.dec R Z.1 Z.2 ?_
 rintro ⟨⟨cy,cc⟩,⟨c5,c4⟩⟩
 refine cN (cl gu (o136+(0:Int).toNat*2) [(sc cy ((ix g (0:Int)).Dims) cc),(sc c5 ((ix g (0:Int)).Data) c4)]::RR kT3 cy cc ((ix g (0:Int)).Dims)::RR kT3 c5 c4 ((ix g (0:Int)).Data)::aJ l [(.slice none 0 0),(.slice none 0 0)] 58::i) ?_
 refine bB 7 aA (show 0<j.Ints.length by have:=am; omega) (fun ij o141 m=>?_)
 subst m
 refine dF 17 [3] bP (fun ht hn=>(dR 0 R (vS R) (hS:=(sL [3])) (dR 1 R (eL gH bR R R Z) (hS:=(sL [3])) (dR 2 R (vz (.agg [(sc cy ((ix g (0:Int)).Dims) cc),(sc c5 ((ix g (0:Int)).Data) c4)].toArray) (eE (fo:=0) 0 fF bR R R R R)) (hS:=(sL [3])) (dR 3 R (vS R) (hS:=(sL [3])) (dR 4 R (eL bI cB R R am) (hS:=(sL [3])) (dR 5 R (gO 6 fQ aA R am) (hS:=(sL [3])) (dR 6 R (vS R) (hS:=(sL [3])) (dR 7 R (eL bI cB R R d6) (hS:=(sL [3])) (dR 8 R (gO 6 fQ aA R d6) (hS:=(sL [3])) (dR 9 R (vS R) (hS:=(sL [3])) (dR 10 R (eL bI cB R R cr) (hS:=(sL [3])) (dR 11 R (gO 6 fQ aA R cr) (hS:=(sL [3])) (dR 12 R (vS R) (hS:=(sL [3])) (dR 13 R (eL bI cB R R c7) (hS:=(sL [3])) (dR 14 R (gO 6 fQ aA R c7) (hS:=(sL [3])) (d1 15 R (lM (aN _ _ _::aN _ _ _::cl _ _ _::aN _ _ _::aN _ _ _::aJ _ _ _::i) (fun w s=>(((s.d 1 R).d 3 R).e 6 [1,0,2,3,4,5])) ?_))))))))))))))))))
 refine lC 2 AZ R (Z0v_ok fy) R ?_
 rintro ⟨⟨bs,gy,b1⟩,⟨az,ge,ax⟩⟩
 refine lN (ow kT3 3 (.slice bs gy b1) D.Dims::ow kT3 3 (.slice az ge ax) D.Data::_::_::_::_::i) ?_
 refine aL 0 aB ?_
 rintro rfl
 refine aL 1 aB ?_
 rintro rfl
 refine aC (aG (sL [5,1,0]) (d1 16 R (aK 5 R R bR R R R R R R (lN (_::_::_::_::_::aJ l [(sc bs D.Dims b1),(sc az D.Data ax)] 58::i) ?_))))
 refine aC (aG (sL [5,1,0]) (dD (aI (bY (dC (cF ?_))))))
 obtain rfl:=so b
 exact dI (vs:=[(.agg [(sc bs D.Dims b1),(sc az D.Data ax)].toArray)]) (.inl R) ((bs,D.Dims.length,b1),(az,D.Data.length,ax)) R ⟨⟨5,l,_,_,R,R,.inl ⟨fF,bR,R⟩⟩,trivial⟩ R (fun w s=>(s.e 12 [0,1]))
 refine bM R ac (aO (aE (lO (ly R R) (lB R (aC (aI ?_))))))
 rcases cO b with ⟨ak,b⟩|⟨ak,b⟩
 refine cC R ak (aO ?_)
 obtain ⟨U,b⟩:=gd b
 obtain ⟨ap,b⟩:=gd b
 obtain ⟨ai,b⟩:=gd b
 obtain ⟨q,fv,b⟩:=bd b
 refine bB 6 aA (show 0<g.length by have:=U; omega) (fun hf o152 m=>?_)
 subst m
 refine dL (K:=dV) 6 (0:Int) dT58.dec R U.1 U.2 ?_
 rintro ⟨⟨cs,cb⟩,⟨dc,cj⟩⟩
 refine cN (cl hf (o152+(0:Int).toNat*2) [(sc cs ((ix g (0:Int)).Dims) cb),(sc dc ((ix g (0:Int)).Data) cj)]::RR kT3 cs cb ((ix g (0:Int)).Dims)::RR kT3 dc cj ((ix g (0:Int)).Data)::aJ l [(.slice none 0 0),(.slice none 0 0)] 58::i) ?_
 refine bB 7 aA (show 0<j.Ints.length by have:=ap; omega) (fun ii o157 m=>?_)
 subst m
 refine dF 10 [3] bP (fun ht hn=>(dR 0 R (vS R) (hS:=(sL [3])) (dR 1 R (eL gH bR R R U) (hS:=(sL [3])) (dR 2 R (vz (.agg [(sc cs ((ix g (0:Int)).Dims) cb),(sc dc ((ix g (0:Int)).Data) cj)].toArray) (eE (fo:=0) 0 fF bR R R R R)) (hS:=(sL [3])) (dR 3 R (vS R) (hS:=(sL [3])) (dR 4 R (eL bI cB R R ap) (hS:=(sL [3])) (dR 5 R (gO 6 fQ aA R ap) (hS:=(sL [3])) (dR 6 R (vS R) (hS:=(sL [3])) (d1 7 R (gC (K:=kT3) (1:Int) (j.Ints.length:Int) 7 R R bI cB R R R R ai.1 ai.2.1 ai.2.2 (fun f4 f2=>(aC (aG (sL [4,0]) (d1 8 R (lM (aN _ _ _::aN _ _ _::RR kT3 f4 f2 (sub j.Ints (1:Int) (j.Ints.length:Int))::RR kT3 f4 f2 (sub j.Ints (1:Int) (j.Ints.length:Int))::cl _ _ _::aN _ _ _::aN _ _ _::aJ _ _ _::i) (fun w s=>((((s.d 2 R).d 4 R).d 2 R).e 8 [2,1,0,3,4,5,6,7])) ?_)))))))))))))))
 refine lC 3 B0 R (Z0u_ok fv) R ?_
 rintro ⟨⟨b3,g4,bb⟩,⟨bc,g9,au⟩⟩
 refine lN (ow kT3 3 (.slice b3 g4 bb) q.Dims::ow kT3 3 (.slice bc g9 au) q.Data::_::_::_::_::_::i) ?_
 refine aL 0 aB ?_
 rintro rfl
 refine aL 1 aB ?_
 rintro rfl
 refine aC (aG (sL [6,2,1,0]) (d1 9 R (aK 6 R R bR R R R R R R (lN (_::_::_::_::_::_::aJ l [(sc b3 q.Dims bb),(sc bc q.Data au)] 58::i) ?_))))
 refine aC (aG (sL [6,2,1,0]) (dD (aI (bY (dC (cF ?_))))))
 obtain rfl:=so b
 exact dI (vs:=[(.agg [(sc b3 q.Dims bb),(sc bc q.Data au)].toArray)]) (.inl R) ((b3,q.Dims.length,bb),(bc,q.Data.length,au)) R ⟨⟨6,l,_,_,R,R,.inl ⟨fF,bR,R⟩⟩,trivial⟩ R (fun w s=>(s.e 13 [0,1]))
 refine bM R ak (aO (aE (lO (ly R R) (lB R (aC (aI ?_))))))
 rcases cO b with ⟨ao,b⟩|⟨ao,b⟩
 refine cC R ao (aO ?_)
 obtain ⟨T,b⟩:=gd b
 obtain ⟨ab,b⟩:=gd b
 obtain ⟨ah,b⟩:=gd b
 obtain ⟨ck,b⟩:=gd b
 obtain ⟨F,fi,b⟩:=bd b
 refine bB 6 aA (show 0<g.length by have:=T; omega) (fun h8 o167 m=>?_)
 subst m
 refine dL (K:=dV) 6 (0:Int) dT58.dec R T.1 T.2 ?_
 rintro ⟨⟨dr,d0⟩,⟨e2,c6⟩⟩
 refine cN (cl h8 (o167+(0:Int).toNat*2) [(sc dr ((ix g (0:Int)).Dims) d0),(sc e2 ((ix g (0:Int)).Data) c6)]::RR kT3 dr d0 ((ix g (0:Int)).Dims)::RR kT3 e2 c6 ((ix g (0:Int)).Data)::aJ l [(.slice none 0 0),(.slice none 0 0)] 58::i) ?_
 refine bB 7 aA (show 0<j.Ints.length by have:=ab; omega) (fun ik o172 m=>?_)
 subst m
 refine dF 13 [3] bP (fun ht hn=>(dR 0 R (vS R) (hS:=(sL [3])) (dR 1 R (eL gH bR R R T) (hS:=(sL [3])) (dR 2 R (vz (.agg [(sc dr ((ix g (0:Int)).Dims) d0),(sc e2 ((ix g (0:Int)).Data) c6)].toArray) (eE (fo:=0) 0 fF bR R R R R)) (hS:=(sL [3])) (dR 3 R (vS R) (hS:=(sL [3])) (dR 4 R (eL bI cB R R ab) (hS:=(sL [3])) (dR 5 R (gO 6 fQ aA R ab) (hS:=(sL [3])) (dR 6 R (vS R) (hS:=(sL [3])) (dR 8 R (vS R) (hS:=(sL [3])) (dR 9 R (eL bI cB R R ck) (hS:=(sL [3])) (dR 10 R (gO 6 fQ aA R ck) (hS:=(sL [3])) (d1 7 R (gC (K:=kT3) (2:Int) (j.Ints.length:Int) 7 R R bI cB R R R R ah.1 ah.2.1 ah.2.2 (fun f1 ey=>(aC (aG (sL [4,0]) (d1 11 R (lM (aN _ _ _::aN _ _ _::RR kT3 f1 ey (sub j.Ints (2:Int) (j.Ints.length:Int))::RR kT3 f1 ey (sub j.Ints (2:Int) (j.Ints.length:Int))::cl _ _ _::aN _ _ _::aN _ _ _::aJ _ _ _::i) (fun w s=>((((s.d 2 R).d 4 R).d 2 R).e 8 [2,1,0,3,4,5,6,7])) ?_))))))))))))))))))
 refine lC 3 B1 R (Z0w_ok fi) R ?_
 rintro ⟨⟨bk,gn,bu⟩,⟨ba,gz,bf⟩⟩
 refine lN (ow kT3 3 (.slice bk gn bu) F.Dims::ow kT3 3 (.slice ba gz bf) F.Data::_::_::_::_::_::i) ?_
 refine aL 0 aB ?_
 rintro rfl
 refine aL 1 aB ?_
 rintro rfl
 refine aC (aG (sL [6,2,1,0]) (d1 12 R (aK 6 R R bR R R R R R R (lN (_::_::_::_::_::_::aJ l [(sc bk F.Dims bu),(sc ba F.Data bf)] 58::i) ?_))))
 refine aC (aG (sL [6,2,1,0]) (dD (aI (bY (dC (cF ?_))))))
 obtain rfl:=so b
 exact dI (vs:=[(.agg [(sc bk F.Dims bu),(sc ba F.Data bf)].toArray)]) (.inl R) ((bk,F.Dims.length,bu),(ba,F.Data.length,bf)) R ⟨⟨6,l,_,_,R,R,.inl ⟨fF,bR,R⟩⟩,trivial⟩ R (fun w s=>(s.e 13 [0,1]))
 refine bM R ao (aO (aE (lO (ly R R) (lB R (aC (aI ?_))))))
 rcases cO b with ⟨ae,b⟩|⟨ae,b⟩
 refine cC R ae (aO ?_)
 obtain ⟨L,b⟩:=gd b
 obtain ⟨b4,fs,b⟩:=bd b
 obtain ⟨al,b⟩:=gd b
 obtain ⟨cq,b⟩:=gd b
 obtain ⟨dn,b⟩:=gd b
 obtain ⟨ez,g0,b⟩:=bd b
 obtain ⟨G,f9,b⟩:=bd b
 refine bB 6 aA (show 0<g.length by have:=L; omega) (fun f3 o183 m=>?_)
 subst m
 refine dL (K:=dV) 6 (0:Int) dT58.dec R L.1 L.2 ?_
 rintro ⟨⟨d7,dk⟩,⟨cx,cm⟩⟩
 refine cN (cl f3 (o183+(0:Int).toNat*2) [(sc d7 ((ix g (0:Int)).Dims) dk),(sc cx ((ix g (0:Int)).Data) cm)]::RR kT3 d7 dk ((ix g (0:Int)).Dims)::RR kT3 cx cm ((ix g (0:Int)).Data)::aJ l [(.slice none 0 0),(.slice none 0 0)] 58::i) ?_
 refine bB 7 aA (show 0<j.Ints.length by have:=al; omega) (fun im o192 m=>?_)
 subst m
 refine dF 20 [3] bP (fun ht hn=>(dR 0 R (vS R) (hS:=(sL [3])) (dR 1 R (eL gH bR R R L) (hS:=(sL [3])) (dR 2 R (vz (.agg [(sc d7 ((ix g (0:Int)).Dims) dk),(sc cx ((ix g (0:Int)).Data) cm)].toArray) (eE (fo:=0) 0 fF bR R R R R)) (hS:=(sL [3])) (dR 3 R (vS R) (hS:=(sL [3])) (dR 4 R (eL gH bR R R L) (hS:=(sL [3])) (dR 5 R (vz (.pointer (some ⟨f3,o183+(0:Int).toNat*2,none⟩)) (jf iS R R)) (hS:=(sL [3])) (dR 6 R (eJ (fo:=0) 0 cJ R R R) (hS:=(sL [3])) (dR 8 R (vS R) (hS:=(sL [3])) (dR 9 R (eL bI cB R R al) (hS:=(sL [3])) (dR 10 R (gO 6 fQ aA R al) (hS:=(sL [3])) (dR 11 R (vS R) (hS:=(sL [3])) (dR 12 R (eL bI cB R R cq) (hS:=(sL [3])) (dR 13 R (gO 6 fQ aA R cq) (hS:=(sL [3])) (dR 14 R (vS R) (hS:=(sL [3])) (dR 15 R (eL bI cB R R dn) (hS:=(sL [3])) (dR 16 R (gO 6 fQ aA R dn) (hS:=(sL [3])) (d1 7 R (lM (_::_::_::_::_::i) (fun w s=>(s.d 1 R)) ?_)))))))))))))))))))
 refine lC 1 uo R (Zy_ok fs) R ?_
 rintro ⟨⟨h1,g7,hg⟩,⟨c8,hj,di⟩⟩
 refine lN (aN kT3 (.slice h1 g7 hg) b4.Dims::ow kT3 3 (.slice c8 hj di) b4.Strides::_::_::_::_::i) ?_
 refine aL 0 aA ?_
 rintro rfl
 refine aL 1 aB ?_
 rintro rfl
 refine aC (aG (sL [5,1,0]) (d1 17 R (iP (fun w s=>s.shr 1 R) (lM (aN _ _ _::RR kT3 c8 di b4.Strides::RR kT3 c8 di b4.Strides::aN _ _ _::cl _ _ _::aN _ _ _::aN _ _ _::aJ _ _ _::i) (fun w s=>(((s.d 1 R).d 1 R).f 8 [1,1,0,1,2,6])) ?_))))
 refine lC 2 B2 R (Z0e_ok g0) R ?_
 rintro ⟨⟨gr,h9,hk⟩,⟨gj,ga,gb⟩⟩
 refine lN (aN kT3 (.slice gr h9 hk) ez.Dims::aN kT3 (.slice gj ga gb) ez.Strides::_::_::_::_::_::_::i) ?_
 refine aL 0 aA ?_
 rintro rfl
 refine aL 1 aA ?_
 rintro rfl
 refine aC (aG (sL [7,3,2,1,0]) (d1 18 R (lM (aN _ _ _::aN _ _ _::aN _ _ _::aN _ _ _::aN _ _ _::aN _ _ _::aN _ _ _::aN _ _ _::cl _ _ _::aN _ _ _::aN _ _ _::aJ _ _ _::i) (fun w s=>(((((s.d 5 R).d 7 R).d 2 R).d 4 R).f 12 [3,1,2,1,1,1,0,1,4,8])) ?_)))
 refine lC 4 uq R (Z03_ok f9) R ?_
 rintro ⟨⟨bh,gq,be⟩,⟨ar,g8,b2⟩⟩
 refine lN (ow kT3 3 (.slice bh gq be) G.Dims::ow kT3 3 (.slice ar g8 b2) G.Data::_::_::_::_::_::_::_::_::i) ?_
 refine aL 0 aB ?_
 rintro rfl
 refine aL 1 aB ?_
 rintro rfl
 refine aC (aG (sL [9,5,4,3,2,1,0]) (d1 19 R (aK 9 R R bR R R R R R R (lN (_::_::_::_::_::_::_::_::_::aJ l [(sc bh G.Dims be),(sc ar G.Data b2)] 58::i) ?_))))
 refine aC (aG (sL [9,5,4,3,2,1,0]) (dD (aI (bY (dC (cF ?_))))))
 obtain rfl:=so b
 exact dI (vs:=[(.agg [(sc bh G.Dims be),(sc ar G.Data b2)].toArray)]) (.inl R) ((bh,G.Dims.length,be),(ar,G.Data.length,b2)) R ⟨⟨9,l,_,_,R,R,.inl ⟨fF,bR,R⟩⟩,trivial⟩ R (fun w s=>(s.e 16 [0,1]))
 refine bM R ae (dE (dY (aI (aO ?_))))
 obtain ⟨Y,b⟩:=gd b
 obtain ⟨an,b⟩:=gd b
 obtain ⟨df,b⟩:=gd b
 obtain ⟨dj,b⟩:=gd b
 obtain ⟨I,fb,b⟩:=bd b
 refine bB 6 aA (show 0<g.length by have:=Y; omega) (fun gi o205 m=>?_)
 subst m
 refine dL (K:=dV) 6 (0:Int) dT58.dec R Y.1 Y.2 ?_
 rintro ⟨⟨ci,d4⟩,⟨dx,db⟩⟩
 refine cN (cl gi (o205+(0:Int).toNat*2) [(sc ci ((ix g (0:Int)).Dims) d4),(sc dx ((ix g (0:Int)).Data) db)]::RR kT3 ci d4 ((ix g (0:Int)).Dims)::RR kT3 dx db ((ix g (0:Int)).Data)::aJ l [(.slice none 0 0),(.slice none 0 0)] 58::i) ?_
 refine bB 7 aA (show 0<j.Ints.length by have:=an; omega) (fun io o210 m=>?_)
 subst m
 refine dF 14 [3] bP (fun ht hn=>(dR 0 R (vS R) (hS:=(sL [3])) (dR 1 R (eL gH bR R R Y) (hS:=(sL [3])) (dR 2 R (vz (.agg [(sc ci ((ix g (0:Int)).Dims) d4),(sc dx ((ix g (0:Int)).Data) db)].toArray) (eE (fo:=0) 0 fF bR R R R R)) (hS:=(sL [3])) (dR 3 R (vS R) (hS:=(sL [3])) (dR 4 R (eL bI cB R R an) (hS:=(sL [3])) (dR 5 R (gO 6 fQ aA R an) (hS:=(sL [3])) (dR 6 R (vS R) (hS:=(sL [3])) (dR 7 R (eL bI cB R R df) (hS:=(sL [3])) (dR 8 R (gO 6 fQ aA R df) (hS:=(sL [3])) (dR 9 R (vS R) (hS:=(sL [3])) (dR 10 R (eL bI cB R R dj) (hS:=(sL [3])) (dR 11 R (gO 6 fQ aA R dj) (hS:=(sL [3])) (d1 12 R (lM (aN _ _ _::aN _ _ _::cl _ _ _::aN _ _ _::aN _ _ _::aJ _ _ _::i) (fun w s=>(((s.d 1 R).d 3 R).e 6 [1,0,2,3,4,5])) ?_)))))))))))))))
 refine lC 2 B3 R (Z0t_ok fb) R ?_
 rintro ⟨⟨ay,g3,b5⟩,⟨bm,h4,br⟩⟩
 refine lN (ow kT3 3 (.slice ay g3 b5) I.Dims::ow kT3 3 (.slice bm h4 br) I.Data::_::_::_::_::i) ?_
 refine aL 0 aB ?_
 rintro rfl
 refine aL 1 aB ?_
 rintro rfl
 refine aC (aG (sL [5,1,0]) (d1 13 R (aK 5 R R bR R R R R R R (lN (_::_::_::_::_::aJ l [(sc ay I.Dims b5),(sc bm I.Data br)] 58::i) ?_))))
 refine aC (aG (sL [5,1,0]) (dD (aI (bY ?_))))
 obtain rfl:=so b
 exact dI (vs:=[(.agg [(sc ay I.Dims b5),(sc bm I.Data br)].toArray)]) (.inl R) ((ay,I.Dims.length,b5),(bm,I.Data.length,br)) R ⟨⟨5,l,_,_,R,R,.inl ⟨fF,bR,R⟩⟩,trivial⟩ R (fun w s=>(s.e 12 [0,1]))
theorem Z0s_ok  {i:(List Int)}{F:Int}{r:Tensor}(b:Z0s i F=some r) :
 FnOk Tryz.prog 54 [(.slice A2 N2 D2),(iv F)] [aN kT3 (.slice A2 N2 D2) i] (fun (h:HH×HH)=>((.agg [(s3 h.1),(s3 h.2)].toArray),[ow kT3 3 (s3 h.1) r.Dims,ow kT3 3 (s3 h.2) r.Data])):=by
 unfold Z0s at b
 refine aQ Tryz.func54 R 27 R R fun C V=>?_
 refine cL 0 aA ?_
 rintro rfl
 let B:=RR kT3 A2 D2 i::V
 refine cN B ?_
 refine aU ?_
 refine bF R R dQ (fun m=>(aC (aI (aO (aO ?_)))))
 obtain ⟨r5,L,b⟩:=bd b
 refine aU ?_
 refine lM _ (fun w s=>(s.d 1 R)) ?_
 refine lC 1 kb R (Zo_ok L) R ?_
 rintro _
 refine aP ?_
 split at b
 refine aP ?_
 refine lO (vz (.agg [(.slice none 0 0),(.slice none 0 0)].toArray) (aX gN dQ R R)) (aK 0 R R bR R R R R R R (aC (aI (bY (cF ?_)))))
 cases b
 exact qS ((none,0,0),(none,0,0)) (fun w s=>(((s.nilo kT3 3).nilo kT3 3).e 4 [1,0]))
 refine bG ?_
 obtain ⟨g,D,b⟩:=bd b
 refine aU ?_
 refine lM _ (fun w s=>(s.d 1 R)) ?_
 refine lC 1 nA R (Z0i_ok D) R ?_
 rintro ⟨⟨A10,N10,D10⟩,⟨A11,N11,D11⟩⟩
 refine aL 0 aB ?_
 rintro rfl
 refine aL 1 aB ?_
 rintro rfl
 refine bF R R dQ (fun j=>(aK 0 R R bR R R R R R R (lN (aJ j [(sc A10 g.Dims D10),(sc A11 g.Data D11)] 58::_::_::_::B) ?_)))
 refine aP ?_
 refine aZ (A:=((List Int))×(Unit)) (fun a=>Z0s_J1 g a.1=some r) (fun a=>[(4,(pt m 0)),(5,(pt j 0))]) (fun a=>aJ m [(.slice none 0 0),(.slice none 0 0)] 58::aJ j [(sc A10 g.Dims D10),(sc A11 g.Data D11)] 58::OO kT3 3 A10 D10 g.Dims::ow kT3 3 (.slice A11 g.Data.length D11) a.1::B) ?_ ?_
 refine bT ?_
 obtain ⟨e1,M,J⟩:=bd b
 refine bD (A:=Unit) M (fun s a=>[(1,(iv F)),(4,(pt m 0)),(5,(pt j 0)),(6,(iv s.2))]) (fun s a=>aJ m [(.slice none 0 0),(.slice none 0 0)] 58::aJ j [(sc A10 g.Dims D10),(sc A11 g.Data D11)] 58::OO kT3 3 A10 D10 g.Dims::ow kT3 3 (.slice A11 g.Data.length D11) s.1::B) () (aS R) (tE 4 [3,0,1,2]) ?_
 rintro ⟨E,O⟩ _ σ1 U b G
 dsimp only [Z0s_L1] at b
 refine cP ?_
 split at b
 refine bZ ?_
 obtain ⟨q,u,b⟩:=bd b
 obtain ⟨l,b⟩:=gd b
 refine bB 3 aB (show 0<g.Data.length by have:=l; omega) (fun Z o26 Y=>?_)
 subst Y
 refine dF 7 [3] bP fun ht hn=>?_
 refine oq 0 [3] ?_
 refine d1 4 R (lC 0 lz R (Zq_ok u) R ?_)
 rintro _
 refine aC (aG (sL [3]) ?_)
 refine oo 5 [3] ?_
 refine d1 6 R (lM _ (tE 4 [3,0,1,2]) ?_)
 refine eA (K:=kT3) (x':=q) 0 O R R cB R R l.1 l.2 ?_ ?_
 exact fun I h s=>(fZ).put I h () q s
 refine aC (aG (sL [0]) (dD ?_))
 refine dG ?_
 cases b
 exact qA () (tE 4 [1,2,3,0])
 refine aP ?_
 cases b
 obtain rfl:=G _ R
 have b:=J
 refine aU ?_
 exact qI (E,()) b tI
 rintro ⟨T,_⟩ σ1 b
 dsimp only [Z0s_J1] at b
 refine aP ?_
 refine aK 0 R R bR R R R R R R (lN (aJ m [(sc A10 g.Dims D10),(sc A11 g.Data D11)] 58::aJ j [(sc A10 g.Dims D10),(sc A11 g.Data D11)] 58::_::ow kT3 3 (.slice A11 g.Data.length D11) T::B) ?_)
 refine aP ?_
 cases b
 exact qS ((A10,g.Dims.length,D10),(A11,g.Data.length,D11)) (tE 5 [2,3])
theorem Za_ok  {g1:Graph}{g:(List Tensor)}{l:Bool}{r:(List Tensor)×Bool}(j:Za g1 g l=some r) :
 FnOk Tryz.prog 34 [(.agg [(.slice A2 N2 D2),(.slice A3 N3 D3)].toArray),(.slice A5 N5 D5),(.bool l)] [aN dA (.slice A2 N2 D2) g1.Nodes,aN kT3 (.slice A3 N3 D3) g1.Outs,aN dV (.slice A5 N5 D5) g] (fun (h:HH)=>((.tuple [(s3 h),(.bool r.2)].toArray),[ow (dV).share 58 (s3 h) r.1])):=by
 unfold Za at j
 refine aQ Tryz.func34 R 143 R R fun C V=>?_
 refine cL 0 aA ?_
 rintro rfl
 refine cL 1 aA ?_
 rintro rfl
 refine cL 2 aA ?_
 rintro rfl
 let W0:=RR dA A2 D2 g1.Nodes::RR kT3 A3 D3 g1.Outs::RR dV A5 D5 g::V
 refine cN W0 ?_
 refine aU ?_
 refine eF R fun b7=>?_
 refine aP ?_
 let W1:=aJ b7 [(sc A2 g1.Nodes D2),(sc A3 g1.Outs D3)] 30::W0
 refine qN W1 ?_
 refine aP ?_
 refine bK (K:=dV) (xs:=([]:List Tensor)) (vs:=[]) 0 R R gH bR dQ R R R R R R ?_ R (fun A8 D8=>?_)
 exact fun I h s=>(wD).list [] I h s
 refine bZ ?_
 refine cQ [(1,(sc A5 g D5)),(2,(.bool l)),(3,(pt b7 0)),(8,(sc A8 ([]:List Tensor) D8)),(25,(.bool ((decide ((g1.Nodes.length:Int)>200))||(decide ((g1.Outs.length:Int)>40)))))] (OO dV 58 A8 D8 ([]:List Tensor)::W1) ?_ ?_
 refine bT ?_
 rcases bo (decide ((g1.Nodes.length:Int)>200)) with cr | cr
 refine bT ?_
 exact qj tI
 refine bT ?_
 exact qj tI
 rintro σ1
 refine bU ?_
 split at j
 refine cP ?_
 cases j
 exact jD (A8,([]:List Tensor).length,D8) (fun w s=>((s.wk 0 R).e 5 [0]))
 refine cU ?_
 refine aZ (A:=((List Tensor)×Int)×(HH)) (fun a=>Za_J5 g1 g l a.1.1 a.1.2=some r) (fun a=>[(1,(sc A5 g D5)),(2,(.bool l)),(3,(pt b7 0)),(8,(s3 a.2)),(9,(iv a.1.2))]) (fun a=>ow (dV).share 58 (s3 a.2) a.1.1::W1) ?_ ?_
 refine bT ?_
 obtain ⟨e1,cs,aw⟩:=bd j
 refine bD (A:=HH) cs (fun s a=>[(1,(sc A5 g D5)),(2,(.bool l)),(3,(pt b7 0)),(8,(s3 a)),(9,(iv s.2.1)),(10,(iv s.2.2))]) (fun s a=>ow (dV).share 58 (s3 a) s.1::W1) (A8,([]:List Tensor).length,D8) (aS R) (fun w s=>(s.wk 0 R)) ?_
 rintro ⟨i,q,b⟩ ⟨u,cj,D⟩ σ1 b1 j ax
 dsimp only [Za_L1] at j
 refine bJ 0 eW (fun (hn:cj=i.length)=>?_)
 subst hn
 refine cP ?_
 split at j
 refine bT ?_
 obtain ⟨a9,j⟩:=gd j
 refine bG ?_
 refine bA 2 aA (show 0<g1.Nodes.length by have:=a9; omega) (fun cx o110 ha=>?_)
 subst ha
 refine bU ?_
 refine gG (K:=dA) 2 b dT54.dec R a9.1 a9.2 ?_
 rintro ⟨-,⟨F,E⟩,⟨L,O⟩,⟨J,M⟩,-,⟨G,T⟩⟩
 refine lO (vz (.agg [(iv (ix g1.Nodes b).Op),(sc F ((ix g1.Nodes b).Args) E),(sc L ((ix g1.Nodes b).Dims) O),(sc J ((ix g1.Nodes b).Ints) M),(aD (ix g1.Nodes b).Form),(sc G ((ix g1.Nodes b).Data) T)].toArray) (eE (fo:=0) 0 oz jE R R R R)) (bF R R qY (fun Y=>(aK 0 R R jE R R R R R R (lN (aJ Y [(iv (ix g1.Nodes b).Op),(sc F ((ix g1.Nodes b).Args) E),(sc L ((ix g1.Nodes b).Dims) O),(sc J ((ix g1.Nodes b).Ints) M),(aD (ix g1.Nodes b).Form),(sc G ((ix g1.Nodes b).Data) T)] 54::_::_::_::_::_::_::W1) ?_))))
 refine bG ?_
 obtain ⟨bn,c6,j⟩:=bd j
 obtain ⟨ci,c0,j⟩:=bd j
 refine cQ [(1,(sc A5 g D5)),(2,(.bool l)),(3,(pt b7 0)),(8,(sc u i D)),(9,(iv q)),(10,(iv b)),(11,(pt Y 0)),(48,(.bool ((!bn)||(!ci))))] (OO (dV).share 58 u D i::aJ Y [(iv (ix g1.Nodes b).Op),(sc F ((ix g1.Nodes b).Args) E),(sc L ((ix g1.Nodes b).Dims) O),(sc J ((ix g1.Nodes b).Ints) M),(aD (ix g1.Nodes b).Form),(sc G ((ix g1.Nodes b).Data) T)] 54::RR kT3 F E ((ix g1.Nodes b).Args)::RR kT3 L O ((ix g1.Nodes b).Dims)::RR kT3 J M ((ix g1.Nodes b).Ints)::RR kT3 G T ((ix g1.Nodes b).Data)::W1) ?_ ?_
 refine aU ?_
 refine lM _ (fun w s=>(((((s.d 2 R).d 4 R).d 6 R).d 8 R).f 11 [3,1,2,1,1,1,0,1,4,7])) ?_
 refine lC 4 AR R (Z10_ok c6) R ?_
 rintro _
 refine aU ?_
 rcases bo (!bn) with aa | aa
 refine dG ?_
 exact qj (tE 7 [6,0,2,3,4,5])
 refine aP ?_
 refine lM _ (fun w s=>(s.d 2 R)) ?_
 refine bX 1 R (cA aa) um R (Z0k_ok (bN c0 (cT aa))) R ?_
 rintro _
 refine aP ?_
 exact qj (tE 7 [6,0,2,3,4,5])
 rintro σ1
 refine bU ?_
 split at j
 refine hH ?_
 cases j
 obtain rfl:=ax _ R
 have j:=aw
 refine aP ?_
 cases j
 exact jD (u,i.length,D) (tE 10 [0])
 refine bZ ?_
 refine bK (K:=dV) (xs:=([]:List Tensor)) (vs:=[]) 0 R R gH bR dQ R R R R R R ?_ R (fun cc cf=>?_)
 exact fun I h s=>(wD).list [] I h s
 refine bG ?_
 refine aZ (A:=((List Tensor))×(HH)) (fun a=>Za_J3 g1 g l i q b a.1=some b1) (fun a=>[(1,(sc A5 g D5)),(2,(.bool l)),(3,(pt b7 0)),(8,(sc u i D)),(9,(iv q)),(10,(iv b)),(11,(pt Y 0)),(12,(s3 a.2))]) (fun a=>OO (dV).share 58 u D i::aJ Y [(iv (ix g1.Nodes b).Op),(sc F ((ix g1.Nodes b).Args) E),(sc L ((ix g1.Nodes b).Dims) O),(sc J ((ix g1.Nodes b).Ints) M),(aD (ix g1.Nodes b).Form),(sc G ((ix g1.Nodes b).Data) T)] 54::RR kT3 F E ((ix g1.Nodes b).Args)::RR kT3 L O ((ix g1.Nodes b).Dims)::RR kT3 J M ((ix g1.Nodes b).Ints)::RR kT3 G T ((ix g1.Nodes b).Data)::ow (dV).share 58 (s3 a.2) a.1::W1) ?_ ?_
 refine bT ?_
 obtain ⟨e2,cp,co⟩:=bd j
 refine bD (A:=HH) cp (fun s a=>[(1,(sc A5 g D5)),(2,(.bool l)),(3,(pt b7 0)),(8,(sc u i D)),(9,(iv q)),(10,(iv b)),(11,(pt Y 0)),(12,(s3 a)),(13,(iv s.2))]) (fun s a=>OO (dV).share 58 u D i::aJ Y [(iv (ix g1.Nodes b).Op),(sc F ((ix g1.Nodes b).Args) E),(sc L ((ix g1.Nodes b).Dims) O),(sc J ((ix g1.Nodes b).Ints) M),(aD (ix g1.Nodes b).Form),(sc G ((ix g1.Nodes b).Data) T)] 54::RR kT3 F E ((ix g1.Nodes b).Args)::RR kT3 L O ((ix g1.Nodes b).Dims)::RR kT3 J M ((ix g1.Nodes b).Ints)::RR kT3 G T ((ix g1.Nodes b).Data)::ow (dV).share 58 (s3 a) s.1::W1) (cc,([]:List Tensor).length,cf) (aS R) (fun w s=>((s.wk 0 R).f 7 [1,6,0,1])) ?_
 rintro ⟨a6,a0⟩ ⟨ch,c7,c8⟩ σ1 cz j cq
 dsimp only [Za_L2] at j
 refine bJ 6 eW (fun (hn:c7=a6.length)=>?_)
 subst hn
 refine cP ?_
 split at j
 refine bZ ?_
 obtain ⟨c5,j⟩:=gd j
 obtain ⟨ab,j⟩:=gd j
 obtain ⟨bw,j⟩:=gd j
 refine bT ?_
 refine bA 2 aA (show 0<((ix g1.Nodes b).Args).length by have:=c5; omega) (fun ct o141 ha=>?_)
 subst ha
 refine aU ?_
 refine bA 0 eW (show 0<i.length by have:=ab; omega) (fun db o144 ha=>?_)
 subst ha
 refine bU ?_
 refine yc (K:=(dV).share) 0 (ix ((ix g1.Nodes b).Args) a0) R R fF bR dT58.own R R ab.1 ab.2 ?_
 rintro ⟨⟨b4,bj⟩,⟨be,b8⟩⟩
 refine lM _ (fun w s=>(((s.d 0 R).d 2 R).f 11 [1,1,0,1,2,9])) ?_
 refine bK (K:=(dV).share) (xs:=([(ix i (ix ((ix g1.Nodes b).Args) a0))]:List Tensor)) (vs:=[(.agg [(sc b4 ((ix i (ix ((ix g1.Nodes b).Args) a0)).Dims) bj),(sc be ((ix i (ix ((ix g1.Nodes b).Args) a0)).Data) b8)].toArray)]) 2 R R gH bR dQ R R R R R R ?_ R (fun d8 cy=>?_)
 exact fun I h s=>(yu).list [(((sc b4 ((ix i (ix ((ix g1.Nodes b).Args) a0)).Dims) bj),(sc be ((ix i (ix ((ix g1.Nodes b).Args) a0)).Data) b8)),(ix i (ix ((ix g1.Nodes b).Args) a0)))] I h s
 refine lM _ (fun w s=>(s.f 10 [9,1,0,9])) ?_
 refine eB (K:=(dV).share) 2932031007402 R R gH bR yy (Zr.zk (Zr.share yv) dQ) R R R R R R dM bw (fun bl bm=>(lN (OO (dV).share 58 bl bm (a6++([(ix i (ix ((ix g1.Nodes b).Args) a0))]:List Tensor))::_::_::_::_::_::_::_::_::W1) ?_))
 refine cU ?_
 cases j
 exact qA (bl,(a6++([(ix i (ix ((ix g1.Nodes b).Args) a0))]:List Tensor)).length,bm) (fun w s=>(s.f 9 [3,6,0,1]))
 refine aP ?_
 cases j
 obtain rfl:=cq _ R
 have j:=co
 refine aU ?_
 exact qI (a6,(ch,a6.length,c8)) j tI
 rintro ⟨a7,⟨ac,cn,ae⟩⟩ σ1 j
 dsimp only [Za_J3] at j
 refine bJ 6 eW (fun (hn:cn=a7.length)=>?_)
 subst hn
 refine aU ?_
 refine lO (vz (.agg [(.slice none 0 0),(.slice none 0 0)].toArray) (aX gN dQ R R)) (bF R R dQ (fun a1=>(aK 0 R R bR R R R R R R (lN (_::OO (dV).share 58 u D i::aJ Y [(iv (ix g1.Nodes b).Op),(sc F ((ix g1.Nodes b).Args) E),(sc L ((ix g1.Nodes b).Dims) O),(sc J ((ix g1.Nodes b).Ints) M),(aD (ix g1.Nodes b).Form),(sc G ((ix g1.Nodes b).Data) T)] 54::RR kT3 F E ((ix g1.Nodes b).Args)::_::_::_::OO (dV).share 58 ac ae a7::W1) ?_))))
 refine aP ?_
 refine aZ (A:=(Int×(List Int)×(List Int))×(HH×HH)) (fun a=>Za_J4 i b a.1.1 a.1.2.1 a.1.2.2=some b1) (fun a=>[(1,(sc A5 g D5)),(2,(.bool l)),(3,(pt b7 0)),(8,(sc u i D)),(9,(iv a.1.1)),(10,(iv b)),(14,(pt a1 0))]) (fun a=>OO (dV).share 58 u D i::aJ a1 [(s3 a.2.1),(s3 a.2.2)] 58::ow kT3 3 (s3 a.2.1) a.1.2.1::ow kT3 3 (s3 a.2.2) a.1.2.2::W1) ?_ ?_
 refine cU ?_
 split at j
 refine bU ?_
 obtain ⟨a4,bz,j⟩:=bd j
 refine aP ?_
 refine lM _ (fun w s=>(((((s.d 3 R).d 5 R).d 7 R).d 9 R).e 12 [11,3,2,1,0,4,5,6,7,8,9,10])) ?_
 refine lC 5 B4 R (FnOk.lends (A':=[OO (dV).share 58 ac ae a7]) (A:=[RR dV ac ae a7]) (B:=[RR kT3 F E ((ix g1.Nodes b).Args),RR kT3 L O ((ix g1.Nodes b).Dims),RR kT3 J M ((ix g1.Nodes b).Ints),RR kT3 G T ((ix g1.Nodes b).Data)]) (FnOk.perm (Z1_ok bz) (Pre':=[RR dV ac ae a7,RR kT3 F E ((ix g1.Nodes b).Args),RR kT3 L O ((ix g1.Nodes b).Dims),RR kT3 J M ((ix g1.Nodes b).Ints),RR kT3 G T ((ix g1.Nodes b).Data)]) (fun _ _ _ s=>(s.f 5 [1,4,0,1]))) ⟨q8,trivial⟩ (fun _=>⟨(bH iM),(bH iM),trivial⟩)) R ?_
 rintro ⟨⟨bh,d9,b5⟩,⟨ay,cu,bk⟩⟩
 refine aL 1 aB ?_
 rintro rfl
 refine aL 2 aB ?_
 rintro rfl
 refine aK 3 R R bR R R R R R R (lN (_::_::_::aJ a1 [(sc bh a4.Dims b5),(sc ay a4.Data bk)] 58::_::_::_::_::_::_::W1) ?_)
 refine aU ?_
 exact qI ((q,a4.Dims,a4.Data),((bh,a4.Dims.length,b5),(ay,a4.Data.length,bk))) j (tE 10 [4,3,1,2])
 refine dG ?_
 split at j
 refine bU ?_
 obtain ⟨a5,bu,j⟩:=bd j
 refine aP ?_
 refine lM _ (fun w s=>(s.d 4 R)) ?_
 refine lC 1 B5 R (Z0s_ok bu) R ?_
 rintro ⟨⟨bp,d7,b2⟩,⟨ba,d4,b9⟩⟩
 refine aL 0 aB ?_
 rintro rfl
 refine aL 1 aB ?_
 rintro rfl
 refine aK 2 R R bR R R R R R R (lN (_::_::aJ a1 [(sc bp a5.Dims b2),(sc ba a5.Data b9)] 58::_::_::_::_::_::_::_::W1) ?_)
 refine aU ?_
 exact qI ((q,a5.Dims,a5.Data),((bp,a5.Dims.length,b2),(ba,a5.Data.length,b9))) j (tE 10 [3,2,0,1])
 refine aP ?_
 obtain ⟨U,j⟩:=gd j
 obtain ⟨bc,ar,j⟩:=bd j
 obtain ⟨c2,j⟩:=gd j
 obtain ⟨cm,br,j⟩:=bd j
 refine cQ [(1,(sc A5 g D5)),(2,(.bool l)),(3,(pt b7 0)),(8,(sc u i D)),(9,(iv q)),(10,(iv b)),(11,(pt Y 0)),(14,(pt a1 0)),(92,(.bool (((decide (q≥(g.length:Int)))||(!bc))||(!cm))))] (OO (dV).share 58 u D i::aJ Y [(iv (ix g1.Nodes b).Op),(sc F ((ix g1.Nodes b).Args) E),(sc L ((ix g1.Nodes b).Dims) O),(sc J ((ix g1.Nodes b).Ints) M),(aD (ix g1.Nodes b).Form),(sc G ((ix g1.Nodes b).Data) T)] 54::RR kT3 F E ((ix g1.Nodes b).Args)::RR kT3 L O ((ix g1.Nodes b).Dims)::RR kT3 J M ((ix g1.Nodes b).Ints)::RR kT3 G T ((ix g1.Nodes b).Data)::aJ a1 [(.slice none 0 0),(.slice none 0 0)] 58::W1) ?_ ?_
 rcases bo (decide (q≥(g.length:Int))) with m | m
 refine dF 23 [] bP fun ht hn=>?_
 refine AD 0 [] ?_
 refine dD ?_
 exact qj (fun w s=>(s.f 8 [1,6,0,1]))
 rcases bo ((decide (q≥(g.length:Int)))||(!bc)) with Z | Z
 refine bB 11 aA (show 0<g.length by have:=(U m); omega) (fun az o168 ha=>?_)
 subst ha
 refine dL (K:=dV) 11 q dT58.dec R (U m).1 (U m).2 ?_
 rintro ⟨⟨au,aj⟩,⟨an,ap⟩⟩
 refine dF 23 [] bP fun ht hn=>?_
 refine sg 0 [] ?_
 refine dW 7 R (cA m) (eL gH bR R R (U m)) (dW 8 R (cA m) (vz (.agg [(sc au ((ix g q).Dims) aj),(sc an ((ix g q).Data) ap)].toArray) (eE (fo:=0) 0 fF bR R R R R)) (d1 9 R (lM _ (fun w s=>(((s.d 1 R).d 3 R).f 13 [1,1,0,1,2,11])) ?_)))
 refine bX 2 R (cA m) nz R (Zs_ok (bN ar (cT m))) R ?_
 rintro _
 refine aC (aG (sL []) ?_)
 refine ml 10 [] ?_
 refine dD ?_
 exact qj (fun w s=>(s.f 11 [4,6,3,1]))
 refine bB 11 aA (show 0<g.length by have:=(U m); omega) (fun az o168 ha=>?_)
 subst ha
 refine dL (K:=dV) 11 q dT58.dec R (U m).1 (U m).2 ?_
 rintro ⟨⟨au,aj⟩,⟨an,ap⟩⟩
 refine dF 23 [] bP fun ht hn=>?_
 refine sg 0 [] ?_
 refine dW 7 R (cA m) (eL gH bR R R (U m)) (dW 8 R (cA m) (vz (.agg [(sc au ((ix g q).Dims) aj),(sc an ((ix g q).Data) ap)].toArray) (eE (fo:=0) 0 fF bR R R R R)) (d1 9 R (lM _ (fun w s=>(((s.d 1 R).d 3 R).f 13 [1,1,0,1,2,11])) ?_)))
 refine bX 2 R (cA m) nz R (Zs_ok (bN ar (cT m))) R ?_
 rintro _
 refine aC (aG (sL []) ?_)
 refine kk 10 [] ?_
 refine dW 15 R (cA Z) (eL gH bR R R (c2 Z)) (dW 16 R (cA Z) (vz (.pointer (some ⟨az,o168+q.toNat*2,none⟩)) (jf iS R R)) (dW 17 R (cA Z) (eJ (fo:=0) 0 cJ R R R) ?_))
 refine gR 18 [] ?_
 refine d1 20 R (lM _ (fun w s=>(((s.d 1 R).d 8 R).f 13 [1,1,0,1,2,11])) ?_)
 refine bX 2 R (cA Z) wQ R (Z02_ok (bN br (cT Z))) R ?_
 rintro _
 refine aC (aG (sL []) ?_)
 refine gR 21 [] ?_
 refine dD ?_
 exact qj (fun w s=>(s.f 11 [4,6,3,1]))
 rintro σ1
 refine bU ?_
 split at j
 refine oi ?_
 cases j
 obtain rfl:=ax _ R
 have j:=aw
 refine aP ?_
 cases j
 exact jD (u,i.length,D) (tE 11 [0])
 refine bG ?_
 obtain ⟨ai,c1,j⟩:=bd j
 obtain ⟨a8,j⟩:=gd j
 obtain ⟨ag,c4,j⟩:=bd j
 refine bB 10 aA (show 0<g.length by have:=a8; omega) (fun ck o184 ha=>?_)
 subst ha
 refine dL (K:=dV) 10 q dT58.dec R a8.1 a8.2 ?_
 rintro ⟨⟨da,d0⟩,⟨d6,cv⟩⟩
 refine dF 11 [9] bP fun ht hn=>?_
 refine gR 0 [9] ?_
 refine hX 3 [9] ?_
 refine dR 6 R (vz (.pointer (some ⟨ck,o184+q.toNat*2+1,none⟩)) (jf sv R R)) (hS:=(sL [9])) (dR 7 R (eJ (fo:=1) 0 cJ R R R) (hS:=(sL [9])) (d1 2 R (lM _ (fun w s=>(s.d 6 R)) ?_)))
 refine lC 1 jN R (Zu_ok c1) R ?_
 rintro ⟨aq,cw,ao⟩
 refine aL 0 aB ?_
 rintro rfl
 refine aC (aG (sL [10,0]) (d1 8 R (lM _ (fun w s=>(s.d 3 R)) ?_)))
 refine lC 1 jN R (Zu_ok c4) R ?_
 rintro ⟨ak,dc,am⟩
 refine aL 0 aB ?_
 rintro rfl
 refine aC (aG (sL [11,1,0]) (dR 9 R (vz (.agg [(sc aq ai ao),(sc ak ag am)].toArray) (aX gN dQ R R)) (hS:=(sL [11,1,0])) (d1 10 R (aK 11 R R bR R R R R R R (lN (_::_::_::_::_::_::_::_::_::_::_::aJ a1 [(sc aq ai ao),(sc ak ag am)] 58::W1) ?_)))))
 refine aC (aG (sL [11,1,0]) (dD ?_))
 refine dG ?_
 exact qI (((aH (q+1)),ai,ag),((aq,ai.length,ao),(ak,ag.length,am))) j (tE 12 [5,11,1,0])
 rintro ⟨⟨d3,a2,a3⟩,⟨⟨bi,cb,bg⟩,⟨b6,c9,b0⟩⟩⟩ σ1 j
 dsimp only [Za_J4] at j
 refine bJ 2 aB (fun (hn:cb=a2.length)=>?_)
 subst hn
 refine bJ 3 aB (fun (hn:c9=a3.length)=>?_)
 subst hn
 refine cU ?_
 split at j
 refine hH ?_
 cases j
 obtain rfl:=ax _ R
 have j:=aw
 refine aP ?_
 cases j
 exact jD (u,i.length,D) (tE 8 [0])
 refine aP ?_
 obtain ⟨bq,j⟩:=gd j
 refine aP ?_
 refine lM _ (fun w s=>(((((s.shr 2 R).d 0 R).shr 4 R).d 0 R).e 6 [2,0,1,3,4,5])) ?_
 refine bK (K:=(dV).share) (xs:=([(⟨a2,a3⟩:Tensor)]:List Tensor)) (vs:=[(.agg [(sc bi a2 bg),(sc b6 a3 b0)].toArray)]) 2 R R gH bR dQ R R R R R R ?_ R (fun d5 d2=>?_)
 exact fun I h s=>(yu).list [(((sc bi a2 bg),(sc b6 a3 b0)),(⟨a2,a3⟩:Tensor))] I h s
 refine lM _ (tE 5 [3,0,1,2,4]) ?_
 refine eB (K:=(dV).share) 2932031007402 R R gH bR yy (Zr.zk (Zr.share yv) dQ) R R R R R R dM bq (fun bf b3=>(lN (OO (dV).share 58 bf b3 (i++([(⟨a2,a3⟩:Tensor)]:List Tensor))::_::_::_::W1) ?_))
 refine cU ?_
 cases j
 exact qA (bf,(i++([(⟨a2,a3⟩:Tensor)]:List Tensor)).length,b3) (tE 4 [0])
 refine aP ?_
 cases j
 obtain rfl:=ax _ R
 have j:=aw
 refine aU ?_
 exact qI ((i,q),(u,i.length,D)) j tI
 rintro ⟨⟨ah,cg⟩,⟨al,ca,av⟩⟩ σ1 j
 dsimp only [Za_J5] at j
 refine bJ 0 eW (fun (hn:ca=ah.length)=>?_)
 subst hn
 refine bU ?_
 obtain ⟨bb,bv,j⟩:=bd j
 refine cQ [(6,(sc al ah av)),(7,(.bool (bb&&(l||(cg==(g.length:Int))))))] (OO (dV).share 58 al av ah::W1) ?_ ?_
 refine dG ?_
 refine lM _ (fun w s=>(s.d 3 R)) ?_
 refine lC 1 um R (Z0k_ok bv) R ?_
 rintro _
 refine bU ?_
 rcases bo bb with bs | bs
 refine aU ?_
 rcases bo l with c3 | c3
 refine cU ?_
 exact qj tI
 refine cU ?_
 exact qj tI
 refine hN ?_
 exact qj tI
 rintro σ1
 refine aU ?_
 cases j
 exact jD (al,ah.length,av) (tE 5 [0])
theorem Z30_ok  {g1:Graph}{r:Bool}(a:Z30 g1=some r) :
 FnOk Tryz.prog 10 [(.agg [(.slice A2 N2 D2),(.slice A3 N3 D3)].toArray)] [aN dA (.slice A2 N2 D2) g1.Nodes,aN kT3 (.slice A3 N3 D3) g1.Outs] (fun (h:Unit)=>((.bool r),[])):=by
 unfold Z30 at a
 refine aQ Tryz.func10 R 12 R R fun C V=>?_
 refine cL 0 aA ?_
 rintro rfl
 refine cL 1 aA ?_
 rintro rfl
 let g:=RR dA A2 D2 g1.Nodes::RR kT3 A3 D3 g1.Outs::V
 refine cN g ?_
 refine aU ?_
 refine eF R fun i=>?_
 refine aU ?_
 let j:=aJ i [(sc A2 g1.Nodes D2),(sc A3 g1.Outs D3)] 30::g
 refine qN j ?_
 refine aU ?_
 obtain ⟨l,b,a⟩:=bd a
 refine aU ?_
 refine bK (K:=dV) (xs:=([]:List Tensor)) (vs:=[]) 0 R R gH bR dQ R R R R R R ?_ R (fun A5 D5=>?_)
 exact fun I h s=>(wD).list [] I h s
 refine iP (fun w s=>s.shr 0 R) (lM _ (fun w s=>((((s.d 2 R).d 4 R).d 2 R).e 4 [2,1,0,3])) ?_)
 refine lC 3 B6 R (Za_ok b) R ?_
 rintro ⟨A8,N8,D8⟩
 refine aL 0 eW ?_
 rintro rfl
 refine lO (vT R) ?_
 refine kj ?_
 cases a
 exact qF () (tE 5 [])
theorem Z4_ok  {g:Node}{q:(List Int)}{r:Int}(b:Z4 g q=some r) :
 FnOk Tryz.prog 46 [(.agg [(iv g.Op),(.slice A2 N2 D2),(.slice A3 N3 D3),(.slice A4 N4 D4),(aD g.Form),(.slice A5 N5 D5)].toArray),(.slice A7 N7 D7)] [aN kT3 (.slice A2 N2 D2) g.Args,aN kT3 (.slice A3 N3 D3) g.Dims,aN kT3 (.slice A4 N4 D4) g.Ints,aN kT3 (.slice A5 N5 D5) g.Data,aN kT3 (.slice A7 N7 D7) q] (fun (h:Unit)=>((iv r),[])):=by
 unfold Z4 at b
 refine aQ Tryz.func46 R 53 R R fun C V=>?_
 refine cL 0 aA ?_
 rintro rfl
 refine cL 1 aA ?_
 rintro rfl
 refine cL 2 aA ?_
 rintro rfl
 refine cL 3 aA ?_
 rintro rfl
 refine cL 4 aA ?_
 rintro rfl
 let M:=RR kT3 A2 D2 g.Args::RR kT3 A3 D3 g.Dims::RR kT3 A4 D4 g.Ints::RR kT3 A5 D5 g.Data::RR kT3 A7 D7 q::V
 refine cN M ?_
 refine aU ?_
 refine eF R fun I=>?_
 refine aU ?_
 let u:=aJ I [(iv g.Op),(sc A2 g.Args D2),(sc A3 g.Dims D3),(sc A4 g.Ints D4),(aD g.Form),(sc A5 g.Data D5)] 54::M
 refine qN u ?_
 refine hH ?_
 refine aZ (A:=(Int×Int)×(Unit)) (fun a=>Z4_J3 g a.1.1 a.1.2=some r) (fun a=>[(2,(pt I 0)),(5,(iv a.1.1)),(6,(iv a.1.2))]) (fun a=>u) ?_ ?_
 refine bT ?_
 obtain ⟨Z,L,B⟩:=bd b
 refine bD (A:=Unit) L (fun s a=>[(1,(sc A7 q D7)),(2,(pt I 0)),(5,(iv s.1)),(6,(iv s.2.1)),(7,(iv s.2.2))]) (fun s a=>u) () (aS R) tI ?_
 rintro ⟨j,l,m⟩ _ σ1 E b F
 dsimp only [Z4_L1] at b
 refine cU ?_
 split at b
 refine bG ?_
 refine aZ (A:=(Int)×(Unit)) (fun a=>Z4_J2 q j m a.1=some E) (fun a=>[(1,(sc A7 q D7)),(2,(pt I 0)),(5,(iv (aH (j+(ix q m))))),(6,(iv a.1)),(7,(iv m))]) (fun a=>u) ?_ ?_
 refine aP ?_
 obtain ⟨D,b⟩:=gd b
 refine aP ?_
 refine bA 5 aA (show 0<q.length by have:=D; omega) (fun Y o22 T=>?_)
 subst T
 refine bZ ?_
 split at b
 refine cP ?_
 cases b
 obtain rfl:=F _ R
 have b:=B
 refine aP ?_
 cases b
 exact qF () (tE 6 [])
 refine yp ?_
 split at b
 refine cU ?_
 exact qI ((ix q m),()) b tI
 refine aP ?_
 exact qI (l,()) b tI
 rintro ⟨J,_⟩ σ1 b
 dsimp only [Z4_J2] at b
 refine bZ ?_
 cases b
 exact qA () tI
 refine aP ?_
 cases b
 obtain rfl:=F _ R
 have b:=B
 refine aU ?_
 exact qI ((j,l),()) b tI
 rintro ⟨⟨i,e⟩,_⟩ σ1 b
 dsimp only [Z4_J3] at b
 refine aO (aZ (A:=(Int)×(Unit)) (fun a=>Z4_J6 a.1=some r) (fun a=>[(6,(iv a.1))]) (fun a=>u) ?_ ?_)
 refine kj ?_
 split at b
 refine cU ?_
 cases b
 exact qF () (tE 6 [])
 refine aU ?_
 refine aZ (A:=(Bool)×(Unit)) (fun a=>Z4_J4 g i e a.1=some r) (fun a=>[(5,(iv i)),(6,(iv e)),(36,(iv g.Op)),(39,(.bool a.1))]) (fun a=>u) ?_ ?_
 refine bT ?_
 split at b
 refine aU ?_
 exact qI ((g.Op==7),()) b tI
 refine dG ?_
 split at b
 refine aU ?_
 exact qI ((g.Op==8),()) b tI
 refine dG ?_
 split at b
 refine aU ?_
 exact qI ((g.Op==9),()) b tI
 refine bZ ?_
 exact qI ((g.Op==10),()) b tI
 rintro ⟨O,_⟩ σ1 b
 dsimp only [Z4_J4] at b
 split at b
 refine dG ?_
 split at b
 refine cU ?_
 cases b
 exact qF () (tE 6 [])
 refine aP ?_
 exact qI (e,()) b tI
 refine aU ?_
 refine aZ (A:=(Bool)×(Unit)) (fun a=>Z4_J5 i e a.1=some r) (fun a=>[(5,(iv i)),(6,(iv e)),(46,(.bool a.1))]) (fun a=>u) ?_ ?_
 refine bT ?_
 split at b
 refine aU ?_
 exact qI ((g.Op==5),()) b tI
 refine bZ ?_
 exact qI ((g.Op==11),()) b tI
 rintro ⟨U,_⟩ σ1 b
 dsimp only [Z4_J5] at b
 split at b
 refine bT ?_
 exact qI (i,()) b tI
 refine aP ?_
 exact qI (e,()) b tI
 rintro ⟨G,_⟩ σ1 b
 dsimp only [Z4_J6] at b
 refine dG ?_
 split at b
 refine cV ?_
 cases b
 exact qF () (tE 6 [])
 refine cP ?_
 cases b
 exact qF () (tE 6 [])
theorem Zi_ok  {g1:Graph}{r:(List Int)}(i:Zi g1=some r) :
 FnOk Tryz.prog 30 [(.agg [(.slice A2 N2 D2),(.slice A3 N3 D3)].toArray)] [aN dA (.slice A2 N2 D2) g1.Nodes,aN kT3 (.slice A3 N3 D3) g1.Outs] (fun (h:HH)=>((.slice h.1 h.2.1 h.2.2),[ow kT3 3 (.slice h.1 h.2.1 h.2.2) r])):=by
 unfold Zi at i
 refine aQ Tryz.func30 R 59 R R fun C V=>?_
 refine cN (_::_::V) ?_
 refine cL 0 aA ?_
 rintro rfl
 refine cL 1 aA ?_
 rintro rfl
 let W0:List HP:=RR dA A2 D2 g1.Nodes::RR kT3 A3 D3 g1.Outs::V
 refine cN W0 ?_
 refine aO (aE (eF R (fun b4=>(lS R (aC ?_)))))
 let m:List HP:=aJ b4 [(sc A2 g1.Nodes D2),(sc A3 g1.Outs D3)] 30::W0
 refine qN m ?_
 refine aI (aO (aE (bK (K:=kT3) (xs:=([]:List Int)) (vs:=[]) 0 R R bI cB f' R R R R R R ?_ R (fun A5 D5=>?_))))
 exact fun I h s=>(fZ).list [] I h s
 refine lN (OO kT3 3 A5 D5 ([]:List Int)::m) ?_
 refine lS R (aC (aI (aO ?_)))
 obtain ⟨r6,bj,i⟩:=bd i
 refine aE (lO (vz (.agg [(sc A2 g1.Nodes D2),(sc A3 g1.Outs D3)].toArray) (dT 1 wP su R R R R)) (lM (RR dA A2 D2 g1.Nodes::RR kT3 A3 D3 g1.Outs::ow _ _ _ _::m) (fun w s=>(((s.d 2 R).d 4 R).e 3 [1,0,2])) ?_))
 refine lC 2 B7 R (Z30_ok bj) R ?_
 rintro _
 refine lN (_::m) ?_
 refine lB R (aC (aI (aO (aZ (A:=((List Int))×(HH)) (fun a=>Zi_J3 a.1=some r) (fun a=>[(3,(.slice a.2.1 a.2.2.1 a.2.2.2))]) (fun a=>ow kT3 3 (.slice a.2.1 a.2.2.1 a.2.2.2) a.1::m) ?_ ?_))))
 refine aO (aE (lI R (aC (aI (dJ ?_)))))
 obtain ⟨e1,bi,bh⟩:=bd i
 refine bD (A:=HH) bi (fun s a=>[(1,(pt b4 0)),(3,(.slice a.1 a.2.1 a.2.2)),(4,(.bool r6)),(5,(iv s.2))]) (fun s a=>ow kT3 3 (.slice a.1 a.2.1 a.2.2) s.1::m) (A5,([]:List Int).length,D5) (aS R) (fun w s=>s) ?_
 rintro ⟨g,b⟩ ⟨u,bc,j⟩ σ1 a6 i bg
 replace i:Zi_L1 g1 r6 g b=some a6:=i
 unfold Zi_L1 at i
 refine bJ 0 aB (fun (hn:bc=g.length)=>?_)
 subst hn
 refine aO (aO (cQ [(1,(pt b4 0)),(3,(sc u g j)),(4,(.bool r6)),(5,(iv b)),(18,(.bool ((decide (b<(g1.Nodes.length:Int)))&&r6)))] (OO kT3 3 u j g::m) ?_ ?_))
 refine aE (lI R (lO (fP 0 l4 R) (lO (fW 1 r0 R R R) (lO (kc oy R) (lO (mZ R R) (lB R ?_))))))
 rcases bo (decide (b<(g1.Nodes.length:Int))) with J | J
 refine lW (eH J) (vB R) (lO (iV R J R) (aC ?_))
 exact qJ (fun w s=>s)
 refine lf (nt J) (lO (kf r6 R J) (aC ?_))
 exact qJ (fun w s=>s)
 rintro σ1
 refine aI ?_
 rcases cO i with ⟨a8,i⟩|⟨a8,i⟩
 refine cC R a8 (dE (aI (aO (dJ (aO (aE (bK (K:=kT3) (xs:=([]:List Int)) (vs:=[]) 0 R R bI cB f' R R R R R R ?_ R (fun av b0=>?_))))))))
 exact fun I h s=>(fZ).list [] I h s
 refine lN (OO kT3 3 av b0 ([]:List Int)::OO kT3 3 u j g::m) ?_
 refine lS R (aC (aI (aO (aZ (A:=((List Int))×(HH)) (fun a=>Zi_J2 g1 g b a.1=some a6) (fun a=>[(1,(pt b4 0)),(3,(sc u g j)),(4,(.bool r6)),(5,(iv b)),(6,(.slice a.2.1 a.2.2.1 a.2.2.2))]) (fun a=>OO kT3 3 u j g::ow kT3 3 (.slice a.2.1 a.2.2.1 a.2.2.2) a.1::m) ?_ ?_))))
 refine aO (aE (lI R (aC (aI (dJ ?_)))))
 obtain ⟨e2,bb,ba⟩:=bd i
 refine bD (A:=HH) bb (fun s a=>[(1,(pt b4 0)),(3,(sc u g j)),(4,(.bool r6)),(5,(iv b)),(6,(.slice a.1 a.2.1 a.2.2)),(7,(iv s.2))]) (fun s a=>OO kT3 3 u j g::ow kT3 3 (.slice a.1 a.2.1 a.2.2) s.1::m) (av,([]:List Int).length,b0) (aS R) (fun w s=>(s.e 2 [1,0])) ?_
 rintro ⟨a0,Z⟩ ⟨b8,bf,b1⟩ σ1 ay i be
 replace i:Zi_L2 g1 g b a0 Z=some ay:=i
 unfold Zi_L2 at i
 refine bJ 1 aB (fun (hn:bf=a0.length)=>?_)
 subst hn
 refine aO (aO ?_)
 obtain ⟨F,i⟩:=gd i
 refine aE (lI R (lO (fP 0 l4 R) (lO (fW 2 r0 R R R) (lI R (bA 3 aA (show 0<g1.Nodes.length by have:=F; omega) (fun aa o93 ha=>?_))))))
 subst ha
 refine lO (eL oy jE R R F) (lO (vz (.pointer (some ⟨aa,o93+b.toNat*6+1,none⟩)) (jf mm R R)) (gG (K:=dA) 3 b dT54.dec R F.1 F.2 ?_))
 rintro ⟨-,⟨ax,a9⟩,⟨ao,am⟩,⟨aq,al⟩,-,⟨ap,aj⟩⟩
 refine lN (cl aa (o93+b.toNat*6) [(iv (ix g1.Nodes b).Op),(sc ax ((ix g1.Nodes b).Args) a9),(sc ao ((ix g1.Nodes b).Dims) am),(sc aq ((ix g1.Nodes b).Ints) al),(aD (ix g1.Nodes b).Form),(sc ap ((ix g1.Nodes b).Data) aj)]::RR kT3 ax a9 ((ix g1.Nodes b).Args)::RR kT3 ao am ((ix g1.Nodes b).Dims)::RR kT3 aq al ((ix g1.Nodes b).Ints)::RR kT3 ap aj ((ix g1.Nodes b).Data)::_::OO kT3 3 b8 b1 a0::m) ?_
 refine lO (eJ (fo:=1) 0 cJ R R R) (lO (kc bI R) (lO (mZ R R) (aC (aI ?_))))
 rcases cO i with ⟨a5,i⟩|⟨a5,i⟩
 refine cC R a5 (dE (aI (aO (dJ ?_))))
 obtain ⟨a7,i⟩:=gd i
 obtain ⟨a1,i⟩:=gd i
 obtain ⟨ai,i⟩:=gd i
 refine aE (lS R (lS R (lO (fP 0 l4 R) (lO (fW 7 r0 R R R) (lI R (lO (eL oy jE R R F) (lO (vz (.pointer (some ⟨aa,o93+b.toNat*6+1,none⟩)) (jf mm R R)) (lO (eJ (fo:=1) 0 cJ R R R) (lI R (bA 1 aA (show 0<((ix g1.Nodes b).Args).length by have:=a7; omega) (fun ag o101 ha=>?_)))))))))))
 subst ha
 refine lO (eL bI cB R R a7) (lO (gO 1 fQ aA R a7) (bA 5 aB (show 0<g.length by have:=a1; omega) (fun b7 o104 ha=>?_)))
 subst ha
 refine lO (eL bI cB R R a1) (lO (gO 5 fQ aB R a1) (bK (K:=kT3) (xs:=([(ix g (ix ((ix g1.Nodes b).Args) Z))]:List Int)) (vs:=[(iv (ix g (ix ((ix g1.Nodes b).Args) Z)))]) 0 R R bI cB f' R R R R R R ?_ R (fun ar au=>?_)))
 exact fun I h s=>(fZ).list [((),(ix g (ix ((ix g1.Nodes b).Args) Z)))] I h s
 refine lN (OO kT3 3 ar au ([(ix g (ix ((ix g1.Nodes b).Args) Z))]:List Int)::cl aa (o93+b.toNat*6) [(iv (ix g1.Nodes b).Op),(sc (ad ag o101) ((ix g1.Nodes b).Args) a9),(sc ao ((ix g1.Nodes b).Dims) am),(sc aq ((ix g1.Nodes b).Ints) al),(aD (ix g1.Nodes b).Form),(sc ap ((ix g1.Nodes b).Data) aj)]::RR kT3 (ad ag o101) a9 ((ix g1.Nodes b).Args)::_::_::_::OO kT3 3 (ad b7 o104) j g::_::m) ?_
 refine lM (ow _ _ _ _::ow _ _ _ _::cl _ _ _::aN _ _ _::aN _ _ _::aN _ _ _::aN _ _ _::ow _ _ _ _::m) (fun w s=>(s.f 8 [7,1,0,7])) ?_
 refine eB (K:=kT3) 17592186044416 R R bI cB jZ (Zr.zk zT3 f') R R R R R R dM ai (fun ah ab=>(lN (OO kT3 3 ah ab (a0++([(ix g (ix ((ix g1.Nodes b).Args) Z))]:List Int))::_::_::_::_::_::_::m) ?_))
 refine lS R (aC (dY (aI (aE (lI R (lO (kW R R) (lI R (aC ?_))))))))
 obtain rfl:=so i
 exact qA (ah,(a0++([(ix g (ix ((ix g1.Nodes b).Args) Z))]:List Int)).length,ab) (fun w s=>(s.e 7 [6,0]))
 refine bM R a5 (hJ (eD ?_))
 obtain rfl:=so i
 obtain rfl:=be _ R
 have i:=ba
 refine eD (fX ?_)
 exact qI (a0,(b8,a0.length,b1)) i (fun w s=>(s.e 7 [5,6]))
 rintro ⟨l,⟨a3,aw,a2⟩⟩ σ1 i
 replace i:Zi_J2 g1 g b l=some a6:=i
 unfold Zi_J2 at i
 refine bJ 1 aB (fun (hn:aw=l.length)=>?_)
 subst hn
 obtain ⟨D,i⟩:=gd i
 obtain ⟨q,an,i⟩:=bd i
 obtain ⟨ak,i⟩:=gd i
 refine aE (lS R (lO (fP 0 l4 R) (lO (fW 2 r0 R R R) (lI R (bA 3 aA (show 0<g1.Nodes.length by have:=D; omega) (fun az o115 ha=>?_))))))
 subst ha
 refine lO (eL oy jE R R D) (gG (K:=dA) 3 b dT54.dec R D.1 D.2 ?_)
 rintro ⟨-,⟨L,T⟩,⟨M,G⟩,⟨E,O⟩,-,⟨U,Y⟩⟩
 refine lN (cl az (o115+b.toNat*6) [(iv (ix g1.Nodes b).Op),(sc L ((ix g1.Nodes b).Args) T),(sc M ((ix g1.Nodes b).Dims) G),(sc E ((ix g1.Nodes b).Ints) O),(aD (ix g1.Nodes b).Form),(sc U ((ix g1.Nodes b).Data) Y)]::RR kT3 L T ((ix g1.Nodes b).Args)::RR kT3 M G ((ix g1.Nodes b).Dims)::RR kT3 E O ((ix g1.Nodes b).Ints)::RR kT3 U Y ((ix g1.Nodes b).Data)::OO kT3 3 u j g::OO kT3 3 a3 a2 l::m) ?_
 refine lO (vz (.agg [(iv (ix g1.Nodes b).Op),(sc L ((ix g1.Nodes b).Args) T),(sc M ((ix g1.Nodes b).Dims) G),(sc E ((ix g1.Nodes b).Ints) O),(aD (ix g1.Nodes b).Form),(sc U ((ix g1.Nodes b).Data) Y)].toArray) (eE (fo:=0) 0 oz jE R R R R)) (lS R (lM (ow _ _ _ _::aN _ _ _::aN _ _ _::aN _ _ _::aN _ _ _::cl _ _ _::aN _ _ _::aN _ _ _::aN _ _ _::aN _ _ _::ow _ _ _ _::m) (fun w s=>(((((s.d 1 R).d 3 R).d 5 R).d 7 R).e 11 [10,3,2,1,0,4,5,6,7,8,9])) ?_))
 refine lC 5 Bk R (FnOk.lends (A':=[OO kT3 3 a3 a2 l]) (A:=[RR kT3 a3 a2 l]) (B:=[RR kT3 L T ((ix g1.Nodes b).Args),RR kT3 M G ((ix g1.Nodes b).Dims),RR kT3 E O ((ix g1.Nodes b).Ints),RR kT3 U Y ((ix g1.Nodes b).Data)]) (FnOk.perm (Z4_ok an) (Pre':=[RR kT3 a3 a2 l,RR kT3 L T ((ix g1.Nodes b).Args),RR kT3 M G ((ix g1.Nodes b).Dims),RR kT3 E O ((ix g1.Nodes b).Ints),RR kT3 U Y ((ix g1.Nodes b).Data)]) (fun _ _ _ s=>(s.f 5 [1,4,0,1]))) ⟨aV,trivial⟩ (fun _=>trivial)) R ?_
 rintro _
 refine lN (_::_::_::_::_::_::_::m) ?_
 refine bK (K:=kT3) (xs:=([q]:List Int)) (vs:=[(iv q)]) 0 R R bI cB f' R R R R R R ?_ R (fun b5 b6=>?_)
 exact fun I h s=>(fZ).list [((),q)] I h s
 refine lN (OO kT3 3 b5 b6 ([q]:List Int)::_::_::_::_::_::_::_::m) ?_
 refine lM (ow _ _ _ _::ow _ _ _ _::ow _ _ _ _::cl _ _ _::aN _ _ _::aN _ _ _::aN _ _ _::aN _ _ _::m) (fun w s=>(s.f 8 [7,1,0,7])) ?_
 refine eB (K:=kT3) 17592186044416 R R bI cB jZ (Zr.zk zT3 f') R R R R R R dM ak (fun ae ac=>(lN (OO kT3 3 ae ac (g++([q]:List Int))::_::_::_::_::_::_::m) ?_))
 refine lS R (aC (dY (aI (aE (lI R (lO (kW R R) (lI R (aC ?_))))))))
 obtain rfl:=so i
 exact qA (ae,(g++([q]:List Int)).length,ac) (fun w s=>(s.e 7 [0]))
 refine bM R a8 (hJ (eD ?_))
 obtain rfl:=so i
 obtain rfl:=bg _ R
 have i:=bh
 refine eD (fX ?_)
 exact qI (g,(u,g.length,j)) i (fun w s=>s)
 rintro ⟨a4,⟨b9,b3,b2⟩⟩ σ1 i
 replace i:Zi_J3 a4=some r:=i
 unfold Zi_J3 at i
 refine bJ 0 aB (fun (hn:b3=a4.length)=>?_)
 subst hn
 refine aO (aE (lS R (lS R (aC (aI (bY ?_))))))
 obtain rfl:=so i
 exact qF (b9,a4.length,b2) (fun w s=>(s.e 4 [0]))
end Go.Proofs.YtmpnollfdpdipaaGreat
