import Derived.Test.YtmpnollfdpdipaaGreatGkF
import Derived.Test.YtmpnollfdpdipaaGreatGkW2
import Derived.Test.YtmpnollfdpdipaaGreatGkW3
set_option linter.unusedVariables false
set_option maxRecDepth 20000
namespace Go.Proofs.YtmpnollfdpdipaaGreat
open Go Go.Pg
variable {A2 A3 A4 A5 A7:Option Addr}{D2 D3 D4 D5 D7 N2 N3 N4 N5 N7:Nat}
theorem Z09_ok  {v1:View}{g:Int}{b:Int}{l:Int}{r:View}(q:Z09 v1 g b l=some r) :
 FnOk Tryz.prog 90 [(.agg [(.slice A2 N2 D2),(.slice A3 N3 D3),(iv v1.Offset),(iv v1.Base)].toArray),(iv g),(iv b),(iv l)] [aO kT3 (.slice A2 N2 D2) v1.Dims,aO kT3 (.slice A3 N3 D3) v1.Strides] (fun (h:HH×HH)=>((.agg [(.slice h.1.1 h.1.2.1 h.1.2.2),(.slice h.2.1 h.2.2.1 h.2.2.2),(iv r.Offset),(iv r.Base)].toArray),[aO kT3 (.slice h.1.1 h.1.2.1 h.1.2.2) r.Dims,aO kT3 (.slice h.2.1 h.2.2.1 h.2.2.2) r.Strides])):=by
 unfold Z09 at q
 refine aQ Tryz.func90 R 85 R R fun C V=>?_
 refine cN (_::_::V) ?_
 refine cL 0 aA ?_
 rintro rfl
 refine cL 1 aA ?_
 rintro rfl
 let W0:List HP:=RR kT3 A2 D2 v1.Dims::RR kT3 A3 D3 v1.Strides::V
 refine cN W0 ?_
 refine aN (aE (eG R (fun b7=>(bE R R cW (fun b8=>(aC ?_))))))
 let E:List HP:=aJ b7 [(sc A2 v1.Dims D2),(sc A3 v1.Strides D3),(iv v1.Offset),(iv v1.Base)] 96::W0
 refine qN (_::E) ?_
 refine aI (aN (aN ?_))
 obtain ⟨r9,am,q⟩:=bd q
 obtain ⟨a5,q⟩:=gd q
 refine cQ [(1,(iv g)),(2,(iv b)),(3,(iv l)),(4,(pt b7 0)),(8,(pt b8 0)),(32,(.bool ((((!r9)||(decide (b<(1:Int))))||(decide (l<(1:Int))))||(decide (b>(ix v1.Dims g))))))] (aJ b8 [(.slice none 0 0),(.slice none 0 0),(iv 0),(iv 0)] 96::E) ?_ ?_
 refine aE (lO (vz (.agg [(sc A2 v1.Dims D2),(sc A3 v1.Strides D3),(iv v1.Offset),(iv v1.Base)].toArray) (dT 1 gC cF R R R R)) (lI R (lM (RR kT3 A2 D2 v1.Dims::RR kT3 A3 D3 v1.Strides::aJ _ _ _::E) (fun w s=>(((s.d 2 R).d 4 R).e 3 [1,0,2])) ?_)))
 refine lC 2 vr R (Z28_ok am) R ?_
 rintro _
 refine lN (_::E) ?_
 refine lO (rt R) (lB R ?_)
 rcases bo (!r9) with m | m
 refine lf (dV m) (lf (dV m) (lO (fC (decide (b<(1:Int))) R m) (lB R (lf (dV (oT m)) (lf (dV (oT m)) (lO (fC (decide (l<(1:Int))) R (oT m)) (lB R (lf (dV (oT (oT m))) (lf (dV (oT (oT m))) (lf (dV (oT (oT m))) (lf (dV (oT (oT m))) (lf (dV (oT (oT m))) (lf (dV (oT (oT m))) (lf (dV (oT (oT m))) (lO (fC (decide (b>(ix v1.Dims g))) R (oT (oT m))) (aC ?_))))))))))))))))
 exact qJ (fun w s=>s)
 refine lW (bY m) (vI R) (lW (bY m) (nS R R) (lO (fR R m R) (lB R ?_)))
 rcases bo ((!r9)||(decide (b<(1:Int)))) with u | u
 refine lf (dV u) (lf (dV u) (lO (fC (decide (l<(1:Int))) R u) (lB R (lf (dV (oT u)) (lf (dV (oT u)) (lf (dV (oT u)) (lf (dV (oT u)) (lf (dV (oT u)) (lf (dV (oT u)) (lf (dV (oT u)) (lO (fC (decide (b>(ix v1.Dims g))) R (oT u)) (aC ?_))))))))))))
 exact qJ (fun w s=>s)
 refine lW (bY u) (vI R) (lW (bY u) (nS R R) (lO (fR R u R) (lB R ?_)))
 rcases bo (((!r9)||(decide (b<(1:Int))))||(decide (l<(1:Int)))) with j | j
 refine lf (dV j) (lf (dV j) (lf (dV j) (lf (dV j) (lf (dV j) (lf (dV j) (lf (dV j) (lO (fC (decide (b>(ix v1.Dims g))) R j) (aC ?_))))))))
 exact qJ (fun w s=>s)
 refine lW (bY j) (vI R) (lW (bY j) (fZ 0 gD R) (lW (bY j) (gI 1 cH R R R) (lW (bY j) (vI R) (bD 2 aA (show 0<v1.Dims.length by have:=(a5 j); omega) (fun b0 o13 ha=>?_)))))
 subst ha
 refine lW (bY j) (eN bL cE R R (a5 j)) (lW (bY j) (gY 2 fS aA R (a5 j)) (lW (bY j) (y6 R R) (lO (fR R j R) (aC ?_))))
 exact qJ (fun w s=>s)
 rintro σ1
 refine aI ?_
 rcases cK q with ⟨a2,q⟩|⟨a2,q⟩
 refine cC R a2 (aN (aE (lO (vz (.agg [(.slice none 0 0),(.slice none 0 0),(iv 0),(iv 0)].toArray) (aV fD cW R R)) (aK 0 R R cF R R R R R R (aC (aI (bV (cD ?_))))))))
 obtain rfl:=so q
 exact dF (vs:=[(.agg [(.slice none 0 0),(.slice none 0 0),(iv 0),(iv 0)].toArray)]) (.inl R) ((none,0,0),(none,0,0)) R ⟨⟨0,b8,_,_,R,R,.inl ⟨gC,cF,R⟩⟩,trivial⟩ R (fun w s=>(((s.nilr kT3).nilr kT3).e 6 [1,0]))
 refine bM R a2 (dI (aI (aN ?_)))
 obtain ⟨i,al,q⟩:=bd q
 refine aE (lO (vz (.agg [(sc A2 v1.Dims D2),(sc A3 v1.Strides D3),(iv v1.Offset),(iv v1.Base)].toArray) (dT 1 gC cF R R R R)) (lM (RR kT3 A2 D2 v1.Dims::RR kT3 A3 D3 v1.Strides::aJ _ _ _::E) (fun w s=>(((s.d 2 R).d 4 R).e 3 [1,0,2])) ?_))
 refine lC 2 vt R (Z2a_ok al) R ?_
 rintro ⟨⟨ak,ax,O⟩,⟨ah,az,D⟩⟩
 refine lN (ow kT3 3 (.slice ak ax O) i.Dims::ow kT3 3 (.slice ah az D) i.Strides::_::E) ?_
 refine aL 0 aB ?_
 rintro rfl
 refine aL 1 aB ?_
 rintro rfl
 refine bE R R cW (fun T=>(aK 0 R R cF R R R R R R (lN (aJ T [(sc ak i.Dims O),(sc ah i.Strides D),(iv i.Offset),(iv i.Base)] 96::_::_::_::E) ?_)))
 refine aC (aI (aN ?_))
 obtain ⟨a1,q⟩:=gd q
 obtain ⟨ai,q⟩:=gd q
 refine aE (lO (fZ 0 gD R) (lO (gI 4 cH R R R) (lI R (bD 5 aA (show 0<v1.Dims.length by have:=a1; omega) (fun b1 o25 ha=>?_)))))
 subst ha
 refine lO (eN bL cE R R a1) (lO (gY 5 fS aA R a1) (lI R (lO (wg R R) (lI R (lO (vz (iv (aH ((aH ((ix v1.Dims g) - b)).tdiv l))) (mi R R ai)) (lO (lq R R) (lI R (aC (aI (aN ?_))))))))))
 obtain ⟨a6,q⟩:=gd q
 refine aE (lO (fZ 1 fW R) (lO (gI 4 cH R R R) (lI R (bD 6 aA (show 0<v1.Strides.length by have:=a6; omega) (fun b2 o29 ha=>?_)))))
 subst ha
 refine lO (eN bL cE R R a6) (lO (gY 6 fS aA R a6) (lI R (aC (aI (aN ?_)))))
 obtain ⟨a0,q⟩:=gd q
 refine aE (lO (fZ 0 gD R) (lO (gI 0 cH R R R) (lI R (lI R (bD 1 aB (show 0<i.Dims.length by have:=a0; omega) (fun Z o32 ha=>?_))))))
 subst ha
 refine lO (eN bL cE R R a0) (lM (OO kT3 3 (ad Z o32) O i.Dims::aJ T [(sc (ad Z o32) i.Dims O),(sc ah i.Strides D),(iv i.Offset),(iv i.Base)] 96::ow _ _ _ _::aJ _ _ _::E) (fun w s=>(s.e 4 [1,0,2,3])) ?_)
 refine dX (K:=kT3) (x':=(aH ((aH ((aH ((ix v1.Dims g) - b)).tdiv l))+(1:Int)))) 0 g R R cE R R a0.1 a0.2 ?_ ?_
 exact fun I h s=>(gJ).put I h () (aH ((aH ((aH ((ix v1.Dims g) - b)).tdiv l))+(1:Int))) s
 refine lN (ow kT3 3 (.slice (ad Z o32) i.Dims.length O) (i.Dims.set g.toNat (aH ((aH ((aH ((ix v1.Dims g) - b)).tdiv l))+(1:Int))))::_::_::_::E) ?_
 refine aC ?_
 obtain ⟨B,a3,q⟩:=bd q
 replace a3:=Option.some.inj a3
 refine qM (ow kT3 3 (.slice (ad Z o32) i.Dims.length O) B::_::_::_::E) (fun w s=>by rw [← a3]; exact s) ?_
 refine aI (aN ?_)
 obtain ⟨M,q⟩:=gd q
 refine aE (lO (fZ 1 fW R) (lO (gI 1 cH R R R) (lI R (bD 2 aB (show 0<i.Strides.length by have:=M; omega) (fun L o37 ha=>?_)))))
 subst ha
 refine lO (eN bL cE R R M) (lM (OO kT3 3 (ad L o37) D i.Strides::ow _ _ _ _::aJ T [(sc (ad Z o32) i.Dims O),(sc (ad L o37) i.Strides D),(iv i.Offset),(iv i.Base)] 96::aJ _ _ _::E) (fun w s=>(s.e 4 [2,0,1,3])) ?_)
 refine dX (K:=kT3) (x':=(0:Int)) 0 g R R cE R R M.1 M.2 ?_ ?_
 exact fun I h s=>(gJ).put I h () (0:Int) s
 refine lN (ow kT3 3 (.slice (ad L o37) i.Strides.length D) (i.Strides.set g.toNat (0:Int))::_::_::_::E) ?_
 refine aC (aI (aN (bB (A:=((List Int))×(Unit)) (fun a=>Z09_J1 v1 g b i B a.1=some r) (fun a=>[(2,(iv b)),(8,(pt b8 0)),(9,(pt T 0)),(11,(iv (ix v1.Strides g)))]) (fun a=>aJ b8 [(.slice none 0 0),(.slice none 0 0),(iv 0),(iv 0)] 96::aJ T [(sc (ad Z o32) i.Dims O),(sc (ad L o37) i.Strides D),(iv i.Offset),(iv i.Base)] 96::ow kT3 3 (.slice (ad Z o32) i.Dims.length O) B::ow kT3 3 (.slice (ad L o37) i.Strides.length D) a.1::E) ?_ ?_)))
 refine aN (aE (lI R (lO (y6 R R) (aC (aI ?_)))))
 rcases cK q with ⟨a9,q⟩|⟨a9,q⟩
 refine cC R a9 (aE (lO (fZ 1 fW R) (lO (gI 2 cH R R R) (lI R (lI R (lI R (lO (rr R R) (lO (eN bL cE R R M) (dX (K:=kT3) (x':=(aH ((ix v1.Strides g)*l))) 0 g R R cE R R M.1 M.2 ?_ ?_)))))))))
 exact fun I h s=>(gJ).put I h () (aH ((ix v1.Strides g)*l)) s
 refine lN (ow kT3 3 (.slice (ad L o37) i.Strides.length D) ((i.Strides.set g.toNat (0:Int)).set g.toNat (aH ((ix v1.Strides g)*l)))::_::_::_::E) ?_
 refine aC ?_
 obtain ⟨ao,a7,q⟩:=bd q
 replace a7:=Option.some.inj a7
 refine qM (ow kT3 3 (.slice (ad L o37) i.Strides.length D) ao::_::_::_::E) (fun w s=>by rw [← a7]; exact s) ?_
 exact qI (ao,()) q (fun w s=>(s.e 4 [3,2,1,0]))
 refine bM R a9 (dI ?_)
 exact qI ((i.Strides.set g.toNat (0:Int)),()) q (fun w s=>(s.e 4 [3,2,1,0]))
 rintro ⟨G,_⟩ σ1 q
 replace q:Z09_J1 v1 g b i B G=some r:=q
 unfold Z09_J1 at q
 refine aN ?_
 obtain ⟨ap,q⟩:=gd q
 refine aE (lO (fZ 0 gD R) (lO (gI 1 cH R R R) (lI R (bK (K:=kT3) (xs:=([b]:List Int)) (vs:=[(iv b)]) 0 R R bL cE gZ R R R R R R ?_ R (fun ar av=>?_)))))
 exact fun I h s=>(gJ).list [((),b)] I h s
 refine lN (OO kT3 3 ar av ([b]:List Int)::_::_::_::ow kT3 3 (.slice (ad L o37) i.Strides.length D) G::E) ?_
 refine lM (ow _ _ _ _::ow _ _ _ _::aJ _ _ _::aJ _ _ _::ow _ _ _ _::E) (fun w s=>(s.e 5 [3,0,1,2,4])) ?_
 refine eF (K:=kT3) 17592186044416 R R bL cE kv (Zr.zk zT3 gZ) R R R R R R dO ap (fun Y U=>(lN (OO kT3 3 Y U (B++([b]:List Int))::_::_::_::E) ?_))
 refine lO (fZ 0 gD R) (cR 2 R R eZ R R R R R (lN (_::_::aJ T [(sc Y (B++([b]:List Int)) U),(sc (ad L o37) i.Strides D),(iv i.Offset),(iv i.Base)] 96::_::E) ?_))
 refine aC (aI (aN (bB (A:=(Int)×(Unit)) (fun a=>Z09_J2 b i B G a.1=some r) (fun a=>[(8,(pt b8 0)),(9,(pt T 0)),(11,(iv a.1))]) (fun a=>aJ b8 [(.slice none 0 0),(.slice none 0 0),(iv 0),(iv 0)] 96::aJ T [(sc Y (B++([b]:List Int)) U),(sc (ad L o37) i.Strides D),(iv i.Offset),(iv i.Base)] 96::OO kT3 3 Y U (B++([b]:List Int))::ow kT3 3 (.slice (ad L o37) i.Strides.length D) G::E) ?_ ?_)))
 refine aN (aE (lI R (lO (lA R R) (aC (aI ?_)))))
 rcases cK q with ⟨a8,q⟩|⟨a8,q⟩
 refine cC R a8 (aE (lI R (aC ?_)))
 exact qI ((0:Int),()) q (fun w s=>(s.e 4 [1,2,0,3]))
 refine bM R a8 (dI ?_)
 exact qI ((ix v1.Strides g),()) q (fun w s=>(s.e 4 [1,2,0,3]))
 rintro ⟨J,_⟩ σ1 q
 replace q:Z09_J2 b i B G J=some r:=q
 unfold Z09_J2 at q
 refine aN ?_
 obtain ⟨an,q⟩:=gd q
 refine aE (lO (fZ 1 fW R) (lO (gI 1 cH R R R) (lI R (bK (K:=kT3) (xs:=([J]:List Int)) (vs:=[(iv J)]) 0 R R bL cE gZ R R R R R R ?_ R (fun aq ay=>?_)))))
 exact fun I h s=>(gJ).list [((),J)] I h s
 refine lN (OO kT3 3 aq ay ([J]:List Int)::_::_::_::_::E) ?_
 refine lM (ow _ _ _ _::ow _ _ _ _::aJ _ _ _::aJ _ _ _::ow _ _ _ _::E) (fun w s=>(s.f 5 [4,1,0,4])) ?_
 refine eF (K:=kT3) 17592186044416 R R bL cE kv (Zr.zk zT3 gZ) R R R R R R dO an (fun aa a4=>(lN (OO kT3 3 aa a4 (G++([J]:List Int))::_::_::_::E) ?_))
 refine lO (fZ 1 fW R) (cR 2 R R eZ R R R R R (lN (_::_::aJ T [(sc Y (B++([b]:List Int)) U),(sc aa (G++([J]:List Int)) a4),(iv i.Offset),(iv i.Base)] 96::_::E) ?_))
 refine aC (aI (aN ?_))
 obtain ⟨F,aj,q⟩:=bd q
 refine aE (lO (vz (.agg [(sc Y (B++([b]:List Int)) U),(sc aa (G++([J]:List Int)) a4),(iv i.Offset),(iv i.Base)].toArray) (dT 2 gC cF R R R R)) (iE (fun w s=>s.shr 3 R) (iE (fun w s=>s.shr 1 R) (lM (RR kT3 Y U (B++([b]:List Int))::RR kT3 aa a4 (G++([J]:List Int))::RR kT3 aa a4 (G++([J]:List Int))::RR kT3 Y U (B++([b]:List Int))::aJ _ _ _::aJ _ _ _::E) (fun w s=>(((s.d 1 R).d 1 R).e 6 [1,0,2,3,4,5])) ?_))))
 refine lC 2 vu R (Z2b_ok (v1:=(⟨(B++([b]:List Int)),(G++([J]:List Int)),i.Offset,i.Base⟩:View)) aj) R ?_
 rintro ⟨⟨ab,aw,ae⟩,⟨ac,au,ag⟩⟩
 refine lN (aO kT3 (.slice ab aw ae) F.Dims::aO kT3 (.slice ac au ag) F.Strides::_::_::_::_::E) ?_
 refine aL 0 aA ?_
 rintro rfl
 refine aL 1 aA ?_
 rintro rfl
 refine aK 4 R R cF R R R R R R (lN (_::_::_::_::aJ b8 [(sc ab F.Dims ae),(sc ac F.Strides ag),(iv F.Offset),(iv F.Base)] 96::_::E) ?_)
 refine aC (aI (bV ?_))
 obtain rfl:=so q
 exact dF (vs:=[(.agg [(sc ab F.Dims ae),(sc ac F.Strides ag),(iv F.Offset),(iv F.Base)].toArray)]) (.inl R) ((ab,F.Dims.length,ae),(ac,F.Strides.length,ag)) R ⟨⟨4,b8,_,_,R,R,.inl ⟨gC,cF,R⟩⟩,trivial⟩ R (fun w s=>(s.e 9 [0,1]))
theorem Z0r_ok  {t1:Tensor}{i:Int}{j:Int}{I:Int}{r:Tensor}(b:Z0r t1 i j I=some r) :
 FnOk Tryz.prog 91 [(.agg [(.slice A2 N2 D2),(.slice A3 N3 D3)].toArray),(iv i),(iv j),(iv I)] [aO kT3 (.slice A2 N2 D2) t1.Dims,aO kT3 (.slice A3 N3 D3) t1.Data] (fun (h:HH×HH)=>((.agg [(s3 h.1),(s3 h.2)].toArray),[ow kT3 3 (s3 h.1) r.Dims,ow kT3 3 (s3 h.2) r.Data])):=by
 unfold Z0r at b
 refine aQ Tryz.func91 R 118 R R fun C V=>?_
 refine cL 0 aA ?_
 rintro rfl
 refine cL 1 aA ?_
 rintro rfl
 let W0:=RR kT3 A2 D2 t1.Dims::RR kT3 A3 D3 t1.Data::V
 refine cN W0 ?_
 refine aU ?_
 refine eG R fun b7=>?_
 refine bE R R dP (fun L=>(aC ?_))
 let T:=aJ b7 [(sc A2 t1.Dims D2),(sc A3 t1.Data D3)] 58::W0
 refine iG ?_
 obtain ⟨Y,a9,b⟩:=bd b
 refine cQ [(1,(iv i)),(2,(iv j)),(3,(iv I)),(4,(pt b7 0)),(8,(pt L 0)),(9,(iv (aH ((t1.Dims.length:Int) - 1)))),(40,(.bool (((((!Y)||(i==(aH ((t1.Dims.length:Int) - 1))))||(decide (j<1)))||(decide (I<1)))||(decide (I>4096)))))] (aJ L [(.slice none 0 0),(.slice none 0 0)] 58::T) ?_ ?_
 refine aP ?_
 refine lM _ (fun w s=>(((s.d 2 R).d 4 R).e 3 [1,0,2])) ?_
 refine lC 2 oq R (Z1g_ok a9) R ?_
 rintro _
 refine aU ?_
 rcases bo (!Y) with aa | aa
 refine qG ?_
 exact qj tI
 refine b' ?_
 rcases bo ((!Y)||(i==(aH ((t1.Dims.length:Int) - 1)))) with ag | ag
 refine iG ?_
 exact qj tI
 refine bG ?_
 rcases bo (((!Y)||(i==(aH ((t1.Dims.length:Int) - 1))))||(decide (j<1))) with ac | ac
 refine cV ?_
 exact qj tI
 refine bG ?_
 rcases bo ((((!Y)||(i==(aH ((t1.Dims.length:Int) - 1))))||(decide (j<1)))||(decide (I<1))) with ai | ai
 refine bG ?_
 exact qj tI
 refine bG ?_
 exact qj tI
 rintro σ1
 refine bR ?_
 split at b
 refine aP ?_
 refine lO (vz (.agg [(.slice none 0 0),(.slice none 0 0)].toArray) (aV gK dP R R)) (aK 0 R R bQ R R R R R R (aC (aI (bV (cD ?_)))))
 cases b
 exact qS ((none,0,0),(none,0,0)) (fun w s=>(((s.nilo kT3 3).nilo kT3 3).e 6 [1,0]))
 refine bG ?_
 obtain ⟨ak,b⟩:=gd b
 refine bG ?_
 refine bD 2 aA (show 0<t1.Dims.length by have:=ak; omega) (fun b4 o18 ha=>?_)
 subst ha
 refine dH ?_
 obtain ⟨a0,b⟩:=gd b
 obtain ⟨M,b⟩:=gd b
 refine cQ [(1,(iv i)),(2,(iv j)),(3,(iv I)),(4,(pt b7 0)),(8,(pt L 0)),(9,(iv (aH ((t1.Dims.length:Int) - 1)))),(63,(.bool ((decide ((ix t1.Dims (aH ((t1.Dims.length:Int) - 1)))>I))||((aH ((aH ((aH (I - (ix t1.Dims (aH ((t1.Dims.length:Int) - 1))))).tdiv j))+1)) != (ix t1.Dims i)))))] (aJ L [(.slice none 0 0),(.slice none 0 0)] 58::T) ?_ ?_
 rcases bo (decide ((ix t1.Dims (aH ((t1.Dims.length:Int) - 1)))>I)) with l | l
 refine dC 17 [] bO fun ht hn=>?_
 refine yf 0 [] ?_
 refine dD ?_
 exact qj tI
 refine dC 17 [] bO fun ht hn=>?_
 refine ua 0 [] ?_
 refine dW 8 R (bY l) (vz (iv (aH ((aH (I - (ix t1.Dims (aH ((t1.Dims.length:Int) - 1))))).tdiv j))) (mi R R (a0 l))) ?_
 refine og 9 [] ?_
 refine dW 13 R (bY l) (eN bL cE R R (M l)) (dW 14 R (bY l) (gY 2 fS aA R (M l)) ?_)
 refine gO 15 [] ?_
 refine dD ?_
 exact qj tI
 rintro σ1
 refine bR ?_
 split at b
 refine aP ?_
 refine lO (vz (.agg [(.slice none 0 0),(.slice none 0 0)].toArray) (aV gK dP R R)) (aK 0 R R bQ R R R R R R (aC (aI (bV (cD ?_)))))
 cases b
 exact qS ((none,0,0),(none,0,0)) (fun w s=>(((s.nilo kT3 3).nilo kT3 3).e 6 [1,0]))
 refine bG ?_
 obtain ⟨ay,al,b⟩:=bd b
 obtain ⟨F,b⟩:=gd b
 refine b' ?_
 refine lM _ (fun w s=>(s.d 2 R)) ?_
 refine lC 1 kG R (Z0f_ok al) R ?_
 rintro ⟨bb,be,ar⟩
 refine aL 0 aB ?_
 rintro rfl
 refine lI R (iE (fun w s=>s.shr 0 R) (fY (K:=kT3) (0:Int) (aH ((t1.Dims.length:Int) - 1)) 0 R R bL cE R R R R F.1 F.2.1 F.2.2 (fun b6 b2=>(lS R (aC (aI (aN (aN ?_))))))))
 obtain ⟨az,a7,b⟩:=bd b
 refine aU ?_
 refine lM _ (fun w s=>(s.d 0 R)) ?_
 refine lC 1 k9 R (Zm_ok a7) R ?_
 rintro _
 refine aP ?_
 split at b
 refine aP ?_
 refine lO (vz (.agg [(.slice none 0 0),(.slice none 0 0)].toArray) (aV gK dP R R)) (aK 2 R R bQ R R R R R R (aC (aI (bV (cD ?_)))))
 cases b
 exact qS ((none,0,0),(none,0,0)) (fun w s=>(((s.nilo kT3 3).nilo kT3 3).e 8 [1,0]))
 refine bG ?_
 obtain ⟨g,ah,b⟩:=bd b
 refine aU ?_
 refine lM _ (fun w s=>(s.d 0 R)) ?_
 refine lC 1 nz R (Z0e_ok ah) R ?_
 rintro ⟨⟨D,bc,q⟩,⟨u,ax,m⟩⟩
 refine aL 0 aB ?_
 rintro rfl
 refine aL 1 aB ?_
 rintro rfl
 refine bE R R dP (fun G=>(aK 0 R R bQ R R R R R R (lN (aJ G [(sc D g.Dims q),(sc u g.Data m)] 58::_::_::_::_::_::T) ?_)))
 refine aP ?_
 refine bB (A:=((List Int))×(Unit)) (fun a=>Z0r_J1 g a.1=some r) (fun a=>[(8,(pt L 0)),(12,(pt G 0))]) (fun a=>aJ L [(.slice none 0 0),(.slice none 0 0)] 58::aJ G [(sc D g.Dims q),(sc u g.Data m)] 58::OO kT3 3 D q g.Dims::ow kT3 3 (.slice u g.Data.length m) a.1::T) ?_ ?_
 refine bS ?_
 obtain ⟨e1,an,am⟩:=bd b
 refine bC (A:=Unit) an (fun s a=>[(1,(iv i)),(2,(iv j)),(4,(pt b7 0)),(8,(pt L 0)),(9,(iv (aH ((t1.Dims.length:Int) - 1)))),(12,(pt G 0)),(13,(iv s.2))]) (fun s a=>aJ L [(.slice none 0 0),(.slice none 0 0)] 58::aJ G [(sc D g.Dims q),(sc u g.Data m)] 58::OO kT3 3 D q g.Dims::ow kT3 3 (.slice u g.Data.length m) s.1::T) () (aS R) (tE 6 [5,0,1,2]) ?_
 rintro ⟨E,b0⟩ _ σ1 aq b ao
 dsimp only [Z0r_L1] at b
 refine cT ?_
 split at b
 refine bS ?_
 obtain ⟨O,U,b⟩:=bd b
 refine bG ?_
 refine lM _ (fun w s=>(s.d 5 R)) ?_
 refine lC 1 lr R (Zh_ok U) R ?_
 rintro ⟨au,b5,a6⟩
 refine aL 0 aB ?_
 rintro rfl
 refine bG ?_
 obtain ⟨a5,b⟩:=gd b
 obtain ⟨_,b⟩:=gd b
 obtain ⟨a1,aj,b⟩:=bd b
 obtain ⟨J,b⟩:=gd b
 refine aZ 0 aB (show 0<O.length by have:=a5; omega) (fun a3 o66 ha=>?_)
 subst ha
 refine dC 17 [] bO fun ht hn=>?_
 refine mr 0 [] ?_
 refine dR 14 R (vI R) (d1 13 R (lC 1 kG R (FnOk.lends (A':=[OO kT3 3 (ad a3 o66) a6 O]) (A:=[RR kT3 (ad a3 o66) a6 O]) (B:=[]) (Z0f_ok aj) ⟨aY,trivial⟩ (fun _=>⟨(bH j0),trivial⟩)) R ?_))
 rintro ⟨aw,b3,ba⟩
 refine aL 1 aB ?_
 rintro rfl
 refine aC (aG (sL [1]) (d1 15 R (iE (fun w s=>s.shr 1 R) (fY (K:=kT3) (0:Int) (aH ((t1.Dims.length:Int) - 1)) 0 R R bL cE R R R R J.1 J.2.1 J.2.2 (fun ae a8=>(aC (aG (sL [1,0]) (dR 16 R (vS R) (hS:=(sL [1,0])) (dD (aI ?_))))))))))
 obtain ⟨av,Z,b⟩:=bd b
 obtain ⟨a4,b⟩:=gd b
 obtain ⟨b9,a2,b⟩:=bd b
 obtain ⟨b1,ab,b⟩:=bd b
 refine aZ 9 aA (show 0<t1.Data.length by have:=a4; omega) (fun bf o77 ha=>?_)
 subst ha
 refine dC 12 [6] bO fun ht hn=>?_
 refine og 0 [6] ?_
 refine kh 5 [6] ?_
 refine d1 4 R (lM _ (fun w s=>((s.d 0 R).f 8 [6,2,0,6])) ?_)
 refine lC 3 n0 R (FnOk.lends (A':=[OO kT3 3 D q g.Dims,ow kT3 3 (.slice u g.Data.length m) E]) (A:=[RR kT3 D q g.Dims,aO kT3 (.slice u g.Data.length m) E]) (B:=[RR kT3 ae a8 (sub a1 (0:Int) (aH ((t1.Dims.length:Int) - 1)))]) (Z16_ok (t1:=(⟨g.Dims,E⟩:Tensor)) Z) ⟨aY,aY,trivial⟩ (fun _=>trivial)) R ?_
 rintro _
 refine aC (aG (fun w s=>(s.f 7 [2,5,0,1])) (d1 10 R (lC 0 pU R (Z1m_ok a2) R ?_)))
 rintro _
 refine aC (aG (fun w s=>(s.f 7 [2,5,0,1])) (d1 11 R (lM _ (fun w s=>((s.d 2 R).f 8 [1,2,0,1,3,5])) ?_)))
 refine lC 3 sq R (FnOk.lends (A':=[OO kT3 3 D q g.Dims]) (A:=[RR kT3 D q g.Dims]) (B:=[ow kT3 3 (.slice u g.Data.length m) E,RR kT3 ae a8 (sub a1 (0:Int) (aH ((t1.Dims.length:Int) - 1)))]) (Z1u_ok (t1:=(⟨g.Dims,E⟩:Tensor)) ab) ⟨aY,trivial⟩ (fun _=>⟨(bH j0),trivial⟩)) R ?_
 rintro _
 refine aC (aG (fun w s=>(s.f 7 [2,5,0,1])) (dD ?_))
 refine dH ?_
 cases b
 exact qA () (tE 7 [5,6,0,1])
 refine aP ?_
 cases b
 obtain rfl:=ao _ R
 have b:=am
 refine aU ?_
 exact qI (E,()) b tI
 rintro ⟨ap,_⟩ σ1 b
 dsimp only [Z0r_J1] at b
 refine aP ?_
 refine aK 0 R R bQ R R R R R R (lN (aJ L [(sc D g.Dims q),(sc u g.Data m)] 58::_::_::ow kT3 3 (.slice u g.Data.length m) ap::T) ?_)
 refine aP ?_
 cases b
 exact qS ((D,g.Dims.length,q),(u,g.Data.length,m)) (tE 7 [2,3])
theorem Z1_ok  {j:Node}{g:(List Tensor)}{r:Tensor}(b:Z1 j g=some r) :
 FnOk Tryz.prog 53 [(.agg [(iv j.Op),(.slice A2 N2 D2),(.slice A3 N3 D3),(.slice A4 N4 D4),(aD j.Form),(.slice A5 N5 D5)].toArray),(.slice A7 N7 D7)] [aO kT3 (.slice A2 N2 D2) j.Args,aO kT3 (.slice A3 N3 D3) j.Dims,aO kT3 (.slice A4 N4 D4) j.Ints,aO kT3 (.slice A5 N5 D5) j.Data,aO dK (.slice A7 N7 D7) g] (fun (h:HH×HH)=>((.agg [(.slice h.1.1 h.1.2.1 h.1.2.2),(.slice h.2.1 h.2.2.1 h.2.2.2)].toArray),[ow kT3 3 (.slice h.1.1 h.1.2.1 h.1.2.2) r.Dims,ow kT3 3 (.slice h.2.1 h.2.2.1 h.2.2.2) r.Data])):=by
 unfold Z1 at b
 refine aQ Tryz.func53 R 217 R R fun C V=>?_
 refine cN (_::_::_::_::_::V) ?_
 refine cL 0 aA ?_
 rintro rfl
 refine cL 1 aA ?_
 rintro rfl
 refine cL 2 aA ?_
 rintro rfl
 refine cL 3 aA ?_
 rintro rfl
 refine cL 4 aA ?_
 rintro rfl
 let W0:List HP:=RR kT3 A2 D2 j.Args::RR kT3 A3 D3 j.Dims::RR kT3 A4 D4 j.Ints::RR kT3 A5 D5 j.Data::RR dK A7 D7 g::V
 refine cN W0 ?_
 refine aN (aE (eG R (fun b8=>(bE R R dP (fun l=>(aC ?_))))))
 let i:List HP:=aJ b8 [(iv j.Op),(sc A2 j.Args D2),(sc A3 j.Dims D3),(sc A4 j.Ints D4),(aD j.Form),(sc A5 j.Data D5)] 54::W0
 refine qN (_::i) ?_
 refine aI (aN (aE (lO (fZ 3 gQ R) (lO (gI 1 cH R R R) (lS R (aC (aI (aN (aN (aE (lO (fZ 0 jh R) (lO (gI 1 fS R R R) (aC (aI (dS (aN (aE (lO (lA R R) (lB R (aC (aI ?_)))))))))))))))))))))
 rcases cK b with ⟨cu,b⟩|⟨cu,b⟩
 refine cC R cu (aN (aE (lO (fZ 2 ki R) (lO (gI 1 cH R R R) (lO (fZ 5 nw R) (lO (gI 1 cH R R R) (lO (vz (.agg [(sc A3 j.Dims D3),(sc A5 j.Data D5)].toArray) (aV gK dP R R)) (bE R R dP (fun ig=>(aK 0 R R bQ R R R R R R (lN (aJ ig [(sc A3 j.Dims D3),(sc A5 j.Data D5)] 58::_::i) ?_)))))))))))
 refine aC (aI (aN (aN ?_)))
 obtain ⟨ir,h0,b⟩:=bd b
 refine aE (lO (vz (.agg [(sc A3 j.Dims D3),(sc A5 j.Data D5)].toArray) (dT 0 fF bQ R R R R)) (lM (RR kT3 A3 D3 j.Dims::RR kT3 A5 D5 j.Data::aJ _ _ _::aJ _ _ _::i) (fun w s=>(((s.d 4 R).d 7 R).e 4 [1,0,2,3])) ?_))
 refine lC 2 ny R (Zo_ok (t1:=(⟨j.Dims,j.Data⟩:Tensor)) h0) R ?_
 rintro _
 refine lN (_::_::i) ?_
 refine lO (rt R) (aC (aI ?_))
 rcases cK b with ⟨dv,b⟩|⟨dv,b⟩
 refine cC R dv (aN (aE (lO (vz (.agg [(.slice none 0 0),(.slice none 0 0)].toArray) (aV gK dP R R)) (aK 1 R R bQ R R R R R R (aC (aI (bV (cD (dA (cD ?_))))))))))
 obtain rfl:=so b
 exact dF (vs:=[(.agg [(.slice none 0 0),(.slice none 0 0)].toArray)]) (.inl R) ((none,0,0),(none,0,0)) R ⟨⟨1,l,_,_,R,R,.inl ⟨fF,bQ,R⟩⟩,trivial⟩ R (fun w s=>(((s.nilo kT3 3).nilo kT3 3).e 10 [1,0]))
 refine bM R dv (dI (aI (aN ?_)))
 obtain ⟨dm,g6,b⟩:=bd b
 obtain ⟨ck,h7,b⟩:=bd b
 refine dC 8 [1] bO (fun ht hn=>(dR 0 R (fZ 2 ki R) (hS:=(sL [1])) (dR 1 R (gI 1 cH R R R) (hS:=(sL [1])) (dR 3 R (fZ 5 nw R) (hS:=(sL [1])) (dR 4 R (gI 1 cH R R R) (hS:=(sL [1])) (d1 2 R (lM (RR kT3 A3 D3 j.Dims::_::_::i) (fun w s=>(s.d 4 R)) ?_)))))))
 refine lC 1 jM R (Zq_ok g6) R ?_
 rintro ⟨co,i9,dz⟩
 refine lN (ow kT3 3 (.slice co i9 dz) dm::_::_::i) ?_
 refine aL 0 aB ?_
 rintro rfl
 refine aC (aG (sL [2,0]) (d1 5 R (lM (RR kT3 A5 D5 j.Data::_::_::_::i) (fun w s=>(s.d 7 R)) ?_)))
 refine lC 1 jM R (Zq_ok h7) R ?_
 rintro ⟨du,i1,cx⟩
 refine lN (ow kT3 3 (.slice du i1 cx) ck::_::_::_::i) ?_
 refine aL 0 aB ?_
 rintro rfl
 refine aC (aG (sL [3,1,0]) (dR 6 R (vz (.agg [(sc co dm dz),(sc du ck cx)].toArray) (aV gK dP R R)) (hS:=(sL [3,1,0])) (d1 7 R (aK 3 R R bQ R R R R R R (lN (_::_::_::aJ l [(sc co dm dz),(sc du ck cx)] 58::i) ?_)))))
 refine aC (aG (sL [3,1,0]) (dD (aI (bV (dA (cD ?_))))))
 obtain rfl:=so b
 exact dF (vs:=[(.agg [(sc co dm dz),(sc du ck cx)].toArray)]) (.inl R) ((co,dm.length,dz),(du,ck.length,cx)) R ⟨⟨3,l,_,_,R,R,.inl ⟨fF,bQ,R⟩⟩,trivial⟩ R (fun w s=>(s.e 10 [1,0]))
 refine bM R cu (aN (bB (A:=(Bool)×(Unit)) (fun a=>Z1_J1 j g a.1=some r) (fun a=>[(1,(sc A7 g D7)),(2,(pt b8 0)),(4,(pt l 0)),(5,(sc A4 j.Ints D4)),(10,(iv j.Op)),(29,(.bool a.1))]) (fun a=>aJ l [(.slice none 0 0),(.slice none 0 0)] 58::i) ?_ ?_))
 refine aN (aE (lO (lA R R) (lB R (aC (aI ?_)))))
 rcases cK b with ⟨d0,b⟩|⟨d0,b⟩
 refine cC R d0 (dI ?_)
 exact qI ((j.Op==(3:Int)),()) b (fun w s=>s)
 refine bM R d0 (aN (aE (lO (lA R R) (lB R (aC (aI ?_))))))
 rcases cK b with ⟨ds,b⟩|⟨ds,b⟩
 refine cC R ds (dI ?_)
 exact qI ((j.Op==(4:Int)),()) b (fun w s=>s)
 refine bM R ds (aE (lO (lA R R) (lB R (aC ?_))))
 exact qI ((j.Op==(5:Int)),()) b (fun w s=>s)
 rintro ⟨i2,_⟩ σ1 b
 replace b:Z1_J1 j g i2=some r:=b
 unfold Z1_J1 at b
 rcases cK b with ⟨di,b⟩|⟨di,b⟩
 refine cC R di (aN (aN ?_))
 obtain ⟨a8,b⟩:=gd b
 obtain ⟨bh,b⟩:=gd b
 obtain ⟨it,hl,b⟩:=bd b
 refine aZ 6 aA (show 0<g.length by have:=a8; omega) (fun e6 o27 m=>?_)
 subst m
 refine dB (K:=dK) 6 (0:Int) dT58.dec R a8.1 a8.2 ?_
 rintro ⟨⟨f7,fc⟩,⟨fg,g2⟩⟩
 refine cN (cl e6 (o27+(0:Int).toNat*2) [(sc f7 ((ix g (0:Int)).Dims) fc),(sc fg ((ix g (0:Int)).Data) g2)]::RR kT3 f7 fc ((ix g (0:Int)).Dims)::RR kT3 fg g2 ((ix g (0:Int)).Data)::aJ l [(.slice none 0 0),(.slice none 0 0)] 58::i) ?_
 refine dB (K:=dK) 9 (1:Int) dT58.dec R bh.1 bh.2 ?_
 rintro ⟨⟨f6,fd⟩,⟨ft,f8⟩⟩
 refine cN (cl e6 (o27+(1:Int).toNat*2) [(sc f6 ((ix g (1:Int)).Dims) fd),(sc ft ((ix g (1:Int)).Data) f8)]::RR kT3 f6 fd ((ix g (1:Int)).Dims)::RR kT3 ft f8 ((ix g (1:Int)).Data)::_::_::_::_::i) ?_
 refine dC 10 [] bO (fun ht hn=>(dR 0 R (vS R) (dR 1 R (eN fV bQ R R a8) (dR 2 R (vz (.pointer (some ⟨e6,o27+(0:Int).toNat*2,none⟩)) (jB iH R R)) (dR 3 R (eA (fo:=0) 3 cH R R R) (dR 4 R (vS R) (dR 5 R (eN fV bQ R R bh) (dR 6 R (vz (.pointer (some ⟨e6,o27+(1:Int).toNat*2,none⟩)) (jB iH R R)) (dR 7 R (eA (fo:=0) 0 cH R R R) (d1 8 R (lM (aO _ _ _::aO _ _ _::cl _ _ _::aO _ _ _::aO _ _ _::cl _ _ _::aO _ _ _::aO _ _ _::aJ _ _ _::i) (fun w s=>(((s.d 4 R).d 2 R).f 9 [1,1,0,1,2,7])) ?_)))))))))))
 refine lC 2 wI R (Zy_ok hl) R ?_
 rintro _
 refine lN (_::_::_::_::_::_::_::i) ?_
 refine aC (aG (sL []) (dR 9 R (rt R) (dD (aI ?_))))
 rcases cK b with ⟨dt,b⟩|⟨dt,b⟩
 refine cC R dt (aN (aE (lO (vz (.agg [(.slice none 0 0),(.slice none 0 0)].toArray) (aV gK dP R R)) (aK 6 R R bQ R R R R R R (aC (aI (bV (cD (dA (cD ?_))))))))))
 obtain rfl:=so b
 exact dF (vs:=[(.agg [(.slice none 0 0),(.slice none 0 0)].toArray)]) (.inl R) ((none,0,0),(none,0,0)) R ⟨⟨6,l,_,_,R,R,.inl ⟨fF,bQ,R⟩⟩,trivial⟩ R (fun w s=>(((s.nilo kT3 3).nilo kT3 3).e 15 [1,0]))
 refine bM R dt (dI (aI (aN ?_)))
 obtain ⟨a3,gy,b⟩:=bd b
 refine dC 12 [6] bO (fun ht hn=>(dR 0 R (fZ 0 jh R) (hS:=(sL [6])) (dR 1 R (gI 6 fS R R R) (hS:=(sL [6])) (dR 2 R (wg R R) (hS:=(sL [6])) (dR 3 R (lq R R) (hS:=(sL [6])) (dR 4 R (vS R) (hS:=(sL [6])) (dR 5 R (eN fV bQ R R a8) (hS:=(sL [6])) (dR 6 R (vz (.agg [(sc f7 ((ix g (0:Int)).Dims) fc),(sc fg ((ix g (0:Int)).Data) g2)].toArray) (eI (fo:=0) 3 fF bQ R R R R)) (hS:=(sL [6])) (dR 7 R (vS R) (hS:=(sL [6])) (dR 8 R (eN fV bQ R R bh) (hS:=(sL [6])) (dR 9 R (vz (.agg [(sc f6 ((ix g (1:Int)).Dims) fd),(sc ft ((ix g (1:Int)).Data) f8)].toArray) (eI (fo:=0) 0 fF bQ R R R R)) (hS:=(sL [6])) (d1 10 R (lM (aO _ _ _::aO _ _ _::aO _ _ _::aO _ _ _::cl _ _ _::aO _ _ _::aO _ _ _::cl _ _ _::aO _ _ _::aO _ _ _::aJ _ _ _::i) (fun w s=>(((((s.d 4 R).d 6 R).d 3 R).d 5 R).f 11 [3,1,2,1,1,1,0,1,4,7])) ?_)))))))))))))
 refine lC 4 AG R (Z13_ok gy) R ?_
 rintro ⟨⟨e8,hu,e7⟩,⟨e5,ic,er⟩⟩
 refine lN (ow kT3 3 (.slice e8 hu e7) a3.Dims::ow kT3 3 (.slice e5 ic er) a3.Data::_::_::_::_::_::_::_::i) ?_
 refine aL 0 aB ?_
 rintro rfl
 refine aL 1 aB ?_
 rintro rfl
 refine aC (aG (sL [8,1,0]) (d1 11 R (aK 8 R R bQ R R R R R R (lN (_::_::_::_::_::_::_::_::aJ l [(sc e8 a3.Dims e7),(sc e5 a3.Data er)] 58::i) ?_))))
 refine aC (aG (sL [8,1,0]) (dD (aI (bV (dA (cD ?_))))))
 obtain rfl:=so b
 exact dF (vs:=[(.agg [(sc e8 a3.Dims e7),(sc e5 a3.Data er)].toArray)]) (.inl R) ((e8,a3.Dims.length,e7),(e5,a3.Data.length,er)) R ⟨⟨8,l,_,_,R,R,.inl ⟨fF,bQ,R⟩⟩,trivial⟩ R (fun w s=>(s.e 15 [0,1]))
 refine bM R di (aN (bB (A:=(Bool)×(Unit)) (fun a=>Z1_J2 j g a.1=some r) (fun a=>[(1,(sc A7 g D7)),(2,(pt b8 0)),(4,(pt l 0)),(5,(sc A4 j.Ints D4)),(10,(iv j.Op)),(55,(.bool a.1))]) (fun a=>aJ l [(.slice none 0 0),(.slice none 0 0)] 58::i) ?_ ?_))
 refine aN (aE (lO (lA R R) (lB R (aC (aI ?_)))))
 rcases cK b with ⟨d6,b⟩|⟨d6,b⟩
 refine cC R d6 (dI ?_)
 exact qI ((j.Op==(6:Int)),()) b (fun w s=>s)
 refine bM R d6 (aN (aE (lO (lA R R) (lB R (aC (aI ?_))))))
 rcases cK b with ⟨c2,b⟩|⟨c2,b⟩
 refine cC R c2 (dI ?_)
 exact qI ((j.Op==(7:Int)),()) b (fun w s=>s)
 refine bM R c2 (aN (aE (lO (lA R R) (lB R (aC (aI ?_))))))
 rcases cK b with ⟨dh,b⟩|⟨dh,b⟩
 refine cC R dh (dI ?_)
 exact qI ((j.Op==(8:Int)),()) b (fun w s=>s)
 refine bM R dh (aE (lO (lA R R) (lB R (aC ?_))))
 exact qI ((j.Op==(9:Int)),()) b (fun w s=>s)
 rintro ⟨hy,_⟩ σ1 b
 replace b:Z1_J2 j g hy=some r:=b
 unfold Z1_J2 at b
 rcases cK b with ⟨e1,b⟩|⟨e1,b⟩
 refine cC R e1 (aN ?_)
 obtain ⟨ax,b⟩:=gd b
 obtain ⟨a1,g9,b⟩:=bd b
 refine aZ 6 aA (show 0<g.length by have:=ax; omega) (fun hv o47 m=>?_)
 subst m
 refine dB (K:=dK) 6 (0:Int) dT58.dec R ax.1 ax.2 ?_
 rintro ⟨⟨fr,fx⟩,⟨g0,fn⟩⟩
 refine cN (cl hv (o47+(0:Int).toNat*2) [(sc fr ((ix g (0:Int)).Dims) fx),(sc g0 ((ix g (0:Int)).Data) fn)]::RR kT3 fr fx ((ix g (0:Int)).Dims)::RR kT3 g0 fn ((ix g (0:Int)).Data)::aJ l [(.slice none 0 0),(.slice none 0 0)] 58::i) ?_
 refine dC 9 [3] bO (fun ht hn=>(dR 0 R (fZ 0 jh R) (hS:=(sL [3])) (dR 1 R (gI 3 fS R R R) (hS:=(sL [3])) (dR 2 R (wg R R) (hS:=(sL [3])) (dR 3 R (lq R R) (hS:=(sL [3])) (dR 4 R (vS R) (hS:=(sL [3])) (dR 5 R (eN fV bQ R R ax) (hS:=(sL [3])) (dR 6 R (vz (.agg [(sc fr ((ix g (0:Int)).Dims) fx),(sc g0 ((ix g (0:Int)).Data) fn)].toArray) (eI (fo:=0) 0 fF bQ R R R R)) (hS:=(sL [3])) (d1 7 R (lM (aO _ _ _::aO _ _ _::cl _ _ _::aO _ _ _::aO _ _ _::aJ _ _ _::i) (fun w s=>(((s.d 1 R).d 3 R).e 6 [1,0,2,3,4,5])) ?_))))))))))
 refine lC 2 AH R (Z12_ok g9) R ?_
 rintro ⟨⟨e9,i0,es⟩,⟨e3,i5,eh⟩⟩
 refine lN (ow kT3 3 (.slice e9 i0 es) a1.Dims::ow kT3 3 (.slice e3 i5 eh) a1.Data::_::_::_::_::i) ?_
 refine aL 0 aB ?_
 rintro rfl
 refine aL 1 aB ?_
 rintro rfl
 refine aC (aG (sL [5,1,0]) (d1 8 R (aK 5 R R bQ R R R R R R (lN (_::_::_::_::_::aJ l [(sc e9 a1.Dims es),(sc e3 a1.Data eh)] 58::i) ?_))))
 refine aC (aG (sL [5,1,0]) (dD (aI (bV (dA (cD ?_))))))
 obtain rfl:=so b
 exact dF (vs:=[(.agg [(sc e9 a1.Dims es),(sc e3 a1.Data eh)].toArray)]) (.inl R) ((e9,a1.Dims.length,es),(e3,a1.Data.length,eh)) R ⟨⟨5,l,_,_,R,R,.inl ⟨fF,bQ,R⟩⟩,trivial⟩ R (fun w s=>(s.e 12 [0,1]))
 refine bM R e1 (aN (aE (lO (lA R R) (lB R (aC (aI ?_))))))
 rcases cK b with ⟨dy,b⟩|⟨dy,b⟩
 refine cC R dy (aN ?_)
 obtain ⟨c0,b⟩:=gd b
 obtain ⟨cz,b⟩:=gd b
 obtain ⟨a2,he,b⟩:=bd b
 refine aZ 6 aA (show 0<g.length by have:=c0; omega) (fun ie o57 m=>?_)
 subst m
 refine dB (K:=dK) 6 (0:Int) dT58.dec R c0.1 c0.2 ?_
 rintro ⟨⟨fq,fj⟩,⟨fe,fl⟩⟩
 refine cN (cl ie (o57+(0:Int).toNat*2) [(sc fq ((ix g (0:Int)).Dims) fj),(sc fe ((ix g (0:Int)).Data) fl)]::RR kT3 fq fj ((ix g (0:Int)).Dims)::RR kT3 fe fl ((ix g (0:Int)).Data)::aJ l [(.slice none 0 0),(.slice none 0 0)] 58::i) ?_
 refine aZ 7 aA (show 0<j.Ints.length by have:=cz; omega) (fun iq o62 m=>?_)
 subst m
 refine dC 8 [3] bO (fun ht hn=>(dR 0 R (vS R) (hS:=(sL [3])) (dR 1 R (eN fV bQ R R c0) (hS:=(sL [3])) (dR 2 R (vz (.agg [(sc fq ((ix g (0:Int)).Dims) fj),(sc fe ((ix g (0:Int)).Data) fl)].toArray) (eI (fo:=0) 0 fF bQ R R R R)) (hS:=(sL [3])) (dR 3 R (vS R) (hS:=(sL [3])) (dR 4 R (eN bL cE R R cz) (hS:=(sL [3])) (dR 5 R (gY 6 fS aA R cz) (hS:=(sL [3])) (d1 6 R (lM (aO _ _ _::aO _ _ _::cl _ _ _::aO _ _ _::aO _ _ _::aJ _ _ _::i) (fun w s=>(((s.d 1 R).d 3 R).e 6 [1,0,2,3,4,5])) ?_)))))))))
 refine lC 2 AI R (Za_ok he) R ?_
 rintro ⟨⟨eb,ia,ei⟩,⟨eo,hz,ed⟩⟩
 refine lN (ow kT3 3 (.slice eb ia ei) a2.Dims::ow kT3 3 (.slice eo hz ed) a2.Data::_::_::_::_::i) ?_
 refine aL 0 aB ?_
 rintro rfl
 refine aL 1 aB ?_
 rintro rfl
 refine aC (aG (sL [5,1,0]) (d1 7 R (aK 5 R R bQ R R R R R R (lN (_::_::_::_::_::aJ l [(sc eb a2.Dims ei),(sc eo a2.Data ed)] 58::i) ?_))))
 refine aC (aG (sL [5,1,0]) (dD (aI (bV (dA (cD ?_))))))
 obtain rfl:=so b
 exact dF (vs:=[(.agg [(sc eb a2.Dims ei),(sc eo a2.Data ed)].toArray)]) (.inl R) ((eb,a2.Dims.length,ei),(eo,a2.Data.length,ed)) R ⟨⟨5,l,_,_,R,R,.inl ⟨fF,bQ,R⟩⟩,trivial⟩ R (fun w s=>(s.e 12 [0,1]))
 refine bM R dy (aN (aE (lO (lA R R) (lB R (aC (aI ?_))))))
 rcases cK b with ⟨cv,b⟩|⟨cv,b⟩
 refine cC R cv (aN ?_)
 obtain ⟨a5,gz,b⟩:=bd b
 refine aE (lO (fZ 4 oZ R) (lO (gI 1 qO R R R) (lS R (lM (RR dK A7 D7 g::aJ l [(.slice none 0 0),(.slice none 0 0)] 58::i) (fun w s=>(s.d 6 R)) ?_))))
 refine lC 1 AJ R (Z5_ok gz) R ?_
 rintro ⟨⟨ep,hs,ee⟩,⟨eu,ih,et⟩⟩
 refine lN (ow kT3 3 (.slice ep hs ee) a5.Dims::ow kT3 3 (.slice eu ih et) a5.Data::_::i) ?_
 refine aL 0 aB ?_
 rintro rfl
 refine aL 1 aB ?_
 rintro rfl
 refine aK 2 R R bQ R R R R R R (lN (_::_::aJ l [(sc ep a5.Dims ee),(sc eu a5.Data et)] 58::i) ?_)
 refine aC (aI (bV (dA (cD ?_))))
 obtain rfl:=so b
 exact dF (vs:=[(.agg [(sc ep a5.Dims ee),(sc eu a5.Data et)].toArray)]) (.inl R) ((ep,a5.Dims.length,ee),(eu,a5.Data.length,et)) R ⟨⟨2,l,_,_,R,R,.inl ⟨fF,bQ,R⟩⟩,trivial⟩ R (fun w s=>(s.e 9 [0,1]))
 refine bM R cv (aN (aE (lO (lA R R) (lB R (aC (aI ?_))))))
 rcases cK b with ⟨cw,b⟩|⟨cw,b⟩
 refine cC R cw (aN ?_)
 obtain ⟨a4,b⟩:=gd b
 obtain ⟨ap,h6,b⟩:=bd b
 obtain ⟨a7,g4,b⟩:=bd b
 obtain ⟨a9,hh,b⟩:=bd b
 refine aZ 6 aA (show 0<g.length by have:=a4; omega) (fun gj o75 m=>?_)
 subst m
 refine dB (K:=dK) 6 (0:Int) dT58.dec R a4.1 a4.2 ?_
 rintro ⟨⟨d9,d4⟩,⟨c6,dn⟩⟩
 refine cN (cl gj (o75+(0:Int).toNat*2) [(sc d9 ((ix g (0:Int)).Dims) d4),(sc c6 ((ix g (0:Int)).Data) dn)]::RR kT3 d9 d4 ((ix g (0:Int)).Dims)::RR kT3 c6 dn ((ix g (0:Int)).Data)::aJ l [(.slice none 0 0),(.slice none 0 0)] 58::i) ?_
 refine dC 13 [3] bO (fun ht hn=>(dR 0 R (vS R) (hS:=(sL [3])) (dR 1 R (eN fV bQ R R a4) (hS:=(sL [3])) (dR 2 R (vz (.agg [(sc d9 ((ix g (0:Int)).Dims) d4),(sc c6 ((ix g (0:Int)).Data) dn)].toArray) (eI (fo:=0) 0 fF bQ R R R R)) (hS:=(sL [3])) (dR 3 R (vS R) (hS:=(sL [3])) (dR 4 R (eN fV bQ R R a4) (hS:=(sL [3])) (dR 5 R (vz (.pointer (some ⟨gj,o75+(0:Int).toNat*2,none⟩)) (jB iH R R)) (hS:=(sL [3])) (dR 6 R (eA (fo:=0) 0 cH R R R) (hS:=(sL [3])) (dR 8 R (fZ 2 ki R) (hS:=(sL [3])) (dR 9 R (gI 3 cH R R R) (hS:=(sL [3])) (d1 7 R (lM (_::_::_::_::_::i) (fun w s=>(s.d 1 R)) ?_))))))))))))
 refine lC 1 uf R (Zu_ok h6) R ?_
 rintro ⟨⟨f9,hx,g1⟩,⟨ek,i7,eg⟩⟩
 refine lN (aO kT3 (.slice f9 hx g1) ap.Dims::ow kT3 3 (.slice ek i7 eg) ap.Strides::_::_::_::_::i) ?_
 refine aL 0 aA ?_
 rintro rfl
 refine aL 1 aB ?_
 rintro rfl
 refine aC (aG (sL [5,1,0]) (d1 10 R (lM (ow _ _ _ _::aO _ _ _::RR kT3 A3 D3 j.Dims::aO _ _ _::cl _ _ _::aO _ _ _::aO _ _ _::aJ _ _ _::i) (fun w s=>(((s.d 0 R).d 9 R).e 8 [3,1,0,2,4,5,6,7])) ?_)))
 refine lC 3 AK R (FnOk.lends (A':=[OO kT3 3 ek eg ap.Strides]) (A:=[RR kT3 ek eg ap.Strides]) (B:=[RR kT3 f9 g1 ap.Dims,RR kT3 A3 D3 j.Dims]) (FnOk.perm (Z00_ok g4) (Pre':=[RR kT3 ek eg ap.Strides,RR kT3 f9 g1 ap.Dims,RR kT3 A3 D3 j.Dims]) (fun _ _ _ s=>(s.e 3 [1,0,2]))) ⟨aY,trivial⟩ (fun _=>⟨(bH j0),(bH j0),trivial⟩)) R ?_
 rintro ⟨⟨e4,ib,ej⟩,⟨ef,i6,eq⟩⟩
 refine lN (_::ow kT3 3 (.slice e4 ib ej) a7.Dims::ow kT3 3 (.slice ef i6 eq) a7.Strides::_::_::_::_::_::i) ?_
 refine aL 1 aB ?_
 rintro rfl
 refine aL 2 aB ?_
 rintro rfl
 refine aC (aG (sL [7,3,2,1,0]) (d1 11 R (lM (ow _ _ _ _::ow _ _ _ _::aO _ _ _::aO _ _ _::ow _ _ _ _::aO _ _ _::cl _ _ _::aO _ _ _::aO _ _ _::aJ _ _ _::i) (fun w s=>(((s.d 5 R).d 7 R).e 10 [3,4,1,0,2,5,6,7,8,9])) ?_)))
 refine lC 4 ug R (FnOk.lends (A':=[OO kT3 3 e4 ej a7.Dims,OO kT3 3 ef eq a7.Strides]) (A:=[RR kT3 e4 ej a7.Dims,RR kT3 ef eq a7.Strides]) (B:=[RR kT3 d9 d4 ((ix g (0:Int)).Dims),RR kT3 c6 dn ((ix g (0:Int)).Data)]) (FnOk.perm (Zz_ok hh) (Pre':=[RR kT3 e4 ej a7.Dims,RR kT3 ef eq a7.Strides,RR kT3 d9 d4 ((ix g (0:Int)).Dims),RR kT3 c6 dn ((ix g (0:Int)).Data)]) (fun _ _ _ s=>(s.e 4 [2,3,0,1]))) ⟨aY,aY,trivial⟩ (fun _=>⟨(bH j0),(bH j0),trivial⟩)) R ?_
 rintro ⟨⟨el,id,en⟩,⟨ew,i8,em⟩⟩
 refine lN (_::_::ow kT3 3 (.slice el id en) a9.Dims::ow kT3 3 (.slice ew i8 em) a9.Data::_::_::_::_::_::_::i) ?_
 refine aL 2 aB ?_
 rintro rfl
 refine aL 3 aB ?_
 rintro rfl
 refine aC (aG (sL [9,5,4,3,2,1,0]) (d1 12 R (aK 9 R R bQ R R R R R R (lN (_::_::_::_::_::_::_::_::_::aJ l [(sc el a9.Dims en),(sc ew a9.Data em)] 58::i) ?_))))
 refine aC (aG (sL [9,5,4,3,2,1,0]) (dD (aI (bV (dA (cD ?_))))))
 obtain rfl:=so b
 exact dF (vs:=[(.agg [(sc el a9.Dims en),(sc ew a9.Data em)].toArray)]) (.inl R) ((el,a9.Dims.length,en),(ew,a9.Data.length,em)) R ⟨⟨9,l,_,_,R,R,.inl ⟨fF,bQ,R⟩⟩,trivial⟩ R (fun w s=>(s.e 16 [2,3]))
 refine bM R cw (aN (aE (lO (lA R R) (lB R (aC (aI ?_))))))
 rcases cK b with ⟨cb,b⟩|⟨cb,b⟩
 refine cC R cb (aN ?_)
 obtain ⟨a0,b⟩:=gd b
 obtain ⟨ae,gr,b⟩:=bd b
 obtain ⟨F,fi,b⟩:=bd b
 obtain ⟨q,fp,b⟩:=bd b
 refine aZ 6 aA (show 0<g.length by have:=a0; omega) (fun gk o93 m=>?_)
 subst m
 refine dB (K:=dK) 6 (0:Int) dT58.dec R a0.1 a0.2 ?_
 rintro ⟨⟨cg,de⟩,⟨db,ch⟩⟩
 refine cN (cl gk (o93+(0:Int).toNat*2) [(sc cg ((ix g (0:Int)).Dims) de),(sc db ((ix g (0:Int)).Data) ch)]::RR kT3 cg de ((ix g (0:Int)).Dims)::RR kT3 db ch ((ix g (0:Int)).Data)::aJ l [(.slice none 0 0),(.slice none 0 0)] 58::i) ?_
 refine dC 13 [3] bO (fun ht hn=>(dR 0 R (vS R) (hS:=(sL [3])) (dR 1 R (eN fV bQ R R a0) (hS:=(sL [3])) (dR 2 R (vz (.agg [(sc cg ((ix g (0:Int)).Dims) de),(sc db ((ix g (0:Int)).Data) ch)].toArray) (eI (fo:=0) 0 fF bQ R R R R)) (hS:=(sL [3])) (dR 3 R (vS R) (hS:=(sL [3])) (dR 4 R (eN fV bQ R R a0) (hS:=(sL [3])) (dR 5 R (vz (.pointer (some ⟨gk,o93+(0:Int).toNat*2,none⟩)) (jB iH R R)) (hS:=(sL [3])) (dR 6 R (eA (fo:=0) 0 cH R R R) (hS:=(sL [3])) (dR 8 R (fZ 2 ki R) (hS:=(sL [3])) (dR 9 R (gI 3 cH R R R) (hS:=(sL [3])) (d1 7 R (lM (_::_::_::_::_::i) (fun w s=>(s.d 1 R)) ?_))))))))))))
 refine lC 1 uf R (Zu_ok gr) R ?_
 rintro ⟨⟨fk,i3,fb⟩,⟨ec,i4,ea⟩⟩
 refine lN (aO kT3 (.slice fk i3 fb) ae.Dims::ow kT3 3 (.slice ec i4 ea) ae.Strides::_::_::_::_::i) ?_
 refine aL 0 aA ?_
 rintro rfl
 refine aL 1 aB ?_
 rintro rfl
 refine aC (aG (sL [5,1,0]) (d1 10 R (lM (ow _ _ _ _::aO _ _ _::RR kT3 A3 D3 j.Dims::aO _ _ _::cl _ _ _::aO _ _ _::aO _ _ _::aJ _ _ _::i) (fun w s=>(((s.d 0 R).d 9 R).e 8 [3,1,0,2,4,5,6,7])) ?_)))
 refine lC 3 AL R (FnOk.lends (A':=[OO kT3 3 ec ea ae.Strides]) (A:=[RR kT3 ec ea ae.Strides]) (B:=[RR kT3 fk fb ae.Dims,RR kT3 A3 D3 j.Dims]) (FnOk.perm (Z07_ok fi) (Pre':=[RR kT3 ec ea ae.Strides,RR kT3 fk fb ae.Dims,RR kT3 A3 D3 j.Dims]) (fun _ _ _ s=>(s.e 3 [1,0,2]))) ⟨aY,trivial⟩ (fun _=>⟨(bH j0),(bH j0),trivial⟩)) R ?_
 rintro ⟨⟨bj,h1,bc⟩,⟨b1,h3,az⟩⟩
 refine lN (_::ow kT3 3 (.slice bj h1 bc) F.Dims::ow kT3 3 (.slice b1 h3 az) F.Strides::_::_::_::_::_::i) ?_
 refine aL 1 aB ?_
 rintro rfl
 refine aL 2 aB ?_
 rintro rfl
 refine aC (aG (sL [7,3,2,1,0]) (d1 11 R (lM (ow _ _ _ _::ow _ _ _ _::aO _ _ _::aO _ _ _::ow _ _ _ _::aO _ _ _::cl _ _ _::aO _ _ _::aO _ _ _::aJ _ _ _::i) (fun w s=>(((s.d 5 R).d 7 R).e 10 [3,4,1,0,2,5,6,7,8,9])) ?_)))
 refine lC 4 ug R (FnOk.lends (A':=[OO kT3 3 bj bc F.Dims,OO kT3 3 b1 az F.Strides]) (A:=[RR kT3 bj bc F.Dims,RR kT3 b1 az F.Strides]) (B:=[RR kT3 cg de ((ix g (0:Int)).Dims),RR kT3 db ch ((ix g (0:Int)).Data)]) (FnOk.perm (Zz_ok fp) (Pre':=[RR kT3 bj bc F.Dims,RR kT3 b1 az F.Strides,RR kT3 cg de ((ix g (0:Int)).Dims),RR kT3 db ch ((ix g (0:Int)).Data)]) (fun _ _ _ s=>(s.e 4 [2,3,0,1]))) ⟨aY,aY,trivial⟩ (fun _=>⟨(bH j0),(bH j0),trivial⟩)) R ?_
 rintro ⟨⟨bi,gt,bf⟩,⟨b2,g3,bz⟩⟩
 refine lN (_::_::ow kT3 3 (.slice bi gt bf) q.Dims::ow kT3 3 (.slice b2 g3 bz) q.Data::_::_::_::_::_::_::i) ?_
 refine aL 2 aB ?_
 rintro rfl
 refine aL 3 aB ?_
 rintro rfl
 refine aC (aG (sL [9,5,4,3,2,1,0]) (d1 12 R (aK 9 R R bQ R R R R R R (lN (_::_::_::_::_::_::_::_::_::aJ l [(sc bi q.Dims bf),(sc b2 q.Data bz)] 58::i) ?_))))
 refine aC (aG (sL [9,5,4,3,2,1,0]) (dD (aI (bV (dA (cD ?_))))))
 obtain rfl:=so b
 exact dF (vs:=[(.agg [(sc bi q.Dims bf),(sc b2 q.Data bz)].toArray)]) (.inl R) ((bi,q.Dims.length,bf),(b2,q.Data.length,bz)) R ⟨⟨9,l,_,_,R,R,.inl ⟨fF,bQ,R⟩⟩,trivial⟩ R (fun w s=>(s.e 16 [2,3]))
 refine bM R cb (aN (aE (lO (lA R R) (lB R (aC (aI ?_))))))
 rcases cK b with ⟨aa,b⟩|⟨aa,b⟩
 refine cC R aa (aN (aN ?_))
 obtain ⟨L,b⟩:=gd b
 refine aE (lS R (bD 4 aA (show 0<j.Ints.length by have:=L; omega) (fun ij o111 m=>?_)))
 subst m
 refine lO (eN bL cE R R L) (lO (gY 4 fS aA R L) (lO (nS R R) (aC (aI ?_))))
 rcases cK b with ⟨ai,b⟩|⟨ai,b⟩
 refine cC R ai (aN (aE (lO (vz (.agg [(.slice none 0 0),(.slice none 0 0)].toArray) (aV gK dP R R)) (aK 0 R R bQ R R R R R R (lN (aJ l [(.slice none 0 0),(.slice none 0 0)] 58::i) ?_)))))
 refine aC (aI (bV (cD (dA (cD ?_)))))
 obtain rfl:=so b
 exact dF (vs:=[(.agg [(.slice none 0 0),(.slice none 0 0)].toArray)]) (.inl R) ((none,0,0),(none,0,0)) R ⟨⟨0,l,_,_,R,R,.inl ⟨fF,bQ,R⟩⟩,trivial⟩ R (fun w s=>(((s.nilo kT3 3).nilo kT3 3).e 9 [1,0]))
 refine bM R ai (dI (aI (aN ?_)))
 obtain ⟨M,b⟩:=gd b
 obtain ⟨aw,fu,b⟩:=bd b
 obtain ⟨ct,b⟩:=gd b
 obtain ⟨d7,b⟩:=gd b
 obtain ⟨d2,b⟩:=gd b
 obtain ⟨f3,fh,b⟩:=bd b
 obtain ⟨D,fs,b⟩:=bd b
 refine aZ 6 aA (show 0<g.length by have:=M; omega) (fun f4 o115 m=>?_)
 subst m
 refine dB (K:=dK) 6 (0:Int) dT58.dec R M.1 M.2 ?_
 rintro ⟨⟨cm,dw⟩,⟨cn,cc⟩⟩
 refine cN (cl f4 (o115+(0:Int).toNat*2) [(sc cm ((ix g (0:Int)).Dims) dw),(sc cn ((ix g (0:Int)).Data) cc)]::RR kT3 cm dw ((ix g (0:Int)).Dims)::RR kT3 cn cc ((ix g (0:Int)).Data)::_::i) ?_
 refine dC 23 [3] bO (fun ht hn=>(dR 0 R (vS R) (hS:=(sL [3])) (dR 1 R (eN fV bQ R R M) (hS:=(sL [3])) (dR 2 R (vz (.agg [(sc cm ((ix g (0:Int)).Dims) dw),(sc cn ((ix g (0:Int)).Data) cc)].toArray) (eI (fo:=0) 0 fF bQ R R R R)) (hS:=(sL [3])) (dR 3 R (vS R) (hS:=(sL [3])) (dR 4 R (eN fV bQ R R M) (hS:=(sL [3])) (dR 5 R (vz (.pointer (some ⟨f4,o115+(0:Int).toNat*2,none⟩)) (jB iH R R)) (hS:=(sL [3])) (dR 6 R (eA (fo:=0) 0 cH R R R) (hS:=(sL [3])) (dR 8 R (vS R) (hS:=(sL [3])) (dR 9 R (eN bL cE R R ct) (hS:=(sL [3])) (dR 10 R (gY 6 fS aA R ct) (hS:=(sL [3])) (dR 11 R (vS R) (hS:=(sL [3])) (dR 12 R (eN bL cE R R d7) (hS:=(sL [3])) (dR 13 R (gY 6 fS aA R d7) (hS:=(sL [3])) (dR 14 R (vS R) (hS:=(sL [3])) (dR 15 R (eN bL cE R R d2) (hS:=(sL [3])) (dR 16 R (gY 6 fS aA R d2) (hS:=(sL [3])) (dR 17 R (vS R) (hS:=(sL [3])) (dR 18 R (eN bL cE R R L) (hS:=(sL [3])) (dR 19 R (gY 6 fS aA R L) (hS:=(sL [3])) (d1 7 R (lM (_::_::_::_::_::i) (fun w s=>(s.d 1 R)) ?_))))))))))))))))))))))
 refine lC 1 uf R (Zu_ok fu) R ?_
 rintro ⟨⟨g5,gn,g7⟩,⟨c1,h5,c3⟩⟩
 refine lN (aO kT3 (.slice g5 gn g7) aw.Dims::ow kT3 3 (.slice c1 h5 c3) aw.Strides::_::_::_::_::i) ?_
 refine aL 0 aA ?_
 rintro rfl
 refine aL 1 aB ?_
 rintro rfl
 refine aC (aG (sL [5,1,0]) (d1 20 R (iE (fun w s=>s.shr 1 R) (lM (aO _ _ _::RR kT3 c1 c3 aw.Strides::RR kT3 c1 c3 aw.Strides::aO _ _ _::cl _ _ _::aO _ _ _::aO _ _ _::aJ _ _ _::i) (fun w s=>(((s.d 1 R).d 1 R).f 8 [1,1,0,1,2,6])) ?_))))
 refine lC 2 AM R (Z1a_ok fh) R ?_
 rintro ⟨⟨gs,hq,gm⟩,⟨hd,ho,ge⟩⟩
 refine lN (aO kT3 (.slice gs hq gm) f3.Dims::aO kT3 (.slice hd ho ge) f3.Strides::_::_::_::_::_::_::i) ?_
 refine aL 0 aA ?_
 rintro rfl
 refine aL 1 aA ?_
 rintro rfl
 refine aC (aG (sL [7,3,2,1,0]) (d1 21 R (lM (aO _ _ _::aO _ _ _::aO _ _ _::aO _ _ _::aO _ _ _::aO _ _ _::aO _ _ _::aO _ _ _::cl _ _ _::aO _ _ _::aO _ _ _::aJ _ _ _::i) (fun w s=>(((((s.d 5 R).d 7 R).d 2 R).d 4 R).f 12 [3,1,2,1,1,1,0,1,4,8])) ?_)))
 refine lC 4 ug R (Zz_ok fs) R ?_
 rintro ⟨⟨be,gg,bb⟩,⟨b0,h4,bg⟩⟩
 refine lN (ow kT3 3 (.slice be gg bb) D.Dims::ow kT3 3 (.slice b0 h4 bg) D.Data::_::_::_::_::_::_::_::_::i) ?_
 refine aL 0 aB ?_
 rintro rfl
 refine aL 1 aB ?_
 rintro rfl
 refine aC (aG (sL [9,5,4,3,2,1,0]) (d1 22 R (aK 9 R R bQ R R R R R R (lN (_::_::_::_::_::_::_::_::_::aJ l [(sc be D.Dims bb),(sc b0 D.Data bg)] 58::i) ?_))))
 refine aC (aG (sL [9,5,4,3,2,1,0]) (dD (aI (bV (dA (cD ?_))))))
 obtain rfl:=so b
 exact dF (vs:=[(.agg [(sc be D.Dims bb),(sc b0 D.Data bg)].toArray)]) (.inl R) ((be,D.Dims.length,bb),(b0,D.Data.length,bg)) R ⟨⟨9,l,_,_,R,R,.inl ⟨fF,bQ,R⟩⟩,trivial⟩ R (fun w s=>(s.e 16 [0,1]))
 refine bM R aa (aN (aE (lO (lA R R) (lB R (aC (aI ?_))))))
 rcases cK b with ⟨am,b⟩|⟨am,b⟩
 refine cC R am (aN ?_)
 obtain ⟨Y,b⟩:=gd b
 obtain ⟨ab,b⟩:=gd b
 obtain ⟨dc,b⟩:=gd b
 obtain ⟨dd,b⟩:=gd b
 obtain ⟨d8,b⟩:=gd b
 obtain ⟨J,fv,b⟩:=bd b
 refine aZ 6 aA (show 0<g.length by have:=Y; omega) (fun gf o136 m=>?_)
 subst m
 refine dB (K:=dK) 6 (0:Int) dT58.dec R Y.1 Y.2 ?_
 rintro ⟨⟨da,dr⟩,⟨c5,dj⟩⟩
 refine cN (cl gf (o136+(0:Int).toNat*2) [(sc da ((ix g (0:Int)).Dims) dr),(sc c5 ((ix g (0:Int)).Data) dj)]::RR kT3 da dr ((ix g (0:Int)).Dims)::RR kT3 c5 dj ((ix g (0:Int)).Data)::aJ l [(.slice none 0 0),(.slice none 0 0)] 58::i) ?_
 refine aZ 7 aA (show 0<j.Ints.length by have:=ab; omega) (fun ip o141 m=>?_)
 subst m
 refine dC 17 [3] bO (fun ht hn=>(dR 0 R (vS R) (hS:=(sL [3])) (dR 1 R (eN fV bQ R R Y) (hS:=(sL [3])) (dR 2 R (vz (.agg [(sc da ((ix g (0:Int)).Dims) dr),(sc c5 ((ix g (0:Int)).Data) dj)].toArray) (eI (fo:=0) 0 fF bQ R R R R)) (hS:=(sL [3])) (dR 3 R (vS R) (hS:=(sL [3])) (dR 4 R (eN bL cE R R ab) (hS:=(sL [3])) (dR 5 R (gY 6 fS aA R ab) (hS:=(sL [3])) (dR 6 R (vS R) (hS:=(sL [3])) (dR 7 R (eN bL cE R R dc) (hS:=(sL [3])) (dR 8 R (gY 6 fS aA R dc) (hS:=(sL [3])) (dR 9 R (vS R) (hS:=(sL [3])) (dR 10 R (eN bL cE R R dd) (hS:=(sL [3])) (dR 11 R (gY 6 fS aA R dd) (hS:=(sL [3])) (dR 12 R (vS R) (hS:=(sL [3])) (dR 13 R (eN bL cE R R d8) (hS:=(sL [3])) (dR 14 R (gY 6 fS aA R d8) (hS:=(sL [3])) (d1 15 R (lM (aO _ _ _::aO _ _ _::cl _ _ _::aO _ _ _::aO _ _ _::aJ _ _ _::i) (fun w s=>(((s.d 1 R).d 3 R).e 6 [1,0,2,3,4,5])) ?_))))))))))))))))))
 refine lC 2 AN R (Z0t_ok fv) R ?_
 rintro ⟨⟨ar,ga,b3⟩,⟨b7,hm,b6⟩⟩
 refine lN (ow kT3 3 (.slice ar ga b3) J.Dims::ow kT3 3 (.slice b7 hm b6) J.Data::_::_::_::_::i) ?_
 refine aL 0 aB ?_
 rintro rfl
 refine aL 1 aB ?_
 rintro rfl
 refine aC (aG (sL [5,1,0]) (d1 16 R (aK 5 R R bQ R R R R R R (lN (_::_::_::_::_::aJ l [(sc ar J.Dims b3),(sc b7 J.Data b6)] 58::i) ?_))))
 refine aC (aG (sL [5,1,0]) (dD (aI (bV (dA (cD ?_))))))
 obtain rfl:=so b
 exact dF (vs:=[(.agg [(sc ar J.Dims b3),(sc b7 J.Data b6)].toArray)]) (.inl R) ((ar,J.Dims.length,b3),(b7,J.Data.length,b6)) R ⟨⟨5,l,_,_,R,R,.inl ⟨fF,bQ,R⟩⟩,trivial⟩ R (fun w s=>(s.e 12 [0,1]))
 refine bM R am (aN (aE (lO (lA R R) (lB R (aC (aI ?_))))))
 rcases cK b with ⟨aq,b⟩|⟨aq,b⟩
 refine cC R aq (aN ?_)
 obtain ⟨U,b⟩:=gd b
 obtain ⟨al,b⟩:=gd b
 obtain ⟨ak,b⟩:=gd b
 obtain ⟨I,fy,b⟩:=bd b
 refine aZ 6 aA (show 0<g.length by have:=U; omega) (fun g8 o152 m=>?_)
 subst m
 refine dB (K:=dK) 6 (0:Int) dT58.dec R U.1 U.2 ?_
 rintro ⟨⟨e2,dk⟩,⟨cy,c7⟩⟩
 refine cN (cl g8 (o152+(0:Int).toNat*2) [(sc e2 ((ix g (0:Int)).Dims) dk),(sc cy ((ix g (0:Int)).Data) c7)]::RR kT3 e2 dk ((ix g (0:Int)).Dims)::RR kT3 cy c7 ((ix g (0:Int)).Data)::aJ l [(.slice none 0 0),(.slice none 0 0)] 58::i) ?_
 refine aZ 7 aA (show 0<j.Ints.length by have:=al; omega) (fun im o157 m=>?_)
 subst m
 refine dC 10 [3] bO (fun ht hn=>(dR 0 R (vS R) (hS:=(sL [3])) (dR 1 R (eN fV bQ R R U) (hS:=(sL [3])) (dR 2 R (vz (.agg [(sc e2 ((ix g (0:Int)).Dims) dk),(sc cy ((ix g (0:Int)).Data) c7)].toArray) (eI (fo:=0) 0 fF bQ R R R R)) (hS:=(sL [3])) (dR 3 R (vS R) (hS:=(sL [3])) (dR 4 R (eN bL cE R R al) (hS:=(sL [3])) (dR 5 R (gY 6 fS aA R al) (hS:=(sL [3])) (dR 6 R (vS R) (hS:=(sL [3])) (d1 7 R (fY (K:=kT3) (1:Int) (j.Ints.length:Int) 7 R R bL cE R R R R ak.1 ak.2.1 ak.2.2 (fun f0 ez=>(aC (aG (sL [4,0]) (d1 8 R (lM (aO _ _ _::aO _ _ _::RR kT3 f0 ez (sub j.Ints (1:Int) (j.Ints.length:Int))::RR kT3 f0 ez (sub j.Ints (1:Int) (j.Ints.length:Int))::cl _ _ _::aO _ _ _::aO _ _ _::aJ _ _ _::i) (fun w s=>((((s.d 2 R).d 4 R).d 2 R).e 8 [2,1,0,3,4,5,6,7])) ?_)))))))))))))))
 refine lC 3 AO R (Z0s_ok fy) R ?_
 rintro ⟨⟨b4,hb,ay⟩,⟨bp,gw,av⟩⟩
 refine lN (ow kT3 3 (.slice b4 hb ay) I.Dims::ow kT3 3 (.slice bp gw av) I.Data::_::_::_::_::_::i) ?_
 refine aL 0 aB ?_
 rintro rfl
 refine aL 1 aB ?_
 rintro rfl
 refine aC (aG (sL [6,2,1,0]) (d1 9 R (aK 6 R R bQ R R R R R R (lN (_::_::_::_::_::_::aJ l [(sc b4 I.Dims ay),(sc bp I.Data av)] 58::i) ?_))))
 refine aC (aG (sL [6,2,1,0]) (dD (aI (bV (dA (cD ?_))))))
 obtain rfl:=so b
 exact dF (vs:=[(.agg [(sc b4 I.Dims ay),(sc bp I.Data av)].toArray)]) (.inl R) ((b4,I.Dims.length,ay),(bp,I.Data.length,av)) R ⟨⟨6,l,_,_,R,R,.inl ⟨fF,bQ,R⟩⟩,trivial⟩ R (fun w s=>(s.e 13 [0,1]))
 refine bM R aq (aN (aE (lO (lA R R) (lB R (aC (aI ?_))))))
 rcases cK b with ⟨ac,b⟩|⟨ac,b⟩
 refine cC R ac (aN ?_)
 obtain ⟨T,b⟩:=gd b
 obtain ⟨aj,b⟩:=gd b
 obtain ⟨ag,b⟩:=gd b
 obtain ⟨dl,b⟩:=gd b
 obtain ⟨u,fw,b⟩:=bd b
 refine aZ 6 aA (show 0<g.length by have:=T; omega) (fun h2 o167 m=>?_)
 subst m
 refine dB (K:=dK) 6 (0:Int) dT58.dec R T.1 T.2 ?_
 rintro ⟨⟨c4,cf⟩,⟨dg,dx⟩⟩
 refine cN (cl h2 (o167+(0:Int).toNat*2) [(sc c4 ((ix g (0:Int)).Dims) cf),(sc dg ((ix g (0:Int)).Data) dx)]::RR kT3 c4 cf ((ix g (0:Int)).Dims)::RR kT3 dg dx ((ix g (0:Int)).Data)::aJ l [(.slice none 0 0),(.slice none 0 0)] 58::i) ?_
 refine aZ 7 aA (show 0<j.Ints.length by have:=aj; omega) (fun ii o172 m=>?_)
 subst m
 refine dC 13 [3] bO (fun ht hn=>(dR 0 R (vS R) (hS:=(sL [3])) (dR 1 R (eN fV bQ R R T) (hS:=(sL [3])) (dR 2 R (vz (.agg [(sc c4 ((ix g (0:Int)).Dims) cf),(sc dg ((ix g (0:Int)).Data) dx)].toArray) (eI (fo:=0) 0 fF bQ R R R R)) (hS:=(sL [3])) (dR 3 R (vS R) (hS:=(sL [3])) (dR 4 R (eN bL cE R R aj) (hS:=(sL [3])) (dR 5 R (gY 6 fS aA R aj) (hS:=(sL [3])) (dR 6 R (vS R) (hS:=(sL [3])) (dR 8 R (vS R) (hS:=(sL [3])) (dR 9 R (eN bL cE R R dl) (hS:=(sL [3])) (dR 10 R (gY 6 fS aA R dl) (hS:=(sL [3])) (d1 7 R (fY (K:=kT3) (2:Int) (j.Ints.length:Int) 7 R R bL cE R R R R ag.1 ag.2.1 ag.2.2 (fun ey f5=>(aC (aG (sL [4,0]) (d1 11 R (lM (aO _ _ _::aO _ _ _::RR kT3 ey f5 (sub j.Ints (2:Int) (j.Ints.length:Int))::RR kT3 ey f5 (sub j.Ints (2:Int) (j.Ints.length:Int))::cl _ _ _::aO _ _ _::aO _ _ _::aJ _ _ _::i) (fun w s=>((((s.d 2 R).d 4 R).d 2 R).e 8 [2,1,0,3,4,5,6,7])) ?_))))))))))))))))))
 refine lC 3 AP R (Z0u_ok fw) R ?_
 rintro ⟨⟨au,gi,bl⟩,⟨bq,hg,bs⟩⟩
 refine lN (ow kT3 3 (.slice au gi bl) u.Dims::ow kT3 3 (.slice bq hg bs) u.Data::_::_::_::_::_::i) ?_
 refine aL 0 aB ?_
 rintro rfl
 refine aL 1 aB ?_
 rintro rfl
 refine aC (aG (sL [6,2,1,0]) (d1 12 R (aK 6 R R bQ R R R R R R (lN (_::_::_::_::_::_::aJ l [(sc au u.Dims bl),(sc bq u.Data bs)] 58::i) ?_))))
 refine aC (aG (sL [6,2,1,0]) (dD (aI (bV (dA (cD ?_))))))
 obtain rfl:=so b
 exact dF (vs:=[(.agg [(sc au u.Dims bl),(sc bq u.Data bs)].toArray)]) (.inl R) ((au,u.Dims.length,bl),(bq,u.Data.length,bs)) R ⟨⟨6,l,_,_,R,R,.inl ⟨fF,bQ,R⟩⟩,trivial⟩ R (fun w s=>(s.e 13 [0,1]))
 refine bM R ac (aN (aE (lO (lA R R) (lB R (aC (aI ?_))))))
 rcases cK b with ⟨an,b⟩|⟨an,b⟩
 refine cC R an (aN ?_)
 obtain ⟨O,b⟩:=gd b
 obtain ⟨ba,fa,b⟩:=bd b
 obtain ⟨ah,b⟩:=gd b
 obtain ⟨cj,b⟩:=gd b
 obtain ⟨e0,b⟩:=gd b
 obtain ⟨f1,fz,b⟩:=bd b
 obtain ⟨G,fm,b⟩:=bd b
 refine aZ 6 aA (show 0<g.length by have:=O; omega) (fun f2 o183 m=>?_)
 subst m
 refine dB (K:=dK) 6 (0:Int) dT58.dec R O.1 O.2 ?_
 rintro ⟨⟨cr,cq⟩,⟨dq,cs⟩⟩
 refine cN (cl f2 (o183+(0:Int).toNat*2) [(sc cr ((ix g (0:Int)).Dims) cq),(sc dq ((ix g (0:Int)).Data) cs)]::RR kT3 cr cq ((ix g (0:Int)).Dims)::RR kT3 dq cs ((ix g (0:Int)).Data)::aJ l [(.slice none 0 0),(.slice none 0 0)] 58::i) ?_
 refine aZ 7 aA (show 0<j.Ints.length by have:=ah; omega) (fun io o192 m=>?_)
 subst m
 refine dC 20 [3] bO (fun ht hn=>(dR 0 R (vS R) (hS:=(sL [3])) (dR 1 R (eN fV bQ R R O) (hS:=(sL [3])) (dR 2 R (vz (.agg [(sc cr ((ix g (0:Int)).Dims) cq),(sc dq ((ix g (0:Int)).Data) cs)].toArray) (eI (fo:=0) 0 fF bQ R R R R)) (hS:=(sL [3])) (dR 3 R (vS R) (hS:=(sL [3])) (dR 4 R (eN fV bQ R R O) (hS:=(sL [3])) (dR 5 R (vz (.pointer (some ⟨f2,o183+(0:Int).toNat*2,none⟩)) (jB iH R R)) (hS:=(sL [3])) (dR 6 R (eA (fo:=0) 0 cH R R R) (hS:=(sL [3])) (dR 8 R (vS R) (hS:=(sL [3])) (dR 9 R (eN bL cE R R ah) (hS:=(sL [3])) (dR 10 R (gY 6 fS aA R ah) (hS:=(sL [3])) (dR 11 R (vS R) (hS:=(sL [3])) (dR 12 R (eN bL cE R R cj) (hS:=(sL [3])) (dR 13 R (gY 6 fS aA R cj) (hS:=(sL [3])) (dR 14 R (vS R) (hS:=(sL [3])) (dR 15 R (eN bL cE R R e0) (hS:=(sL [3])) (dR 16 R (gY 6 fS aA R e0) (hS:=(sL [3])) (d1 7 R (lM (_::_::_::_::_::i) (fun w s=>(s.d 1 R)) ?_)))))))))))))))))))
 refine lC 1 uf R (Zu_ok fa) R ?_
 rintro ⟨⟨hj,gh,hi⟩,⟨df,gp,ci⟩⟩
 refine lN (aO kT3 (.slice hj gh hi) ba.Dims::ow kT3 3 (.slice df gp ci) ba.Strides::_::_::_::_::i) ?_
 refine aL 0 aA ?_
 rintro rfl
 refine aL 1 aB ?_
 rintro rfl
 refine aC (aG (sL [5,1,0]) (d1 17 R (iE (fun w s=>s.shr 1 R) (lM (aO _ _ _::RR kT3 df ci ba.Strides::RR kT3 df ci ba.Strides::aO _ _ _::cl _ _ _::aO _ _ _::aO _ _ _::aJ _ _ _::i) (fun w s=>(((s.d 1 R).d 1 R).f 8 [1,1,0,1,2,6])) ?_))))
 refine lC 2 AQ R (Z09_ok fz) R ?_
 rintro ⟨⟨gq,hf,gu⟩,⟨h9,h8,gx⟩⟩
 refine lN (aO kT3 (.slice gq hf gu) f1.Dims::aO kT3 (.slice h9 h8 gx) f1.Strides::_::_::_::_::_::_::i) ?_
 refine aL 0 aA ?_
 rintro rfl
 refine aL 1 aA ?_
 rintro rfl
 refine aC (aG (sL [7,3,2,1,0]) (d1 18 R (lM (aO _ _ _::aO _ _ _::aO _ _ _::aO _ _ _::aO _ _ _::aO _ _ _::aO _ _ _::aO _ _ _::cl _ _ _::aO _ _ _::aO _ _ _::aJ _ _ _::i) (fun w s=>(((((s.d 5 R).d 7 R).d 2 R).d 4 R).f 12 [3,1,2,1,1,1,0,1,4,8])) ?_)))
 refine lC 4 ug R (Zz_ok fm) R ?_
 rintro ⟨⟨bk,hp,br⟩,⟨b5,gb,bn⟩⟩
 refine lN (ow kT3 3 (.slice bk hp br) G.Dims::ow kT3 3 (.slice b5 gb bn) G.Data::_::_::_::_::_::_::_::_::i) ?_
 refine aL 0 aB ?_
 rintro rfl
 refine aL 1 aB ?_
 rintro rfl
 refine aC (aG (sL [9,5,4,3,2,1,0]) (d1 19 R (aK 9 R R bQ R R R R R R (lN (_::_::_::_::_::_::_::_::_::aJ l [(sc bk G.Dims br),(sc b5 G.Data bn)] 58::i) ?_))))
 refine aC (aG (sL [9,5,4,3,2,1,0]) (dD (aI (bV (dA (cD ?_))))))
 obtain rfl:=so b
 exact dF (vs:=[(.agg [(sc bk G.Dims br),(sc b5 G.Data bn)].toArray)]) (.inl R) ((bk,G.Dims.length,br),(b5,G.Data.length,bn)) R ⟨⟨9,l,_,_,R,R,.inl ⟨fF,bQ,R⟩⟩,trivial⟩ R (fun w s=>(s.e 16 [0,1]))
 refine bM R an (dI (eD (aI (aN ?_))))
 obtain ⟨Z,b⟩:=gd b
 obtain ⟨ao,b⟩:=gd b
 obtain ⟨c8,b⟩:=gd b
 obtain ⟨c9,b⟩:=gd b
 obtain ⟨E,ff,b⟩:=bd b
 refine aZ 6 aA (show 0<g.length by have:=Z; omega) (fun hk o205 m=>?_)
 subst m
 refine dB (K:=dK) 6 (0:Int) dT58.dec R Z.1 Z.2 ?_
 rintro ⟨⟨ca,cp⟩,⟨d3,d5⟩⟩
 refine cN (cl hk (o205+(0:Int).toNat*2) [(sc ca ((ix g (0:Int)).Dims) cp),(sc d3 ((ix g (0:Int)).Data) d5)]::RR kT3 ca cp ((ix g (0:Int)).Dims)::RR kT3 d3 d5 ((ix g (0:Int)).Data)::aJ l [(.slice none 0 0),(.slice none 0 0)] 58::i) ?_
 refine aZ 7 aA (show 0<j.Ints.length by have:=ao; omega) (fun ik o210 m=>?_)
 subst m
 refine dC 14 [3] bO (fun ht hn=>(dR 0 R (vS R) (hS:=(sL [3])) (dR 1 R (eN fV bQ R R Z) (hS:=(sL [3])) (dR 2 R (vz (.agg [(sc ca ((ix g (0:Int)).Dims) cp),(sc d3 ((ix g (0:Int)).Data) d5)].toArray) (eI (fo:=0) 0 fF bQ R R R R)) (hS:=(sL [3])) (dR 3 R (vS R) (hS:=(sL [3])) (dR 4 R (eN bL cE R R ao) (hS:=(sL [3])) (dR 5 R (gY 6 fS aA R ao) (hS:=(sL [3])) (dR 6 R (vS R) (hS:=(sL [3])) (dR 7 R (eN bL cE R R c8) (hS:=(sL [3])) (dR 8 R (gY 6 fS aA R c8) (hS:=(sL [3])) (dR 9 R (vS R) (hS:=(sL [3])) (dR 10 R (eN bL cE R R c9) (hS:=(sL [3])) (dR 11 R (gY 6 fS aA R c9) (hS:=(sL [3])) (d1 12 R (lM (aO _ _ _::aO _ _ _::cl _ _ _::aO _ _ _::aO _ _ _::aJ _ _ _::i) (fun w s=>(((s.d 1 R).d 3 R).e 6 [1,0,2,3,4,5])) ?_)))))))))))))))
 refine lC 2 AR R (Z0r_ok ff) R ?_
 rintro ⟨⟨bm,hc,bv⟩,⟨bu,gc,bw⟩⟩
 refine lN (ow kT3 3 (.slice bm hc bv) E.Dims::ow kT3 3 (.slice bu gc bw) E.Data::_::_::_::_::i) ?_
 refine aL 0 aB ?_
 rintro rfl
 refine aL 1 aB ?_
 rintro rfl
 refine aC (aG (sL [5,1,0]) (d1 13 R (aK 5 R R bQ R R R R R R (lN (_::_::_::_::_::aJ l [(sc bm E.Dims bv),(sc bu E.Data bw)] 58::i) ?_))))
 refine aC (aG (sL [5,1,0]) (dD (aI (bV ?_))))
 obtain rfl:=so b
 exact dF (vs:=[(.agg [(sc bm E.Dims bv),(sc bu E.Data bw)].toArray)]) (.inl R) ((bm,E.Dims.length,bv),(bu,E.Data.length,bw)) R ⟨⟨5,l,_,_,R,R,.inl ⟨fF,bQ,R⟩⟩,trivial⟩ R (fun w s=>(s.e 12 [0,1]))
theorem Z0q_ok  {i:(List Int)}{M:Int}{r:Tensor}(b:Z0q i M=some r) :
 FnOk Tryz.prog 54 [(.slice A2 N2 D2),(iv M)] [aO kT3 (.slice A2 N2 D2) i] (fun (h:HH×HH)=>((.agg [(s3 h.1),(s3 h.2)].toArray),[ow kT3 3 (s3 h.1) r.Dims,ow kT3 3 (s3 h.2) r.Data])):=by
 unfold Z0q at b
 refine aQ Tryz.func54 R 27 R R fun C V=>?_
 refine cL 0 aA ?_
 rintro rfl
 let u:=RR kT3 A2 D2 i::V
 refine cN u ?_
 refine aU ?_
 refine bE R R dP (fun B=>(aC (aI (aN (aN ?_)))))
 obtain ⟨r5,G,b⟩:=bd b
 refine aU ?_
 refine lM _ (fun w s=>(s.d 1 R)) ?_
 refine lC 1 k9 R (Zm_ok G) R ?_
 rintro _
 refine aP ?_
 split at b
 refine aP ?_
 refine lO (vz (.agg [(.slice none 0 0),(.slice none 0 0)].toArray) (aV gK dP R R)) (aK 0 R R bQ R R R R R R (aC (aI (bV (cD ?_)))))
 cases b
 exact qS ((none,0,0),(none,0,0)) (fun w s=>(((s.nilo kT3 3).nilo kT3 3).e 4 [1,0]))
 refine bG ?_
 obtain ⟨g,T,b⟩:=bd b
 refine aU ?_
 refine lM _ (fun w s=>(s.d 1 R)) ?_
 refine lC 1 nz R (Z0e_ok T) R ?_
 rintro ⟨⟨A10,N10,D10⟩,⟨A11,N11,D11⟩⟩
 refine aL 0 aB ?_
 rintro rfl
 refine aL 1 aB ?_
 rintro rfl
 refine bE R R dP (fun j=>(aK 0 R R bQ R R R R R R (lN (aJ j [(sc A10 g.Dims D10),(sc A11 g.Data D11)] 58::_::_::_::u) ?_)))
 refine aP ?_
 refine bB (A:=((List Int))×(Unit)) (fun a=>Z0q_J1 g a.1=some r) (fun a=>[(4,(pt B 0)),(5,(pt j 0))]) (fun a=>aJ B [(.slice none 0 0),(.slice none 0 0)] 58::aJ j [(sc A10 g.Dims D10),(sc A11 g.Data D11)] 58::OO kT3 3 A10 D10 g.Dims::ow kT3 3 (.slice A11 g.Data.length D11) a.1::u) ?_ ?_
 refine bS ?_
 obtain ⟨e1,F,E⟩:=bd b
 refine bC (A:=Unit) F (fun s a=>[(1,(iv M)),(4,(pt B 0)),(5,(pt j 0)),(6,(iv s.2))]) (fun s a=>aJ B [(.slice none 0 0),(.slice none 0 0)] 58::aJ j [(sc A10 g.Dims D10),(sc A11 g.Data D11)] 58::OO kT3 3 A10 D10 g.Dims::ow kT3 3 (.slice A11 g.Data.length D11) s.1::u) () (aS R) (tE 4 [3,0,1,2]) ?_
 rintro ⟨D,O⟩ _ σ1 U b J
 dsimp only [Z0q_L1] at b
 refine cT ?_
 split at b
 refine b' ?_
 obtain ⟨q,m,b⟩:=bd b
 obtain ⟨l,b⟩:=gd b
 refine aZ 3 aB (show 0<g.Data.length by have:=l; omega) (fun Y o26 Z=>?_)
 subst Z
 refine dC 7 [3] bO fun ht hn=>?_
 refine og 0 [3] ?_
 refine d1 4 R (lC 0 lD R (Zn_ok m) R ?_)
 rintro _
 refine aC (aG (sL [3]) ?_)
 refine oe 5 [3] ?_
 refine d1 6 R (lM _ (tE 4 [3,0,1,2]) ?_)
 refine dX (K:=kT3) (x':=q) 0 O R R cE R R l.1 l.2 ?_ ?_
 exact fun I h s=>(gJ).put I h () q s
 refine aC (aG (sL [0]) (dD ?_))
 refine dH ?_
 cases b
 exact qA () (tE 4 [1,2,3,0])
 refine aP ?_
 cases b
 obtain rfl:=J _ R
 have b:=E
 refine aU ?_
 exact qI (D,()) b tI
 rintro ⟨L,_⟩ σ1 b
 dsimp only [Z0q_J1] at b
 refine aP ?_
 refine aK 0 R R bQ R R R R R R (lN (aJ B [(sc A10 g.Dims D10),(sc A11 g.Data D11)] 58::aJ j [(sc A10 g.Dims D10),(sc A11 g.Data D11)] 58::_::ow kT3 3 (.slice A11 g.Data.length D11) L::u) ?_)
 refine aP ?_
 cases b
 exact qS ((A10,g.Dims.length,D10),(A11,g.Data.length,D11)) (tE 5 [2,3])
theorem Z9_ok  {g1:Graph}{g:(List Tensor)}{l:Bool}{r:(List Tensor)×Bool}(j:Z9 g1 g l=some r) :
 FnOk Tryz.prog 34 [(.agg [(.slice A2 N2 D2),(.slice A3 N3 D3)].toArray),(.slice A5 N5 D5),(.bool l)] [aO dL (.slice A2 N2 D2) g1.Nodes,aO kT3 (.slice A3 N3 D3) g1.Outs,aO dK (.slice A5 N5 D5) g] (fun (h:HH)=>((.tuple [(s3 h),(.bool r.2)].toArray),[ow (dK).share 58 (s3 h) r.1])):=by
 unfold Z9 at j
 refine aQ Tryz.func34 R 143 R R fun C V=>?_
 refine cL 0 aA ?_
 rintro rfl
 refine cL 1 aA ?_
 rintro rfl
 refine cL 2 aA ?_
 rintro rfl
 let W0:=RR dL A2 D2 g1.Nodes::RR kT3 A3 D3 g1.Outs::RR dK A5 D5 g::V
 refine cN W0 ?_
 refine aU ?_
 refine eG R fun b7=>?_
 refine aP ?_
 let W1:=aJ b7 [(sc A2 g1.Nodes D2),(sc A3 g1.Outs D3)] 30::W0
 refine qN W1 ?_
 refine aP ?_
 refine bK (K:=dK) (xs:=([]:List Tensor)) (vs:=[]) 0 R R fV bQ dP R R R R R R ?_ R (fun A8 D8=>?_)
 exact fun I h s=>(wu).list [] I h s
 refine b' ?_
 refine cQ [(1,(sc A5 g D5)),(2,(.bool l)),(3,(pt b7 0)),(8,(sc A8 ([]:List Tensor) D8)),(25,(.bool ((decide ((g1.Nodes.length:Int)>200))||(decide ((g1.Outs.length:Int)>40)))))] (OO dK 58 A8 D8 ([]:List Tensor)::W1) ?_ ?_
 refine bS ?_
 rcases bo (decide ((g1.Nodes.length:Int)>200)) with cq | cq
 refine bS ?_
 exact qj tI
 refine bS ?_
 exact qj tI
 rintro σ1
 refine bR ?_
 split at j
 refine cT ?_
 cases j
 exact jC (A8,([]:List Tensor).length,D8) (fun w s=>((s.wk 0 R).e 5 [0]))
 refine cP ?_
 refine bB (A:=((List Tensor)×Int)×(HH)) (fun a=>Z9_J5 g1 g l a.1.1 a.1.2=some r) (fun a=>[(1,(sc A5 g D5)),(2,(.bool l)),(3,(pt b7 0)),(8,(s3 a.2)),(9,(iv a.1.2))]) (fun a=>ow (dK).share 58 (s3 a.2) a.1.1::W1) ?_ ?_
 refine bS ?_
 obtain ⟨e1,cr,aw⟩:=bd j
 refine bC (A:=HH) cr (fun s a=>[(1,(sc A5 g D5)),(2,(.bool l)),(3,(pt b7 0)),(8,(s3 a)),(9,(iv s.2.1)),(10,(iv s.2.2))]) (fun s a=>ow (dK).share 58 (s3 a) s.1::W1) (A8,([]:List Tensor).length,D8) (aS R) (fun w s=>(s.wk 0 R)) ?_
 rintro ⟨i,q,b⟩ ⟨u,cn,D⟩ σ1 bc j ax
 dsimp only [Z9_L1] at j
 refine bI 0 dY (fun (hn:cn=i.length)=>?_)
 subst hn
 refine cT ?_
 split at j
 refine bS ?_
 obtain ⟨ab,j⟩:=gd j
 refine bG ?_
 refine bD 2 aA (show 0<g1.Nodes.length by have:=ab; omega) (fun d2 o110 ha=>?_)
 subst ha
 refine bR ?_
 refine gN (K:=dL) 2 b dT54.dec R ab.1 ab.2 ?_
 rintro ⟨-,⟨F,E⟩,⟨T,J⟩,⟨O,L⟩,-,⟨M,G⟩⟩
 refine lO (vz (.agg [(iv (ix g1.Nodes b).Op),(sc F ((ix g1.Nodes b).Args) E),(sc T ((ix g1.Nodes b).Dims) J),(sc O ((ix g1.Nodes b).Ints) L),(aD (ix g1.Nodes b).Form),(sc M ((ix g1.Nodes b).Data) G)].toArray) (eI (fo:=0) 0 si mT R R R R)) (bE R R se (fun Y=>(aK 0 R R mT R R R R R R (lN (aJ Y [(iv (ix g1.Nodes b).Op),(sc F ((ix g1.Nodes b).Args) E),(sc T ((ix g1.Nodes b).Dims) J),(sc O ((ix g1.Nodes b).Ints) L),(aD (ix g1.Nodes b).Form),(sc M ((ix g1.Nodes b).Data) G)] 54::_::_::_::_::_::_::W1) ?_))))
 refine bG ?_
 obtain ⟨b2,c0,j⟩:=bd j
 obtain ⟨cc,bz,j⟩:=bd j
 refine cQ [(1,(sc A5 g D5)),(2,(.bool l)),(3,(pt b7 0)),(8,(sc u i D)),(9,(iv q)),(10,(iv b)),(11,(pt Y 0)),(48,(.bool ((!b2)||(!cc))))] (OO (dK).share 58 u D i::aJ Y [(iv (ix g1.Nodes b).Op),(sc F ((ix g1.Nodes b).Args) E),(sc T ((ix g1.Nodes b).Dims) J),(sc O ((ix g1.Nodes b).Ints) L),(aD (ix g1.Nodes b).Form),(sc M ((ix g1.Nodes b).Data) G)] 54::RR kT3 F E ((ix g1.Nodes b).Args)::RR kT3 T J ((ix g1.Nodes b).Dims)::RR kT3 O L ((ix g1.Nodes b).Ints)::RR kT3 M G ((ix g1.Nodes b).Data)::W1) ?_ ?_
 refine aU ?_
 refine lM _ (fun w s=>(((((s.d 2 R).d 4 R).d 6 R).d 8 R).f 11 [3,1,2,1,1,1,0,1,4,7])) ?_
 refine lC 4 AF R (Z17_ok c0) R ?_
 rintro _
 refine aU ?_
 rcases bo (!b2) with a8 | a8
 refine dH ?_
 exact qj (tE 7 [6,0,2,3,4,5])
 refine aP ?_
 refine lM _ (fun w s=>(s.d 2 R)) ?_
 refine bW 1 R (bY a8) ue R (Z0g_ok (bJ bz (cO a8))) R ?_
 rintro _
 refine aP ?_
 exact qj (tE 7 [6,0,2,3,4,5])
 rintro σ1
 refine bR ?_
 split at j
 refine iG ?_
 cases j
 obtain rfl:=ax _ R
 have j:=aw
 refine aP ?_
 cases j
 exact jC (u,i.length,D) (tE 10 [0])
 refine b' ?_
 refine bK (K:=dK) (xs:=([]:List Tensor)) (vs:=[]) 0 R R fV bQ dP R R R R R R ?_ R (fun c9 c7=>?_)
 exact fun I h s=>(wu).list [] I h s
 refine bG ?_
 refine bB (A:=((List Tensor))×(HH)) (fun a=>Z9_J3 g1 g l i q b a.1=some bc) (fun a=>[(1,(sc A5 g D5)),(2,(.bool l)),(3,(pt b7 0)),(8,(sc u i D)),(9,(iv q)),(10,(iv b)),(11,(pt Y 0)),(12,(s3 a.2))]) (fun a=>OO (dK).share 58 u D i::aJ Y [(iv (ix g1.Nodes b).Op),(sc F ((ix g1.Nodes b).Args) E),(sc T ((ix g1.Nodes b).Dims) J),(sc O ((ix g1.Nodes b).Ints) L),(aD (ix g1.Nodes b).Form),(sc M ((ix g1.Nodes b).Data) G)] 54::RR kT3 F E ((ix g1.Nodes b).Args)::RR kT3 T J ((ix g1.Nodes b).Dims)::RR kT3 O L ((ix g1.Nodes b).Ints)::RR kT3 M G ((ix g1.Nodes b).Data)::ow (dK).share 58 (s3 a.2) a.1::W1) ?_ ?_
 refine bS ?_
 obtain ⟨e2,cp,co⟩:=bd j
 refine bC (A:=HH) cp (fun s a=>[(1,(sc A5 g D5)),(2,(.bool l)),(3,(pt b7 0)),(8,(sc u i D)),(9,(iv q)),(10,(iv b)),(11,(pt Y 0)),(12,(s3 a)),(13,(iv s.2))]) (fun s a=>OO (dK).share 58 u D i::aJ Y [(iv (ix g1.Nodes b).Op),(sc F ((ix g1.Nodes b).Args) E),(sc T ((ix g1.Nodes b).Dims) J),(sc O ((ix g1.Nodes b).Ints) L),(aD (ix g1.Nodes b).Form),(sc M ((ix g1.Nodes b).Data) G)] 54::RR kT3 F E ((ix g1.Nodes b).Args)::RR kT3 T J ((ix g1.Nodes b).Dims)::RR kT3 O L ((ix g1.Nodes b).Ints)::RR kT3 M G ((ix g1.Nodes b).Data)::ow (dK).share 58 (s3 a) s.1::W1) (c9,([]:List Tensor).length,c7) (aS R) (fun w s=>((s.wk 0 R).f 7 [1,6,0,1])) ?_
 rintro ⟨a6,a0⟩ ⟨cf,cb,cm⟩ σ1 db j cs
 dsimp only [Z9_L2] at j
 refine bI 6 dY (fun (hn:cb=a6.length)=>?_)
 subst hn
 refine cT ?_
 split at j
 refine b' ?_
 obtain ⟨br,j⟩:=gd j
 obtain ⟨a9,j⟩:=gd j
 obtain ⟨bv,j⟩:=gd j
 refine bS ?_
 refine bD 2 aA (show 0<((ix g1.Nodes b).Args).length by have:=br; omega) (fun dc o141 ha=>?_)
 subst ha
 refine aU ?_
 refine bD 0 dY (show 0<i.length by have:=a9; omega) (fun ct o144 ha=>?_)
 subst ha
 refine bR ?_
 refine y1 (K:=(dK).share) 0 (ix ((ix g1.Nodes b).Args) a0) R R fF bQ dT58.own R R a9.1 a9.2 ?_
 rintro ⟨⟨bg,bf⟩,⟨b8,b3⟩⟩
 refine lM _ (fun w s=>(((s.d 0 R).d 2 R).f 11 [1,1,0,1,2,9])) ?_
 refine bK (K:=(dK).share) (xs:=([(ix i (ix ((ix g1.Nodes b).Args) a0))]:List Tensor)) (vs:=[(.agg [(sc bg ((ix i (ix ((ix g1.Nodes b).Args) a0)).Dims) bf),(sc b8 ((ix i (ix ((ix g1.Nodes b).Args) a0)).Data) b3)].toArray)]) 2 R R fV bQ dP R R R R R R ?_ R (fun cv d0=>?_)
 exact fun I h s=>(yi).list [(((sc bg ((ix i (ix ((ix g1.Nodes b).Args) a0)).Dims) bf),(sc b8 ((ix i (ix ((ix g1.Nodes b).Args) a0)).Data) b3)),(ix i (ix ((ix g1.Nodes b).Args) a0)))] I h s
 refine lM _ (fun w s=>(s.f 10 [9,1,0,9])) ?_
 refine eF (K:=(dK).share) 2932031007402 R R fV bQ yo (Zr.zk (Zr.share yj) dP) R R R R R R dO bv (fun ba bm=>(lN (OO (dK).share 58 ba bm (a6++([(ix i (ix ((ix g1.Nodes b).Args) a0))]:List Tensor))::_::_::_::_::_::_::_::_::W1) ?_))
 refine cP ?_
 cases j
 exact qA (ba,(a6++([(ix i (ix ((ix g1.Nodes b).Args) a0))]:List Tensor)).length,bm) (fun w s=>(s.f 9 [3,6,0,1]))
 refine aP ?_
 cases j
 obtain rfl:=cs _ R
 have j:=co
 refine aU ?_
 exact qI (a6,(cf,a6.length,cm)) j tI
 rintro ⟨a7,⟨ai,cg,ac⟩⟩ σ1 j
 dsimp only [Z9_J3] at j
 refine bI 6 dY (fun (hn:cg=a7.length)=>?_)
 subst hn
 refine aU ?_
 refine lO (vz (.agg [(.slice none 0 0),(.slice none 0 0)].toArray) (aV gK dP R R)) (bE R R dP (fun a1=>(aK 0 R R bQ R R R R R R (lN (_::OO (dK).share 58 u D i::aJ Y [(iv (ix g1.Nodes b).Op),(sc F ((ix g1.Nodes b).Args) E),(sc T ((ix g1.Nodes b).Dims) J),(sc O ((ix g1.Nodes b).Ints) L),(aD (ix g1.Nodes b).Form),(sc M ((ix g1.Nodes b).Data) G)] 54::RR kT3 F E ((ix g1.Nodes b).Args)::_::_::_::OO (dK).share 58 ai ac a7::W1) ?_))))
 refine aP ?_
 refine bB (A:=(Int×(List Int)×(List Int))×(HH×HH)) (fun a=>Z9_J4 i b a.1.1 a.1.2.1 a.1.2.2=some bc) (fun a=>[(1,(sc A5 g D5)),(2,(.bool l)),(3,(pt b7 0)),(8,(sc u i D)),(9,(iv a.1.1)),(10,(iv b)),(14,(pt a1 0))]) (fun a=>OO (dK).share 58 u D i::aJ a1 [(s3 a.2.1),(s3 a.2.2)] 58::ow kT3 3 (s3 a.2.1) a.1.2.1::ow kT3 3 (s3 a.2.2) a.1.2.2::W1) ?_ ?_
 refine cP ?_
 split at j
 refine bR ?_
 obtain ⟨a5,c3,j⟩:=bd j
 refine aP ?_
 refine lM _ (fun w s=>(((((s.d 3 R).d 5 R).d 7 R).d 9 R).e 12 [11,3,2,1,0,4,5,6,7,8,9,10])) ?_
 refine lC 5 AS R (FnOk.lends (A':=[OO (dK).share 58 ai ac a7]) (A:=[RR dK ai ac a7]) (B:=[RR kT3 F E ((ix g1.Nodes b).Args),RR kT3 T J ((ix g1.Nodes b).Dims),RR kT3 O L ((ix g1.Nodes b).Ints),RR kT3 M G ((ix g1.Nodes b).Data)]) (FnOk.perm (Z1_ok c3) (Pre':=[RR dK ai ac a7,RR kT3 F E ((ix g1.Nodes b).Args),RR kT3 T J ((ix g1.Nodes b).Dims),RR kT3 O L ((ix g1.Nodes b).Ints),RR kT3 M G ((ix g1.Nodes b).Data)]) (fun _ _ _ s=>(s.f 5 [1,4,0,1]))) ⟨jU,trivial⟩ (fun _=>⟨(bH j0),(bH j0),trivial⟩)) R ?_
 rintro ⟨⟨bp,d7,bb⟩,⟨bi,d9,ay⟩⟩
 refine aL 1 aB ?_
 rintro rfl
 refine aL 2 aB ?_
 rintro rfl
 refine aK 3 R R bQ R R R R R R (lN (_::_::_::aJ a1 [(sc bp a5.Dims bb),(sc bi a5.Data ay)] 58::_::_::_::_::_::_::W1) ?_)
 refine aU ?_
 exact qI ((q,a5.Dims,a5.Data),((bp,a5.Dims.length,bb),(bi,a5.Data.length,ay))) j (tE 10 [4,3,1,2])
 refine dH ?_
 split at j
 refine bR ?_
 obtain ⟨a4,c1,j⟩:=bd j
 refine aP ?_
 refine lM _ (fun w s=>(s.d 4 R)) ?_
 refine lC 1 AT R (Z0q_ok c1) R ?_
 rintro ⟨⟨b5,d8,be⟩,⟨bh,da,b0⟩⟩
 refine aL 0 aB ?_
 rintro rfl
 refine aL 1 aB ?_
 rintro rfl
 refine aK 2 R R bQ R R R R R R (lN (_::_::aJ a1 [(sc b5 a4.Dims be),(sc bh a4.Data b0)] 58::_::_::_::_::_::_::_::W1) ?_)
 refine aU ?_
 exact qI ((q,a4.Dims,a4.Data),((b5,a4.Dims.length,be),(bh,a4.Data.length,b0))) j (tE 10 [3,2,0,1])
 refine aP ?_
 obtain ⟨U,j⟩:=gd j
 obtain ⟨bn,al,j⟩:=bd j
 obtain ⟨bw,j⟩:=gd j
 obtain ⟨ch,bu,j⟩:=bd j
 refine cQ [(1,(sc A5 g D5)),(2,(.bool l)),(3,(pt b7 0)),(8,(sc u i D)),(9,(iv q)),(10,(iv b)),(11,(pt Y 0)),(14,(pt a1 0)),(92,(.bool (((decide (q≥(g.length:Int)))||(!bn))||(!ch))))] (OO (dK).share 58 u D i::aJ Y [(iv (ix g1.Nodes b).Op),(sc F ((ix g1.Nodes b).Args) E),(sc T ((ix g1.Nodes b).Dims) J),(sc O ((ix g1.Nodes b).Ints) L),(aD (ix g1.Nodes b).Form),(sc M ((ix g1.Nodes b).Data) G)] 54::RR kT3 F E ((ix g1.Nodes b).Args)::RR kT3 T J ((ix g1.Nodes b).Dims)::RR kT3 O L ((ix g1.Nodes b).Ints)::RR kT3 M G ((ix g1.Nodes b).Data)::aJ a1 [(.slice none 0 0),(.slice none 0 0)] 58::W1) ?_ ?_
 rcases bo (decide (q≥(g.length:Int))) with m | m
 refine dC 23 [] bO fun ht hn=>?_
 refine Aq 0 [] ?_
 refine dD ?_
 exact qj (fun w s=>(s.f 8 [1,6,0,1]))
 rcases bo ((decide (q≥(g.length:Int)))||(!bn)) with Z | Z
 refine aZ 11 aA (show 0<g.length by have:=(U m); omega) (fun b1 o168 ha=>?_)
 subst ha
 refine dB (K:=dK) 11 q dT58.dec R (U m).1 (U m).2 ?_
 rintro ⟨⟨an,av⟩,⟨ap,ar⟩⟩
 refine dC 23 [] bO fun ht hn=>?_
 refine s6 0 [] ?_
 refine dW 7 R (bY m) (eN fV bQ R R (U m)) (dW 8 R (bY m) (vz (.agg [(sc an ((ix g q).Dims) av),(sc ap ((ix g q).Data) ar)].toArray) (eI (fo:=0) 0 fF bQ R R R R)) (d1 9 R (lM _ (fun w s=>(((s.d 1 R).d 3 R).f 13 [1,1,0,1,2,11])) ?_)))
 refine bW 2 R (bY m) ny R (Zo_ok (bJ al (cO m))) R ?_
 rintro _
 refine aC (aG (sL []) ?_)
 refine mr 10 [] ?_
 refine dD ?_
 exact qj (fun w s=>(s.f 11 [4,6,3,1]))
 refine aZ 11 aA (show 0<g.length by have:=(U m); omega) (fun b1 o168 ha=>?_)
 subst ha
 refine dB (K:=dK) 11 q dT58.dec R (U m).1 (U m).2 ?_
 rintro ⟨⟨an,av⟩,⟨ap,ar⟩⟩
 refine dC 23 [] bO fun ht hn=>?_
 refine s6 0 [] ?_
 refine dW 7 R (bY m) (eN fV bQ R R (U m)) (dW 8 R (bY m) (vz (.agg [(sc an ((ix g q).Dims) av),(sc ap ((ix g q).Data) ar)].toArray) (eI (fo:=0) 0 fF bQ R R R R)) (d1 9 R (lM _ (fun w s=>(((s.d 1 R).d 3 R).f 13 [1,1,0,1,2,11])) ?_)))
 refine bW 2 R (bY m) ny R (Zo_ok (bJ al (cO m))) R ?_
 rintro _
 refine aC (aG (sL []) ?_)
 refine kh 10 [] ?_
 refine dW 15 R (bY Z) (eN fV bQ R R (bw Z)) (dW 16 R (bY Z) (vz (.pointer (some ⟨b1,o168+q.toNat*2,none⟩)) (jB iH R R)) (dW 17 R (bY Z) (eA (fo:=0) 0 cH R R R) ?_))
 refine gO 18 [] ?_
 refine d1 20 R (lM _ (fun w s=>(((s.d 1 R).d 8 R).f 13 [1,1,0,1,2,11])) ?_)
 refine bW 2 R (bY Z) wI R (Zy_ok (bJ bu (cO Z))) R ?_
 rintro _
 refine aC (aG (sL []) ?_)
 refine gO 21 [] ?_
 refine dD ?_
 exact qj (fun w s=>(s.f 11 [4,6,3,1]))
 rintro σ1
 refine bR ?_
 split at j
 refine od ?_
 cases j
 obtain rfl:=ax _ R
 have j:=aw
 refine aP ?_
 cases j
 exact jC (u,i.length,D) (tE 11 [0])
 refine bG ?_
 obtain ⟨ah,c6,j⟩:=bd j
 obtain ⟨aa,j⟩:=gd j
 obtain ⟨ag,c2,j⟩:=bd j
 refine aZ 10 aA (show 0<g.length by have:=aa; omega) (fun ca o184 ha=>?_)
 subst ha
 refine dB (K:=dK) 10 q dT58.dec R aa.1 aa.2 ?_
 rintro ⟨⟨d3,d5⟩,⟨cu,d6⟩⟩
 refine dC 11 [9] bO fun ht hn=>?_
 refine gO 0 [9] ?_
 refine hJ 3 [9] ?_
 refine dR 6 R (vz (.pointer (some ⟨ca,o184+q.toNat*2+1,none⟩)) (jB sk R R)) (hS:=(sL [9])) (dR 7 R (eA (fo:=1) 0 cH R R R) (hS:=(sL [9])) (d1 2 R (lM _ (fun w s=>(s.d 6 R)) ?_)))
 refine lC 1 jM R (Zq_ok c6) R ?_
 rintro ⟨au,cw,aj⟩
 refine aL 0 aB ?_
 rintro rfl
 refine aC (aG (sL [10,0]) (d1 8 R (lM _ (fun w s=>(s.d 3 R)) ?_)))
 refine lC 1 jM R (Zq_ok c2) R ?_
 rintro ⟨am,d4,ao⟩
 refine aL 0 aB ?_
 rintro rfl
 refine aC (aG (sL [11,1,0]) (dR 9 R (vz (.agg [(sc au ah aj),(sc am ag ao)].toArray) (aV gK dP R R)) (hS:=(sL [11,1,0])) (d1 10 R (aK 11 R R bQ R R R R R R (lN (_::_::_::_::_::_::_::_::_::_::_::aJ a1 [(sc au ah aj),(sc am ag ao)] 58::W1) ?_)))))
 refine aC (aG (sL [11,1,0]) (dD ?_))
 refine dH ?_
 exact qI (((aH (q+1)),ah,ag),((au,ah.length,aj),(am,ag.length,ao))) j (tE 12 [5,11,1,0])
 rintro ⟨⟨cx,a3,a2⟩,⟨⟨b9,cj,az⟩,⟨bk,ci,b4⟩⟩⟩ σ1 j
 dsimp only [Z9_J4] at j
 refine bI 2 aB (fun (hn:cj=a3.length)=>?_)
 subst hn
 refine bI 3 aB (fun (hn:ci=a2.length)=>?_)
 subst hn
 refine cP ?_
 split at j
 refine iG ?_
 cases j
 obtain rfl:=ax _ R
 have j:=aw
 refine aP ?_
 cases j
 exact jC (u,i.length,D) (tE 8 [0])
 refine aP ?_
 obtain ⟨c5,j⟩:=gd j
 refine aP ?_
 refine lM _ (fun w s=>(((((s.shr 2 R).d 0 R).shr 4 R).d 0 R).e 6 [2,0,1,3,4,5])) ?_
 refine bK (K:=(dK).share) (xs:=([(⟨a3,a2⟩:Tensor)]:List Tensor)) (vs:=[(.agg [(sc b9 a3 az),(sc bk a2 b4)].toArray)]) 2 R R fV bQ dP R R R R R R ?_ R (fun cy cz=>?_)
 exact fun I h s=>(yi).list [(((sc b9 a3 az),(sc bk a2 b4)),(⟨a3,a2⟩:Tensor))] I h s
 refine lM _ (tE 5 [3,0,1,2,4]) ?_
 refine eF (K:=(dK).share) 2932031007402 R R fV bQ yo (Zr.zk (Zr.share yj) dP) R R R R R R dO c5 (fun b6 bl=>(lN (OO (dK).share 58 b6 bl (i++([(⟨a3,a2⟩:Tensor)]:List Tensor))::_::_::_::W1) ?_))
 refine cP ?_
 cases j
 exact qA (b6,(i++([(⟨a3,a2⟩:Tensor)]:List Tensor)).length,bl) (tE 4 [0])
 refine aP ?_
 cases j
 obtain rfl:=ax _ R
 have j:=aw
 refine aU ?_
 exact qI ((i,q),(u,i.length,D)) j tI
 rintro ⟨⟨ae,ck⟩,⟨aq,c8,ak⟩⟩ σ1 j
 dsimp only [Z9_J5] at j
 refine bI 0 dY (fun (hn:c8=ae.length)=>?_)
 subst hn
 refine bR ?_
 obtain ⟨bj,c4,j⟩:=bd j
 refine cQ [(6,(sc aq ae ak)),(7,(.bool (bj&&(l||(ck==(g.length:Int))))))] (OO (dK).share 58 aq ak ae::W1) ?_ ?_
 refine dH ?_
 refine lM _ (fun w s=>(s.d 3 R)) ?_
 refine lC 1 ue R (Z0g_ok c4) R ?_
 rintro _
 refine bR ?_
 rcases bo bj with bq | bq
 refine aU ?_
 rcases bo l with bs | bs
 refine cP ?_
 exact qj tI
 refine cP ?_
 exact qj tI
 refine iu ?_
 exact qj tI
 rintro σ1
 refine aU ?_
 cases j
 exact jC (aq,ae.length,ak) (tE 5 [0])
theorem Z0l_ok  {g1:Graph}{r:(List (List Int))}(g:Z0l g1=some r) :
 FnOk Tryz.prog 20 [(.agg [(.slice A2 N2 D2),(.slice A3 N3 D3)].toArray)] [aO dL (.slice A2 N2 D2) g1.Nodes,aO kT3 (.slice A3 N3 D3) g1.Outs] (fun (h:HH)=>((.slice h.1 h.2.1 h.2.2),[ow (kT23).share 23 (.slice h.1 h.2.1 h.2.2) r])):=by
 unfold Z0l at g
 refine aQ Tryz.func20 R 32 R R fun C V=>?_
 refine cN (_::_::V) ?_
 refine cL 0 aA ?_
 rintro rfl
 refine cL 1 aA ?_
 rintro rfl
 let W0:List HP:=RR dL A2 D2 g1.Nodes::RR kT3 A3 D3 g1.Outs::V
 refine cN W0 ?_
 refine aN (aE (eG R (fun b4=>(lS R (aC ?_)))))
 let q:List HP:=aJ b4 [(sc A2 g1.Nodes D2),(sc A3 g1.Outs D3)] 30::W0
 refine qN q ?_
 refine aI (aN (aE (bK (K:=kT23) (xs:=([]:List (List Int))) (vs:=[]) 0 R R ji eZ kj R R R R R R ?_ R (fun A5 D5=>?_))))
 exact fun I h s=>(l3).list [] I h s
 refine lN (OO kT23 23 A5 D5 ([]:List (List Int))::q) ?_
 refine lS R (aC (aI (aN ?_)))
 obtain ⟨i,a5,g⟩:=bd g
 refine aE (lO (vz (.agg [(sc A2 g1.Nodes D2),(sc A3 g1.Outs D3)].toArray) (dT 1 wH sj R R R R)) (bK (K:=dK) (xs:=([]:List Tensor)) (vs:=[]) 0 R R fV bQ dP R R R R R R ?_ R (fun A6 D6=>?_)))
 exact fun I h s=>(wu).list [] I h s
 refine lN (OO dK 58 A6 D6 ([]:List Tensor)::_::q) ?_
 refine iE (fun w s=>s.shr 0 R) (lM (RR dL A2 D2 g1.Nodes::RR kT3 A3 D3 g1.Outs::RR dK A6 D6 ([]:List Tensor)::RR dK A6 D6 ([]:List Tensor)::ow _ _ _ _::q) (fun w s=>((((s.d 3 R).d 5 R).d 2 R).e 5 [2,1,0,3,4])) ?_)
 refine lC 3 AU R (Z9_ok a5) R ?_
 rintro ⟨A9,N9,D9⟩
 refine lN (ow (dK).share 58 (.slice A9 N9 D9) i.1::_::_::q) ?_
 refine aL 0 dY ?_
 rintro rfl
 refine lO (vT R) (lS R (lB R (lS R (lB R (aC (aI (aN (bB (A:=((List (List Int)))×(HH)) (fun a=>Z0l_J1 a.1=some r) (fun a=>[(3,(.slice a.2.1 a.2.2.1 a.2.2.2))]) (fun a=>ow (kT23).share 23 (.slice a.2.1 a.2.2.1 a.2.2.2) a.1::q) ?_ ?_))))))))
 refine aN (aE (lI R (aC (aI (dS ?_)))))
 obtain ⟨e1,a0,U⟩:=bd g
 refine bC (A:=HH) a0 (fun s a=>[(3,(.slice a.1 a.2.1 a.2.2)),(4,(sc A9 i.1 D9)),(5,(.bool i.2)),(6,(iv s.2))]) (fun s a=>ow (kT23).share 23 (.slice a.1 a.2.1 a.2.2) s.1::OO (dK).share 58 A9 D9 i.1::q) (A5,([]:List (List Int)).length,D5) (aS R) (fun w s=>((s.wk 2 R).e 3 [0,1])) ?_
 rintro ⟨j,b⟩ ⟨B,a1,D⟩ σ1 L g a4
 replace g:Z0l_L1 i j b=some L:=g
 unfold Z0l_L1 at g
 refine bI 0 dY (fun (hn:a1=j.length)=>?_)
 subst hn
 refine aN (aN (cQ [(3,(sc B j D)),(4,(sc A9 i.1 D9)),(5,(.bool i.2)),(6,(iv b)),(20,(.bool ((decide (b<(i.1.length:Int)))&&i.2)))] (OO (kT23).share 23 B D j::OO (dK).share 58 A9 D9 i.1::q) ?_ ?_))
 refine aE (lI R (lS R (lO (lj fV R) (lO (nS R R) (lB R ?_)))))
 rcases bo (decide (b<(i.1.length:Int))) with l | l
 refine lW (eB l) (vB R) (lO (iX R l R) (aC ?_))
 exact qJ (fun w s=>s)
 refine lf (nr l) (lO (kc i.2 R l) (aC ?_))
 exact qJ (fun w s=>s)
 rintro σ1
 refine aI ?_
 rcases cK g with ⟨u,g⟩|⟨u,g⟩
 refine cC R u (dI (aI (aN (dS ?_))))
 obtain ⟨m,g⟩:=gd g
 obtain ⟨T,g⟩:=gd g
 refine aE (lS R (lS R (lI R (bD 1 dY (show 0<i.1.length by have:=m; omega) (fun J o27 ha=>?_)))))
 subst ha
 refine lO (eN fV bQ R R m) (lO (vz (.pointer (some ⟨J,o27+b.toNat*2,none⟩)) (jB iH R R)) (rO (K:=(dK).share) (fo:=0) 1 b R R cH dT58.own (fun _ _=>R) R R m.1 m.2 ?_))
 rintro ⟨⟨F,E⟩,⟨a3,a8⟩⟩
 refine lN (RR kT3 F E ((ix i.1 b).Dims)::RR kT3 a3 a8 ((ix i.1 b).Data)::OO (kT23).share 23 B D j::OO (dK).share 58 (ad J o27) D9 i.1::q) ?_
 refine lM (_::_::_::_::_::q) (fun w s=>(s.d 0 R)) ?_
 refine bK (K:=(kT23).share) (xs:=([(ix i.1 b).Dims]:List (List Int))) (vs:=[(sc F ((ix i.1 b).Dims) E)]) 1 R R ji eZ kj R R R R R R ?_ R (fun Z a6=>?_)
 exact fun I h s=>(qK).list [((sc F ((ix i.1 b).Dims) E),(ix i.1 b).Dims)] I h s
 refine lN (OO (kT23).share 23 Z a6 ([(ix i.1 b).Dims]:List (List Int))::_::_::_::_::q) ?_
 refine lM (ow _ _ _ _::ow _ _ _ _::aO _ _ _::aO _ _ _::ow _ _ _ _::q) (fun w s=>(s.e 5 [3,0,1,2,4])) ?_
 refine eF (K:=(kT23).share) 5864062014805 R R ji eZ qQ (Zr.zk (Zr.share zT23) kj) R R R R R R dO T (fun O M=>(lN (OO (kT23).share 23 O M (j++([(ix i.1 b).Dims]:List (List Int)))::_::_::_::q) ?_))
 refine lS R (aC (eD (aI (aE (lI R (lO (lq R R) (lI R (aC ?_))))))))
 obtain rfl:=so g
 exact qA (O,(j++([(ix i.1 b).Dims]:List (List Int))).length,M) (fun w s=>(s.e 4 [0,3]))
 refine bM R u (iQ (eR ?_))
 obtain rfl:=so g
 obtain rfl:=a4 _ R
 have g:=U
 refine eR (gW ?_)
 exact qI (j,(B,j.length,D)) g (fun w s=>(s.e 2 [0]))
 rintro ⟨G,⟨a2,Y,a7⟩⟩ σ1 g
 replace g:Z0l_J1 G=some r:=g
 unfold Z0l_J1 at g
 refine bI 0 dY (fun (hn:Y=G.length)=>?_)
 subst hn
 refine aN (aE (lS R (lS R (aC (aI (bV ?_))))))
 obtain rfl:=so g
 exact qF (a2,G.length,a7) (fun w s=>(s.e 4 [0]))
end Go.Proofs.YtmpnollfdpdipaaGreat
