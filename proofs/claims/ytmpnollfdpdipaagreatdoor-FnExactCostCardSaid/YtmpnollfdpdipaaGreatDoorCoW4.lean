import Derived.Test.YtmpnollfdpdipaaGreatDoorCoF
import Derived.Test.YtmpnollfdpdipaaGreatDoorCoW2
import Derived.Test.YtmpnollfdpdipaaGreatDoorCoW3
set_option linter.unusedVariables false
set_option maxRecDepth 20000
namespace Go.Proofs.YtmpnollfdpdipaaGreatDoor
open Go Go.Pg
variable {A2 A3 A4 A5 A6 A7:Option Addr}{D2 D3 D4 D5 D6 D7 N2 N3 N4 N5 N6 N7:Nat}
theorem Z0c_ok  {v1:View}{g:Int}{b:Int}{l:Int}{r:View}(q:Z0c v1 g b l=some r) :
 FnOk Tryz.prog 30 [(.agg [(.slice A2 N2 D2),(.slice A3 N3 D3),(iv v1.Offset),(iv v1.Base)].toArray),(iv g),(iv b),(iv l)] [aO kT3 (.slice A2 N2 D2) v1.Dims,aO kT3 (.slice A3 N3 D3) v1.Strides] (fun (h:HH×HH)=>((.agg [(.slice h.1.1 h.1.2.1 h.1.2.2),(.slice h.2.1 h.2.2.1 h.2.2.2),(iv r.Offset),(iv r.Base)].toArray),[aO kT3 (.slice h.1.1 h.1.2.1 h.1.2.2) r.Dims,aO kT3 (.slice h.2.1 h.2.2.1 h.2.2.2) r.Strides])):=by
 unfold Z0c at q
 refine aR Tryz.func30 R 85 R R fun C V=>?_
 refine cN (_::_::V) ?_
 refine cL 0 aA ?_
 rintro rfl
 refine cL 1 aA ?_
 rintro rfl
 let W0:List HP:=RR kT3 A2 D2 v1.Dims::RR kT3 A3 D3 v1.Strides::V
 refine cN W0 ?_
 refine aM (aE (eE R (fun b7=>(bD R R cX (fun b8=>(aC ?_))))))
 let E:List HP:=aJ b7 [(sc A2 v1.Dims D2),(sc A3 v1.Strides D3),(iv v1.Offset),(iv v1.Base)] 47::W0
 refine qN (_::E) ?_
 refine aI (aM (aM ?_))
 obtain ⟨r9,am,q⟩:=bd q
 obtain ⟨a6,q⟩:=gd q
 refine cQ [(1,(iv g)),(2,(iv b)),(3,(iv l)),(4,(pt b7 0)),(8,(pt b8 0)),(32,(.bool ((((!r9)||(decide (b<(1:Int))))||(decide (l<(1:Int))))||(decide (b>(ix v1.Dims g))))))] (aJ b8 [(.slice none 0 0),(.slice none 0 0),(iv 0),(iv 0)] 47::E) ?_ ?_
 refine aE (lO (vz (.agg [(sc A2 v1.Dims D2),(sc A3 v1.Strides D3),(iv v1.Offset),(iv v1.Base)].toArray) (dP 1 gH cG R R R R)) (lI R (lM (RR kT3 A2 D2 v1.Dims::RR kT3 A3 D3 v1.Strides::aJ _ _ _::E) (fun w s=>(((s.d 2 R).d 4 R).e 3 [1,0,2])) ?_)))
 refine lC 2 vw R (Z25_ok am) R ?_
 rintro _
 refine lN (_::E) ?_
 refine lO (tQ R) (lB R ?_)
 rcases bo (!r9) with m | m
 refine lf (eA m) (lf (eA m) (lO (fB (decide (b<(1:Int))) R m) (lB R (lf (eA (oT m)) (lf (eA (oT m)) (lO (fB (decide (l<(1:Int))) R (oT m)) (lB R (lf (eA (oT (oT m))) (lf (eA (oT (oT m))) (lf (eA (oT (oT m))) (lf (eA (oT (oT m))) (lf (eA (oT (oT m))) (lf (eA (oT (oT m))) (lf (eA (oT (oT m))) (lO (fB (decide (b>(ix v1.Dims g))) R (oT (oT m))) (aC ?_))))))))))))))))
 exact qJ (fun w s=>s)
 refine lW (cA m) (vI R) (lW (cA m) (mT R R) (lO (fU R m R) (lB R ?_)))
 rcases bo ((!r9)||(decide (b<(1:Int)))) with u | u
 refine lf (eA u) (lf (eA u) (lO (fB (decide (l<(1:Int))) R u) (lB R (lf (eA (oT u)) (lf (eA (oT u)) (lf (eA (oT u)) (lf (eA (oT u)) (lf (eA (oT u)) (lf (eA (oT u)) (lf (eA (oT u)) (lO (fB (decide (b>(ix v1.Dims g))) R (oT u)) (aC ?_))))))))))))
 exact qJ (fun w s=>s)
 refine lW (cA u) (vI R) (lW (cA u) (mT R R) (lO (fU R u R) (lB R ?_)))
 rcases bo (((!r9)||(decide (b<(1:Int))))||(decide (l<(1:Int)))) with j | j
 refine lf (eA j) (lf (eA j) (lf (eA j) (lf (eA j) (lf (eA j) (lf (eA j) (lf (eA j) (lO (fB (decide (b>(ix v1.Dims g))) R j) (aC ?_))))))))
 exact qJ (fun w s=>s)
 refine lW (cA j) (vI R) (lW (cA j) (fT 0 gI R) (lW (cA j) (gD 1 cK R R R) (lW (cA j) (vI R) (bA 2 aA (show 0<v1.Dims.length by have:=(a6 j); omega) (fun b0 o13 ha=>?_)))))
 subst ha
 refine lW (cA j) (eJ bM cE R R (a6 j)) (lW (cA j) (gU 2 fO aA R (a6 j)) (lW (cA j) (yc R R) (lO (fU R j R) (aC ?_))))
 exact qJ (fun w s=>s)
 rintro σ1
 refine aI ?_
 rcases cF q with ⟨a3,q⟩|⟨a3,q⟩
 refine bZ R a3 (aM (aE (lO (vz (.agg [(.slice none 0 0),(.slice none 0 0),(iv 0),(iv 0)].toArray) (aV fF cX R R)) (aK 0 R R cG R R R R R R (aC (aI (bW (cD ?_))))))))
 obtain rfl:=so q
 exact dJ (vs:=[(.agg [(.slice none 0 0),(.slice none 0 0),(iv 0),(iv 0)].toArray)]) (.inl R) ((none,0,0),(none,0,0)) R ⟨⟨0,b8,_,_,R,R,.inl ⟨gH,cG,R⟩⟩,trivial⟩ R (fun w s=>(((s.nilr kT3).nilr kT3).e 6 [1,0]))
 refine bJ R a3 (cW (aI (aM ?_)))
 obtain ⟨i,an,q⟩:=bd q
 refine aE (lO (vz (.agg [(sc A2 v1.Dims D2),(sc A3 v1.Strides D3),(iv v1.Offset),(iv v1.Base)].toArray) (dP 1 gH cG R R R R)) (lM (RR kT3 A2 D2 v1.Dims::RR kT3 A3 D3 v1.Strides::aJ _ _ _::E) (fun w s=>(((s.d 2 R).d 4 R).e 3 [1,0,2])) ?_))
 refine lC 2 vx R (Z27_ok an) R ?_
 rintro ⟨⟨ai,aw,O⟩,⟨ah,ax,D⟩⟩
 refine lN (ow kT3 3 (.slice ai aw O) i.Dims::ow kT3 3 (.slice ah ax D) i.Strides::_::E) ?_
 refine aL 0 aB ?_
 rintro rfl
 refine aL 1 aB ?_
 rintro rfl
 refine bD R R cX (fun T=>(aK 0 R R cG R R R R R R (lN (aJ T [(sc ai i.Dims O),(sc ah i.Strides D),(iv i.Offset),(iv i.Base)] 47::_::_::_::E) ?_)))
 refine aC (aI (aM ?_))
 obtain ⟨a7,q⟩:=gd q
 obtain ⟨aj,q⟩:=gd q
 refine aE (lO (fT 0 gI R) (lO (gD 4 cK R R R) (lI R (bA 5 aA (show 0<v1.Dims.length by have:=a7; omega) (fun b1 o25 ha=>?_)))))
 subst ha
 refine lO (eJ bM cE R R a7) (lO (gU 5 fO aA R a7) (lI R (lO (wr R R) (lI R (lO (vz (iv (aH ((aH ((ix v1.Dims g) - b)).tdiv l))) (n8 R R aj)) (lO (l6 R R) (lI R (aC (aI (aM ?_))))))))))
 obtain ⟨a8,q⟩:=gd q
 refine aE (lO (fT 1 gA R) (lO (gD 4 cK R R R) (lI R (bA 6 aA (show 0<v1.Strides.length by have:=a8; omega) (fun b2 o29 ha=>?_)))))
 subst ha
 refine lO (eJ bM cE R R a8) (lO (gU 6 fO aA R a8) (lI R (aC (aI (aM ?_)))))
 obtain ⟨a0,q⟩:=gd q
 refine aE (lO (fT 0 gI R) (lO (gD 0 cK R R R) (lI R (lI R (bA 1 aB (show 0<i.Dims.length by have:=a0; omega) (fun Z o32 ha=>?_))))))
 subst ha
 refine lO (eJ bM cE R R a0) (lM (OO kT3 3 (ad Z o32) O i.Dims::aJ T [(sc (ad Z o32) i.Dims O),(sc ah i.Strides D),(iv i.Offset),(iv i.Base)] 47::ow _ _ _ _::aJ _ _ _::E) (fun w s=>(s.e 4 [1,0,2,3])) ?_)
 refine dX (K:=kT3) (x':=(aH ((aH ((aH ((ix v1.Dims g) - b)).tdiv l))+(1:Int)))) 0 g R R cE R R a0.1 a0.2 ?_ ?_
 exact fun I h s=>(gO).put I h () (aH ((aH ((aH ((ix v1.Dims g) - b)).tdiv l))+(1:Int))) s
 refine lN (ow kT3 3 (.slice (ad Z o32) i.Dims.length O) (i.Dims.set g.toNat (aH ((aH ((aH ((ix v1.Dims g) - b)).tdiv l))+(1:Int))))::_::_::_::E) ?_
 refine aC ?_
 obtain ⟨B,a9,q⟩:=bd q
 replace a9:=Option.some.inj a9
 refine qM (ow kT3 3 (.slice (ad Z o32) i.Dims.length O) B::_::_::_::E) (fun w s=>by rw [← a9]; exact s) ?_
 refine aI (aM ?_)
 obtain ⟨J,q⟩:=gd q
 refine aE (lO (fT 1 gA R) (lO (gD 1 cK R R R) (lI R (bA 2 aB (show 0<i.Strides.length by have:=J; omega) (fun G o37 ha=>?_)))))
 subst ha
 refine lO (eJ bM cE R R J) (lM (OO kT3 3 (ad G o37) D i.Strides::ow _ _ _ _::aJ T [(sc (ad Z o32) i.Dims O),(sc (ad G o37) i.Strides D),(iv i.Offset),(iv i.Base)] 47::aJ _ _ _::E) (fun w s=>(s.e 4 [2,0,1,3])) ?_)
 refine dX (K:=kT3) (x':=(0:Int)) 0 g R R cE R R J.1 J.2 ?_ ?_
 exact fun I h s=>(gO).put I h () (0:Int) s
 refine lN (ow kT3 3 (.slice (ad G o37) i.Strides.length D) (i.Strides.set g.toNat (0:Int))::_::_::_::E) ?_
 refine aC (aI (aM (bC (A:=((List Int))×(Unit)) (fun a=>Z0c_J1 v1 g b i B a.1=some r) (fun a=>[(2,(iv b)),(8,(pt b8 0)),(9,(pt T 0)),(11,(iv (ix v1.Strides g)))]) (fun a=>aJ b8 [(.slice none 0 0),(.slice none 0 0),(iv 0),(iv 0)] 47::aJ T [(sc (ad Z o32) i.Dims O),(sc (ad G o37) i.Strides D),(iv i.Offset),(iv i.Base)] 47::ow kT3 3 (.slice (ad Z o32) i.Dims.length O) B::ow kT3 3 (.slice (ad G o37) i.Strides.length D) a.1::E) ?_ ?_)))
 refine aM (aE (lI R (lO (yc R R) (aC (aI ?_)))))
 rcases cF q with ⟨a4,q⟩|⟨a4,q⟩
 refine bZ R a4 (aE (lO (fT 1 gA R) (lO (gD 2 cK R R R) (lI R (lI R (lI R (lO (rp R R) (lO (eJ bM cE R R J) (dX (K:=kT3) (x':=(aH ((ix v1.Strides g)*l))) 0 g R R cE R R J.1 J.2 ?_ ?_)))))))))
 exact fun I h s=>(gO).put I h () (aH ((ix v1.Strides g)*l)) s
 refine lN (ow kT3 3 (.slice (ad G o37) i.Strides.length D) ((i.Strides.set g.toNat (0:Int)).set g.toNat (aH ((ix v1.Strides g)*l)))::_::_::_::E) ?_
 refine aC ?_
 obtain ⟨ap,aa,q⟩:=bd q
 replace aa:=Option.some.inj aa
 refine qM (ow kT3 3 (.slice (ad G o37) i.Strides.length D) ap::_::_::_::E) (fun w s=>by rw [← aa]; exact s) ?_
 exact qI (ap,()) q (fun w s=>(s.e 4 [3,2,1,0]))
 refine bJ R a4 (cW ?_)
 exact qI ((i.Strides.set g.toNat (0:Int)),()) q (fun w s=>(s.e 4 [3,2,1,0]))
 rintro ⟨L,_⟩ σ1 q
 replace q:Z0c_J1 v1 g b i B L=some r:=q
 unfold Z0c_J1 at q
 refine aM ?_
 obtain ⟨ak,q⟩:=gd q
 refine aE (lO (fT 0 gI R) (lO (gD 1 cK R R R) (lI R (bL (K:=kT3) (xs:=([b]:List Int)) (vs:=[(iv b)]) 0 R R bM cE gR R R R R R R ?_ R (fun aq au=>?_)))))
 exact fun I h s=>(gO).list [((),b)] I h s
 refine lN (OO kT3 3 aq au ([b]:List Int)::_::_::_::ow kT3 3 (.slice (ad G o37) i.Strides.length D) L::E) ?_
 refine lM (ow _ _ _ _::ow _ _ _ _::aJ _ _ _::aJ _ _ _::ow _ _ _ _::E) (fun w s=>(s.e 5 [3,0,1,2,4])) ?_
 refine eC (K:=kT3) 17592186044416 R R bM cE kr (Zr.zk zT3 gR) R R R R R R dM ak (fun U Y=>(lN (OO kT3 3 U Y (B++([b]:List Int))::_::_::_::E) ?_))
 refine lO (fT 0 gI R) (cP 2 R R eR R R R R R (lN (_::_::aJ T [(sc U (B++([b]:List Int)) Y),(sc (ad G o37) i.Strides D),(iv i.Offset),(iv i.Base)] 47::_::E) ?_))
 refine aC (aI (aM (bC (A:=(Int)×(Unit)) (fun a=>Z0c_J2 b i B L a.1=some r) (fun a=>[(8,(pt b8 0)),(9,(pt T 0)),(11,(iv a.1))]) (fun a=>aJ b8 [(.slice none 0 0),(.slice none 0 0),(iv 0),(iv 0)] 47::aJ T [(sc U (B++([b]:List Int)) Y),(sc (ad G o37) i.Strides D),(iv i.Offset),(iv i.Base)] 47::OO kT3 3 U Y (B++([b]:List Int))::ow kT3 3 (.slice (ad G o37) i.Strides.length D) L::E) ?_ ?_)))
 refine aM (aE (lI R (lO (lH R R) (aC (aI ?_)))))
 rcases cF q with ⟨a5,q⟩|⟨a5,q⟩
 refine bZ R a5 (aE (lI R (aC ?_)))
 exact qI ((0:Int),()) q (fun w s=>(s.e 4 [1,2,0,3]))
 refine bJ R a5 (cW ?_)
 exact qI ((ix v1.Strides g),()) q (fun w s=>(s.e 4 [1,2,0,3]))
 rintro ⟨M,_⟩ σ1 q
 replace q:Z0c_J2 b i B L M=some r:=q
 unfold Z0c_J2 at q
 refine aM ?_
 obtain ⟨al,q⟩:=gd q
 refine aE (lO (fT 1 gA R) (lO (gD 1 cK R R R) (lI R (bL (K:=kT3) (xs:=([M]:List Int)) (vs:=[(iv M)]) 0 R R bM cE gR R R R R R R ?_ R (fun ar av=>?_)))))
 exact fun I h s=>(gO).list [((),M)] I h s
 refine lN (OO kT3 3 ar av ([M]:List Int)::_::_::_::_::E) ?_
 refine lM (ow _ _ _ _::ow _ _ _ _::aJ _ _ _::aJ _ _ _::ow _ _ _ _::E) (fun w s=>(s.f 5 [4,1,0,4])) ?_
 refine eC (K:=kT3) 17592186044416 R R bM cE kr (Zr.zk zT3 gR) R R R R R R dM al (fun a1 a2=>(lN (OO kT3 3 a1 a2 (L++([M]:List Int))::_::_::_::E) ?_))
 refine lO (fT 1 gA R) (cP 2 R R eR R R R R R (lN (_::_::aJ T [(sc U (B++([b]:List Int)) Y),(sc a1 (L++([M]:List Int)) a2),(iv i.Offset),(iv i.Base)] 47::_::E) ?_))
 refine aC (aI (aM ?_))
 obtain ⟨F,ao,q⟩:=bd q
 refine aE (lO (vz (.agg [(sc U (B++([b]:List Int)) Y),(sc a1 (L++([M]:List Int)) a2),(iv i.Offset),(iv i.Base)].toArray) (dP 2 gH cG R R R R)) (hW (fun w s=>s.shr 3 R) (hW (fun w s=>s.shr 1 R) (lM (RR kT3 U Y (B++([b]:List Int))::RR kT3 a1 a2 (L++([M]:List Int))::RR kT3 a1 a2 (L++([M]:List Int))::RR kT3 U Y (B++([b]:List Int))::aJ _ _ _::aJ _ _ _::E) (fun w s=>(((s.d 1 R).d 1 R).e 6 [1,0,2,3,4,5])) ?_))))
 refine lC 2 vy R (Z28_ok (v1:=(⟨(B++([b]:List Int)),(L++([M]:List Int)),i.Offset,i.Base⟩:View)) ao) R ?_
 rintro ⟨⟨ab,ay,ae⟩,⟨ac,az,ag⟩⟩
 refine lN (aO kT3 (.slice ab ay ae) F.Dims::aO kT3 (.slice ac az ag) F.Strides::_::_::_::_::E) ?_
 refine aL 0 aA ?_
 rintro rfl
 refine aL 1 aA ?_
 rintro rfl
 refine aK 4 R R cG R R R R R R (lN (_::_::_::_::aJ b8 [(sc ab F.Dims ae),(sc ac F.Strides ag),(iv F.Offset),(iv F.Base)] 47::_::E) ?_)
 refine aC (aI (bW ?_))
 obtain rfl:=so q
 exact dJ (vs:=[(.agg [(sc ab F.Dims ae),(sc ac F.Strides ag),(iv F.Offset),(iv F.Base)].toArray)]) (.inl R) ((ab,F.Dims.length,ae),(ac,F.Strides.length,ag)) R ⟨⟨4,b8,_,_,R,R,.inl ⟨gH,cG,R⟩⟩,trivial⟩ R (fun w s=>(s.e 9 [0,1]))
theorem Z0q_ok  {t1:Tensor}{i:Int}{j:Int}{J:Int}{r:Tensor}(b:Z0q t1 i j J=some r) :
 FnOk Tryz.prog 241 [(.agg [(.slice A2 N2 D2),(.slice A3 N3 D3)].toArray),(iv i),(iv j),(iv J)] [aO kT3 (.slice A2 N2 D2) t1.Dims,aO kT3 (.slice A3 N3 D3) t1.Data] (fun (h:HH×HH)=>((.agg [(s3 h.1),(s3 h.2)].toArray),[ow kT3 3 (s3 h.1) r.Dims,ow kT3 3 (s3 h.2) r.Data])):=by
 unfold Z0q at b
 refine aR Tryz.func241 R 118 R R fun C V=>?_
 refine cL 0 aA ?_
 rintro rfl
 refine cL 1 aA ?_
 rintro rfl
 let W0:=RR kT3 A2 D2 t1.Dims::RR kT3 A3 D3 t1.Data::V
 refine cN W0 ?_
 refine aU ?_
 refine eE R fun b7=>?_
 refine bD R R dS (fun L=>(aC ?_))
 let T:=aJ b7 [(sc A2 t1.Dims D2),(sc A3 t1.Data D3)] 38::W0
 refine iE ?_
 obtain ⟨r9,a9,b⟩:=bd b
 refine cQ [(1,(iv i)),(2,(iv j)),(3,(iv J)),(4,(pt b7 0)),(8,(pt L 0)),(9,(iv (aH ((t1.Dims.length:Int) - 1)))),(40,(.bool (((((!r9)||(i==(aH ((t1.Dims.length:Int) - 1))))||(decide (j<1)))||(decide (J<1)))||(decide (J>4096)))))] (aJ L [(.slice none 0 0),(.slice none 0 0)] 38::T) ?_ ?_
 refine aP ?_
 refine lM _ (fun w s=>(((s.d 2 R).d 4 R).e 3 [1,0,2])) ?_
 refine lC 2 oj R (Z1e_ok a9) R ?_
 rintro _
 refine aU ?_
 rcases bo (!r9) with a1 | a1
 refine qD ?_
 exact qj tI
 refine b' ?_
 rcases bo ((!r9)||(i==(aH ((t1.Dims.length:Int) - 1)))) with a2 | a2
 refine iE ?_
 exact qj tI
 refine bH ?_
 rcases bo (((!r9)||(i==(aH ((t1.Dims.length:Int) - 1))))||(decide (j<1))) with a3 | a3
 refine dA ?_
 exact qj tI
 refine bH ?_
 rcases bo ((((!r9)||(i==(aH ((t1.Dims.length:Int) - 1))))||(decide (j<1)))||(decide (J<1))) with a4 | a4
 refine bH ?_
 exact qj tI
 refine bH ?_
 exact qj tI
 rintro σ1
 refine bT ?_
 split at b
 refine aP ?_
 refine lO (vz (.agg [(.slice none 0 0),(.slice none 0 0)].toArray) (aV gS dS R R)) (aK 0 R R bS R R R R R R (aC (aI (bW (cD ?_)))))
 cases b
 exact qS ((none,0,0),(none,0,0)) (fun w s=>(((s.nilo kT3 3).nilo kT3 3).e 6 [1,0]))
 refine bH ?_
 obtain ⟨a5,b⟩:=gd b
 refine bH ?_
 refine bA 2 aA (show 0<t1.Dims.length by have:=a5; omega) (fun b4 o18 ha=>?_)
 subst ha
 refine dO ?_
 obtain ⟨a6,b⟩:=gd b
 obtain ⟨M,b⟩:=gd b
 refine cQ [(1,(iv i)),(2,(iv j)),(3,(iv J)),(4,(pt b7 0)),(8,(pt L 0)),(9,(iv (aH ((t1.Dims.length:Int) - 1)))),(63,(.bool ((decide ((ix t1.Dims (aH ((t1.Dims.length:Int) - 1)))>J))||((aH ((aH ((aH (J - (ix t1.Dims (aH ((t1.Dims.length:Int) - 1))))).tdiv j))+1)) != (ix t1.Dims i)))))] (aJ L [(.slice none 0 0),(.slice none 0 0)] 38::T) ?_ ?_
 rcases bo (decide ((ix t1.Dims (aH ((t1.Dims.length:Int) - 1)))>J)) with D | D
 refine dF 17 [] bO fun ht hn=>?_
 refine yk 0 [] ?_
 refine dD ?_
 exact qj tI
 refine dF 17 [] bO fun ht hn=>?_
 refine ub 0 [] ?_
 refine dW 8 R (cA D) (vz (iv (aH ((aH (J - (ix t1.Dims (aH ((t1.Dims.length:Int) - 1))))).tdiv j))) (n8 R R (a6 D))) ?_
 refine nQ 9 [] ?_
 refine dW 13 R (cA D) (eJ bM cE R R (M D)) (dW 14 R (cA D) (gU 2 fO aA R (M D)) ?_)
 refine gW 15 [] ?_
 refine dD ?_
 exact qj tI
 rintro σ1
 refine bT ?_
 split at b
 refine aP ?_
 refine lO (vz (.agg [(.slice none 0 0),(.slice none 0 0)].toArray) (aV gS dS R R)) (aK 0 R R bS R R R R R R (aC (aI (bW (cD ?_)))))
 cases b
 exact qS ((none,0,0),(none,0,0)) (fun w s=>(((s.nilo kT3 3).nilo kT3 3).e 6 [1,0]))
 refine bH ?_
 obtain ⟨b9,aa,b⟩:=bd b
 obtain ⟨G,b⟩:=gd b
 refine b' ?_
 refine lM _ (fun w s=>(s.d 2 R)) ?_
 refine lC 1 kK R (Z0j_ok aa) R ?_
 rintro ⟨aq,az,aw⟩
 refine aL 0 aB ?_
 rintro rfl
 refine lI R (hW (fun w s=>s.shr 0 R) (gC (K:=kT3) (0:Int) (aH ((t1.Dims.length:Int) - 1)) 0 R R bM cE R R R R G.1 G.2.1 G.2.2 (fun ar ax=>(lS R (aC (aI (aM (aM ?_))))))))
 obtain ⟨ba,ab,b⟩:=bd b
 refine aU ?_
 refine lM _ (fun w s=>(s.d 0 R)) ?_
 refine lC 1 kj R (Zn_ok ab) R ?_
 rintro _
 refine aP ?_
 split at b
 refine aP ?_
 refine lO (vz (.agg [(.slice none 0 0),(.slice none 0 0)].toArray) (aV gS dS R R)) (aK 2 R R bS R R R R R R (aC (aI (bW (cD ?_)))))
 cases b
 exact qS ((none,0,0),(none,0,0)) (fun w s=>(((s.nilo kT3 3).nilo kT3 3).e 8 [1,0]))
 refine bH ?_
 obtain ⟨g,ac,b⟩:=bd b
 refine aU ?_
 refine lM _ (fun w s=>(s.d 0 R)) ?_
 refine lC 1 nz R (Z0i_ok ac) R ?_
 rintro ⟨⟨l,b0,q⟩,⟨m,b1,u⟩⟩
 refine aL 0 aB ?_
 rintro rfl
 refine aL 1 aB ?_
 rintro rfl
 refine bD R R dS (fun F=>(aK 0 R R bS R R R R R R (lN (aJ F [(sc l g.Dims q),(sc m g.Data u)] 38::_::_::_::_::_::T) ?_)))
 refine aP ?_
 refine bC (A:=((List Int))×(Unit)) (fun a=>Z0q_J1 g a.1=some r) (fun a=>[(8,(pt L 0)),(12,(pt F 0))]) (fun a=>aJ L [(.slice none 0 0),(.slice none 0 0)] 38::aJ F [(sc l g.Dims q),(sc m g.Data u)] 38::OO kT3 3 l q g.Dims::ow kT3 3 (.slice m g.Data.length u) a.1::T) ?_ ?_
 refine bV ?_
 obtain ⟨e1,an,am⟩:=bd b
 refine bF (A:=Unit) an (fun s a=>[(1,(iv i)),(2,(iv j)),(4,(pt b7 0)),(8,(pt L 0)),(9,(iv (aH ((t1.Dims.length:Int) - 1)))),(12,(pt F 0)),(13,(iv s.2))]) (fun s a=>aJ L [(.slice none 0 0),(.slice none 0 0)] 38::aJ F [(sc l g.Dims q),(sc m g.Data u)] 38::OO kT3 3 l q g.Dims::ow kT3 3 (.slice m g.Data.length u) s.1::T) () (aS R) (tE 6 [5,0,1,2]) ?_
 rintro ⟨E,b6⟩ _ σ1 ap b al
 dsimp only [Z0q_L1] at b
 refine cU ?_
 split at b
 refine bV ?_
 obtain ⟨O,ae,b⟩:=bd b
 refine bH ?_
 refine lM _ (fun w s=>(s.d 5 R)) ?_
 refine lC 1 oh R (Zj_ok ae) R ?_
 rintro ⟨au,b2,Y⟩
 refine aL 0 aB ?_
 rintro rfl
 refine bH ?_
 obtain ⟨a7,b⟩:=gd b
 obtain ⟨_,b⟩:=gd b
 obtain ⟨ak,ag,b⟩:=bd b
 obtain ⟨I,b⟩:=gd b
 refine aZ 0 aB (show 0<O.length by have:=a7; omega) (fun a0 o66 ha=>?_)
 subst ha
 refine dF 17 [] bO fun ht hn=>?_
 refine mu 0 [] ?_
 refine dR 14 R (vI R) (d1 13 R (lC 1 kK R (FnOk.lends (A':=[OO kT3 3 (ad a0 o66) Y O]) (A:=[RR kT3 (ad a0 o66) Y O]) (B:=[]) (Z0j_ok ag) ⟨aY,trivial⟩ (fun _=>⟨(bK j9),trivial⟩)) R ?_))
 rintro ⟨av,b3,ay⟩
 refine aL 1 aB ?_
 rintro rfl
 refine aC (aG (sL [1]) (d1 15 R (hW (fun w s=>s.shr 1 R) (gC (K:=kT3) (0:Int) (aH ((t1.Dims.length:Int) - 1)) 0 R R bM cE R R R R I.1 I.2.1 I.2.2 (fun U Z=>(aC (aG (sL [1,0]) (dR 16 R (vS R) (hS:=(sL [1,0])) (dD (aI ?_))))))))))
 obtain ⟨bb,ah,b⟩:=bd b
 obtain ⟨a8,b⟩:=gd b
 obtain ⟨bc,ai,b⟩:=bd b
 obtain ⟨be,aj,b⟩:=bd b
 refine aZ 9 aA (show 0<t1.Data.length by have:=a8; omega) (fun b5 o77 ha=>?_)
 subst ha
 refine dF 12 [6] bO fun ht hn=>?_
 refine nQ 0 [6] ?_
 refine kq 5 [6] ?_
 refine d1 4 R (lM _ (fun w s=>((s.d 0 R).f 8 [6,2,0,6])) ?_)
 refine lC 3 qL R (FnOk.lends (A':=[OO kT3 3 l q g.Dims,ow kT3 3 (.slice m g.Data.length u) E]) (A:=[RR kT3 l q g.Dims,aO kT3 (.slice m g.Data.length u) E]) (B:=[RR kT3 U Z (sub ak (0:Int) (aH ((t1.Dims.length:Int) - 1)))]) (Z15_ok (t1:=(⟨g.Dims,E⟩:Tensor)) ah) ⟨aY,aY,trivial⟩ (fun _=>trivial)) R ?_
 rintro _
 refine aC (aG (fun w s=>(s.f 7 [2,5,0,1])) (d1 10 R (lC 0 uo R (Z1k_ok ai) R ?_)))
 rintro _
 refine aC (aG (fun w s=>(s.f 7 [2,5,0,1])) (d1 11 R (lM _ (fun w s=>((s.d 2 R).f 8 [1,2,0,1,3,5])) ?_)))
 refine lC 3 sj R (FnOk.lends (A':=[OO kT3 3 l q g.Dims]) (A:=[RR kT3 l q g.Dims]) (B:=[ow kT3 3 (.slice m g.Data.length u) E,RR kT3 U Z (sub ak (0:Int) (aH ((t1.Dims.length:Int) - 1)))]) (Z1t_ok (t1:=(⟨g.Dims,E⟩:Tensor)) aj) ⟨aY,trivial⟩ (fun _=>⟨(bK j9),trivial⟩)) R ?_
 rintro _
 refine aC (aG (fun w s=>(s.f 7 [2,5,0,1])) (dD ?_))
 refine dO ?_
 cases b
 exact qA () (tE 7 [5,6,0,1])
 refine aP ?_
 cases b
 obtain rfl:=al _ R
 have b:=am
 refine aU ?_
 exact qI (E,()) b tI
 rintro ⟨ao,_⟩ σ1 b
 dsimp only [Z0q_J1] at b
 refine aP ?_
 refine aK 0 R R bS R R R R R R (lN (aJ L [(sc l g.Dims q),(sc m g.Data u)] 38::_::_::ow kT3 3 (.slice m g.Data.length u) ao::T) ?_)
 refine aP ?_
 cases b
 exact qS ((l,g.Dims.length,q),(m,g.Data.length,u)) (tE 7 [2,3])
theorem Z2_ok  {j:Node}{g:(List Tensor)}{r:Tensor}(b:Z2 j g=some r) :
 FnOk Tryz.prog 210 [(.agg [(iv j.Op),(.slice A2 N2 D2),(.slice A3 N3 D3),(.slice A4 N4 D4),(aD j.Form),(.slice A5 N5 D5)].toArray),(.slice A7 N7 D7)] [aO kT3 (.slice A2 N2 D2) j.Args,aO kT3 (.slice A3 N3 D3) j.Dims,aO kT3 (.slice A4 N4 D4) j.Ints,aO kT3 (.slice A5 N5 D5) j.Data,aO dK (.slice A7 N7 D7) g] (fun (h:HH×HH)=>((.agg [(.slice h.1.1 h.1.2.1 h.1.2.2),(.slice h.2.1 h.2.2.1 h.2.2.2)].toArray),[ow kT3 3 (.slice h.1.1 h.1.2.1 h.1.2.2) r.Dims,ow kT3 3 (.slice h.2.1 h.2.2.1 h.2.2.2) r.Data])):=by
 unfold Z2 at b
 refine aR Tryz.func210 R 217 R R fun C V=>?_
 refine cN (_::_::_::_::_::V) ?_
 refine cL 0 aA ?_
 rintro rfl
 refine cL 1 aA ?_
 rintro rfl
 refine cL 2 aA ?_
 rintro rfl
 refine cL 3 aA ?_
 rintro rfl
 refine cL 4 aA ?_
 rintro rfl
 let W0:List HP:=RR kT3 A2 D2 j.Args::RR kT3 A3 D3 j.Dims::RR kT3 A4 D4 j.Ints::RR kT3 A5 D5 j.Data::RR dK A7 D7 g::V
 refine cN W0 ?_
 refine aM (aE (eE R (fun b8=>(bD R R dS (fun l=>(aC ?_))))))
 let i:List HP:=aJ b8 [(iv j.Op),(sc A2 j.Args D2),(sc A3 j.Dims D3),(sc A4 j.Ints D4),(aD j.Form),(sc A5 j.Data D5)] 171::W0
 refine qN (_::i) ?_
 refine aI (aM (aE (lO (fT 3 fZ R) (lO (gD 1 cK R R R) (lS R (aC (aI (aM (aM (aE (lO (fT 0 iU R) (lO (gD 1 fO R R R) (aC (aI (dB (aM (aE (lO (lH R R) (lB R (aC (aI ?_)))))))))))))))))))))
 rcases cF b with ⟨d9,b⟩|⟨d9,b⟩
 refine bZ R d9 (aM (aE (lO (fT 2 kc R) (lO (gD 1 cK R R R) (lO (fT 5 nw R) (lO (gD 1 cK R R R) (lO (vz (.agg [(sc A3 j.Dims D3),(sc A5 j.Data D5)].toArray) (aV gS dS R R)) (bD R R dS (fun ic=>(aK 0 R R bS R R R R R R (lN (aJ ic [(sc A3 j.Dims D3),(sc A5 j.Data D5)] 38::_::i) ?_)))))))))))
 refine aC (aI (aM (aM ?_)))
 obtain ⟨ir,he,b⟩:=bd b
 refine aE (lO (vz (.agg [(sc A3 j.Dims D3),(sc A5 j.Data D5)].toArray) (dP 0 fG bS R R R R)) (lM (RR kT3 A3 D3 j.Dims::RR kT3 A5 D5 j.Data::aJ _ _ _::aJ _ _ _::i) (fun w s=>(((s.d 4 R).d 7 R).e 4 [1,0,2,3])) ?_))
 refine lC 2 ny R (Zs_ok (t1:=(⟨j.Dims,j.Data⟩:Tensor)) he) R ?_
 rintro _
 refine lN (_::_::i) ?_
 refine lO (tQ R) (aC (aI ?_))
 rcases cF b with ⟨da,b⟩|⟨da,b⟩
 refine bZ R da (aM (aE (lO (vz (.agg [(.slice none 0 0),(.slice none 0 0)].toArray) (aV gS dS R R)) (aK 1 R R bS R R R R R R (aC (aI (bW (cD (dG (cD ?_))))))))))
 obtain rfl:=so b
 exact dJ (vs:=[(.agg [(.slice none 0 0),(.slice none 0 0)].toArray)]) (.inl R) ((none,0,0),(none,0,0)) R ⟨⟨1,l,_,_,R,R,.inl ⟨fG,bS,R⟩⟩,trivial⟩ R (fun w s=>(((s.nilo kT3 3).nilo kT3 3).e 10 [1,0]))
 refine bJ R da (cW (aI (aM ?_)))
 obtain ⟨e1,hf,b⟩:=bd b
 obtain ⟨e2,hg,b⟩:=bd b
 refine dF 8 [1] bO (fun ht hn=>(dR 0 R (fT 2 kc R) (hS:=(sL [1])) (dR 1 R (gD 1 cK R R R) (hS:=(sL [1])) (dR 3 R (fT 5 nw R) (hS:=(sL [1])) (dR 4 R (gD 1 cK R R R) (hS:=(sL [1])) (d1 2 R (lM (RR kT3 A3 D3 j.Dims::_::_::i) (fun w s=>(s.d 4 R)) ?_)))))))
 refine lC 1 hR R (Zu_ok hf) R ?_
 rintro ⟨ca,hs,cx⟩
 refine lN (ow kT3 3 (.slice ca hs cx) e1::_::_::i) ?_
 refine aL 0 aB ?_
 rintro rfl
 refine aC (aG (sL [2,0]) (d1 5 R (lM (RR kT3 A5 D5 j.Data::_::_::_::i) (fun w s=>(s.d 7 R)) ?_)))
 refine lC 1 hR R (Zu_ok hg) R ?_
 rintro ⟨cg,hu,d2⟩
 refine lN (ow kT3 3 (.slice cg hu d2) e2::_::_::_::i) ?_
 refine aL 0 aB ?_
 rintro rfl
 refine aC (aG (sL [3,1,0]) (dR 6 R (vz (.agg [(sc ca e1 cx),(sc cg e2 d2)].toArray) (aV gS dS R R)) (hS:=(sL [3,1,0])) (d1 7 R (aK 3 R R bS R R R R R R (lN (_::_::_::aJ l [(sc ca e1 cx),(sc cg e2 d2)] 38::i) ?_)))))
 refine aC (aG (sL [3,1,0]) (dD (aI (bW (dG (cD ?_))))))
 obtain rfl:=so b
 exact dJ (vs:=[(.agg [(sc ca e1 cx),(sc cg e2 d2)].toArray)]) (.inl R) ((ca,e1.length,cx),(cg,e2.length,d2)) R ⟨⟨3,l,_,_,R,R,.inl ⟨fG,bS,R⟩⟩,trivial⟩ R (fun w s=>(s.e 10 [1,0]))
 refine bJ R d9 (aM (bC (A:=(Bool)×(Unit)) (fun a=>Z2_J1 j g a.1=some r) (fun a=>[(1,(sc A7 g D7)),(2,(pt b8 0)),(4,(pt l 0)),(5,(sc A4 j.Ints D4)),(10,(iv j.Op)),(29,(.bool a.1))]) (fun a=>aJ l [(.slice none 0 0),(.slice none 0 0)] 38::i) ?_ ?_))
 refine aM (aE (lO (lH R R) (lB R (aC (aI ?_)))))
 rcases cF b with ⟨db,b⟩|⟨db,b⟩
 refine bZ R db (cW ?_)
 exact qI ((j.Op==(3:Int)),()) b (fun w s=>s)
 refine bJ R db (aM (aE (lO (lH R R) (lB R (aC (aI ?_))))))
 rcases cF b with ⟨dc,b⟩|⟨dc,b⟩
 refine bZ R dc (cW ?_)
 exact qI ((j.Op==(4:Int)),()) b (fun w s=>s)
 refine bJ R dc (aE (lO (lH R R) (lB R (aC ?_))))
 exact qI ((j.Op==(5:Int)),()) b (fun w s=>s)
 rintro ⟨ig,_⟩ σ1 b
 replace b:Z2_J1 j g ig=some r:=b
 unfold Z2_J1 at b
 rcases cF b with ⟨dd,b⟩|⟨dd,b⟩
 refine bZ R dd (aM (aM ?_))
 obtain ⟨a0,b⟩:=gd b
 obtain ⟨bu,b⟩:=gd b
 obtain ⟨it,hh,b⟩:=bd b
 refine aZ 6 aA (show 0<g.length by have:=a0; omega) (fun ew o27 m=>?_)
 subst m
 refine dI (K:=dK) 6 (0:Int) dT38.dec R a0.1 a0.2 ?_
 rintro ⟨⟨f6,fg⟩,⟨f7,fh⟩⟩
 refine cN (cl ew (o27+(0:Int).toNat*2) [(sc f6 ((ix g (0:Int)).Dims) fg),(sc f7 ((ix g (0:Int)).Data) fh)]::RR kT3 f6 fg ((ix g (0:Int)).Dims)::RR kT3 f7 fh ((ix g (0:Int)).Data)::aJ l [(.slice none 0 0),(.slice none 0 0)] 38::i) ?_
 refine dI (K:=dK) 9 (1:Int) dT38.dec R bu.1 bu.2 ?_
 rintro ⟨⟨f8,fi⟩,⟨f9,fj⟩⟩
 refine cN (cl ew (o27+(1:Int).toNat*2) [(sc f8 ((ix g (1:Int)).Dims) fi),(sc f9 ((ix g (1:Int)).Data) fj)]::RR kT3 f8 fi ((ix g (1:Int)).Dims)::RR kT3 f9 fj ((ix g (1:Int)).Data)::_::_::_::_::i) ?_
 refine dF 10 [] bO (fun ht hn=>(dR 0 R (vS R) (dR 1 R (eJ fX bS R R a0) (dR 2 R (vz (.pointer (some ⟨ew,o27+(0:Int).toNat*2,none⟩)) (kp iM R R)) (dR 3 R (eD (fo:=0) 3 cK R R R) (dR 4 R (vS R) (dR 5 R (eJ fX bS R R bu) (dR 6 R (vz (.pointer (some ⟨ew,o27+(1:Int).toNat*2,none⟩)) (kp iM R R)) (dR 7 R (eD (fo:=0) 0 cK R R R) (d1 8 R (lM (aO _ _ _::aO _ _ _::cl _ _ _::aO _ _ _::aO _ _ _::cl _ _ _::aO _ _ _::aO _ _ _::aJ _ _ _::i) (fun w s=>(((s.d 4 R).d 2 R).f 9 [1,1,0,1,2,7])) ?_)))))))))))
 refine lC 2 se R (Z01_ok hh) R ?_
 rintro _
 refine lN (_::_::_::_::_::_::_::i) ?_
 refine aC (aG (sL []) (dR 9 R (tQ R) (dD (aI ?_))))
 rcases cF b with ⟨de,b⟩|⟨de,b⟩
 refine bZ R de (aM (aE (lO (vz (.agg [(.slice none 0 0),(.slice none 0 0)].toArray) (aV gS dS R R)) (aK 6 R R bS R R R R R R (aC (aI (bW (cD (dG (cD ?_))))))))))
 obtain rfl:=so b
 exact dJ (vs:=[(.agg [(.slice none 0 0),(.slice none 0 0)].toArray)]) (.inl R) ((none,0,0),(none,0,0)) R ⟨⟨6,l,_,_,R,R,.inl ⟨fG,bS,R⟩⟩,trivial⟩ R (fun w s=>(((s.nilo kT3 3).nilo kT3 3).e 15 [1,0]))
 refine bJ R de (cW (aI (aM ?_)))
 obtain ⟨a3,hi,b⟩:=bd b
 refine dF 12 [6] bO (fun ht hn=>(dR 0 R (fT 0 iU R) (hS:=(sL [6])) (dR 1 R (gD 6 fO R R R) (hS:=(sL [6])) (dR 2 R (wr R R) (hS:=(sL [6])) (dR 3 R (l6 R R) (hS:=(sL [6])) (dR 4 R (vS R) (hS:=(sL [6])) (dR 5 R (eJ fX bS R R a0) (hS:=(sL [6])) (dR 6 R (vz (.agg [(sc f6 ((ix g (0:Int)).Dims) fg),(sc f7 ((ix g (0:Int)).Data) fh)].toArray) (eF (fo:=0) 3 fG bS R R R R)) (hS:=(sL [6])) (dR 7 R (vS R) (hS:=(sL [6])) (dR 8 R (eJ fX bS R R bu) (hS:=(sL [6])) (dR 9 R (vz (.agg [(sc f8 ((ix g (1:Int)).Dims) fi),(sc f9 ((ix g (1:Int)).Data) fj)].toArray) (eF (fo:=0) 0 fG bS R R R R)) (hS:=(sL [6])) (d1 10 R (lM (aO _ _ _::aO _ _ _::aO _ _ _::aO _ _ _::cl _ _ _::aO _ _ _::aO _ _ _::cl _ _ _::aO _ _ _::aO _ _ _::aJ _ _ _::i) (fun w s=>(((((s.d 4 R).d 6 R).d 3 R).d 5 R).f 11 [3,1,2,1,1,1,0,1,4,7])) ?_)))))))))))))
 refine lC 4 yG R (Z12_ok hi) R ?_
 rintro ⟨⟨e3,hv,eh⟩,⟨e4,hx,ei⟩⟩
 refine lN (ow kT3 3 (.slice e3 hv eh) a3.Dims::ow kT3 3 (.slice e4 hx ei) a3.Data::_::_::_::_::_::_::_::i) ?_
 refine aL 0 aB ?_
 rintro rfl
 refine aL 1 aB ?_
 rintro rfl
 refine aC (aG (sL [8,1,0]) (d1 11 R (aK 8 R R bS R R R R R R (lN (_::_::_::_::_::_::_::_::aJ l [(sc e3 a3.Dims eh),(sc e4 a3.Data ei)] 38::i) ?_))))
 refine aC (aG (sL [8,1,0]) (dD (aI (bW (dG (cD ?_))))))
 obtain rfl:=so b
 exact dJ (vs:=[(.agg [(sc e3 a3.Dims eh),(sc e4 a3.Data ei)].toArray)]) (.inl R) ((e3,a3.Dims.length,eh),(e4,a3.Data.length,ei)) R ⟨⟨8,l,_,_,R,R,.inl ⟨fG,bS,R⟩⟩,trivial⟩ R (fun w s=>(s.e 15 [0,1]))
 refine bJ R dd (aM (bC (A:=(Bool)×(Unit)) (fun a=>Z2_J2 j g a.1=some r) (fun a=>[(1,(sc A7 g D7)),(2,(pt b8 0)),(4,(pt l 0)),(5,(sc A4 j.Ints D4)),(10,(iv j.Op)),(55,(.bool a.1))]) (fun a=>aJ l [(.slice none 0 0),(.slice none 0 0)] 38::i) ?_ ?_))
 refine aM (aE (lO (lH R R) (lB R (aC (aI ?_)))))
 rcases cF b with ⟨df,b⟩|⟨df,b⟩
 refine bZ R df (cW ?_)
 exact qI ((j.Op==(6:Int)),()) b (fun w s=>s)
 refine bJ R df (aM (aE (lO (lH R R) (lB R (aC (aI ?_))))))
 rcases cF b with ⟨dg,b⟩|⟨dg,b⟩
 refine bZ R dg (cW ?_)
 exact qI ((j.Op==(7:Int)),()) b (fun w s=>s)
 refine bJ R dg (aM (aE (lO (lH R R) (lB R (aC (aI ?_))))))
 rcases cF b with ⟨dh,b⟩|⟨dh,b⟩
 refine bZ R dh (cW ?_)
 exact qI ((j.Op==(8:Int)),()) b (fun w s=>s)
 refine bJ R dh (aE (lO (lH R R) (lB R (aC ?_))))
 exact qI ((j.Op==(9:Int)),()) b (fun w s=>s)
 rintro ⟨ih,_⟩ σ1 b
 replace b:Z2_J2 j g ih=some r:=b
 unfold Z2_J2 at b
 rcases cF b with ⟨di,b⟩|⟨di,b⟩
 refine bZ R di (aM ?_)
 obtain ⟨bv,b⟩:=gd b
 obtain ⟨a4,hj,b⟩:=bd b
 refine aZ 6 aA (show 0<g.length by have:=bv; omega) (fun id o47 m=>?_)
 subst m
 refine dI (K:=dK) 6 (0:Int) dT38.dec R bv.1 bv.2 ?_
 rintro ⟨⟨fa,fk⟩,⟨fb,fl⟩⟩
 refine cN (cl id (o47+(0:Int).toNat*2) [(sc fa ((ix g (0:Int)).Dims) fk),(sc fb ((ix g (0:Int)).Data) fl)]::RR kT3 fa fk ((ix g (0:Int)).Dims)::RR kT3 fb fl ((ix g (0:Int)).Data)::aJ l [(.slice none 0 0),(.slice none 0 0)] 38::i) ?_
 refine dF 9 [3] bO (fun ht hn=>(dR 0 R (fT 0 iU R) (hS:=(sL [3])) (dR 1 R (gD 3 fO R R R) (hS:=(sL [3])) (dR 2 R (wr R R) (hS:=(sL [3])) (dR 3 R (l6 R R) (hS:=(sL [3])) (dR 4 R (vS R) (hS:=(sL [3])) (dR 5 R (eJ fX bS R R bv) (hS:=(sL [3])) (dR 6 R (vz (.agg [(sc fa ((ix g (0:Int)).Dims) fk),(sc fb ((ix g (0:Int)).Data) fl)].toArray) (eF (fo:=0) 0 fG bS R R R R)) (hS:=(sL [3])) (d1 7 R (lM (aO _ _ _::aO _ _ _::cl _ _ _::aO _ _ _::aO _ _ _::aJ _ _ _::i) (fun w s=>(((s.d 1 R).d 3 R).e 6 [1,0,2,3,4,5])) ?_))))))))))
 refine lC 2 yI R (Z11_ok hj) R ?_
 rintro ⟨⟨e5,hy,ej⟩,⟨e6,hz,ek⟩⟩
 refine lN (ow kT3 3 (.slice e5 hy ej) a4.Dims::ow kT3 3 (.slice e6 hz ek) a4.Data::_::_::_::_::i) ?_
 refine aL 0 aB ?_
 rintro rfl
 refine aL 1 aB ?_
 rintro rfl
 refine aC (aG (sL [5,1,0]) (d1 8 R (aK 5 R R bS R R R R R R (lN (_::_::_::_::_::aJ l [(sc e5 a4.Dims ej),(sc e6 a4.Data ek)] 38::i) ?_))))
 refine aC (aG (sL [5,1,0]) (dD (aI (bW (dG (cD ?_))))))
 obtain rfl:=so b
 exact dJ (vs:=[(.agg [(sc e5 a4.Dims ej),(sc e6 a4.Data ek)].toArray)]) (.inl R) ((e5,a4.Dims.length,ej),(e6,a4.Data.length,ek)) R ⟨⟨5,l,_,_,R,R,.inl ⟨fG,bS,R⟩⟩,trivial⟩ R (fun w s=>(s.e 12 [0,1]))
 refine bJ R di (aM (aE (lO (lH R R) (lB R (aC (aI ?_))))))
 rcases cF b with ⟨dj,b⟩|⟨dj,b⟩
 refine bZ R dj (aM ?_)
 obtain ⟨bw,b⟩:=gd b
 obtain ⟨e0,b⟩:=gd b
 obtain ⟨a5,hk,b⟩:=bd b
 refine aZ 6 aA (show 0<g.length by have:=bw; omega) (fun ie o57 m=>?_)
 subst m
 refine dI (K:=dK) 6 (0:Int) dT38.dec R bw.1 bw.2 ?_
 rintro ⟨⟨fc,fm⟩,⟨fd,fn⟩⟩
 refine cN (cl ie (o57+(0:Int).toNat*2) [(sc fc ((ix g (0:Int)).Dims) fm),(sc fd ((ix g (0:Int)).Data) fn)]::RR kT3 fc fm ((ix g (0:Int)).Dims)::RR kT3 fd fn ((ix g (0:Int)).Data)::aJ l [(.slice none 0 0),(.slice none 0 0)] 38::i) ?_
 refine aZ 7 aA (show 0<j.Ints.length by have:=e0; omega) (fun iq o62 m=>?_)
 subst m
 refine dF 8 [3] bO (fun ht hn=>(dR 0 R (vS R) (hS:=(sL [3])) (dR 1 R (eJ fX bS R R bw) (hS:=(sL [3])) (dR 2 R (vz (.agg [(sc fc ((ix g (0:Int)).Dims) fm),(sc fd ((ix g (0:Int)).Data) fn)].toArray) (eF (fo:=0) 0 fG bS R R R R)) (hS:=(sL [3])) (dR 3 R (vS R) (hS:=(sL [3])) (dR 4 R (eJ bM cE R R e0) (hS:=(sL [3])) (dR 5 R (gU 6 fO aA R e0) (hS:=(sL [3])) (d1 6 R (lM (aO _ _ _::aO _ _ _::cl _ _ _::aO _ _ _::aO _ _ _::aJ _ _ _::i) (fun w s=>(((s.d 1 R).d 3 R).e 6 [1,0,2,3,4,5])) ?_)))))))))
 refine lC 2 yK R (Zc_ok hk) R ?_
 rintro ⟨⟨e7,i0,el⟩,⟨e8,i1,em⟩⟩
 refine lN (ow kT3 3 (.slice e7 i0 el) a5.Dims::ow kT3 3 (.slice e8 i1 em) a5.Data::_::_::_::_::i) ?_
 refine aL 0 aB ?_
 rintro rfl
 refine aL 1 aB ?_
 rintro rfl
 refine aC (aG (sL [5,1,0]) (d1 7 R (aK 5 R R bS R R R R R R (lN (_::_::_::_::_::aJ l [(sc e7 a5.Dims el),(sc e8 a5.Data em)] 38::i) ?_))))
 refine aC (aG (sL [5,1,0]) (dD (aI (bW (dG (cD ?_))))))
 obtain rfl:=so b
 exact dJ (vs:=[(.agg [(sc e7 a5.Dims el),(sc e8 a5.Data em)].toArray)]) (.inl R) ((e7,a5.Dims.length,el),(e8,a5.Data.length,em)) R ⟨⟨5,l,_,_,R,R,.inl ⟨fG,bS,R⟩⟩,trivial⟩ R (fun w s=>(s.e 12 [0,1]))
 refine bJ R dj (aM (aE (lO (lH R R) (lB R (aC (aI ?_))))))
 rcases cF b with ⟨dk,b⟩|⟨dk,b⟩
 refine bZ R dk (aM ?_)
 obtain ⟨a7,hl,b⟩:=bd b
 refine aE (lO (fT 4 pU R) (lO (gD 1 qH R R R) (lS R (lM (RR dK A7 D7 g::aJ l [(.slice none 0 0),(.slice none 0 0)] 38::i) (fun w s=>(s.d 6 R)) ?_))))
 refine lC 1 AW R (Z6_ok hl) R ?_
 rintro ⟨⟨e9,i2,en⟩,⟨ea,i3,eo⟩⟩
 refine lN (ow kT3 3 (.slice e9 i2 en) a7.Dims::ow kT3 3 (.slice ea i3 eo) a7.Data::_::i) ?_
 refine aL 0 aB ?_
 rintro rfl
 refine aL 1 aB ?_
 rintro rfl
 refine aK 2 R R bS R R R R R R (lN (_::_::aJ l [(sc e9 a7.Dims en),(sc ea a7.Data eo)] 38::i) ?_)
 refine aC (aI (bW (dG (cD ?_))))
 obtain rfl:=so b
 exact dJ (vs:=[(.agg [(sc e9 a7.Dims en),(sc ea a7.Data eo)].toArray)]) (.inl R) ((e9,a7.Dims.length,en),(ea,a7.Data.length,eo)) R ⟨⟨2,l,_,_,R,R,.inl ⟨fG,bS,R⟩⟩,trivial⟩ R (fun w s=>(s.e 9 [0,1]))
 refine bJ R dk (aM (aE (lO (lH R R) (lB R (aC (aI ?_))))))
 rcases cF b with ⟨dl,b⟩|⟨dl,b⟩
 refine bZ R dl (aM ?_)
 obtain ⟨a1,b⟩:=gd b
 obtain ⟨ap,hm,b⟩:=bd b
 obtain ⟨a8,ho,b⟩:=bd b
 obtain ⟨a9,hp,b⟩:=bd b
 refine aZ 6 aA (show 0<g.length by have:=a1; omega) (fun hc o75 m=>?_)
 subst m
 refine dI (K:=dK) 6 (0:Int) dT38.dec R a1.1 a1.2 ?_
 rintro ⟨⟨cj,d5⟩,⟨ck,d6⟩⟩
 refine cN (cl hc (o75+(0:Int).toNat*2) [(sc cj ((ix g (0:Int)).Dims) d5),(sc ck ((ix g (0:Int)).Data) d6)]::RR kT3 cj d5 ((ix g (0:Int)).Dims)::RR kT3 ck d6 ((ix g (0:Int)).Data)::aJ l [(.slice none 0 0),(.slice none 0 0)] 38::i) ?_
 refine dF 13 [3] bO (fun ht hn=>(dR 0 R (vS R) (hS:=(sL [3])) (dR 1 R (eJ fX bS R R a1) (hS:=(sL [3])) (dR 2 R (vz (.agg [(sc cj ((ix g (0:Int)).Dims) d5),(sc ck ((ix g (0:Int)).Data) d6)].toArray) (eF (fo:=0) 0 fG bS R R R R)) (hS:=(sL [3])) (dR 3 R (vS R) (hS:=(sL [3])) (dR 4 R (eJ fX bS R R a1) (hS:=(sL [3])) (dR 5 R (vz (.pointer (some ⟨hc,o75+(0:Int).toNat*2,none⟩)) (kp iM R R)) (hS:=(sL [3])) (dR 6 R (eD (fo:=0) 0 cK R R R) (hS:=(sL [3])) (dR 8 R (fT 2 kc R) (hS:=(sL [3])) (dR 9 R (gD 3 cK R R R) (hS:=(sL [3])) (d1 7 R (lM (_::_::_::_::_::i) (fun w s=>(s.d 1 R)) ?_))))))))))))
 refine lC 1 uq R (Zx_ok hm) R ?_
 rintro ⟨⟨fe,i4,fp⟩,⟨eb,i5,ep⟩⟩
 refine lN (aO kT3 (.slice fe i4 fp) ap.Dims::ow kT3 3 (.slice eb i5 ep) ap.Strides::_::_::_::_::i) ?_
 refine aL 0 aA ?_
 rintro rfl
 refine aL 1 aB ?_
 rintro rfl
 refine aC (aG (sL [5,1,0]) (d1 10 R (lM (ow _ _ _ _::aO _ _ _::RR kT3 A3 D3 j.Dims::aO _ _ _::cl _ _ _::aO _ _ _::aO _ _ _::aJ _ _ _::i) (fun w s=>(((s.d 0 R).d 9 R).e 8 [3,1,0,2,4,5,6,7])) ?_)))
 refine lC 3 yQ R (FnOk.lends (A':=[OO kT3 3 eb ep ap.Strides]) (A:=[RR kT3 eb ep ap.Strides]) (B:=[RR kT3 fe fp ap.Dims,RR kT3 A3 D3 j.Dims]) (FnOk.perm (Z03_ok ho) (Pre':=[RR kT3 eb ep ap.Strides,RR kT3 fe fp ap.Dims,RR kT3 A3 D3 j.Dims]) (fun _ _ _ s=>(s.e 3 [1,0,2]))) ⟨aY,trivial⟩ (fun _=>⟨(bK j9),(bK j9),trivial⟩)) R ?_
 rintro ⟨⟨ec,i6,eq⟩,⟨ed,i7,er⟩⟩
 refine lN (_::ow kT3 3 (.slice ec i6 eq) a8.Dims::ow kT3 3 (.slice ed i7 er) a8.Strides::_::_::_::_::_::i) ?_
 refine aL 1 aB ?_
 rintro rfl
 refine aL 2 aB ?_
 rintro rfl
 refine aC (aG (sL [7,3,2,1,0]) (d1 11 R (lM (ow _ _ _ _::ow _ _ _ _::aO _ _ _::aO _ _ _::ow _ _ _ _::aO _ _ _::cl _ _ _::aO _ _ _::aO _ _ _::aJ _ _ _::i) (fun w s=>(((s.d 5 R).d 7 R).e 10 [3,4,1,0,2,5,6,7,8,9])) ?_)))
 refine lC 4 ur R (FnOk.lends (A':=[OO kT3 3 ec eq a8.Dims,OO kT3 3 ed er a8.Strides]) (A:=[RR kT3 ec eq a8.Dims,RR kT3 ed er a8.Strides]) (B:=[RR kT3 cj d5 ((ix g (0:Int)).Dims),RR kT3 ck d6 ((ix g (0:Int)).Data)]) (FnOk.perm (Z02_ok hp) (Pre':=[RR kT3 ec eq a8.Dims,RR kT3 ed er a8.Strides,RR kT3 cj d5 ((ix g (0:Int)).Dims),RR kT3 ck d6 ((ix g (0:Int)).Data)]) (fun _ _ _ s=>(s.e 4 [2,3,0,1]))) ⟨aY,aY,trivial⟩ (fun _=>⟨(bK j9),(bK j9),trivial⟩)) R ?_
 rintro ⟨⟨ee,i8,es⟩,⟨ef,i9,et⟩⟩
 refine lN (_::_::ow kT3 3 (.slice ee i8 es) a9.Dims::ow kT3 3 (.slice ef i9 et) a9.Data::_::_::_::_::_::_::i) ?_
 refine aL 2 aB ?_
 rintro rfl
 refine aL 3 aB ?_
 rintro rfl
 refine aC (aG (sL [9,5,4,3,2,1,0]) (d1 12 R (aK 9 R R bS R R R R R R (lN (_::_::_::_::_::_::_::_::_::aJ l [(sc ee a9.Dims es),(sc ef a9.Data et)] 38::i) ?_))))
 refine aC (aG (sL [9,5,4,3,2,1,0]) (dD (aI (bW (dG (cD ?_))))))
 obtain rfl:=so b
 exact dJ (vs:=[(.agg [(sc ee a9.Dims es),(sc ef a9.Data et)].toArray)]) (.inl R) ((ee,a9.Dims.length,es),(ef,a9.Data.length,et)) R ⟨⟨9,l,_,_,R,R,.inl ⟨fG,bS,R⟩⟩,trivial⟩ R (fun w s=>(s.e 16 [2,3]))
 refine bJ R dl (aM (aE (lO (lH R R) (lB R (aC (aI ?_))))))
 rcases cF b with ⟨dm,b⟩|⟨dm,b⟩
 refine bZ R dm (aM ?_)
 obtain ⟨a2,b⟩:=gd b
 obtain ⟨aq,hq,b⟩:=bd b
 obtain ⟨q,fr,b⟩:=bd b
 obtain ⟨u,fs,b⟩:=bd b
 refine aZ 6 aA (show 0<g.length by have:=a2; omega) (fun hd o93 m=>?_)
 subst m
 refine dI (K:=dK) 6 (0:Int) dT38.dec R a2.1 a2.2 ?_
 rintro ⟨⟨cm,d7⟩,⟨cn,d8⟩⟩
 refine cN (cl hd (o93+(0:Int).toNat*2) [(sc cm ((ix g (0:Int)).Dims) d7),(sc cn ((ix g (0:Int)).Data) d8)]::RR kT3 cm d7 ((ix g (0:Int)).Dims)::RR kT3 cn d8 ((ix g (0:Int)).Data)::aJ l [(.slice none 0 0),(.slice none 0 0)] 38::i) ?_
 refine dF 13 [3] bO (fun ht hn=>(dR 0 R (vS R) (hS:=(sL [3])) (dR 1 R (eJ fX bS R R a2) (hS:=(sL [3])) (dR 2 R (vz (.agg [(sc cm ((ix g (0:Int)).Dims) d7),(sc cn ((ix g (0:Int)).Data) d8)].toArray) (eF (fo:=0) 0 fG bS R R R R)) (hS:=(sL [3])) (dR 3 R (vS R) (hS:=(sL [3])) (dR 4 R (eJ fX bS R R a2) (hS:=(sL [3])) (dR 5 R (vz (.pointer (some ⟨hd,o93+(0:Int).toNat*2,none⟩)) (kp iM R R)) (hS:=(sL [3])) (dR 6 R (eD (fo:=0) 0 cK R R R) (hS:=(sL [3])) (dR 8 R (fT 2 kc R) (hS:=(sL [3])) (dR 9 R (gD 3 cK R R R) (hS:=(sL [3])) (d1 7 R (lM (_::_::_::_::_::i) (fun w s=>(s.d 1 R)) ?_))))))))))))
 refine lC 1 uq R (Zx_ok hq) R ?_
 rintro ⟨⟨ff,ia,fq⟩,⟨eg,ib,eu⟩⟩
 refine lN (aO kT3 (.slice ff ia fq) aq.Dims::ow kT3 3 (.slice eg ib eu) aq.Strides::_::_::_::_::i) ?_
 refine aL 0 aA ?_
 rintro rfl
 refine aL 1 aB ?_
 rintro rfl
 refine aC (aG (sL [5,1,0]) (d1 10 R (lM (ow _ _ _ _::aO _ _ _::RR kT3 A3 D3 j.Dims::aO _ _ _::cl _ _ _::aO _ _ _::aO _ _ _::aJ _ _ _::i) (fun w s=>(((s.d 0 R).d 9 R).e 8 [3,1,0,2,4,5,6,7])) ?_)))
 refine lC 3 yR R (FnOk.lends (A':=[OO kT3 3 eg eu aq.Strides]) (A:=[RR kT3 eg eu aq.Strides]) (B:=[RR kT3 ff fq aq.Dims,RR kT3 A3 D3 j.Dims]) (FnOk.perm (Z0a_ok fr) (Pre':=[RR kT3 eg eu aq.Strides,RR kT3 ff fq aq.Dims,RR kT3 A3 D3 j.Dims]) (fun _ _ _ s=>(s.e 3 [1,0,2]))) ⟨aY,trivial⟩ (fun _=>⟨(bK j9),(bK j9),trivial⟩)) R ?_
 rintro ⟨⟨ar,gg,bb⟩,⟨au,gh,bc⟩⟩
 refine lN (_::ow kT3 3 (.slice ar gg bb) q.Dims::ow kT3 3 (.slice au gh bc) q.Strides::_::_::_::_::_::i) ?_
 refine aL 1 aB ?_
 rintro rfl
 refine aL 2 aB ?_
 rintro rfl
 refine aC (aG (sL [7,3,2,1,0]) (d1 11 R (lM (ow _ _ _ _::ow _ _ _ _::aO _ _ _::aO _ _ _::ow _ _ _ _::aO _ _ _::cl _ _ _::aO _ _ _::aO _ _ _::aJ _ _ _::i) (fun w s=>(((s.d 5 R).d 7 R).e 10 [3,4,1,0,2,5,6,7,8,9])) ?_)))
 refine lC 4 ur R (FnOk.lends (A':=[OO kT3 3 ar bb q.Dims,OO kT3 3 au bc q.Strides]) (A:=[RR kT3 ar bb q.Dims,RR kT3 au bc q.Strides]) (B:=[RR kT3 cm d7 ((ix g (0:Int)).Dims),RR kT3 cn d8 ((ix g (0:Int)).Data)]) (FnOk.perm (Z02_ok fs) (Pre':=[RR kT3 ar bb q.Dims,RR kT3 au bc q.Strides,RR kT3 cm d7 ((ix g (0:Int)).Dims),RR kT3 cn d8 ((ix g (0:Int)).Data)]) (fun _ _ _ s=>(s.e 4 [2,3,0,1]))) ⟨aY,aY,trivial⟩ (fun _=>⟨(bK j9),(bK j9),trivial⟩)) R ?_
 rintro ⟨⟨av,gi,be⟩,⟨aw,gj,bf⟩⟩
 refine lN (_::_::ow kT3 3 (.slice av gi be) u.Dims::ow kT3 3 (.slice aw gj bf) u.Data::_::_::_::_::_::_::i) ?_
 refine aL 2 aB ?_
 rintro rfl
 refine aL 3 aB ?_
 rintro rfl
 refine aC (aG (sL [9,5,4,3,2,1,0]) (d1 12 R (aK 9 R R bS R R R R R R (lN (_::_::_::_::_::_::_::_::_::aJ l [(sc av u.Dims be),(sc aw u.Data bf)] 38::i) ?_))))
 refine aC (aG (sL [9,5,4,3,2,1,0]) (dD (aI (bW (dG (cD ?_))))))
 obtain rfl:=so b
 exact dJ (vs:=[(.agg [(sc av u.Dims be),(sc aw u.Data bf)].toArray)]) (.inl R) ((av,u.Dims.length,be),(aw,u.Data.length,bf)) R ⟨⟨9,l,_,_,R,R,.inl ⟨fG,bS,R⟩⟩,trivial⟩ R (fun w s=>(s.e 16 [2,3]))
 refine bJ R dm (aM (aE (lO (lH R R) (lB R (aC (aI ?_))))))
 rcases cF b with ⟨aa,b⟩|⟨aa,b⟩
 refine bZ R aa (aM (aM ?_))
 obtain ⟨L,b⟩:=gd b
 refine aE (lS R (bA 4 aA (show 0<j.Ints.length by have:=L; omega) (fun ii o111 m=>?_)))
 subst m
 refine lO (eJ bM cE R R L) (lO (gU 4 fO aA R L) (lO (mT R R) (aC (aI ?_))))
 rcases cF b with ⟨ab,b⟩|⟨ab,b⟩
 refine bZ R ab (aM (aE (lO (vz (.agg [(.slice none 0 0),(.slice none 0 0)].toArray) (aV gS dS R R)) (aK 0 R R bS R R R R R R (lN (aJ l [(.slice none 0 0),(.slice none 0 0)] 38::i) ?_)))))
 refine aC (aI (bW (cD (dG (cD ?_)))))
 obtain rfl:=so b
 exact dJ (vs:=[(.agg [(.slice none 0 0),(.slice none 0 0)].toArray)]) (.inl R) ((none,0,0),(none,0,0)) R ⟨⟨0,l,_,_,R,R,.inl ⟨fG,bS,R⟩⟩,trivial⟩ R (fun w s=>(((s.nilo kT3 3).nilo kT3 3).e 9 [1,0]))
 refine bJ R ab (cW (aI (aM ?_)))
 obtain ⟨M,b⟩:=gd b
 obtain ⟨bz,ft,b⟩:=bd b
 obtain ⟨dn,b⟩:=gd b
 obtain ⟨dq,b⟩:=gd b
 obtain ⟨dr,b⟩:=gd b
 obtain ⟨f4,fu,b⟩:=bd b
 obtain ⟨D,fv,b⟩:=bd b
 refine aZ 6 aA (show 0<g.length by have:=M; omega) (fun f2 o115 m=>?_)
 subst m
 refine dI (K:=dK) 6 (0:Int) dT38.dec R M.1 M.2 ?_
 rintro ⟨⟨c1,co⟩,⟨c2,cp⟩⟩
 refine cN (cl f2 (o115+(0:Int).toNat*2) [(sc c1 ((ix g (0:Int)).Dims) co),(sc c2 ((ix g (0:Int)).Data) cp)]::RR kT3 c1 co ((ix g (0:Int)).Dims)::RR kT3 c2 cp ((ix g (0:Int)).Data)::_::i) ?_
 refine dF 23 [3] bO (fun ht hn=>(dR 0 R (vS R) (hS:=(sL [3])) (dR 1 R (eJ fX bS R R M) (hS:=(sL [3])) (dR 2 R (vz (.agg [(sc c1 ((ix g (0:Int)).Dims) co),(sc c2 ((ix g (0:Int)).Data) cp)].toArray) (eF (fo:=0) 0 fG bS R R R R)) (hS:=(sL [3])) (dR 3 R (vS R) (hS:=(sL [3])) (dR 4 R (eJ fX bS R R M) (hS:=(sL [3])) (dR 5 R (vz (.pointer (some ⟨f2,o115+(0:Int).toNat*2,none⟩)) (kp iM R R)) (hS:=(sL [3])) (dR 6 R (eD (fo:=0) 0 cK R R R) (hS:=(sL [3])) (dR 8 R (vS R) (hS:=(sL [3])) (dR 9 R (eJ bM cE R R dn) (hS:=(sL [3])) (dR 10 R (gU 6 fO aA R dn) (hS:=(sL [3])) (dR 11 R (vS R) (hS:=(sL [3])) (dR 12 R (eJ bM cE R R dq) (hS:=(sL [3])) (dR 13 R (gU 6 fO aA R dq) (hS:=(sL [3])) (dR 14 R (vS R) (hS:=(sL [3])) (dR 15 R (eJ bM cE R R dr) (hS:=(sL [3])) (dR 16 R (gU 6 fO aA R dr) (hS:=(sL [3])) (dR 17 R (vS R) (hS:=(sL [3])) (dR 18 R (eJ bM cE R R L) (hS:=(sL [3])) (dR 19 R (gU 6 fO aA R L) (hS:=(sL [3])) (d1 7 R (lM (_::_::_::_::_::i) (fun w s=>(s.d 1 R)) ?_))))))))))))))))))))))
 refine lC 1 uq R (Zx_ok ft) R ?_
 rintro ⟨⟨g3,gk,g9⟩,⟨c3,gm,cq⟩⟩
 refine lN (aO kT3 (.slice g3 gk g9) bz.Dims::ow kT3 3 (.slice c3 gm cq) bz.Strides::_::_::_::_::i) ?_
 refine aL 0 aA ?_
 rintro rfl
 refine aL 1 aB ?_
 rintro rfl
 refine aC (aG (sL [5,1,0]) (d1 20 R (hW (fun w s=>s.shr 1 R) (lM (aO _ _ _::RR kT3 c3 cq bz.Strides::RR kT3 c3 cq bz.Strides::aO _ _ _::cl _ _ _::aO _ _ _::aO _ _ _::aJ _ _ _::i) (fun w s=>(((s.d 1 R).d 1 R).f 8 [1,1,0,1,2,6])) ?_))))
 refine lC 2 yS R (Z18_ok fu) R ?_
 rintro ⟨⟨g4,gn,ga⟩,⟨g5,gp,gb⟩⟩
 refine lN (aO kT3 (.slice g4 gn ga) f4.Dims::aO kT3 (.slice g5 gp gb) f4.Strides::_::_::_::_::_::_::i) ?_
 refine aL 0 aA ?_
 rintro rfl
 refine aL 1 aA ?_
 rintro rfl
 refine aC (aG (sL [7,3,2,1,0]) (d1 21 R (lM (aO _ _ _::aO _ _ _::aO _ _ _::aO _ _ _::aO _ _ _::aO _ _ _::aO _ _ _::aO _ _ _::cl _ _ _::aO _ _ _::aO _ _ _::aJ _ _ _::i) (fun w s=>(((((s.d 5 R).d 7 R).d 2 R).d 4 R).f 12 [3,1,2,1,1,1,0,1,4,8])) ?_)))
 refine lC 4 ur R (Z02_ok fv) R ?_
 rintro ⟨⟨ax,gq,bg⟩,⟨ay,gr,bh⟩⟩
 refine lN (ow kT3 3 (.slice ax gq bg) D.Dims::ow kT3 3 (.slice ay gr bh) D.Data::_::_::_::_::_::_::_::_::i) ?_
 refine aL 0 aB ?_
 rintro rfl
 refine aL 1 aB ?_
 rintro rfl
 refine aC (aG (sL [9,5,4,3,2,1,0]) (d1 22 R (aK 9 R R bS R R R R R R (lN (_::_::_::_::_::_::_::_::_::aJ l [(sc ax D.Dims bg),(sc ay D.Data bh)] 38::i) ?_))))
 refine aC (aG (sL [9,5,4,3,2,1,0]) (dD (aI (bW (dG (cD ?_))))))
 obtain rfl:=so b
 exact dJ (vs:=[(.agg [(sc ax D.Dims bg),(sc ay D.Data bh)].toArray)]) (.inl R) ((ax,D.Dims.length,bg),(ay,D.Data.length,bh)) R ⟨⟨9,l,_,_,R,R,.inl ⟨fG,bS,R⟩⟩,trivial⟩ R (fun w s=>(s.e 16 [0,1]))
 refine bJ R aa (aM (aE (lO (lH R R) (lB R (aC (aI ?_))))))
 rcases cF b with ⟨ac,b⟩|⟨ac,b⟩
 refine bZ R ac (aM ?_)
 obtain ⟨T,b⟩:=gd b
 obtain ⟨ai,b⟩:=gd b
 obtain ⟨ds,b⟩:=gd b
 obtain ⟨dt,b⟩:=gd b
 obtain ⟨du,b⟩:=gd b
 obtain ⟨E,fw,b⟩:=bd b
 refine aZ 6 aA (show 0<g.length by have:=T; omega) (fun h7 o136 m=>?_)
 subst m
 refine dI (K:=dK) 6 (0:Int) dT38.dec R T.1 T.2 ?_
 rintro ⟨⟨c4,cr⟩,⟨c5,cs⟩⟩
 refine cN (cl h7 (o136+(0:Int).toNat*2) [(sc c4 ((ix g (0:Int)).Dims) cr),(sc c5 ((ix g (0:Int)).Data) cs)]::RR kT3 c4 cr ((ix g (0:Int)).Dims)::RR kT3 c5 cs ((ix g (0:Int)).Data)::aJ l [(.slice none 0 0),(.slice none 0 0)] 38::i) ?_
 refine aZ 7 aA (show 0<j.Ints.length by have:=ai; omega) (fun ij o141 m=>?_)
 subst m
 refine dF 17 [3] bO (fun ht hn=>(dR 0 R (vS R) (hS:=(sL [3])) (dR 1 R (eJ fX bS R R T) (hS:=(sL [3])) (dR 2 R (vz (.agg [(sc c4 ((ix g (0:Int)).Dims) cr),(sc c5 ((ix g (0:Int)).Data) cs)].toArray) (eF (fo:=0) 0 fG bS R R R R)) (hS:=(sL [3])) (dR 3 R (vS R) (hS:=(sL [3])) (dR 4 R (eJ bM cE R R ai) (hS:=(sL [3])) (dR 5 R (gU 6 fO aA R ai) (hS:=(sL [3])) (dR 6 R (vS R) (hS:=(sL [3])) (dR 7 R (eJ bM cE R R ds) (hS:=(sL [3])) (dR 8 R (gU 6 fO aA R ds) (hS:=(sL [3])) (dR 9 R (vS R) (hS:=(sL [3])) (dR 10 R (eJ bM cE R R dt) (hS:=(sL [3])) (dR 11 R (gU 6 fO aA R dt) (hS:=(sL [3])) (dR 12 R (vS R) (hS:=(sL [3])) (dR 13 R (eJ bM cE R R du) (hS:=(sL [3])) (dR 14 R (gU 6 fO aA R du) (hS:=(sL [3])) (d1 15 R (lM (aO _ _ _::aO _ _ _::cl _ _ _::aO _ _ _::aO _ _ _::aJ _ _ _::i) (fun w s=>(((s.d 1 R).d 3 R).e 6 [1,0,2,3,4,5])) ?_))))))))))))))))))
 refine lC 2 AX R (Z0s_ok fw) R ?_
 rintro ⟨⟨az,gs,bi⟩,⟨b0,gt,bj⟩⟩
 refine lN (ow kT3 3 (.slice az gs bi) E.Dims::ow kT3 3 (.slice b0 gt bj) E.Data::_::_::_::_::i) ?_
 refine aL 0 aB ?_
 rintro rfl
 refine aL 1 aB ?_
 rintro rfl
 refine aC (aG (sL [5,1,0]) (d1 16 R (aK 5 R R bS R R R R R R (lN (_::_::_::_::_::aJ l [(sc az E.Dims bi),(sc b0 E.Data bj)] 38::i) ?_))))
 refine aC (aG (sL [5,1,0]) (dD (aI (bW (dG (cD ?_))))))
 obtain rfl:=so b
 exact dJ (vs:=[(.agg [(sc az E.Dims bi),(sc b0 E.Data bj)].toArray)]) (.inl R) ((az,E.Dims.length,bi),(b0,E.Data.length,bj)) R ⟨⟨5,l,_,_,R,R,.inl ⟨fG,bS,R⟩⟩,trivial⟩ R (fun w s=>(s.e 12 [0,1]))
 refine bJ R ac (aM (aE (lO (lH R R) (lB R (aC (aI ?_))))))
 rcases cF b with ⟨ae,b⟩|⟨ae,b⟩
 refine bZ R ae (aM ?_)
 obtain ⟨U,b⟩:=gd b
 obtain ⟨aj,b⟩:=gd b
 obtain ⟨ak,b⟩:=gd b
 obtain ⟨F,fx,b⟩:=bd b
 refine aZ 6 aA (show 0<g.length by have:=U; omega) (fun h8 o152 m=>?_)
 subst m
 refine dI (K:=dK) 6 (0:Int) dT38.dec R U.1 U.2 ?_
 rintro ⟨⟨c6,ct⟩,⟨c7,cu⟩⟩
 refine cN (cl h8 (o152+(0:Int).toNat*2) [(sc c6 ((ix g (0:Int)).Dims) ct),(sc c7 ((ix g (0:Int)).Data) cu)]::RR kT3 c6 ct ((ix g (0:Int)).Dims)::RR kT3 c7 cu ((ix g (0:Int)).Data)::aJ l [(.slice none 0 0),(.slice none 0 0)] 38::i) ?_
 refine aZ 7 aA (show 0<j.Ints.length by have:=aj; omega) (fun ik o157 m=>?_)
 subst m
 refine dF 10 [3] bO (fun ht hn=>(dR 0 R (vS R) (hS:=(sL [3])) (dR 1 R (eJ fX bS R R U) (hS:=(sL [3])) (dR 2 R (vz (.agg [(sc c6 ((ix g (0:Int)).Dims) ct),(sc c7 ((ix g (0:Int)).Data) cu)].toArray) (eF (fo:=0) 0 fG bS R R R R)) (hS:=(sL [3])) (dR 3 R (vS R) (hS:=(sL [3])) (dR 4 R (eJ bM cE R R aj) (hS:=(sL [3])) (dR 5 R (gU 6 fO aA R aj) (hS:=(sL [3])) (dR 6 R (vS R) (hS:=(sL [3])) (d1 7 R (gC (K:=kT3) (1:Int) (j.Ints.length:Int) 7 R R bM cE R R R R ak.1 ak.2.1 ak.2.2 (fun ey f0=>(aC (aG (sL [4,0]) (d1 8 R (lM (aO _ _ _::aO _ _ _::RR kT3 ey f0 (sub j.Ints (1:Int) (j.Ints.length:Int))::RR kT3 ey f0 (sub j.Ints (1:Int) (j.Ints.length:Int))::cl _ _ _::aO _ _ _::aO _ _ _::aJ _ _ _::i) (fun w s=>((((s.d 2 R).d 4 R).d 2 R).e 8 [2,1,0,3,4,5,6,7])) ?_)))))))))))))))
 refine lC 3 AY R (Z0r_ok fx) R ?_
 rintro ⟨⟨b1,gu,bk⟩,⟨b2,gw,bl⟩⟩
 refine lN (ow kT3 3 (.slice b1 gu bk) F.Dims::ow kT3 3 (.slice b2 gw bl) F.Data::_::_::_::_::_::i) ?_
 refine aL 0 aB ?_
 rintro rfl
 refine aL 1 aB ?_
 rintro rfl
 refine aC (aG (sL [6,2,1,0]) (d1 9 R (aK 6 R R bS R R R R R R (lN (_::_::_::_::_::_::aJ l [(sc b1 F.Dims bk),(sc b2 F.Data bl)] 38::i) ?_))))
 refine aC (aG (sL [6,2,1,0]) (dD (aI (bW (dG (cD ?_))))))
 obtain rfl:=so b
 exact dJ (vs:=[(.agg [(sc b1 F.Dims bk),(sc b2 F.Data bl)].toArray)]) (.inl R) ((b1,F.Dims.length,bk),(b2,F.Data.length,bl)) R ⟨⟨6,l,_,_,R,R,.inl ⟨fG,bS,R⟩⟩,trivial⟩ R (fun w s=>(s.e 13 [0,1]))
 refine bJ R ae (aM (aE (lO (lH R R) (lB R (aC (aI ?_))))))
 rcases cF b with ⟨ag,b⟩|⟨ag,b⟩
 refine bZ R ag (aM ?_)
 obtain ⟨Y,b⟩:=gd b
 obtain ⟨al,b⟩:=gd b
 obtain ⟨am,b⟩:=gd b
 obtain ⟨dv,b⟩:=gd b
 obtain ⟨G,fy,b⟩:=bd b
 refine aZ 6 aA (show 0<g.length by have:=Y; omega) (fun h9 o167 m=>?_)
 subst m
 refine dI (K:=dK) 6 (0:Int) dT38.dec R Y.1 Y.2 ?_
 rintro ⟨⟨c8,cv⟩,⟨c9,cw⟩⟩
 refine cN (cl h9 (o167+(0:Int).toNat*2) [(sc c8 ((ix g (0:Int)).Dims) cv),(sc c9 ((ix g (0:Int)).Data) cw)]::RR kT3 c8 cv ((ix g (0:Int)).Dims)::RR kT3 c9 cw ((ix g (0:Int)).Data)::aJ l [(.slice none 0 0),(.slice none 0 0)] 38::i) ?_
 refine aZ 7 aA (show 0<j.Ints.length by have:=al; omega) (fun im o172 m=>?_)
 subst m
 refine dF 13 [3] bO (fun ht hn=>(dR 0 R (vS R) (hS:=(sL [3])) (dR 1 R (eJ fX bS R R Y) (hS:=(sL [3])) (dR 2 R (vz (.agg [(sc c8 ((ix g (0:Int)).Dims) cv),(sc c9 ((ix g (0:Int)).Data) cw)].toArray) (eF (fo:=0) 0 fG bS R R R R)) (hS:=(sL [3])) (dR 3 R (vS R) (hS:=(sL [3])) (dR 4 R (eJ bM cE R R al) (hS:=(sL [3])) (dR 5 R (gU 6 fO aA R al) (hS:=(sL [3])) (dR 6 R (vS R) (hS:=(sL [3])) (dR 8 R (vS R) (hS:=(sL [3])) (dR 9 R (eJ bM cE R R dv) (hS:=(sL [3])) (dR 10 R (gU 6 fO aA R dv) (hS:=(sL [3])) (d1 7 R (gC (K:=kT3) (2:Int) (j.Ints.length:Int) 7 R R bM cE R R R R am.1 am.2.1 am.2.2 (fun ez f1=>(aC (aG (sL [4,0]) (d1 11 R (lM (aO _ _ _::aO _ _ _::RR kT3 ez f1 (sub j.Ints (2:Int) (j.Ints.length:Int))::RR kT3 ez f1 (sub j.Ints (2:Int) (j.Ints.length:Int))::cl _ _ _::aO _ _ _::aO _ _ _::aJ _ _ _::i) (fun w s=>((((s.d 2 R).d 4 R).d 2 R).e 8 [2,1,0,3,4,5,6,7])) ?_))))))))))))))))))
 refine lC 3 yT R (Z0t_ok fy) R ?_
 rintro ⟨⟨b3,gx,bm⟩,⟨b4,gy,bn⟩⟩
 refine lN (ow kT3 3 (.slice b3 gx bm) G.Dims::ow kT3 3 (.slice b4 gy bn) G.Data::_::_::_::_::_::i) ?_
 refine aL 0 aB ?_
 rintro rfl
 refine aL 1 aB ?_
 rintro rfl
 refine aC (aG (sL [6,2,1,0]) (d1 12 R (aK 6 R R bS R R R R R R (lN (_::_::_::_::_::_::aJ l [(sc b3 G.Dims bm),(sc b4 G.Data bn)] 38::i) ?_))))
 refine aC (aG (sL [6,2,1,0]) (dD (aI (bW (dG (cD ?_))))))
 obtain rfl:=so b
 exact dJ (vs:=[(.agg [(sc b3 G.Dims bm),(sc b4 G.Data bn)].toArray)]) (.inl R) ((b3,G.Dims.length,bm),(b4,G.Data.length,bn)) R ⟨⟨6,l,_,_,R,R,.inl ⟨fG,bS,R⟩⟩,trivial⟩ R (fun w s=>(s.e 13 [0,1]))
 refine bJ R ag (aM (aE (lO (lH R R) (lB R (aC (aI ?_))))))
 rcases cF b with ⟨ah,b⟩|⟨ah,b⟩
 refine bZ R ah (aM ?_)
 obtain ⟨O,b⟩:=gd b
 obtain ⟨c0,fz,b⟩:=bd b
 obtain ⟨an,b⟩:=gd b
 obtain ⟨dw,b⟩:=gd b
 obtain ⟨dx,b⟩:=gd b
 obtain ⟨f5,g0,b⟩:=bd b
 obtain ⟨I,g1,b⟩:=bd b
 refine aZ 6 aA (show 0<g.length by have:=O; omega) (fun f3 o183 m=>?_)
 subst m
 refine dI (K:=dK) 6 (0:Int) dT38.dec R O.1 O.2 ?_
 rintro ⟨⟨cb,cy⟩,⟨cc,cz⟩⟩
 refine cN (cl f3 (o183+(0:Int).toNat*2) [(sc cb ((ix g (0:Int)).Dims) cy),(sc cc ((ix g (0:Int)).Data) cz)]::RR kT3 cb cy ((ix g (0:Int)).Dims)::RR kT3 cc cz ((ix g (0:Int)).Data)::aJ l [(.slice none 0 0),(.slice none 0 0)] 38::i) ?_
 refine aZ 7 aA (show 0<j.Ints.length by have:=an; omega) (fun io o192 m=>?_)
 subst m
 refine dF 20 [3] bO (fun ht hn=>(dR 0 R (vS R) (hS:=(sL [3])) (dR 1 R (eJ fX bS R R O) (hS:=(sL [3])) (dR 2 R (vz (.agg [(sc cb ((ix g (0:Int)).Dims) cy),(sc cc ((ix g (0:Int)).Data) cz)].toArray) (eF (fo:=0) 0 fG bS R R R R)) (hS:=(sL [3])) (dR 3 R (vS R) (hS:=(sL [3])) (dR 4 R (eJ fX bS R R O) (hS:=(sL [3])) (dR 5 R (vz (.pointer (some ⟨f3,o183+(0:Int).toNat*2,none⟩)) (kp iM R R)) (hS:=(sL [3])) (dR 6 R (eD (fo:=0) 0 cK R R R) (hS:=(sL [3])) (dR 8 R (vS R) (hS:=(sL [3])) (dR 9 R (eJ bM cE R R an) (hS:=(sL [3])) (dR 10 R (gU 6 fO aA R an) (hS:=(sL [3])) (dR 11 R (vS R) (hS:=(sL [3])) (dR 12 R (eJ bM cE R R dw) (hS:=(sL [3])) (dR 13 R (gU 6 fO aA R dw) (hS:=(sL [3])) (dR 14 R (vS R) (hS:=(sL [3])) (dR 15 R (eJ bM cE R R dx) (hS:=(sL [3])) (dR 16 R (gU 6 fO aA R dx) (hS:=(sL [3])) (d1 7 R (lM (_::_::_::_::_::i) (fun w s=>(s.d 1 R)) ?_)))))))))))))))))))
 refine lC 1 uq R (Zx_ok fz) R ?_
 rintro ⟨⟨g6,gz,gc⟩,⟨cf,h0,d0⟩⟩
 refine lN (aO kT3 (.slice g6 gz gc) c0.Dims::ow kT3 3 (.slice cf h0 d0) c0.Strides::_::_::_::_::i) ?_
 refine aL 0 aA ?_
 rintro rfl
 refine aL 1 aB ?_
 rintro rfl
 refine aC (aG (sL [5,1,0]) (d1 17 R (hW (fun w s=>s.shr 1 R) (lM (aO _ _ _::RR kT3 cf d0 c0.Strides::RR kT3 cf d0 c0.Strides::aO _ _ _::cl _ _ _::aO _ _ _::aO _ _ _::aJ _ _ _::i) (fun w s=>(((s.d 1 R).d 1 R).f 8 [1,1,0,1,2,6])) ?_))))
 refine lC 2 AZ R (Z0c_ok g0) R ?_
 rintro ⟨⟨g7,h1,ge⟩,⟨g8,h2,gf⟩⟩
 refine lN (aO kT3 (.slice g7 h1 ge) f5.Dims::aO kT3 (.slice g8 h2 gf) f5.Strides::_::_::_::_::_::_::i) ?_
 refine aL 0 aA ?_
 rintro rfl
 refine aL 1 aA ?_
 rintro rfl
 refine aC (aG (sL [7,3,2,1,0]) (d1 18 R (lM (aO _ _ _::aO _ _ _::aO _ _ _::aO _ _ _::aO _ _ _::aO _ _ _::aO _ _ _::aO _ _ _::cl _ _ _::aO _ _ _::aO _ _ _::aJ _ _ _::i) (fun w s=>(((((s.d 5 R).d 7 R).d 2 R).d 4 R).f 12 [3,1,2,1,1,1,0,1,4,8])) ?_)))
 refine lC 4 ur R (Z02_ok g1) R ?_
 rintro ⟨⟨b5,h3,bp⟩,⟨b6,h4,bq⟩⟩
 refine lN (ow kT3 3 (.slice b5 h3 bp) I.Dims::ow kT3 3 (.slice b6 h4 bq) I.Data::_::_::_::_::_::_::_::_::i) ?_
 refine aL 0 aB ?_
 rintro rfl
 refine aL 1 aB ?_
 rintro rfl
 refine aC (aG (sL [9,5,4,3,2,1,0]) (d1 19 R (aK 9 R R bS R R R R R R (lN (_::_::_::_::_::_::_::_::_::aJ l [(sc b5 I.Dims bp),(sc b6 I.Data bq)] 38::i) ?_))))
 refine aC (aG (sL [9,5,4,3,2,1,0]) (dD (aI (bW (dG (cD ?_))))))
 obtain rfl:=so b
 exact dJ (vs:=[(.agg [(sc b5 I.Dims bp),(sc b6 I.Data bq)].toArray)]) (.inl R) ((b5,I.Dims.length,bp),(b6,I.Data.length,bq)) R ⟨⟨9,l,_,_,R,R,.inl ⟨fG,bS,R⟩⟩,trivial⟩ R (fun w s=>(s.e 16 [0,1]))
 refine bJ R ah (cW (dT (aI (aM ?_))))
 obtain ⟨Z,b⟩:=gd b
 obtain ⟨ao,b⟩:=gd b
 obtain ⟨dy,b⟩:=gd b
 obtain ⟨dz,b⟩:=gd b
 obtain ⟨J,g2,b⟩:=bd b
 refine aZ 6 aA (show 0<g.length by have:=Z; omega) (fun hb o205 m=>?_)
 subst m
 refine dI (K:=dK) 6 (0:Int) dT38.dec R Z.1 Z.2 ?_
 rintro ⟨⟨ch,d3⟩,⟨ci,d4⟩⟩
 refine cN (cl hb (o205+(0:Int).toNat*2) [(sc ch ((ix g (0:Int)).Dims) d3),(sc ci ((ix g (0:Int)).Data) d4)]::RR kT3 ch d3 ((ix g (0:Int)).Dims)::RR kT3 ci d4 ((ix g (0:Int)).Data)::aJ l [(.slice none 0 0),(.slice none 0 0)] 38::i) ?_
 refine aZ 7 aA (show 0<j.Ints.length by have:=ao; omega) (fun ip o210 m=>?_)
 subst m
 refine dF 14 [3] bO (fun ht hn=>(dR 0 R (vS R) (hS:=(sL [3])) (dR 1 R (eJ fX bS R R Z) (hS:=(sL [3])) (dR 2 R (vz (.agg [(sc ch ((ix g (0:Int)).Dims) d3),(sc ci ((ix g (0:Int)).Data) d4)].toArray) (eF (fo:=0) 0 fG bS R R R R)) (hS:=(sL [3])) (dR 3 R (vS R) (hS:=(sL [3])) (dR 4 R (eJ bM cE R R ao) (hS:=(sL [3])) (dR 5 R (gU 6 fO aA R ao) (hS:=(sL [3])) (dR 6 R (vS R) (hS:=(sL [3])) (dR 7 R (eJ bM cE R R dy) (hS:=(sL [3])) (dR 8 R (gU 6 fO aA R dy) (hS:=(sL [3])) (dR 9 R (vS R) (hS:=(sL [3])) (dR 10 R (eJ bM cE R R dz) (hS:=(sL [3])) (dR 11 R (gU 6 fO aA R dz) (hS:=(sL [3])) (d1 12 R (lM (aO _ _ _::aO _ _ _::cl _ _ _::aO _ _ _::aO _ _ _::aJ _ _ _::i) (fun w s=>(((s.d 1 R).d 3 R).e 6 [1,0,2,3,4,5])) ?_)))))))))))))))
 refine lC 2 yU R (Z0q_ok g2) R ?_
 rintro ⟨⟨b7,h5,br⟩,⟨ba,h6,bs⟩⟩
 refine lN (ow kT3 3 (.slice b7 h5 br) J.Dims::ow kT3 3 (.slice ba h6 bs) J.Data::_::_::_::_::i) ?_
 refine aL 0 aB ?_
 rintro rfl
 refine aL 1 aB ?_
 rintro rfl
 refine aC (aG (sL [5,1,0]) (d1 13 R (aK 5 R R bS R R R R R R (lN (_::_::_::_::_::aJ l [(sc b7 J.Dims br),(sc ba J.Data bs)] 38::i) ?_))))
 refine aC (aG (sL [5,1,0]) (dD (aI (bW ?_))))
 obtain rfl:=so b
 exact dJ (vs:=[(.agg [(sc b7 J.Dims br),(sc ba J.Data bs)].toArray)]) (.inl R) ((b7,J.Dims.length,br),(ba,J.Data.length,bs)) R ⟨⟨5,l,_,_,R,R,.inl ⟨fG,bS,R⟩⟩,trivial⟩ R (fun w s=>(s.e 12 [0,1]))
theorem Z0p_ok  {i:(List Int)}{M:Int}{r:Tensor}(b:Z0p i M=some r) :
 FnOk Tryz.prog 211 [(.slice A2 N2 D2),(iv M)] [aO kT3 (.slice A2 N2 D2) i] (fun (h:HH×HH)=>((.agg [(s3 h.1),(s3 h.2)].toArray),[ow kT3 3 (s3 h.1) r.Dims,ow kT3 3 (s3 h.2) r.Data])):=by
 unfold Z0p at b
 refine aR Tryz.func211 R 27 R R fun C V=>?_
 refine cL 0 aA ?_
 rintro rfl
 let m:=RR kT3 A2 D2 i::V
 refine cN m ?_
 refine aU ?_
 refine bD R R dS (fun q=>(aC (aI (aM (aM ?_)))))
 obtain ⟨r5,G,b⟩:=bd b
 refine aU ?_
 refine lM _ (fun w s=>(s.d 1 R)) ?_
 refine lC 1 kj R (Zn_ok G) R ?_
 rintro _
 refine aP ?_
 split at b
 refine aP ?_
 refine lO (vz (.agg [(.slice none 0 0),(.slice none 0 0)].toArray) (aV gS dS R R)) (aK 0 R R bS R R R R R R (aC (aI (bW (cD ?_)))))
 cases b
 exact qS ((none,0,0),(none,0,0)) (fun w s=>(((s.nilo kT3 3).nilo kT3 3).e 4 [1,0]))
 refine bH ?_
 obtain ⟨g,J,b⟩:=bd b
 refine aU ?_
 refine lM _ (fun w s=>(s.d 1 R)) ?_
 refine lC 1 nz R (Z0i_ok J) R ?_
 rintro ⟨⟨A10,N10,D10⟩,⟨A11,N11,D11⟩⟩
 refine aL 0 aB ?_
 rintro rfl
 refine aL 1 aB ?_
 rintro rfl
 refine bD R R dS (fun j=>(aK 0 R R bS R R R R R R (lN (aJ j [(sc A10 g.Dims D10),(sc A11 g.Data D11)] 38::_::_::_::m) ?_)))
 refine aP ?_
 refine bC (A:=((List Int))×(Unit)) (fun a=>Z0p_J1 g a.1=some r) (fun a=>[(4,(pt q 0)),(5,(pt j 0))]) (fun a=>aJ q [(.slice none 0 0),(.slice none 0 0)] 38::aJ j [(sc A10 g.Dims D10),(sc A11 g.Data D11)] 38::OO kT3 3 A10 D10 g.Dims::ow kT3 3 (.slice A11 g.Data.length D11) a.1::m) ?_ ?_
 refine bV ?_
 obtain ⟨e1,F,E⟩:=bd b
 refine bF (A:=Unit) F (fun s a=>[(1,(iv M)),(4,(pt q 0)),(5,(pt j 0)),(6,(iv s.2))]) (fun s a=>aJ q [(.slice none 0 0),(.slice none 0 0)] 38::aJ j [(sc A10 g.Dims D10),(sc A11 g.Data D11)] 38::OO kT3 3 A10 D10 g.Dims::ow kT3 3 (.slice A11 g.Data.length D11) s.1::m) () (aS R) (tE 4 [3,0,1,2]) ?_
 rintro ⟨O,L⟩ _ σ1 U b D
 dsimp only [Z0p_L1] at b
 refine cU ?_
 split at b
 refine b' ?_
 obtain ⟨B,u,b⟩:=bd b
 obtain ⟨l,b⟩:=gd b
 refine aZ 3 aB (show 0<g.Data.length by have:=l; omega) (fun Y o26 Z=>?_)
 subst Z
 refine dF 7 [3] bO fun ht hn=>?_
 refine nQ 0 [3] ?_
 refine d1 4 R (lC 0 jE R (Zq_ok u) R ?_)
 rintro _
 refine aC (aG (sL [3]) ?_)
 refine m6 5 [3] ?_
 refine d1 6 R (lM _ (tE 4 [3,0,1,2]) ?_)
 refine dX (K:=kT3) (x':=B) 0 L R R cE R R l.1 l.2 ?_ ?_
 exact fun I h s=>(gO).put I h () B s
 refine aC (aG (sL [0]) (dD ?_))
 refine dO ?_
 cases b
 exact qA () (tE 4 [1,2,3,0])
 refine aP ?_
 cases b
 obtain rfl:=D _ R
 have b:=E
 refine aU ?_
 exact qI (O,()) b tI
 rintro ⟨T,_⟩ σ1 b
 dsimp only [Z0p_J1] at b
 refine aP ?_
 refine aK 0 R R bS R R R R R R (lN (aJ q [(sc A10 g.Dims D10),(sc A11 g.Data D11)] 38::aJ j [(sc A10 g.Dims D10),(sc A11 g.Data D11)] 38::_::ow kT3 3 (.slice A11 g.Data.length D11) T::m) ?_)
 refine aP ?_
 cases b
 exact qS ((A10,g.Dims.length,D10),(A11,g.Data.length,D11)) (tE 5 [2,3])
theorem Za_ok  {g1:Graph}{g:(List Tensor)}{l:Bool}{r:(List Tensor)×Bool}(j:Za g1 g l=some r) :
 FnOk Tryz.prog 182 [(.agg [(.slice A2 N2 D2),(.slice A3 N3 D3)].toArray),(.slice A5 N5 D5),(.bool l)] [aO cB (.slice A2 N2 D2) g1.Nodes,aO kT3 (.slice A3 N3 D3) g1.Outs,aO dK (.slice A5 N5 D5) g] (fun (h:HH)=>((.tuple [(s3 h),(.bool r.2)].toArray),[ow (dK).share 38 (s3 h) r.1])):=by
 unfold Za at j
 refine aR Tryz.func182 R 143 R R fun C V=>?_
 refine cL 0 aA ?_
 rintro rfl
 refine cL 1 aA ?_
 rintro rfl
 refine cL 2 aA ?_
 rintro rfl
 let W0:=RR cB A2 D2 g1.Nodes::RR kT3 A3 D3 g1.Outs::RR dK A5 D5 g::V
 refine cN W0 ?_
 refine aU ?_
 refine eE R fun b7=>?_
 refine aP ?_
 let W1:=aJ b7 [(sc A2 g1.Nodes D2),(sc A3 g1.Outs D3)] 67::W0
 refine qN W1 ?_
 refine aP ?_
 refine bL (K:=dK) (xs:=([]:List Tensor)) (vs:=[]) 0 R R fX bS dS R R R R R R ?_ R (fun A8 D8=>?_)
 exact fun I h s=>(uf).list [] I h s
 refine b' ?_
 refine cQ [(1,(sc A5 g D5)),(2,(.bool l)),(3,(pt b7 0)),(8,(sc A8 ([]:List Tensor) D8)),(25,(.bool ((decide ((g1.Nodes.length:Int)>200))||(decide ((g1.Outs.length:Int)>40)))))] (OO dK 38 A8 D8 ([]:List Tensor)::W1) ?_ ?_
 refine bV ?_
 rcases bo (decide ((g1.Nodes.length:Int)>200)) with co | co
 refine bV ?_
 exact qj tI
 refine bV ?_
 exact qj tI
 rintro σ1
 refine bT ?_
 split at j
 refine cU ?_
 cases j
 exact jI (A8,([]:List Tensor).length,D8) (fun w s=>((s.wk 0 R).e 5 [0]))
 refine cY ?_
 refine bC (A:=((List Tensor)×Int)×(HH)) (fun a=>Za_J5 g1 g l a.1.1 a.1.2=some r) (fun a=>[(1,(sc A5 g D5)),(2,(.bool l)),(3,(pt b7 0)),(8,(s3 a.2)),(9,(iv a.1.2))]) (fun a=>ow (dK).share 38 (s3 a.2) a.1.1::W1) ?_ ?_
 refine bV ?_
 obtain ⟨e1,cr,ax⟩:=bd j
 refine bF (A:=HH) cr (fun s a=>[(1,(sc A5 g D5)),(2,(.bool l)),(3,(pt b7 0)),(8,(s3 a)),(9,(iv s.2.1)),(10,(iv s.2.2))]) (fun s a=>ow (dK).share 38 (s3 a) s.1::W1) (A8,([]:List Tensor).length,D8) (aS R) (fun w s=>(s.wk 0 R)) ?_
 rintro ⟨i,q,b⟩ ⟨u,cb,D⟩ σ1 bl j aw
 dsimp only [Za_L1] at j
 refine bI 0 dC (fun (hn:cb=i.length)=>?_)
 subst hn
 refine cU ?_
 split at j
 refine bV ?_
 obtain ⟨a9,j⟩:=gd j
 refine bH ?_
 refine bA 2 aA (show 0<g1.Nodes.length by have:=a9; omega) (fun d8 o110 ha=>?_)
 subst ha
 refine bT ?_
 refine fS (K:=cB) 2 b dT171.dec R a9.1 a9.2 ?_
 rintro ⟨-,⟨E,F⟩,⟨G,M⟩,⟨J,O⟩,-,⟨L,T⟩⟩
 refine lO (vz (.agg [(iv (ix g1.Nodes b).Op),(sc E ((ix g1.Nodes b).Args) F),(sc G ((ix g1.Nodes b).Dims) M),(sc J ((ix g1.Nodes b).Ints) O),(aD (ix g1.Nodes b).Form),(sc L ((ix g1.Nodes b).Data) T)].toArray) (eF (fo:=0) 0 mx iz R R R R)) (bD R R mw (fun Y=>(aK 0 R R iz R R R R R R (lN (aJ Y [(iv (ix g1.Nodes b).Op),(sc E ((ix g1.Nodes b).Args) F),(sc G ((ix g1.Nodes b).Dims) M),(sc J ((ix g1.Nodes b).Ints) O),(aD (ix g1.Nodes b).Form),(sc L ((ix g1.Nodes b).Data) T)] 171::_::_::_::_::_::_::W1) ?_))))
 refine bH ?_
 obtain ⟨bm,bz,j⟩:=bd j
 obtain ⟨ck,c0,j⟩:=bd j
 refine cQ [(1,(sc A5 g D5)),(2,(.bool l)),(3,(pt b7 0)),(8,(sc u i D)),(9,(iv q)),(10,(iv b)),(11,(pt Y 0)),(48,(.bool ((!bm)||(!ck))))] (OO (dK).share 38 u D i::aJ Y [(iv (ix g1.Nodes b).Op),(sc E ((ix g1.Nodes b).Args) F),(sc G ((ix g1.Nodes b).Dims) M),(sc J ((ix g1.Nodes b).Ints) O),(aD (ix g1.Nodes b).Form),(sc L ((ix g1.Nodes b).Data) T)] 171::RR kT3 E F ((ix g1.Nodes b).Args)::RR kT3 G M ((ix g1.Nodes b).Dims)::RR kT3 J O ((ix g1.Nodes b).Ints)::RR kT3 L T ((ix g1.Nodes b).Data)::W1) ?_ ?_
 refine aU ?_
 refine lM _ (fun w s=>(((((s.d 2 R).d 4 R).d 6 R).d 8 R).f 11 [3,1,2,1,1,1,0,1,4,7])) ?_
 refine lC 4 yB R (Z16_ok bz) R ?_
 rintro _
 refine aU ?_
 rcases bo (!bm) with a8 | a8
 refine dO ?_
 exact qj (tE 7 [6,0,2,3,4,5])
 refine aP ?_
 refine lM _ (fun w s=>(s.d 2 R)) ?_
 refine bX 1 R (cA a8) pV R (Z0k_ok (bN c0 (cT a8))) R ?_
 rintro _
 refine aP ?_
 exact qj (tE 7 [6,0,2,3,4,5])
 rintro σ1
 refine bT ?_
 split at j
 refine iE ?_
 cases j
 obtain rfl:=aw _ R
 have j:=ax
 refine aP ?_
 cases j
 exact jI (u,i.length,D) (tE 10 [0])
 refine b' ?_
 refine bL (K:=dK) (xs:=([]:List Tensor)) (vs:=[]) 0 R R fX bS dS R R R R R R ?_ R (fun c7 c9=>?_)
 exact fun I h s=>(uf).list [] I h s
 refine bH ?_
 refine bC (A:=((List Tensor))×(HH)) (fun a=>Za_J3 g1 g l i q b a.1=some bl) (fun a=>[(1,(sc A5 g D5)),(2,(.bool l)),(3,(pt b7 0)),(8,(sc u i D)),(9,(iv q)),(10,(iv b)),(11,(pt Y 0)),(12,(s3 a.2))]) (fun a=>OO (dK).share 38 u D i::aJ Y [(iv (ix g1.Nodes b).Op),(sc E ((ix g1.Nodes b).Args) F),(sc G ((ix g1.Nodes b).Dims) M),(sc J ((ix g1.Nodes b).Ints) O),(aD (ix g1.Nodes b).Form),(sc L ((ix g1.Nodes b).Data) T)] 171::RR kT3 E F ((ix g1.Nodes b).Args)::RR kT3 G M ((ix g1.Nodes b).Dims)::RR kT3 J O ((ix g1.Nodes b).Ints)::RR kT3 L T ((ix g1.Nodes b).Data)::ow (dK).share 38 (s3 a.2) a.1::W1) ?_ ?_
 refine bV ?_
 obtain ⟨e2,cs,cq⟩:=bd j
 refine bF (A:=HH) cs (fun s a=>[(1,(sc A5 g D5)),(2,(.bool l)),(3,(pt b7 0)),(8,(sc u i D)),(9,(iv q)),(10,(iv b)),(11,(pt Y 0)),(12,(s3 a)),(13,(iv s.2))]) (fun s a=>OO (dK).share 38 u D i::aJ Y [(iv (ix g1.Nodes b).Op),(sc E ((ix g1.Nodes b).Args) F),(sc G ((ix g1.Nodes b).Dims) M),(sc J ((ix g1.Nodes b).Ints) O),(aD (ix g1.Nodes b).Form),(sc L ((ix g1.Nodes b).Data) T)] 171::RR kT3 E F ((ix g1.Nodes b).Args)::RR kT3 G M ((ix g1.Nodes b).Dims)::RR kT3 J O ((ix g1.Nodes b).Ints)::RR kT3 L T ((ix g1.Nodes b).Data)::ow (dK).share 38 (s3 a) s.1::W1) (c7,([]:List Tensor).length,c9) (aS R) (fun w s=>((s.wk 0 R).f 7 [1,6,0,1])) ?_
 rintro ⟨a6,a0⟩ ⟨c8,cc,ca⟩ σ1 db j cp
 dsimp only [Za_L2] at j
 refine bI 6 dC (fun (hn:cc=a6.length)=>?_)
 subst hn
 refine cU ?_
 split at j
 refine b' ?_
 obtain ⟨bs,j⟩:=gd j
 obtain ⟨aa,j⟩:=gd j
 obtain ⟨bu,j⟩:=gd j
 refine bV ?_
 refine bA 2 aA (show 0<((ix g1.Nodes b).Args).length by have:=bs; omega) (fun d9 o141 ha=>?_)
 subst ha
 refine aU ?_
 refine bA 0 dC (show 0<i.length by have:=aa; omega) (fun da o144 ha=>?_)
 subst ha
 refine bT ?_
 refine y9 (K:=(dK).share) 0 (ix ((ix g1.Nodes b).Args) a0) R R fG bS dT38.own R R aa.1 aa.2 ?_
 rintro ⟨⟨ay,b9⟩,⟨az,ba⟩⟩
 refine lM _ (fun w s=>(((s.d 0 R).d 2 R).f 11 [1,1,0,1,2,9])) ?_
 refine bL (K:=(dK).share) (xs:=([(ix i (ix ((ix g1.Nodes b).Args) a0))]:List Tensor)) (vs:=[(.agg [(sc ay ((ix i (ix ((ix g1.Nodes b).Args) a0)).Dims) b9),(sc az ((ix i (ix ((ix g1.Nodes b).Args) a0)).Data) ba)].toArray)]) 2 R R fX bS dS R R R R R R ?_ R (fun ct cx=>?_)
 exact fun I h s=>(yo).list [(((sc ay ((ix i (ix ((ix g1.Nodes b).Args) a0)).Dims) b9),(sc az ((ix i (ix ((ix g1.Nodes b).Args) a0)).Data) ba)),(ix i (ix ((ix g1.Nodes b).Args) a0)))] I h s
 refine lM _ (fun w s=>(s.f 10 [9,1,0,9])) ?_
 refine eC (K:=(dK).share) 2932031007402 R R fX bS yC (Zr.zk (Zr.share yp) dS) R R R R R R dM bu (fun b0 bb=>(lN (OO (dK).share 38 b0 bb (a6++([(ix i (ix ((ix g1.Nodes b).Args) a0))]:List Tensor))::_::_::_::_::_::_::_::_::W1) ?_))
 refine cY ?_
 cases j
 exact qA (b0,(a6++([(ix i (ix ((ix g1.Nodes b).Args) a0))]:List Tensor)).length,bb) (fun w s=>(s.f 9 [3,6,0,1]))
 refine aP ?_
 cases j
 obtain rfl:=cp _ R
 have j:=cq
 refine aU ?_
 exact qI (a6,(c8,a6.length,ca)) j tI
 rintro ⟨a7,⟨ac,cf,ae⟩⟩ σ1 j
 dsimp only [Za_J3] at j
 refine bI 6 dC (fun (hn:cf=a7.length)=>?_)
 subst hn
 refine aU ?_
 refine lO (vz (.agg [(.slice none 0 0),(.slice none 0 0)].toArray) (aV gS dS R R)) (bD R R dS (fun a1=>(aK 0 R R bS R R R R R R (lN (_::OO (dK).share 38 u D i::aJ Y [(iv (ix g1.Nodes b).Op),(sc E ((ix g1.Nodes b).Args) F),(sc G ((ix g1.Nodes b).Dims) M),(sc J ((ix g1.Nodes b).Ints) O),(aD (ix g1.Nodes b).Form),(sc L ((ix g1.Nodes b).Data) T)] 171::RR kT3 E F ((ix g1.Nodes b).Args)::_::_::_::OO (dK).share 38 ac ae a7::W1) ?_))))
 refine aP ?_
 refine bC (A:=(Int×(List Int)×(List Int))×(HH×HH)) (fun a=>Za_J4 i b a.1.1 a.1.2.1 a.1.2.2=some bl) (fun a=>[(1,(sc A5 g D5)),(2,(.bool l)),(3,(pt b7 0)),(8,(sc u i D)),(9,(iv a.1.1)),(10,(iv b)),(14,(pt a1 0))]) (fun a=>OO (dK).share 38 u D i::aJ a1 [(s3 a.2.1),(s3 a.2.2)] 38::ow kT3 3 (s3 a.2.1) a.1.2.1::ow kT3 3 (s3 a.2.2) a.1.2.2::W1) ?_ ?_
 refine cY ?_
 split at j
 refine bT ?_
 obtain ⟨a4,c1,j⟩:=bd j
 refine aP ?_
 refine lM _ (fun w s=>(((((s.d 3 R).d 5 R).d 7 R).d 9 R).e 12 [11,3,2,1,0,4,5,6,7,8,9,10])) ?_
 refine lC 5 yV R (FnOk.lends (A':=[OO (dK).share 38 ac ae a7]) (A:=[RR dK ac ae a7]) (B:=[RR kT3 E F ((ix g1.Nodes b).Args),RR kT3 G M ((ix g1.Nodes b).Dims),RR kT3 J O ((ix g1.Nodes b).Ints),RR kT3 L T ((ix g1.Nodes b).Data)]) (FnOk.perm (Z2_ok c1) (Pre':=[RR dK ac ae a7,RR kT3 E F ((ix g1.Nodes b).Args),RR kT3 G M ((ix g1.Nodes b).Dims),RR kT3 J O ((ix g1.Nodes b).Ints),RR kT3 L T ((ix g1.Nodes b).Data)]) (fun _ _ _ s=>(s.f 5 [1,4,0,1]))) ⟨ns,trivial⟩ (fun _=>⟨(bK j9),(bK j9),trivial⟩)) R ?_
 rintro ⟨⟨b1,d2,bc⟩,⟨b2,d3,be⟩⟩
 refine aL 1 aB ?_
 rintro rfl
 refine aL 2 aB ?_
 rintro rfl
 refine aK 3 R R bS R R R R R R (lN (_::_::_::aJ a1 [(sc b1 a4.Dims bc),(sc b2 a4.Data be)] 38::_::_::_::_::_::_::W1) ?_)
 refine aU ?_
 exact qI ((q,a4.Dims,a4.Data),((b1,a4.Dims.length,bc),(b2,a4.Data.length,be))) j (tE 10 [4,3,1,2])
 refine dO ?_
 split at j
 refine bT ?_
 obtain ⟨a5,c2,j⟩:=bd j
 refine aP ?_
 refine lM _ (fun w s=>(s.d 4 R)) ?_
 refine lC 1 yW R (Z0p_ok c2) R ?_
 rintro ⟨⟨b3,d4,bf⟩,⟨b4,d5,bg⟩⟩
 refine aL 0 aB ?_
 rintro rfl
 refine aL 1 aB ?_
 rintro rfl
 refine aK 2 R R bS R R R R R R (lN (_::_::aJ a1 [(sc b3 a5.Dims bf),(sc b4 a5.Data bg)] 38::_::_::_::_::_::_::_::W1) ?_)
 refine aU ?_
 exact qI ((q,a5.Dims,a5.Data),((b3,a5.Dims.length,bf),(b4,a5.Data.length,bg))) j (tE 10 [3,2,0,1])
 refine aP ?_
 obtain ⟨U,j⟩:=gd j
 obtain ⟨bn,av,j⟩:=bd j
 obtain ⟨bv,j⟩:=gd j
 obtain ⟨cm,c3,j⟩:=bd j
 refine cQ [(1,(sc A5 g D5)),(2,(.bool l)),(3,(pt b7 0)),(8,(sc u i D)),(9,(iv q)),(10,(iv b)),(11,(pt Y 0)),(14,(pt a1 0)),(92,(.bool (((decide (q≥(g.length:Int)))||(!bn))||(!cm))))] (OO (dK).share 38 u D i::aJ Y [(iv (ix g1.Nodes b).Op),(sc E ((ix g1.Nodes b).Args) F),(sc G ((ix g1.Nodes b).Dims) M),(sc J ((ix g1.Nodes b).Ints) O),(aD (ix g1.Nodes b).Form),(sc L ((ix g1.Nodes b).Data) T)] 171::RR kT3 E F ((ix g1.Nodes b).Args)::RR kT3 G M ((ix g1.Nodes b).Dims)::RR kT3 J O ((ix g1.Nodes b).Ints)::RR kT3 L T ((ix g1.Nodes b).Data)::aJ a1 [(.slice none 0 0),(.slice none 0 0)] 38::W1) ?_ ?_
 rcases bo (decide (q≥(g.length:Int))) with m | m
 refine dF 23 [] bO fun ht hn=>?_
 refine AP 0 [] ?_
 refine dD ?_
 exact qj (fun w s=>(s.f 8 [1,6,0,1]))
 rcases bo ((decide (q≥(g.length:Int)))||(!bn)) with Z | Z
 refine aZ 11 aA (show 0<g.length by have:=(U m); omega) (fun bk o168 ha=>?_)
 subst ha
 refine dI (K:=dK) 11 q dT38.dec R (U m).1 (U m).2 ?_
 rintro ⟨⟨aj,ao⟩,⟨ak,ap⟩⟩
 refine dF 23 [] bO fun ht hn=>?_
 refine rq 0 [] ?_
 refine dW 7 R (cA m) (eJ fX bS R R (U m)) (dW 8 R (cA m) (vz (.agg [(sc aj ((ix g q).Dims) ao),(sc ak ((ix g q).Data) ap)].toArray) (eF (fo:=0) 0 fG bS R R R R)) (d1 9 R (lM _ (fun w s=>(((s.d 1 R).d 3 R).f 13 [1,1,0,1,2,11])) ?_)))
 refine bX 2 R (cA m) ny R (Zs_ok (bN av (cT m))) R ?_
 rintro _
 refine aC (aG (sL []) ?_)
 refine mu 10 [] ?_
 refine dD ?_
 exact qj (fun w s=>(s.f 11 [4,6,3,1]))
 refine aZ 11 aA (show 0<g.length by have:=(U m); omega) (fun bk o168 ha=>?_)
 subst ha
 refine dI (K:=dK) 11 q dT38.dec R (U m).1 (U m).2 ?_
 rintro ⟨⟨aj,ao⟩,⟨ak,ap⟩⟩
 refine dF 23 [] bO fun ht hn=>?_
 refine rq 0 [] ?_
 refine dW 7 R (cA m) (eJ fX bS R R (U m)) (dW 8 R (cA m) (vz (.agg [(sc aj ((ix g q).Dims) ao),(sc ak ((ix g q).Data) ap)].toArray) (eF (fo:=0) 0 fG bS R R R R)) (d1 9 R (lM _ (fun w s=>(((s.d 1 R).d 3 R).f 13 [1,1,0,1,2,11])) ?_)))
 refine bX 2 R (cA m) ny R (Zs_ok (bN av (cT m))) R ?_
 rintro _
 refine aC (aG (sL []) ?_)
 refine kq 10 [] ?_
 refine dW 15 R (cA Z) (eJ fX bS R R (bv Z)) (dW 16 R (cA Z) (vz (.pointer (some ⟨bk,o168+q.toNat*2,none⟩)) (kp iM R R)) (dW 17 R (cA Z) (eD (fo:=0) 0 cK R R R) ?_))
 refine gW 18 [] ?_
 refine d1 20 R (lM _ (fun w s=>(((s.d 1 R).d 8 R).f 13 [1,1,0,1,2,11])) ?_)
 refine bX 2 R (cA Z) se R (Z01_ok (bN c3 (cT Z))) R ?_
 rintro _
 refine aC (aG (sL []) ?_)
 refine gW 21 [] ?_
 refine dD ?_
 exact qj (fun w s=>(s.f 11 [4,6,3,1]))
 rintro σ1
 refine bT ?_
 split at j
 refine oX ?_
 cases j
 obtain rfl:=aw _ R
 have j:=ax
 refine aP ?_
 cases j
 exact jI (u,i.length,D) (tE 11 [0])
 refine bH ?_
 obtain ⟨ag,c4,j⟩:=bd j
 obtain ⟨ab,j⟩:=gd j
 obtain ⟨ah,c5,j⟩:=bd j
 refine aZ 10 aA (show 0<g.length by have:=ab; omega) (fun cj o184 ha=>?_)
 subst ha
 refine dI (K:=dK) 10 q dT38.dec R ab.1 ab.2 ?_
 rintro ⟨⟨cu,cy⟩,⟨cv,cz⟩⟩
 refine dF 11 [9] bO fun ht hn=>?_
 refine gW 0 [9] ?_
 refine iw 3 [9] ?_
 refine dR 6 R (vz (.pointer (some ⟨cj,o184+q.toNat*2+1,none⟩)) (kp sd R R)) (hS:=(sL [9])) (dR 7 R (eD (fo:=1) 0 cK R R R) (hS:=(sL [9])) (d1 2 R (lM _ (fun w s=>(s.d 6 R)) ?_)))
 refine lC 1 hR R (Zu_ok c4) R ?_
 rintro ⟨al,d6,aq⟩
 refine aL 0 aB ?_
 rintro rfl
 refine aC (aG (sL [10,0]) (d1 8 R (lM _ (fun w s=>(s.d 3 R)) ?_)))
 refine lC 1 hR R (Zu_ok c5) R ?_
 rintro ⟨am,d7,ar⟩
 refine aL 0 aB ?_
 rintro rfl
 refine aC (aG (sL [11,1,0]) (dR 9 R (vz (.agg [(sc al ag aq),(sc am ah ar)].toArray) (aV gS dS R R)) (hS:=(sL [11,1,0])) (d1 10 R (aK 11 R R bS R R R R R R (lN (_::_::_::_::_::_::_::_::_::_::_::aJ a1 [(sc al ag aq),(sc am ah ar)] 38::W1) ?_)))))
 refine aC (aG (sL [11,1,0]) (dD ?_))
 refine dO ?_
 exact qI (((aH (q+1)),ag,ah),((al,ag.length,aq),(am,ah.length,ar))) j (tE 12 [5,11,1,0])
 rintro ⟨⟨dc,a2,a3⟩,⟨⟨b5,cg,bh⟩,⟨b6,ch,bi⟩⟩⟩ σ1 j
 dsimp only [Za_J4] at j
 refine bI 2 aB (fun (hn:cg=a2.length)=>?_)
 subst hn
 refine bI 3 aB (fun (hn:ch=a3.length)=>?_)
 subst hn
 refine cY ?_
 split at j
 refine iE ?_
 cases j
 obtain rfl:=aw _ R
 have j:=ax
 refine aP ?_
 cases j
 exact jI (u,i.length,D) (tE 8 [0])
 refine aP ?_
 obtain ⟨bw,j⟩:=gd j
 refine aP ?_
 refine lM _ (fun w s=>(((((s.shr 2 R).d 0 R).shr 4 R).d 0 R).e 6 [2,0,1,3,4,5])) ?_
 refine bL (K:=(dK).share) (xs:=([(⟨a2,a3⟩:Tensor)]:List Tensor)) (vs:=[(.agg [(sc b5 a2 bh),(sc b6 a3 bi)].toArray)]) 2 R R fX bS dS R R R R R R ?_ R (fun cw d0=>?_)
 exact fun I h s=>(yo).list [(((sc b5 a2 bh),(sc b6 a3 bi)),(⟨a2,a3⟩:Tensor))] I h s
 refine lM _ (tE 5 [3,0,1,2,4]) ?_
 refine eC (K:=(dK).share) 2932031007402 R R fX bS yC (Zr.zk (Zr.share yp) dS) R R R R R R dM bw (fun b8 bj=>(lN (OO (dK).share 38 b8 bj (i++([(⟨a2,a3⟩:Tensor)]:List Tensor))::_::_::_::W1) ?_))
 refine cY ?_
 cases j
 exact qA (b8,(i++([(⟨a2,a3⟩:Tensor)]:List Tensor)).length,bj) (tE 4 [0])
 refine aP ?_
 cases j
 obtain rfl:=aw _ R
 have j:=ax
 refine aU ?_
 exact qI ((i,q),(u,i.length,D)) j tI
 rintro ⟨⟨ai,cn⟩,⟨an,ci,au⟩⟩ σ1 j
 dsimp only [Za_J5] at j
 refine bI 0 dC (fun (hn:ci=ai.length)=>?_)
 subst hn
 refine bT ?_
 obtain ⟨bp,c6,j⟩:=bd j
 refine cQ [(6,(sc an ai au)),(7,(.bool (bp&&(l||(cn==(g.length:Int))))))] (OO (dK).share 38 an au ai::W1) ?_ ?_
 refine dO ?_
 refine lM _ (fun w s=>(s.d 3 R)) ?_
 refine lC 1 pV R (Z0k_ok c6) R ?_
 rintro _
 refine bT ?_
 rcases bo bp with bq | bq
 refine aU ?_
 rcases bo l with br | br
 refine cY ?_
 exact qj tI
 refine cY ?_
 exact qj tI
 refine iD ?_
 exact qj tI
 rintro σ1
 refine aU ?_
 cases j
 exact jI (an,ai.length,au) (tE 5 [0])
theorem Z0g_ok  {g1:Graph}{r:(List (List Int))}(g:Z0g g1=some r) :
 FnOk Tryz.prog 136 [(.agg [(.slice A2 N2 D2),(.slice A3 N3 D3)].toArray)] [aO cB (.slice A2 N2 D2) g1.Nodes,aO kT3 (.slice A3 N3 D3) g1.Outs] (fun (h:HH)=>((.slice h.1 h.2.1 h.2.2),[ow (bG).share 36 (.slice h.1 h.2.1 h.2.2) r])):=by
 unfold Z0g at g
 refine aR Tryz.func136 R 32 R R fun C V=>?_
 refine cN (_::_::V) ?_
 refine cL 0 aA ?_
 rintro rfl
 refine cL 1 aA ?_
 rintro rfl
 let W0:List HP:=RR cB A2 D2 g1.Nodes::RR kT3 A3 D3 g1.Outs::V
 refine cN W0 ?_
 refine aM (aE (eE R (fun b4=>(lS R (aC ?_)))))
 let q:List HP:=aJ b4 [(sc A2 g1.Nodes D2),(sc A3 g1.Outs D3)] 67::W0
 refine qN q ?_
 refine aI (aM (aE (bL (K:=bG) (xs:=([]:List (List Int))) (vs:=[]) 0 R R iT eR jK R R R R R R ?_ R (fun A5 D5=>?_))))
 exact fun I h s=>(lL).list [] I h s
 refine lN (OO bG 36 A5 D5 ([]:List (List Int))::q) ?_
 refine lS R (aC (aI (aM ?_)))
 obtain ⟨i,a8,g⟩:=bd g
 refine aE (lO (vz (.agg [(sc A2 g1.Nodes D2),(sc A3 g1.Outs D3)].toArray) (dP 1 qK og R R R R)) (bL (K:=dK) (xs:=([]:List Tensor)) (vs:=[]) 0 R R fX bS dS R R R R R R ?_ R (fun A6 D6=>?_)))
 exact fun I h s=>(uf).list [] I h s
 refine lN (OO dK 38 A6 D6 ([]:List Tensor)::_::q) ?_
 refine hW (fun w s=>s.shr 0 R) (lM (RR cB A2 D2 g1.Nodes::RR kT3 A3 D3 g1.Outs::RR dK A6 D6 ([]:List Tensor)::RR dK A6 D6 ([]:List Tensor)::ow _ _ _ _::q) (fun w s=>((((s.d 3 R).d 5 R).d 2 R).e 5 [2,1,0,3,4])) ?_)
 refine lC 3 vC R (Za_ok a8) R ?_
 rintro ⟨A9,N9,D9⟩
 refine lN (ow (dK).share 38 (.slice A9 N9 D9) i.1::_::_::q) ?_
 refine aL 0 dC ?_
 rintro rfl
 refine lO (vT R) (lS R (lB R (lS R (lB R (aC (aI (aM (bC (A:=((List (List Int)))×(HH)) (fun a=>Z0g_J1 a.1=some r) (fun a=>[(3,(.slice a.2.1 a.2.2.1 a.2.2.2))]) (fun a=>ow (bG).share 36 (.slice a.2.1 a.2.2.1 a.2.2.2) a.1::q) ?_ ?_))))))))
 refine aM (aE (lI R (aC (aI (dB ?_)))))
 obtain ⟨e1,a7,a6⟩:=bd g
 refine bF (A:=HH) a7 (fun s a=>[(3,(.slice a.1 a.2.1 a.2.2)),(4,(sc A9 i.1 D9)),(5,(.bool i.2)),(6,(iv s.2))]) (fun s a=>ow (bG).share 36 (.slice a.1 a.2.1 a.2.2) s.1::OO (dK).share 38 A9 D9 i.1::q) (A5,([]:List (List Int)).length,D5) (aS R) (fun w s=>((s.wk 2 R).e 3 [0,1])) ?_
 rintro ⟨j,b⟩ ⟨B,a3,D⟩ σ1 T g a5
 replace g:Z0g_L1 i j b=some T:=g
 unfold Z0g_L1 at g
 refine bI 0 dC (fun (hn:a3=j.length)=>?_)
 subst hn
 refine aM (aM (cQ [(3,(sc B j D)),(4,(sc A9 i.1 D9)),(5,(.bool i.2)),(6,(iv b)),(20,(.bool ((decide (b<(i.1.length:Int)))&&i.2)))] (OO (bG).share 36 B D j::OO (dK).share 38 A9 D9 i.1::q) ?_ ?_))
 refine aE (lI R (lS R (lO (jC fX R) (lO (mT R R) (lB R ?_)))))
 rcases bo (decide (b<(i.1.length:Int))) with l | l
 refine lW (eG l) (vB R) (lO (j4 R l R) (aC ?_))
 exact qJ (fun w s=>s)
 refine lf (nu l) (lO (kk i.2 R l) (aC ?_))
 exact qJ (fun w s=>s)
 rintro σ1
 refine aI ?_
 rcases cF g with ⟨u,g⟩|⟨u,g⟩
 refine bZ R u (cW (aI (aM (dB ?_))))
 obtain ⟨m,g⟩:=gd g
 obtain ⟨O,g⟩:=gd g
 refine aE (lS R (lS R (lI R (bA 1 dC (show 0<i.1.length by have:=m; omega) (fun M o27 ha=>?_)))))
 subst ha
 refine lO (eJ fX bS R R m) (lO (vz (.pointer (some ⟨M,o27+b.toNat*2,none⟩)) (kp iM R R)) (nr (K:=(dK).share) (fo:=0) 1 b R R cK dT38.own (fun _ _=>R) R R m.1 m.2 ?_))
 rintro ⟨⟨E,F⟩,⟨U,a0⟩⟩
 refine lN (RR kT3 E F ((ix i.1 b).Dims)::RR kT3 U a0 ((ix i.1 b).Data)::OO (bG).share 36 B D j::OO (dK).share 38 (ad M o27) D9 i.1::q) ?_
 refine lM (_::_::_::_::_::q) (fun w s=>(s.d 0 R)) ?_
 refine bL (K:=(bG).share) (xs:=([(ix i.1 b).Dims]:List (List Int))) (vs:=[(sc E ((ix i.1 b).Dims) F)]) 1 R R iT eR jK R R R R R R ?_ R (fun Y a1=>?_)
 exact fun I h s=>(oc).list [((sc E ((ix i.1 b).Dims) F),(ix i.1 b).Dims)] I h s
 refine lN (OO (bG).share 36 Y a1 ([(ix i.1 b).Dims]:List (List Int))::_::_::_::_::q) ?_
 refine lM (ow _ _ _ _::ow _ _ _ _::aO _ _ _::aO _ _ _::ow _ _ _ _::q) (fun w s=>(s.e 5 [3,0,1,2,4])) ?_
 refine eC (K:=(bG).share) 5864062014805 R R iT eR p7 (Zr.zk (Zr.share zT36) jK) R R R R R R dM O (fun J L=>(lN (OO (bG).share 36 J L (j++([(ix i.1 b).Dims]:List (List Int)))::_::_::_::q) ?_))
 refine lS R (aC (dT (aI (aE (lI R (lO (l6 R R) (lI R (aC ?_))))))))
 obtain rfl:=so g
 exact qA (J,(j++([(ix i.1 b).Dims]:List (List Int))).length,L) (fun w s=>(s.e 4 [0,3]))
 refine bJ R u (gV (dZ ?_))
 obtain rfl:=so g
 obtain rfl:=a5 _ R
 have g:=a6
 refine dZ (fL ?_)
 exact qI (j,(B,j.length,D)) g (fun w s=>(s.e 2 [0]))
 rintro ⟨G,⟨Z,a4,a2⟩⟩ σ1 g
 replace g:Z0g_J1 G=some r:=g
 unfold Z0g_J1 at g
 refine bI 0 dC (fun (hn:a4=G.length)=>?_)
 subst hn
 refine aM (aE (lS R (lS R (aC (aI (bW ?_))))))
 obtain rfl:=so g
 exact qF (Z,G.length,a2) (fun w s=>(s.e 4 [0]))
theorem Z2t_ok  {g1:Graph}{r:Bool}(a:Z2t g1=some r) :
 FnOk Tryz.prog 183 [(.agg [(.slice A2 N2 D2),(.slice A3 N3 D3)].toArray)] [aO cB (.slice A2 N2 D2) g1.Nodes,aO kT3 (.slice A3 N3 D3) g1.Outs] (fun (h:Unit)=>((.bool r),[])):=by
 unfold Z2t at a
 refine aR Tryz.func183 R 12 R R fun C V=>?_
 refine cL 0 aA ?_
 rintro rfl
 refine cL 1 aA ?_
 rintro rfl
 let g:=RR cB A2 D2 g1.Nodes::RR kT3 A3 D3 g1.Outs::V
 refine cN g ?_
 refine aU ?_
 refine eE R fun j=>?_
 refine aU ?_
 let i:=aJ j [(sc A2 g1.Nodes D2),(sc A3 g1.Outs D3)] 67::g
 refine qN i ?_
 refine aU ?_
 obtain ⟨l,b,a⟩:=bd a
 refine aU ?_
 refine bL (K:=dK) (xs:=([]:List Tensor)) (vs:=[]) 0 R R fX bS dS R R R R R R ?_ R (fun A5 D5=>?_)
 exact fun I h s=>(uf).list [] I h s
 refine hW (fun w s=>s.shr 0 R) (lM _ (fun w s=>((((s.d 2 R).d 4 R).d 2 R).e 4 [2,1,0,3])) ?_)
 refine lC 3 vC R (Za_ok b) R ?_
 rintro ⟨A8,N8,D8⟩
 refine aL 0 dC ?_
 rintro rfl
 refine lO (vT R) ?_
 refine lK ?_
 cases a
 exact qF () (tE 5 [])
theorem Zv_S_ok {rf:Graph→Int→(List Bool)→Option ((List Bool))}(ah:∀ {g1:Graph} {g:Int} {b:(List Bool)} {A2 A3 A6:Option Addr} {N2 D2 N3 D3 N6 D6:Nat} {r:(List Bool)},rf g1 g b=some r→FnOk Tryz.prog 213 [(.agg [(.slice A2 N2 D2),(.slice A3 N3 D3)].toArray),(iv g),(.slice A6 N6 D6)] [aO cB (.slice A2 N2 D2) g1.Nodes,aO kT3 (.slice A3 N3 D3) g1.Outs,ow iy 4 (.slice A6 N6 D6) b] (fun (h:HH)=>((.slice h.1 h.2.1 h.2.2),[ow iy 4 (.slice h.1 h.2.1 h.2.2) r]))){g1:Graph}{g:Int}{b:(List Bool)}{r:(List Bool)}(i:Zv_S rf g1 g b=some r) :
 FnOk Tryz.prog 213 [(.agg [(.slice A2 N2 D2),(.slice A3 N3 D3)].toArray),(iv g),(.slice A6 N6 D6)] [aO cB (.slice A2 N2 D2) g1.Nodes,aO kT3 (.slice A3 N3 D3) g1.Outs,ow iy 4 (.slice A6 N6 D6) b] (fun (h:HH)=>((.slice h.1 h.2.1 h.2.2),[ow iy 4 (.slice h.1 h.2.1 h.2.2) r])):=by
 unfold Zv_S at i
 refine aR Tryz.func213 R 40 R R fun C V=>?_
 refine cM (ow _ _ _ _::aO _ _ _::aO _ _ _::V) (fun w s=>(s.e 3 [2,0,1])) ?_
 refine cL 0 aB ?_
 rintro rfl
 refine cL 1 aA ?_
 rintro rfl
 refine cL 2 aA ?_
 rintro rfl
 let W0:List HP:=RR cB A2 D2 g1.Nodes::RR kT3 A3 D3 g1.Outs::V
 refine cN (_::W0) ?_
 refine aM (aE (eE R (fun b7=>(lS R (aC (qM (ow _ _ _ _::aJ _ _ _::W0) (fun w s=>(s.e 2 [1,0])) ?_))))))
 let G:List HP:=aJ b7 [(sc A2 g1.Nodes D2),(sc A3 g1.Outs D3)] 67::W0
 refine qN (_::G) ?_
 refine aI (aM (aM ?_))
 obtain ⟨q,i⟩:=gd i
 refine aE (lS R (lI R (bA 0 aB (show 0<b.length by have:=q; omega) (fun g9 o10 ha=>?_))))
 subst ha
 refine lO (eJ lE sk R R q) (lO (vz (.bool (ix b g)) (hY (K:=iy) (fo:=0) (pr:=fun x=>(.bool x)) 0 g xS (dT4.leaf fun _ _=>R) aB R q.1 q.2)) (aC (aI ?_)))
 rcases cF i with ⟨B,i⟩|⟨B,i⟩
 refine bZ R B (aM (aE (lS R (lS R (aC (aI (bW (cD ?_))))))))
 obtain rfl:=so i
 exact qF ((ad g9 o10),b.length,D6) (fun w s=>(s.e 4 [0]))
 refine bJ R B (cW (aI (aM (aE (lS R (lI R (lO (eJ lE sk R R q) (lN (OO iy 4 (ad g9 o10) D6 b::G) ?_))))))))
 refine dX (K:=iy) (x':=true) 0 g R R sk R R q.1 q.2 ?_ ?_
 exact fun I h s=>(Aw).put I h () true s
 refine lN (ow iy 4 (.slice (ad g9 o10) b.length D6) (b.set g.toNat true)::G) ?_
 refine aC (aI (aM (bC (A:=((List Bool))×(HH)) (fun a=>Zv_J2 a.1=some r) (fun a=>[(2,(.slice a.2.1 a.2.2.1 a.2.2.2))]) (fun a=>ow iy 4 (.slice a.2.1 a.2.2.1 a.2.2.2) a.1::G) ?_ ?_)))
 refine aM (aE (lI R (aC (aI (dB ?_)))))
 obtain ⟨e1,ag,ae⟩:=bd i
 refine bF (A:=HH) ag (fun s a=>[(1,(iv g)),(2,(.slice a.1 a.2.1 a.2.2)),(3,(pt b7 0)),(7,(iv s.2))]) (fun s a=>ow iy 4 (.slice a.1 a.2.1 a.2.2) s.1::G) ((ad g9 o10),b.length,D6) (aS R) (fun w s=>s) ?_
 rintro ⟨j,ai⟩ ⟨Y,a9,a1⟩ σ1 a5 i ac
 replace i:Zv_L1 g1 g rf j ai=some a5:=i
 unfold Zv_L1 at i
 refine bI 0 aB (fun (hn:a9=j.length)=>?_)
 subst hn
 refine aM (aM ?_)
 obtain ⟨m,i⟩:=gd i
 refine aE (lI R (lO (fT 0 nx R) (lO (gD 1 un R R R) (lI R (bA 2 aA (show 0<g1.Nodes.length by have:=m; omega) (fun u o31 ha=>?_))))))
 subst ha
 refine lO (eJ s9 iz R R m) (lO (vz (.pointer (some ⟨u,o31+g.toNat*6+1,none⟩)) (kp m7 R R)) (fS (K:=cB) 2 g dT171.dec R m.1 m.2 ?_))
 rintro ⟨-,⟨Z,F⟩,⟨J,O⟩,⟨L,T⟩,-,⟨M,U⟩⟩
 refine lN (cl u (o31+g.toNat*6) [(iv (ix g1.Nodes g).Op),(sc Z ((ix g1.Nodes g).Args) F),(sc J ((ix g1.Nodes g).Dims) O),(sc L ((ix g1.Nodes g).Ints) T),(aD (ix g1.Nodes g).Form),(sc M ((ix g1.Nodes g).Data) U)]::RR kT3 Z F ((ix g1.Nodes g).Args)::RR kT3 J O ((ix g1.Nodes g).Dims)::RR kT3 L T ((ix g1.Nodes g).Ints)::RR kT3 M U ((ix g1.Nodes g).Data)::OO iy 4 Y a1 j::G) ?_
 refine lO (eD (fo:=1) 0 cK R R R) (lO (jC bM R) (lO (mT R R) (aC (aI ?_))))
 rcases cF i with ⟨D,i⟩|⟨D,i⟩
 refine bZ R D (cW (aI (aM (dB ?_))))
 obtain ⟨E,i⟩:=gd i
 obtain ⟨a6,a4,i⟩:=bd i
 refine aZ 1 aA (show 0<((ix g1.Nodes g).Args).length by have:=E; omega) (fun a3 o39 ha=>?_)
 subst ha
 refine dF 13 [5] bO (fun ht hn=>(dR 0 R (vz (.agg [(sc (ad u o31) g1.Nodes D2),(sc A3 g1.Outs D3)].toArray) (dP 5 qK og R R R R)) (hS:=(sL [5])) (dR 1 R (fT 0 nx R) (hS:=(sL [5])) (dR 2 R (gD 5 un R R R) (hS:=(sL [5])) (dR 3 R (vI R) (hS:=(sL [5])) (dR 4 R (eJ s9 iz R R m) (hS:=(sL [5])) (dR 5 R (vz (.pointer (some ⟨u,o31+g.toNat*6+1,none⟩)) (kp m7 R R)) (hS:=(sL [5])) (dR 6 R (eD (fo:=1) 0 cK R R R) (hS:=(sL [5])) (dR 7 R (vI R) (hS:=(sL [5])) (dR 8 R (eJ bM cE R R E) (hS:=(sL [5])) (dR 9 R (gU 1 fO aA R E) (hS:=(sL [5])) (dR 10 R (vS R) (hS:=(sL [5])) (d1 11 R (lM (RR cB (ad u o31) D2 g1.Nodes::RR kT3 A3 D3 g1.Outs::ow _ _ _ _::cl u (o31+g.toNat*6) [(iv (ix g1.Nodes g).Op),(sc (ad a3 o39) ((ix g1.Nodes g).Args) F),(sc J ((ix g1.Nodes g).Dims) O),(sc L ((ix g1.Nodes g).Ints) T),(aD (ix g1.Nodes g).Form),(sc M ((ix g1.Nodes g).Data) U)]::RR kT3 (ad a3 o39) F ((ix g1.Nodes g).Args)::aO _ _ _::aO _ _ _::aO _ _ _::G) (fun w s=>(((s.d 7 R).d 9 R).e 8 [1,0,7,2,3,4,5,6])) ?_))))))))))))))
 refine lC 3 vD R (ah a4) R ?_
 rintro ⟨a0,aa,a2⟩
 refine lN (ow iy 4 (.slice a0 aa a2) a6::_::_::_::_::_::G) ?_
 refine aL 0 aB ?_
 rintro rfl
 refine aC (aG (sL [0]) (dR 12 R (vS R) (hS:=(sL [0])) (dD (dT (aI (aE (lI R (lO (l6 R R) (lI R (aC ?_))))))))))
 obtain rfl:=so i
 exact qA (a0,a6.length,a2) (fun w s=>(s.e 6 [0]))
 refine bJ R D (gV (dZ ?_))
 obtain rfl:=so i
 obtain rfl:=ac _ R
 have i:=ae
 refine dZ (fL ?_)
 exact qI (j,(Y,j.length,a1)) i (fun w s=>(s.e 6 [5]))
 rintro ⟨l,⟨a7,ab,a8⟩⟩ σ1 i
 replace i:Zv_J2 l=some r:=i
 unfold Zv_J2 at i
 refine bI 0 aB (fun (hn:ab=l.length)=>?_)
 subst hn
 refine aM (aE (lS R (lS R (aC (aI (bW ?_))))))
 obtain rfl:=so i
 exact qF (a7,l.length,a8) (fun w s=>(s.e 4 [0]))
theorem Zv_R_ok (n:Nat):∀ {g1:Graph} {b:Int} {a:(List Bool)} {A2 A3 A6:Option Addr} {N2 D2 N3 D3 N6 D6:Nat} {r:(List Bool)},Zv_R n g1 b a=some r→FnOk Tryz.prog 213 [(.agg [(.slice A2 N2 D2),(.slice A3 N3 D3)].toArray),(iv b),(.slice A6 N6 D6)] [aO cB (.slice A2 N2 D2) g1.Nodes,aO kT3 (.slice A3 N3 D3) g1.Outs,ow iy 4 (.slice A6 N6 D6) a] (fun (h:HH)=>((.slice h.1 h.2.1 h.2.2),[ow iy 4 (.slice h.1 h.2.1 h.2.2) r])):=by
 induction n with
 | zero=>intros; rename_i h; cases h
 | succ n ih=>intros; rename_i h; exact Zv_S_ok ih h
theorem Zv_ok {g1:Graph}{b:Int}{a:(List Bool)}{A2 A3 A6:Option Addr}{N2 D2 N3 D3 N6 D6:Nat}{r:(List Bool)}(e:Zv g1 b a=some r):FnOk Tryz.prog 213 [(.agg [(.slice A2 N2 D2),(.slice A3 N3 D3)].toArray),(iv b),(.slice A6 N6 D6)] [aO cB (.slice A2 N2 D2) g1.Nodes,aO kT3 (.slice A3 N3 D3) g1.Outs,ow iy 4 (.slice A6 N6 D6) a] (fun (h:HH)=>((.slice h.1 h.2.1 h.2.2),[ow iy 4 (.slice h.1 h.2.1 h.2.2) r])):=Zv_R_ok jv e
theorem Z0x_ok  {g1:Graph}{r:(List Bool)}(g:Z0x g1=some r) :
 FnOk Tryz.prog 184 [(.agg [(.slice A2 N2 D2),(.slice A3 N3 D3)].toArray)] [aO cB (.slice A2 N2 D2) g1.Nodes,aO kT3 (.slice A3 N3 D3) g1.Outs] (fun (h:HH)=>((.slice h.1 h.2.1 h.2.2),[ow iy 4 (.slice h.1 h.2.1 h.2.2) r])):=by
 unfold Z0x at g
 refine aR Tryz.func184 R 25 R R fun C V=>?_
 refine cN (_::_::V) ?_
 refine cL 0 aA ?_
 rintro rfl
 refine cL 1 aA ?_
 rintro rfl
 let W0:List HP:=RR cB A2 D2 g1.Nodes::RR kT3 A3 D3 g1.Outs::V
 refine cN W0 ?_
 refine aM (aE (eE R (fun b4=>(lS R (aC ?_)))))
 let F:List HP:=aJ b4 [(sc A2 g1.Nodes D2),(sc A3 g1.Outs D3)] 67::W0
 refine qN F ?_
 refine aI (aM ?_)
 obtain ⟨q,g⟩:=gd g
 refine aE (lO (fT 0 nx R) (lO (gD 0 un R R R) (lO (jC s9 R) (eW (K:=iy) (m:=(g1.Nodes.length:Int)) (z:=false) R R lE sk Bx (Zr.zk Bv By) (by decide) R R q.1 q.2.1 q.2.2 (fun A6 D6=>(lS R (aC (aI (aM (bC (A:=((List Bool))×(HH)) (fun a=>Z0x_J1 a.1=some r) (fun a=>[(3,(.slice a.2.1 a.2.2.1 a.2.2.2))]) (fun a=>ow iy 4 (.slice a.2.1 a.2.2.1 a.2.2.2) a.1::F) ?_ ?_))))))))))
 refine aM (aE (lI R (aC (aI (dB ?_)))))
 obtain ⟨e1,a2,a1⟩:=bd g
 refine bF (A:=HH) a2 (fun s a=>[(1,(pt b4 0)),(3,(.slice a.1 a.2.1 a.2.2)),(4,(iv s.2))]) (fun s a=>ow iy 4 (.slice a.1 a.2.1 a.2.2) s.1::F) (A6,(List.replicate (g1.Nodes.length:Int).toNat false).length,D6) (aS R) (fun w s=>s) ?_
 rintro ⟨b,a3⟩ ⟨u,U,D⟩ σ1 J g a0
 replace g:Z0x_L1 g1 b a3=some J:=g
 unfold Z0x_L1 at g
 refine bI 0 aB (fun (M:U=b.length)=>?_)
 subst M
 refine aM (aM (aE (lI R (lO (fT 1 p6 R) (lO (gD 1 cK R R R) (lO (jC bM R) (lO (mT R R) (aC (aI ?_)))))))))
 rcases cF g with ⟨j,g⟩|⟨j,g⟩
 refine bZ R j (cW (aI (aM (dB ?_))))
 obtain ⟨l,g⟩:=gd g
 obtain ⟨L,I,g⟩:=bd g
 refine aZ 3 aA (show 0<g1.Outs.length by have:=l; omega) (fun G o20 ha=>?_)
 subst ha
 refine dF 9 [0] bO (fun ht M=>(dR 0 R (vz (.agg [(sc A2 g1.Nodes D2),(sc (ad G o20) g1.Outs D3)].toArray) (dP 0 qK og R R R R)) (hS:=(sL [0])) (dR 1 R (fT 1 p6 R) (hS:=(sL [0])) (dR 2 R (gD 0 cK R R R) (hS:=(sL [0])) (dR 3 R (vI R) (hS:=(sL [0])) (dR 4 R (eJ bM cE R R l) (hS:=(sL [0])) (dR 5 R (gU 2 fO aA R l) (hS:=(sL [0])) (dR 6 R (vS R) (hS:=(sL [0])) (d1 7 R (lM (RR cB A2 D2 g1.Nodes::RR kT3 (ad G o20) D3 g1.Outs::OO iy 4 u D b::F) (fun w s=>(((s.d 2 R).d 4 R).e 3 [1,0,2])) ?_))))))))))
 refine lC 3 vD R (Zv_ok I) R ?_
 rintro ⟨B,Y,E⟩
 refine lN (ow iy 4 (.slice B Y E) L::F) ?_
 refine aL 0 aB ?_
 rintro rfl
 refine aC (aG (sL [0]) (dR 8 R (vS R) (hS:=(sL [0])) (dD (dT (aI (aE (lI R (lO (l6 R R) (lI R (aC ?_))))))))))
 obtain rfl:=so g
 exact qA (B,L.length,E) (fun w s=>s)
 refine bJ R j (gV (dZ ?_))
 obtain rfl:=so g
 obtain rfl:=a0 _ R
 have g:=a1
 refine dZ (fL ?_)
 exact qI (b,(u,b.length,D)) g (fun w s=>s)
 rintro ⟨i,⟨O,Z,T⟩⟩ σ1 g
 replace g:Z0x_J1 i=some r:=g
 unfold Z0x_J1 at g
 refine bI 0 aB (fun (M:Z=i.length)=>?_)
 subst M
 refine aM (aE (lS R (lS R (aC (aI (bW ?_))))))
 obtain rfl:=so g
 exact qF (O,i.length,T) (fun w s=>(s.e 4 [0]))
theorem Z07_ok  {g1:Graph}{r:(List Int)}(b:Z07 g1=some r) :
 FnOk Tryz.prog 137 [(.agg [(.slice A2 N2 D2),(.slice A3 N3 D3)].toArray)] [aO cB (.slice A2 N2 D2) g1.Nodes,aO kT3 (.slice A3 N3 D3) g1.Outs] (fun (h:HH)=>((.slice h.1 h.2.1 h.2.2),[ow kT3 3 (.slice h.1 h.2.1 h.2.2) r])):=by
 unfold Z07 at b
 refine aR Tryz.func137 R 28 R R fun C V=>?_
 refine cN (_::_::V) ?_
 refine cL 0 aA ?_
 rintro rfl
 refine cL 1 aA ?_
 rintro rfl
 let W0:List HP:=RR cB A2 D2 g1.Nodes::RR kT3 A3 D3 g1.Outs::V
 refine cN W0 ?_
 refine aM (aE (eE R (fun b4=>(lS R (aC ?_)))))
 let l:List HP:=aJ b4 [(sc A2 g1.Nodes D2),(sc A3 g1.Outs D3)] 67::W0
 refine qN l ?_
 refine aI (aM (aE (bL (K:=kT3) (xs:=([]:List Int)) (vs:=[]) 0 R R bM cE gR R R R R R R ?_ R (fun A5 D5=>?_))))
 exact fun I h s=>(gO).list [] I h s
 refine lN (OO kT3 3 A5 D5 ([]:List Int)::l) ?_
 refine lS R (aC (aI (aM (aM ?_))))
 obtain ⟨r6,ab,b⟩:=bd b
 refine aE (lO (vz (.agg [(sc A2 g1.Nodes D2),(sc A3 g1.Outs D3)].toArray) (dP 1 qK og R R R R)) (lM (RR cB A2 D2 g1.Nodes::RR kT3 A3 D3 g1.Outs::ow _ _ _ _::l) (fun w s=>(((s.d 2 R).d 4 R).e 3 [1,0,2])) ?_))
 refine lC 2 yY R (Z2t_ok ab) R ?_
 rintro _
 refine lN (_::l) ?_
 refine lO (tQ R) (aC (aI ?_))
 rcases cF b with ⟨F,b⟩|⟨F,b⟩
 refine bZ R F (aM (aE (lS R (lS R (aC (aI (bW (cD ?_))))))))
 obtain rfl:=so b
 exact qF (A5,([]:List Int).length,D5) (fun w s=>(s.e 4 [0]))
 refine bJ R F (cW (aI (aM ?_)))
 obtain ⟨B,U,b⟩:=bd b
 refine aE (lO (vz (.agg [(sc A2 g1.Nodes D2),(sc A3 g1.Outs D3)].toArray) (dP 1 qK og R R R R)) (lM (RR cB A2 D2 g1.Nodes::RR kT3 A3 D3 g1.Outs::ow _ _ _ _::l) (fun w s=>(((s.d 2 R).d 4 R).e 3 [1,0,2])) ?_))
 refine lC 2 yZ R (Z0x_ok U) R ?_
 rintro ⟨A11,N11,D11⟩
 refine lN (ow iy 4 (.slice A11 N11 D11) B::_::l) ?_
 refine aL 0 aB ?_
 rintro rfl
 refine lS R (aC (aI (aM (bC (A:=((List Int))×(HH)) (fun a=>Z07_J3 a.1=some r) (fun a=>[(3,(.slice a.2.1 a.2.2.1 a.2.2.2))]) (fun a=>ow kT3 3 (.slice a.2.1 a.2.2.1 a.2.2.2) a.1::l) ?_ ?_))))
 refine aM (aE (lI R (aC (aI (dB ?_)))))
 obtain ⟨e1,aa,a9⟩:=bd b
 refine bF (A:=HH) aa (fun s a=>[(3,(.slice a.1 a.2.1 a.2.2)),(4,(sc A11 B D11)),(5,(iv s.2))]) (fun s a=>ow kT3 3 (.slice a.1 a.2.1 a.2.2) s.1::OO iy 4 A11 D11 B::l) (A5,([]:List Int).length,D5) (aS R) (fun w s=>(s.e 2 [1,0])) ?_
 rintro ⟨i,g⟩ ⟨D,a4,E⟩ σ1 u b a8
 replace b:Z07_L1 B i g=some u:=b
 unfold Z07_L1 at b
 refine bI 0 aB (fun (T:a4=i.length)=>?_)
 subst T
 refine aM (aM (aE (lI R (lS R (lO (jC lE R) (lO (mT R R) (aC (aI ?_))))))))
 rcases cF b with ⟨m,b⟩|⟨m,b⟩
 refine bZ R m (cW (aI (aM (bC (A:=((List Int))×(HH)) (fun a=>Z07_J2 g a.1=some u) (fun a=>[(3,(.slice a.2.1 a.2.2.1 a.2.2.2)),(4,(sc A11 B D11)),(5,(iv g))]) (fun a=>ow kT3 3 (.slice a.2.1 a.2.2.1 a.2.2.2) a.1::OO iy 4 A11 D11 B::l) ?_ ?_))))
 refine dB (aM ?_)
 obtain ⟨j,b⟩:=gd b
 refine aE (lS R (lI R (bA 1 aB (show 0<B.length by have:=j; omega) (fun a7 o28 ha=>?_))))
 subst ha
 refine lO (eJ lE sk R R j) (lO (vz (.bool (ix B g)) (hY (K:=iy) (fo:=0) (pr:=fun x=>(.bool x)) 1 g xS (dT4.leaf fun _ _=>R) aB R j.1 j.2)) (aC (aI ?_)))
 rcases cF b with ⟨q,b⟩|⟨q,b⟩
 refine bZ R q ?_
 obtain ⟨O,b⟩:=gd b
 refine aE (lS R (lI R (bL (K:=kT3) (xs:=([g]:List Int)) (vs:=[(iv g)]) 0 R R bM cE gR R R R R R R ?_ R (fun Y a1=>?_))))
 exact fun I h s=>(gO).list [((),g)] I h s
 refine lN (OO kT3 3 Y a1 ([g]:List Int)::OO kT3 3 D E i::OO iy 4 (ad a7 o28) D11 B::l) ?_
 refine lM (ow _ _ _ _::ow _ _ _ _::ow _ _ _ _::l) (fun w s=>(s.e 3 [1,0,2])) ?_
 refine eC (K:=kT3) 17592186044416 R R bM cE kr (Zr.zk zT3 gR) R R R R R R dM O (fun L M=>(lN (OO kT3 3 L M (i++([g]:List Int))::_::l) ?_))
 refine lS R (aC (dT ?_))
 exact qI ((i++([g]:List Int)),(L,(i++([g]:List Int)).length,M)) b (fun w s=>s)
 refine bJ R q (cW (dT ?_))
 exact qI (i,(D,i.length,E)) b (fun w s=>s)
 rintro ⟨G,⟨Z,a5,a2⟩⟩ σ1 b
 replace b:Z07_J2 g G=some u:=b
 unfold Z07_J2 at b
 refine bI 0 aB (fun (T:a5=G.length)=>?_)
 subst T
 refine aE (lI R (lO (l6 R R) (lI R (aC ?_))))
 obtain rfl:=so b
 exact qA (Z,G.length,a2) (fun w s=>s)
 refine bJ R m (gV (dZ ?_))
 obtain rfl:=so b
 obtain rfl:=a8 _ R
 have b:=a9
 refine dZ (fL ?_)
 exact qI (i,(D,i.length,E)) b (fun w s=>(s.e 2 [0]))
 rintro ⟨J,⟨a0,a6,a3⟩⟩ σ1 b
 replace b:Z07_J3 J=some r:=b
 unfold Z07_J3 at b
 refine bI 0 aB (fun (T:a6=J.length)=>?_)
 subst T
 refine aM (aE (lS R (lS R (aC (aI (bW ?_))))))
 obtain rfl:=so b
 exact qF (a0,J.length,a3) (fun w s=>(s.e 4 [0]))
end Go.Proofs.YtmpnollfdpdipaaGreatDoor
